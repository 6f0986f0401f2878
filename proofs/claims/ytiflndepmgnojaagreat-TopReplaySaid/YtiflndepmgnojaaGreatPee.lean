import Derived.Maps.RangeWalk
import Derived.Maps.Ext
import Derived.Test.YtiflndepmgnojaaGreatEnt
namespace Go.Proofs.YtiflndepmgnojaaGreat
open Go.RowKit Go.ChangeMaps Go.MapKept
open Go.Maps (Keyed)
set_option linter.unusedSimpArgs false
set_option linter.unusedVariables false
set_option maxHeartbeats 8000000
set_option maxRecDepth 100000
def kpR:Value->Option (DataW Unit×List MemPlace)
 | .agg ⟨[.int .u64 n,.bool c]⟩=>some (.agg [.lit (.int .u64 n),.lit (.bool c)],[])
 |_=>none
def kpM (c:Int×Bool):Value:=.agg #[.int .u64 c.1,.bool c.2]
theorem kpR_mk (n:Int) (c:Bool):kpR (.agg #[.int .u64 n,.bool c])=some (.agg [.lit (.int .u64 n),.lit (.bool c)],[]):=rfl
theorem Sd (v:Value) (y:DataW Unit×List MemPlace) (h:kpR v=some y):∃c,v=kpM c:=by
 unfold kpR at h;split at h
 ·rename_i n c
  exact⟨(n,c),rfl⟩
 ·cases h
theorem yU:Keyed Tryz.prog 30:=Maps.int_keyed (q:=.u64) Tryz.underlying30
def kpL (x:Kp):Lit:=.int .u64 x.pn
def kpV (x:Kp):DataW Unit:=.agg [.lit (.int .u64 x.bX),.lit (.bool x.rE)]
theorem Qw (x:Kp):WideAt.IsKeyLit (kpL x):=by unfold kpL;exact trivial
theorem Gv {x y:Kp} (h:kpL x=kpL y):x.pn=y.pn:=by unfold kpL at h;injection h
theorem Qv {n:Int} (h:Word n):keyOf Tryz.prog 30 (.int .u64 n)=some (.int .u64 n):=Maps.keyOf_int_mk Tryz.underlying30 (by
 simp[Lit.wf,IntKind.min,IntKind.max,IntKind.signed,IntKind.bits];exact⟨h.1,by have:=h.2;omega⟩)
abbrev Dis (l:List Kp):Prop:=l.Pairwise (λx y=>x.pn≠y.pn)
theorem Dis.eq {l:List Kp} (h:Dis l) {x y:Kp} (g:x∈l) (hy:y∈l) (f:x.pn=y.pn):x=y:=by
 induction l with
 |nil=>cases g
 |cons z t ih=>
  obtain⟨e,i⟩:=List.pairwise_cons.1 h;rcases bT.1 g with d|d
  ·rcases bT.1 hy with c|c
   ·rw[d,c]
   ·exact Wy f (by rw[d];exact e y c)
  ·rcases bT.1 hy with c|c
   ·exact Wy f.symm (by rw[c];exact e x d)
   ·exact ih i d c
structure KpD (D:DataW Unit) (l:List Kp):Prop where
 has:∀kl,Maps.has D kl=true↔∃x∈l,kl=kpL x
 val:∀x∈l,∀z,D.atKey (kpL x) z=kpV x
theorem KpD.nil:KpD (.map []) []:=⟨λd=>by simp[Maps.has],λe c=>by cases c⟩
theorem KpD.put {D:DataW Unit} {l:List Kp} (h:KpD D l) (g:Maps.IsMap D) {y:Kp} (hy:∀d∈l,d.pn≠y.pn):KpD (D.put (kpL y) (kpV y)) (l++[y]):=by
 refine⟨λi=>?_,λd c j=>?_⟩
 ·by_cases f:i=kpL y
  ·subst f
   rw[Maps.has_put_same g (Qw y)];exact⟨λ_=>⟨y,sM,rfl⟩,λ_=>rfl⟩
  ·rw[Maps.has_put_other f,h.has]
   refine⟨λ⟨d,c,e⟩=>⟨d,by simp[c],e⟩,λ⟨d,c,e⟩=>?_⟩;rcases WB.1 c with c|c
   ·exact⟨d,c,e⟩
   ·obtain rfl:d=y:=by simpa using c
    exact Wy e f
 ·rcases WB.1 c with c|c
  ·rw[Maps.atKey_put_other (λe=>hy d c (Gv e)),h.val d c]
  ·obtain rfl:d=y:=by simpa using c
   exact Maps.atKey_put_same g (Qw d) _ _
theorem KpD.del {D:DataW Unit} {l:List Kp} (h:KpD D l) (y:Kp):KpD (D.del (kpL y)) (l.filter λc=>decide (c.pn≠y.pn)):=by
 have m:∀c:Kp,c.pn≠y.pn->kpL c≠kpL y:=λc d e=>d (Gv e);refine⟨λp=>?_,λc d q=>?_⟩
 ·by_cases f:p=kpL y
  ·subst f
   rw[Maps.has_del_same];refine⟨λk=>(by cases k),λ⟨c,d,e⟩=>?_⟩;have:=(dx.1 d).2;exact Wy (Gv e).symm (by simpa using this)
  ·rw[Maps.has_del_other f,h.has]
   refine⟨λ⟨c,d,e⟩=>⟨c,dx.2 ⟨d,?_⟩,e⟩,λ⟨c,d,e⟩=>⟨c,(dx.1 d).1,e⟩⟩;simp only[decide_eq_true_eq];intro g;apply f;rw[e];unfold kpL;rw[g]
 ·obtain⟨i,j⟩:=dx.1 d
  rw[Maps.atKey_del_other (m c (by simpa using j)),h.val c i]
def nQ (w:World) (b n:Nat) (l:List Kp):Prop:=∃c,w.ownsMap Tryz.prog 30 kpR b n c/\KpD c l
def tT (w:World) (b r n:Nat) (cur todo:List Kp) (cnt:Nat):Prop:=
 ∃d left,w.ranges Tryz.prog 30 kpR b r n d left cnt/\KpD d cur/\(∀e,left e=true↔∃c∈todo,e=kpL c)/\(∀c∈todo,c∈cur)/\Dis todo
section
variable {w w':World} {b r n cnt:Nat} {l cur todo:List Kp}
theorem nQ.lt (h:nQ w b n l):b<w.heap.size:=by obtain⟨d,c,_⟩:=h;exact c.lt
theorem nQ.kept (h:nQ w b n l) {row:Option Nat} (f:w.grownBy w' row) (g:some b≠row):nQ w' b n l:=by
 obtain⟨c,d,e⟩:=h;exact⟨c,d.kept f g,e⟩
theorem nQ.same (h:nQ w b n l) (k:w'.heap[b]?=w.heap[b]?):nQ w' b n l:=by
 obtain⟨c,⟨f,e,j,d,m,i⟩,g⟩:=h;exact⟨c,⟨f,e,k.trans j,d,m,i⟩,g⟩
theorem nQ.obj (h:nQ w b n l):∃o,w.heap[b]?=some o/\nH o=none:=by
 obtain⟨d,⟨g,f,c,e,k,j⟩,i⟩:=h;exact⟨_,c,rfl⟩
theorem nQ.mod {S:Nat->Prop} {T:List (Option TypeId)} (h:nQ w b n l) (g:Mod S T w w') (e:¬(S b/\none∈T)):nQ w' b n l:=by
 refine h.same ?_;rcases g.block b h.lt with f|⟨j,o,i,d⟩
 ·exact f
 ·obtain⟨m,c,k⟩:=h.obj
  rw[i]at c;injection c with c;subst c;rw[k]at d;exact Wy ⟨j,d⟩ e
theorem nQ.below (h:nQ w b n l) (hb:bW w w'):nQ w' b n l:=h.same (hb.block b h.lt)
theorem nQ.made (w:World):nQ (w.alloc (.map #[] 0)) w.heap.size 0 []:=⟨_,World.ownsMap_made w _ _ _,KpD.nil⟩
theorem nQ.isMap {D:DataW Unit} (h:w.ownsMap Tryz.prog 30 kpR b n D):Maps.IsMap D:=by
 obtain⟨f,e,g,d,i,c⟩:=h;exact⟨_,c⟩
theorem tT.owns (h:tT w b r n cur todo cnt):nQ w b n cur:=by
 obtain⟨c,left,d,e,_⟩:=h;exact⟨c,d.owns,e⟩
theorem tT.left_eq (h:tT w b r n cur todo cnt):w.rangeLeft b r=cnt:=by
 obtain⟨d,left,c,_⟩:=h;exact c.left_eq
theorem tT.kept (h:tT w b r n cur todo cnt) {row:Option Nat} (f:w.grownBy w' row) (hb:some b≠row) (g:some r≠row):tT w' b r n cur todo cnt:=by
 obtain⟨c,left,d,e⟩:=h;exact⟨c,left,d.kept f hb g,e⟩
theorem QP {y:Kp} (h:Dis todo) (hy:y∈todo):todo.Perm (y::todo.filter λc=>decide (c.pn≠y.pn)):=by
 induction todo with
 |nil=>cases hy
 |cons z t ih=>
  obtain⟨d,f⟩:=List.pairwise_cons.1 h;rcases bT.1 hy with rfl|hy
  ·have:(y::t).filter (λc=>decide (c.pn≠y.pn))=t:=by
    rw[List.filter_cons_of_neg sM];exact List.filter_eq_self.2 (λc g=>by simpa using λe=>d c g e.symm)
   rw[this]
  ·rw[List.filter_cons_of_pos (by simpa using d y hy)]
   exact((ih f hy).cons z).trans (List.Perm.swap _ _ _)
end
section
variable {ops:Array Oper} {rest:List Oper} {o:Oper} {a:Act} {Q:Exit->Act->World->Prop} (w:World)
theorem Jm (j:o.guard=none) (m:Operand) (q:o.op=Op.range 223 m) (b n:Nat) (l:List Kp) (p:a.eval m=.map (some b)) (h:nQ w b n l) (i:Dis l)
  (g:∀w',tT w' b w.heap.size n l l (w'.rangeLeft b w.heap.size)->w.grownBy w' none->w'.heap.size=w.heap.size+1->wpList Tryz.prog ops Q rest (a.put o.dst (.pointer (some ⟨w.heap.size,0,none⟩))) w'):
  wpList Tryz.prog ops Q (o::rest) a w:=by
 obtain⟨c,f,d⟩:=h;refine wpList_range_own w j m 223 q 30 301 yU Tryz.underlying223 kpR b n c p f ?_;intro w' e k s;exact g w' (by rw[e.left_eq];exact⟨c,_,e,d,λu=>d.has u,λv t=>t,i⟩) k s
theorem Md (M:o.guard=none) (v:Operand) (T:o.op=Op.next v false) (b r n:Nat) (cur todo:List Kp) (cnt:Nat) (O:a.eval v=.pointer (some ⟨r,0,none⟩)) (h:tT w b r n cur todo cnt)
  (G:todo=[]->wpList Tryz.prog ops Q rest (a.put o.dst (.tuple #[.bool false])) w)
  (H:∀(d:Kp) (w':World) (i:Nat),d∈todo->tT w' b r n cur (todo.filter λc=>decide (c.pn≠d.pn)) i->i<cnt->w.grownBy w' (some r)->w'.heap.size=w.heap.size->
   (Instr.entry (.pointer (some ⟨r,0,none⟩))).run Tryz.prog w'=.ok (.tuple #[.int .u64 d.pn,.agg #[.int .u64 d.bX,.bool d.rE]]) w'->wpList Tryz.prog ops Q rest (a.put o.dst (.tuple #[.bool true,.int .u64 d.pn,.agg #[.int .u64 d.bX,.bool d.rE]])) w'):
  wpList Tryz.prog ops Q (o::rest) a w:=by
 obtain⟨y,left,E,z,q,A,F⟩:=h;refine wpList_next_ranges w M v T 30 yU kpR (Value.int .u64) kpM (λa2 x s=>by obtain⟨c,rfl,_⟩:=Maps.keyOf_int_inv Tryz.underlying30 s;exact⟨c,rfl⟩) Sd b r n y left cnt O E ?_ ?_
 ·intro a0 P
  refine G ?_;cases todo with
  |nil=>rfl
  |cons c t=>exact Wy ((q (kpL c)).2 ⟨c,sM,rfl⟩) (by rw[P];simp)
 ·intro c m x d w' i s R I J U S N W L
  obtain⟨e,B,rfl⟩:=(q x).1 R;obtain⟨a3,p,j,a1⟩:=Maps.keyOf_int_inv Tryz.underlying30 s;have X:c=e.pn:=by
   injection p with _ p;unfold kpL at j;injection j with _ j;rw[p,j]
  have u:=z.val e (A e B);have u:=λC=>(J C).symm.trans (u C);have K:m=(e.bX,e.rE):=by
   have f:=u (.map []);have k:kpR (.agg #[.int .u64 m.1,.bool m.2])=some d:=I;rw[kpR_mk]at k;injection k with k;rw[<-k]at f;unfold kpV at f;simp at f;exact Prod.ext f.1 f.2
  subst X K;refine H e w' i B ⟨y,_,U,z,λx=>?_,λc g=>A c (dx.1 g).1,F.sublist List.filter_sublist⟩ S N W L;rw[Bool.and_eq_true,q];constructor
  ·rintro⟨⟨c,g,rfl⟩,V⟩
   refine⟨c,dx.2 ⟨g,?_⟩,rfl⟩;simp only[decide_eq_true_eq];intro D;simp[kpL,Lit.sameKey,D]at V
  ·rintro⟨c,g,rfl⟩
   obtain⟨Y,Z⟩:=dx.1 g;refine⟨⟨c,Y,rfl⟩,?_⟩;simp[kpL,Lit.sameKey];simpa using Z
theorem NP (v:o.guard=none) (m x:Operand) (C:o.op=Op.call {callee:=Callee.builtin Builtin.delete,args:= #[m,x],argTypes:= #[223,30]})
  (b r n:Nat) (cur todo:List Kp) (cnt:Nat) (B:a.eval m=.map (some b)) (h:tT w b r n cur todo cnt) (y:Kp) (d:a.eval x=.int .u64 y.pn) (F:Word y.pn) (hy:∀e∈todo,e.pn≠y.pn)
  (u:∀w' c,tT w' b r n (cur.filter λx=>decide (x.pn≠y.pn)) todo c->c<=cnt->w.grownBy w' (some b)->w'.heap.size=w.heap.size->wpList Tryz.prog ops Q rest (a.put o.dst (.tuple #[])) w'):
  wpList Tryz.prog ops Q (o::rest) a w:=by
 obtain⟨i,left,k,p,q,s,t⟩:=h;refine wpList_delete_ranges w v m x 223 30 C 301 yU Tryz.underlying223 kpR b r n i left cnt B k _ (kpL y) d (Qv F) ?_;intro w' c D A E;obtain⟨J,H,K,I,G,g⟩:=E;refine u w' c ⟨_,_,D,p.del y,λM=>?_,λe f=>dx.2 ⟨s e f,by simpa using hy e f⟩,t⟩ A ?_ ?_
 ·rw[Bool.and_eq_true,q]
  constructor
  ·rintro⟨h,_⟩;exact h
  ·rintro⟨x,d,rfl⟩
   refine⟨⟨x,d,rfl⟩,?_⟩;simp[kpL,Lit.sameKey];exact hy x d
 ·rw[g]
  exact⟨rfl,rfl,rfl,by simp[setBlock],λL _ z=>heap_setBlock_other G _ (λj=>z (by rw[j]))⟩
 ·rw[g];simp[setBlock]
end
attribute[local go_sem] run_makeMap
structure Pv where
 off:Int
 b:List Int
 a:Option Addr
 c:Nat
def pvV (x:Pv):List Value:=[.int .u64 x.off,.slice x.a x.b.length x.c]
def Pv.pi (x:Pv):Pi:=⟨x.off,x.b⟩
def peC (q:Pe) (a:Option Addr) (e:Nat) (c:Option Addr) (g mb:Nat) (b:Option Addr) (f:Nat) (d:Option Addr) (j i:Nat):Array Value:=
 #[.int .u64 q.delay,.int .u64 q.floor,.int .u64 q.next,.int .u64 q.bytes,.slice a q.got.length e,.slice c q.aO.length g,.map (some mb),.int .i64 q.fG,.int .u64 q.dw,.int .u64 q.due,.slice b q.fK.length f,.slice d j i]
def uV:List (Option TypeId):=[some 226,some 272,none,some 203,some 5]
def peT:List (Option TypeId):=[some 226,none,some 203]
structure ic (w:World) (S:Nat->Prop) (p k:Nat) (q:Pe):Prop where
 ex:∃ag cg am cm mb ah ch ap cp,∃pv:List Pv,Blk w p 226 (peC q ag cg am cm mb ah ch ap pv.length cp)/\Sps w S ag q.got/\Sps w S am q.aO/\nQ w mb k q.kept/\S mb/\Sps w S ah q.fK/\OwnAt w S 203 2 ap pv.length cp (pv.flatMap pvV)/\(∀x∈pv,Bys w S x.a x.b)/\q.pieces=pv.map Pv.pi/\q.got.length<=cg/\q.aO.length<=cm/\q.fK.length<=ch
 mem:S p
section
variable {w w':World} {S S':Nat->Prop} {p k:Nat} {q:Pe} {ts:List (Option TypeId)}
theorem ic.mono (h:ic w S p k q) (a:∀k,S k->S' k):ic w S' p k q:=by
 obtain⟨b,f,d,i,y,c,g,e,j,z,l,m,n,o,r,s,t,u,v⟩:=h.ex;exact⟨⟨b,f,d,i,y,c,g,e,j,z,l,aF m a,aF n a,o,a _ r,aF s a,t.mono a,λA x=>aF (u A x) a,v⟩,a _ h.mem⟩
theorem nQ.keep {b n:Nat} {l:List Kp} (h:nQ w b n l) (c:bQ S ts w w') (hb:S b) (d:none∈ts):nQ w' b n l:=by
 obtain⟨f,a,e⟩:=h.obj;exact h.same (by rw[c b f hb a (by rw[e];exact d),a])
theorem ic.keep (h:ic w S p k q) (a:bQ S ts w w') (b:∀B∈uV,B∈ts):ic w' S p k q:=by
 obtain⟨d,i,f,l,z,e,j,g,m,A,n,o,r,s,c,t,u,v,x⟩:=h.ex;exact⟨⟨d,i,f,l,z,e,j,g,m,A,n.keep a h.mem (b _ (by simp[uV])),aG o a (b _ (by simp[uV])),aG r a (b _ (by simp[uV])),s.keep a c (b _ (by simp[uV])),c,aG t a (b _ (by simp[uV])),u.keep a (b _ (by simp[uV])),λC y=>aG (v C y) a (b _ (by simp[uV])),x⟩,h.mem⟩
theorem ic.below (h:ic w S p k q) (hb:bW w w'):ic w' S p k q:=h.keep (ts:=uV) (bQ.below hb) (λ_ h=>h)
theorem ic.lt (h:ic w S p k q):p<w.heap.size:=by
 obtain⟨b,f,d,i,l,c,g,e,j,m,a,_⟩:=h.ex;exact a.lt
theorem ic.more {k':Nat} (h:ic w S p k q) (t:k<=k'):ic w S p k' q:=by
 obtain⟨b,f,d,i,u,c,g,e,j,v,n,o,r,⟨a,l,m⟩,s⟩:=h.ex;exact⟨⟨b,f,d,i,u,c,g,e,j,v,n,o,r,⟨a,l.mono t,m⟩,s⟩,h.mem⟩
theorem Mod.Qc {b n:Nat} {l:List Kp} (h:nQ w b n l) (a:w.grownBy w' (some b)) (hb:S b):Mod S [none] w w':=
 ⟨a.os,a.tape,a.output,a.size,λk e=>by
  by_cases c:k=b
  ·subst c
   obtain⟨i,f,g⟩:=h.obj;exact .inr ⟨hb,i,f,by simp[g]⟩
  ·exact .inl (a.block k e (λd=>c (by injection d)))⟩
end
theorem Nz (a:Int) (w:World):Calls Tryz.prog 79 #[.int .u64 a] w λj w'=>∃p,j=.returned (.pointer (some ⟨p,0,none⟩))/\w.heap.size<=p/\ic w' (λk=>w.heap.size<=k/\k<w'.heap.size) p 0 (kU a)/\bW w w':=by
 go_enter Tryz.func79,Tryz.ntmps79;go_wp2_with fail;go_ret;have i:=nQ.made w;have d:bW w (w.alloc (.map #[] 0)):=BEL;have c:=(aj (w.alloc (.map #[] 0)).heap.size (w.alloc (.map #[] 0))).alloc (av _) (.cells (peC (kU a) none 0 none 0 w.heap.size none 0 none 0 0) 226);have b:=Wx (w.alloc (.map #[] 0)) 226 (peC (kU a) none 0 none 0 w.heap.size none 0 none 0 0);have f:(w.alloc (.map #[] 0)).heap.size=w.heap.size+1:=sM;simp only[peC,kU,List.length_nil]at c b;rw[f]at b;have g:=b.lt;refine⟨_,rfl,oM,⟨⟨none,0,none,0,w.heap.size,none,0,none,0,[],b,Row.WH,Row.WH,i.below c,⟨av _,oM⟩,Row.WH,OwnAt.WH,λl e=>(by cases e),rfl,av _,av _,av _⟩,⟨oM,g⟩⟩,d.trans (c.mono d.size)⟩
theorem IG (S:Nat->Prop) (p k:Nat) (q:Pe) (w:World) (h:ic w S p k q):Calls Tryz.prog 40 #[.pointer (some ⟨p,0,none⟩)] w λb w'=>b=.returned (.int .u64 q.bytes)/\w=w':=by
 obtain⟨c,i,e,l,o,d,j,f,m,r,a,_⟩:=h.ex;have g:=a.Wu 3;have n:=a.lt;clear a h;go_enter Tryz.func40,Tryz.ntmps40;go_wp2_with fail;go_ret;exact⟨rfl,rfl⟩
theorem NB (S:Nat->Prop) (p k:Nat) (q:Pe) (w:World) (h:ic w S p k q) (F:q.got.length<=1000000000):Calls Tryz.prog 213 #[.pointer (some ⟨p,0,none⟩)] w λt w'=>∃b c,t=.returned (.slice b q.got.length c)/\q.got.length<=c/\Sps w' (λk=>w.heap.size<=k/\k<w'.heap.size) b q.got/\bW w w':=by
 obtain⟨n,o,y,D,H,x,C,z,E,I,a,d,r,_⟩:=h.ex;have B:=a.Wu 4;have G:=a.lt;have j:=zH d;clear a h d r;go_enter Tryz.func213,Tryz.ntmps213;go_wp2_with (at_builtin;refine iP.wpList rfl _ (.tmp 8) rfl w.heap.size none 0 [] (by rfl) (iq _ _ _ _) n o q.got (by rfl) j.out sO dC (av _) ?_;intro v A u i f;have s:bW w u:=(aj w.heap.size w).grown f (av _) (by simp[Value.ownBlock]);have m:=zH i;have l:=zH s;clear i f);go_ret;have g:=m.out;rw[List.nil_append]at g;have e:=OwnAt.fresh (w:=w) g;exact⟨_,_,rfl,e.cap_,e.row,l.out⟩
theorem FZ (S:Nat->Prop) (p k:Nat) (q:Pe) (w:World) (h:ic w S p k q) (F:q.aO.length<=1000000000):Calls Tryz.prog 214 #[.pointer (some ⟨p,0,none⟩)] w λt w'=>∃b c,t=.returned (.slice b q.aO.length c)/\q.aO.length<=c/\Sps w' (λk=>w.heap.size<=k/\k<w'.heap.size) b q.aO/\bW w w':=by
 obtain⟨x,C,n,o,H,y,D,z,E,I,a,r,d,_⟩:=h.ex;have B:=a.Wu 5;have G:=a.lt;have j:=zH d;clear a h r d;go_enter Tryz.func214,Tryz.ntmps214;go_wp2_with (at_builtin;refine iP.wpList rfl _ (.tmp 8) rfl w.heap.size none 0 [] (by rfl) (iq _ _ _ _) n o q.aO (by rfl) j.out sO dC (av _) ?_;intro v A u i f;have s:bW w u:=(aj w.heap.size w).grown f (av _) (by simp[Value.ownBlock]);have m:=zH i;have l:=zH s;clear i f);go_ret;have g:=m.out;rw[List.nil_append]at g;have e:=OwnAt.fresh (w:=w) g;exact⟨_,_,rfl,e.cap_,e.row,l.out⟩
section
variable {W:World} {S:Nat->Prop} {p k:Nat} {q:Pe}
theorem ic.set1 (h:ic W S p k q) (i:Nat) (u:Value) (b:Pe) (D:∀d j f m mb e l g A n,(peC q d j f m mb e l g A n).setIfInBounds i u=peC b d j f m mb e l g A n)
  (o:b.got=q.got) (s:b.aO=q.aO) (B:b.kept=q.kept) (t:b.fK=q.fK) (C:b.pieces=q.pieces):ic (W.setCell ⟨p,i,none⟩ u) S p k b/\Mod S [some 226] W (W.setCell ⟨p,i,none⟩ u):=by
 have v:=h.mem;obtain⟨d,j,f,m,mb,e,l,g,n,N,y,G,H,I,z,J,K,L,M⟩:=h.ex;have x:Mod S [some 226] W (W.setCell ⟨p,i,none⟩ u):=(aV S _ W).setCell y (λ_=>v) sM i _;have c:bQ S [some 272,none,some 203,some 5] W (W.setCell ⟨p,i,none⟩ u):=x.aM dC;refine⟨⟨⟨d,j,f,m,mb,e,l,g,n,N,?_,?_,?_,?_,z,?_,K.keep c sM,λO E=>aG (L O E) c sM,by rw[o,s,t,C];exact M⟩,v⟩,x⟩
 ·rw[<-D];exact y.bF i u
 ·rw[o];exact aG G c sM
 ·rw[s];exact aG H c sM
 ·rw[B];exact I.keep c z sM
 ·rw[t];exact aG J c sM
theorem ic.FI (h:ic W S p k q) (a:Option Addr) (c:Nat) (l:List Sp) (v:Sps W S a l) (u:l.length<=c):ic (W.setCell ⟨p,4,none⟩ (.slice a l.length c)) S p k {q with got:=l}/\Mod S [some 226] W (W.setCell ⟨p,4,none⟩ (.slice a l.length c)):=by
 have d:=h.mem;obtain⟨G,H,m,s,mb,j,o,n,t,D,f,I,y,z,g,A,B,C,i⟩:=h.ex;have e:Mod S [some 226] W (W.setCell ⟨p,4,none⟩ (.slice a l.length c)):=(aV S _ W).setCell f (λ_=>d) sM 4 _;have b:bQ S [some 272,none,some 203,some 5] W (W.setCell ⟨p,4,none⟩ (.slice a l.length c)):=e.aM dC;exact⟨⟨⟨a,c,m,s,mb,j,o,n,t,D,f.bF 4 _,aG v b sM,aG y b sM,z.keep b g sM,g,aG A b sM,B.keep b sM,λE x=>aG (C E x) b sM,⟨i.1,u,i.2.2⟩⟩,d⟩,e⟩
theorem ic.wD (h:ic W S p k q) (a:Option Addr) (c:Nat) (l:List Sp) (v:Sps W S a l) (u:l.length<=c):ic (W.setCell ⟨p,5,none⟩ (.slice a l.length c)) S p k {q with aO:=l}/\Mod S [some 226] W (W.setCell ⟨p,5,none⟩ (.slice a l.length c)):=by
 have e:=h.mem;obtain⟨j,o,G,H,mb,m,s,n,t,D,g,y,I,z,i,A,B,C,d⟩:=h.ex;have f:Mod S [some 226] W (W.setCell ⟨p,5,none⟩ (.slice a l.length c)):=(aV S _ W).setCell g (λ_=>e) sM 5 _;have b:bQ S [some 272,none,some 203,some 5] W (W.setCell ⟨p,5,none⟩ (.slice a l.length c)):=f.aM dC;exact⟨⟨⟨j,o,a,c,mb,m,s,n,t,D,g.bF 5 _,aG y b sM,aG v b sM,z.keep b i sM,i,aG A b sM,B.keep b sM,λE x=>aG (C E x) b sM,⟨d.1,d.2.1,u,d.2.2.2⟩⟩,e⟩,f⟩
theorem ic.RQ (h:ic W S p k q) (a:Option Addr) (c:Nat) (l:List Sp) (v:Sps W S a l) (u:l.length<=c):ic (W.setCell ⟨p,10,none⟩ (.slice a l.length c)) S p k {q with fK:=l}/\Mod S [some 226] W (W.setCell ⟨p,10,none⟩ (.slice a l.length c)):=by
 have e:=h.mem;obtain⟨j,o,m,s,mb,G,H,n,t,D,g,y,z,A,i,I,B,C,d⟩:=h.ex;have f:Mod S [some 226] W (W.setCell ⟨p,10,none⟩ (.slice a l.length c)):=(aV S _ W).setCell g (λ_=>e) sM 10 _;have b:bQ S [some 272,none,some 203,some 5] W (W.setCell ⟨p,10,none⟩ (.slice a l.length c)):=f.aM dC;exact⟨⟨⟨j,o,m,s,mb,a,c,n,t,D,g.bF 10 _,aG y b sM,aG z b sM,A.keep b i sM,i,aG v b sM,B.keep b sM,λE x=>aG (C E x) b sM,⟨d.1,d.2.1,d.2.2.1,u⟩⟩,e⟩,f⟩
end
section
variable {a w w':World} {F:Nat->Prop} {T:List (Option TypeId)} {r mb:Nat}
theorem Mod.LU (h:Mod F T a w) (b:w.grownBy w' (some r)) (e:a.heap.size<=r):Mod F T a w':=
 ⟨b.os.trans h.os,b.tape.trans h.tape,b.output.trans h.output,ay h.size b.size,λk d=>by rw[b.block k (aC d h.size) (λc=>by injection c with c;omega)];exact h.block k d⟩
theorem Mod.RL (h:Mod (λk=>k=mb) [none] a w) (b:w.grownBy w' (some mb)) (g:∃c,a.heap[mb]?=some c/\nH c=none):Mod (λk=>k=mb) [none] a w':=
 ⟨b.os.trans h.os,b.tape.trans h.tape,b.output.trans h.output,ay h.size b.size,λk e=>by
  by_cases d:k=mb
  ·subst d
   obtain⟨c,i,j⟩:=g;exact .inr ⟨rfl,c,i,by simp[j]⟩
  ·rw[b.block k (aC e h.size) (λf=>d (by injection f))];exact h.block k e⟩
theorem Mod.QF (b:a.grownBy w none):Mod F T a w:=⟨b.os,b.tape,b.output,b.size,λk c=>.inl (b.block k c sM)⟩
end
def vH (c:Int) (l d:List Kp):List Kp:=l.filter λb=>decide (c<=b.pn)||d.any (λe=>e.pn==b.pn)
theorem NQ (b:Int) (l:List Kp):vH b l l=l:=by
 unfold vH;refine List.filter_eq_self.2 (λd c=>?_);rw[Bool.or_eq_true,List.any_eq_true];exact .inr ⟨d,c,sM⟩
theorem KU (b:Int) (l:List Kp):vH b l []=l.filter λc=>decide (b<=c.pn):=by
 unfold vH;congr 1;funext c;simp
theorem KT {b:Int} {l i:List Kp} {y:Kp} (j:b<=y.pn):vH b l (i.filter λd=>decide (d.pn≠y.pn))=vH b l i:=by
 unfold vH;congr 1;funext d;by_cases g:b<=d.pn
 ·simp[g]
 ·have m:¬d.pn=y.pn:=oM
  simp only[g,decide_false,Bool.false_or];rw[mU,List.any_eq_true,List.any_eq_true];constructor
  ·rintro⟨f,e,c⟩;exact⟨f,(dx.1 e).1,c⟩
  ·rintro⟨f,e,c⟩
   refine⟨f,dx.2 ⟨e,?_⟩,c⟩;simp only[beq_iff_eq]at c;simp only[decide_eq_true_eq];omega
theorem KV {d:Int} {l i:List Kp} {y:Kp} (m:y.pn<d):vH d l (i.filter λc=>decide (c.pn≠y.pn))=(vH d l i).filter λc=>decide (c.pn≠y.pn):=by
 unfold vH;rw[List.filter_filter];congr 1;funext c;by_cases g:c.pn=y.pn
 ·have j:¬d<=y.pn:=oM
  simp only[g,j,decide_false,Bool.false_or,ne_eq,not_true_eq_false,Bool.false_and];rw[List.any_eq_false];rintro f b;have:=(dx.1 b).2;simpa using this
 ·simp only[ne_eq,g,not_false_eq_true,decide_true,Bool.true_and]
  congr 1;rw[mU,List.any_eq_true,List.any_eq_true];constructor
  ·rintro⟨f,b,e⟩;exact⟨f,(dx.1 b).1,e⟩
  ·rintro⟨f,b,e⟩
   refine⟨f,dx.2 ⟨b,?_⟩,e⟩;simp only[beq_iff_eq]at e;simp only[decide_eq_true_eq];omega
section
variable {P:Program} {ops:Array Oper} {Q:Exit->Act->World->Prop} {op:Oper} {a:Act} {w:World}
theorem iw {i:Nat} {K:Act->World->Prop} (e:ops[i]?=some op) (c:op.guard=none) (d:Option Tmp) (b:op.dst=d) (v:Value) (f:(execOp a.eval op).run P w=.ok (.value v) w) (h:K (a.put d v) w):wpOp P ops Q i K a w:=
 KJ e c d b v w f h
theorem FK {e:Nat} {l:List Oper} (F:Option Addr->Nat->Option Addr->Nat->Act) (C:Option Addr->Nat->Option Addr->Nat->World->Prop) (f:∀a b c d w',C a b c d w'->Q .normal (F a b c d) w') (h:(∀a b c d w',C a b c d w'->Q .normal (F a b c d) w')->(Code.region e l.toArray true).wp P Q a w):(Code.region e l.toArray true).wp P Q a w:=h f
end
theorem IE (S:Nat->Prop) (p k:Nat) (q:Pe) (c:Int) (w:World) (h:ic w S p k q) (r0:Bd S w) (r3:Word c) (m0:q.got.length<=1000000000) (m1:∀f1∈q.got,SpW f1) (m5:q.aO.length<=1000000000) (m6:∀f1∈q.aO,SpW f1) (m2:Dis q.kept) (m3:∀i∈q.kept,Word i.pn):
  Calls Tryz.prog 160 #[.pointer (some ⟨p,0,none⟩),.int .u64 c] w λr w'=>r=.returned (.tuple #[])/\ic w' (grow S w w') p k (gz q c)/\Mod S peT w w':=by
 obtain⟨z,D,x,A,mb,j4,k2,j7,k5,o5,K,c8,c9,_⟩:=h.ex;obtain⟨j9,p0⟩:=K.cz 1;have r6:=K.lt;have g0:=zH h;by_cases H:c<=q.floor
 ·have g6:decide (c<=q.floor)=true:=by simpa using H
  (have m8:gz q c=q:=by unfold gz;rw[aB H]);clear h K c8 c9 H;go_enter Tryz.func160,Tryz.ntmps160;go_wp2_with fail;refine mE ?_;rw[m8];exact⟨rfl,g0.out.mono (λ_ h=>.inl h),aV _ _ _⟩
 ·have g6:decide (c<=q.floor)=false:=by simpa using H
  have r2:=H;obtain⟨U,y⟩:∃U:Pe,U={q with floor:=c}:=⟨_,rfl⟩;obtain⟨d3,L⟩:=h.set1 1 (.int .u64 c) U (by intros;rw[y];rfl) (by rw[y]) (by rw[y]) (by rw[y]) (by rw[y]) (by rw[y]);obtain⟨f,a3⟩:=eX (w.setCell ⟨p,1,none⟩ (.int .u64 c));rw[<-a3]at d3 L;have a9:=zH d3;have f8:=zH L;have g1:=zH a3;(have h3:Blk f p 226 ((peC q z D x A mb j4 k2 j7 o5.length k5).setIfInBounds 1 (.int .u64 c)):=by rw[a3];exact K.bF 1 _);have b2:=zH h3;have e2:Sps f S z q.got:=aG c8 (ts:=[some 272]) (L.aM dC) sM;have h2:Sps f S x q.aO:=aG c9 (ts:=[some 272]) (L.aM dC) sM;have X:=zH (λw' (d4:bW f w')=>zb S z D q.got c w' (aD e2 d4) m0 m1);have Y:=zH (λw' (d4:bW f w')=>zb S x A q.aO c w' (aD h2 d4) m5 m6);clear h K c8 c9 H d3 L a3 h3 e2 h2 g0;go_enter Tryz.func160,Tryz.ntmps160;go_wp2_with fail;rw[<-g1.out];clear j9 p0 g6 g1;refine' FK (F:=_) (λa p6 p8 q5 W=>Hid (ic W (grow S f W) p k {U with got:=gV q.got c,aO:=gV q.aO c})/\Hid (Mod S [some 226] f W)) ?tl (λb3=>?mn);case mn=>
   have n:bW f f.drew:=bA (aj _ _);have t:=b2.out.below n b2.out.lt;refine aZ (S:=λw'=>True) kR (trivial) (λl6=>?_);clear l6;have g:True:=trivial;refine tK 0 15 g ?_;refine tK 1 16 g ?_;refine tK 2 17 g ?_;refine tK 3 18 g ?_;refine nrm 20 15 ?_;refine tK 4 19 g ?_;refine tK 6 21 g ?_;refine tK 8 23 g ?_;refine tK 9 24 g ?_;refine nrm 20 863 ?_;refine tK 10 25 g ?_;refine tK 12 27 g ?_;refine nrm 20 5983 ?_;refine fo 5 11 kR ?_ ?_
   ·refine iw (op:=_) rfl kR (some 20) kR (.slice z q.got.length D) ?_ ?_
    ·have a7:=t.Wu 4
     go_simp
    refine⟨trivial,?_⟩;refine mP ?_;refine fo 7 11 kR ?_ ?_
    ·refine WE (op:=_) rfl kR (some 22) kR 200 #[.slice z q.got.length D,.int .u64 c] kR ((X.out _ n).mono ?_)
     rintro J o7 ⟨b8,c6,j,O,l,e⟩;have e3:=t.below e t.lt;have n7:=aF (S':=λk=>f.heap.size<=k/\k<o7.heap.size) l (λk b=>⟨ay n.size b.1,b.2⟩);have a1:=n.trans (e.mono n.size);refine⟨_,j,trivial,?_⟩;clear j e l;refine mP ?_;refine aI 11 kR ?_;refine iw (op:=_) rfl kR (some 26) kR (.slice x q.aO.length A) ?_ ?_
     ·have a7:=e3.Wu 5
      go_simp
     refine⟨trivial,?_⟩;refine mP ?_;refine aI 13 kR ?_;refine WE (op:=_) rfl kR (some 28) kR 200 #[.slice x q.aO.length A,.int .u64 c] kR ((Y.out _ a1).mono ?_);rintro J f7 ⟨b5,c1,j,R,l,e⟩;have i1:=e3.below e e3.lt;have m9:=aF (S':=λk=>f.heap.size<=k/\k<f7.heap.size) l (λk b=>⟨ay a1.size b.1,b.2⟩);have d2:=a1.trans (e.mono a1.size);have n0:=aF (S':=λk=>f.heap.size<=k/\k<f7.heap.size) (aD n7 e) (λk b=>⟨b.1,aC b.2 e.size⟩);refine⟨_,j,trivial,?_⟩;clear j e l;refine mP ?_;refine tK 14 29 g ?_;refine tK 15 30 g ?_;refine nrm 20 65535 ?_;refine aI 16 kR ?_;refine fF (op:=_) rfl kR kR 90 (.tmp 30) (.tmp 22) kR p 4 (.slice b8 (gV q.got c).length c6) kR kR rfl kR i1 (by simp[peC]) ?_;intro f2 e5;have h4:Blk f2 p 226 _:=(by rw[e5];exact i1.bF 4 _);refine⟨trivial,?_⟩;refine mP ?_;refine tK 17 31 g ?_;refine tK 18 32 g ?_;refine nrm 20 524287 ?_;refine aI 19 kR ?_;refine fF (op:=_) rfl kR kR 90 (.tmp 32) (.tmp 28) kR p 5 (.slice b5 (gV q.aO c).length c1) kR kR rfl kR h4 (by simp[peC]) ?_;intro i7 i2;have s0:Blk i7 p 226 _:=(by rw[i2];exact h4.bF 5 _);refine⟨trivial,?_⟩;refine mP ?_;refine bg kR ?_ _;have N:=(a9.out.below d2).mono (S':=λk=>S k\/(f.heap.size<=k/\k<f7.heap.size)) (λk b=>.inl b);obtain⟨M,m⟩:=N.FI b8 c6 (gV q.got c) (aF n0 (λk b=>.inr b)) O;obtain⟨B,s⟩:=M.wD b5 c1 (gV q.aO c) (aG (aF m9 (λk b=>.inr b)) (ts:=[some 272]) (m.aM dC) sM) R;rw[<-show f2=_ from e5,<-show i7=_ from i2]at B s;rw[<-show f2=_ from e5]at m;have e8:=m.size;have e9:=s.size;have i5:=d2.size;exact b3 b8 c6 b5 c1 _ ⟨zH (B.mono (λk b=>b.imp id (λd=>⟨d.1,by have:=d.2;omega⟩))),zH ((aH (S:=S) d2).then (m.trans s) (λk d7 b=>b.elim id (λd=>Wy d.1 oM)))⟩
    ·refine iw (op:=_) rfl kR (some 26) kR (.slice x q.aO.length A) ?_ ?_
     ·have a7:=t.Wu 5
      go_simp
     refine⟨trivial,?_⟩;refine mP ?_;refine aI 7 kR ?_;refine WE (op:=_) rfl kR (some 22) kR 200 #[.slice z q.got.length D,.int .u64 c] kR ((X.out _ n).mono ?_);rintro J o8 ⟨b6,c2,j,O,l,e⟩;have h5:=t.below e t.lt;have n1:=aF (S':=λk=>f.heap.size<=k/\k<o8.heap.size) l (λk b=>⟨ay n.size b.1,b.2⟩);have a0:=n.trans (e.mono n.size);refine⟨_,j,trivial,?_⟩;clear j e l;refine mP ?_;refine aI 13 kR ?_;refine WE (op:=_) rfl kR (some 28) kR 200 #[.slice x q.aO.length A,.int .u64 c] kR ((Y.out _ a0).mono ?_);rintro J f3 ⟨b7,c3,j,R,l,e⟩;have h6:=h5.below e h5.lt;have n2:=aF (S':=λk=>f.heap.size<=k/\k<f3.heap.size) l (λk b=>⟨ay a0.size b.1,b.2⟩);have d0:=a0.trans (e.mono a0.size);have n3:=aF (S':=λk=>f.heap.size<=k/\k<f3.heap.size) (aD n1 e) (λk b=>⟨b.1,aC b.2 e.size⟩);refine⟨_,j,trivial,?_⟩;clear j e l;refine mP ?_;refine tK 14 29 g ?_;refine tK 15 30 g ?_;refine nrm 20 65535 ?_;refine aI 16 kR ?_;refine fF (op:=_) rfl kR kR 90 (.tmp 30) (.tmp 22) kR p 4 (.slice b6 (gV q.got c).length c2) kR kR rfl kR h6 (by simp[peC]) ?_;intro f4 e6;have h7:Blk f4 p 226 _:=(by rw[e6];exact h6.bF 4 _);refine⟨trivial,?_⟩;refine mP ?_;refine tK 17 31 g ?_;refine tK 18 32 g ?_;refine nrm 20 524287 ?_;refine aI 19 kR ?_;refine fF (op:=_) rfl kR kR 90 (.tmp 32) (.tmp 28) kR p 5 (.slice b7 (gV q.aO c).length c3) kR kR rfl kR h7 (by simp[peC]) ?_;intro i8 i3;have s1:Blk i8 p 226 _:=(by rw[i3];exact h7.bF 5 _);refine⟨trivial,?_⟩;refine mP ?_;refine bg kR ?_ _;have N:=(a9.out.below d0).mono (S':=λk=>S k\/(f.heap.size<=k/\k<f3.heap.size)) (λk b=>.inl b);obtain⟨M,m⟩:=N.FI b6 c2 (gV q.got c) (aF n3 (λk b=>.inr b)) O;obtain⟨B,s⟩:=M.wD b7 c3 (gV q.aO c) (aG (aF n2 (λk b=>.inr b)) (ts:=[some 272]) (m.aM dC) sM) R;rw[<-show f4=_ from e6,<-show i8=_ from i3]at B s;rw[<-show f4=_ from e6]at m;have e8:=m.size;have e9:=s.size;have i5:=d0.size;exact b3 b6 c2 b7 c3 _ ⟨zH (B.mono (λk b=>b.imp id (λd=>⟨d.1,by have:=d.2;omega⟩))),zH ((aH (S:=S) d0).then (m.trans s) (λk d7 b=>b.elim id (λd=>Wy d.1 oM)))⟩
   ·refine iw (op:=_) rfl kR (some 26) kR (.slice x q.aO.length A) ?_ ?_
    ·have a7:=t.Wu 5
     go_simp
    refine⟨trivial,?_⟩;refine mP ?_;refine aI 5 kR ?_;refine iw (op:=_) rfl kR (some 20) kR (.slice z q.got.length D) ?_ ?_
    ·have a7:=t.Wu 4
     go_simp
    refine⟨trivial,?_⟩;refine mP ?_;refine aI 7 kR ?_;refine WE (op:=_) rfl kR (some 22) kR 200 #[.slice z q.got.length D,.int .u64 c] kR ((X.out _ n).mono ?_);rintro J o9 ⟨b9,c4,j,O,l,e⟩;have h8:=t.below e t.lt;have n4:=aF (S':=λk=>f.heap.size<=k/\k<o9.heap.size) l (λk b=>⟨ay n.size b.1,b.2⟩);have a2:=n.trans (e.mono n.size);refine⟨_,j,trivial,?_⟩;clear j e l;refine mP ?_;refine aI 13 kR ?_;refine WE (op:=_) rfl kR (some 28) kR 200 #[.slice x q.aO.length A,.int .u64 c] kR ((Y.out _ a2).mono ?_);rintro J f5 ⟨c0,c5,j,R,l,e⟩;have h9:=h8.below e h8.lt;have n5:=aF (S':=λk=>f.heap.size<=k/\k<f5.heap.size) l (λk b=>⟨ay a2.size b.1,b.2⟩);have d1:=a2.trans (e.mono a2.size);have n6:=aF (S':=λk=>f.heap.size<=k/\k<f5.heap.size) (aD n4 e) (λk b=>⟨b.1,aC b.2 e.size⟩);refine⟨_,j,trivial,?_⟩;clear j e l;refine mP ?_;refine tK 14 29 g ?_;refine tK 15 30 g ?_;refine nrm 20 65535 ?_;refine aI 16 kR ?_;refine fF (op:=_) rfl kR kR 90 (.tmp 30) (.tmp 22) kR p 4 (.slice b9 (gV q.got c).length c4) kR kR rfl kR h9 (by simp[peC]) ?_;intro f6 e7;have i0:Blk f6 p 226 _:=(by rw[e7];exact h9.bF 4 _);refine⟨trivial,?_⟩;refine mP ?_;refine tK 17 31 g ?_;refine tK 18 32 g ?_;refine nrm 20 524287 ?_;refine aI 19 kR ?_;refine fF (op:=_) rfl kR kR 90 (.tmp 32) (.tmp 28) kR p 5 (.slice c0 (gV q.aO c).length c5) kR kR rfl kR i0 (by simp[peC]) ?_;intro i9 i4;have s2:Blk i9 p 226 _:=(by rw[i4];exact i0.bF 5 _);refine⟨trivial,?_⟩;refine mP ?_;refine bg kR ?_ _;have N:=(a9.out.below d1).mono (S':=λk=>S k\/(f.heap.size<=k/\k<f5.heap.size)) (λk b=>.inl b);obtain⟨M,m⟩:=N.FI b9 c4 (gV q.got c) (aF n6 (λk b=>.inr b)) O;obtain⟨B,s⟩:=M.wD c0 c5 (gV q.aO c) (aG (aF n5 (λk b=>.inr b)) (ts:=[some 272]) (m.aM dC) sM) R;rw[<-show f6=_ from e7,<-show i9=_ from i4]at B s;rw[<-show f6=_ from e7]at m;have e8:=m.size;have e9:=s.size;have i5:=d1.size;exact b3 b9 c4 c0 c5 _ ⟨zH (B.mono (λk b=>b.imp id (λd=>⟨d.1,by have:=d.2;omega⟩))),zH ((aH (S:=S) d1).then (m.trans s) (λk d7 b=>b.elim id (λd=>Wy d.1 oM)))⟩
  case tl=>
   intro v p7 q6 q8 u l5;obtain⟨I,f9⟩:=l5;obtain⟨o,a4⟩:∃o:Pe,o={U with got:=gV q.got c,aO:=gV q.aO c}:=⟨_,rfl⟩;rw[<-a4]at I;(have d6:o.kept=q.kept:=by rw[a4,y]);(have g7:gz q c={o with kept:=o.kept.filter λi=>decide (c<=i.pn)}:=by rw[a4,y];unfold gz;rw[Ww oM]);have j0:=zH g7;(have l8:Dis o.kept:=by rw[d6];exact m2);have j1:=zH (show∀i∈o.kept,Word i.pn from by rw[d6];exact m3);clear a4 y g7 d6 X Y b2;obtain⟨p2,p9,p4,q1,C,p3,q0,p5,q4,s4,a6,o2,o3,d8,i6,o4⟩:=I.out.ex;have k0:=a6.Wu 6;have r7:=a6.lt;have g2:=zH a6;have j2:=zH d8.obj;have p1:=zH i6;clear a6 o2 o3 i6 o4;(try simp only[]);go_wp2_with (first|(at_range;refine Jm _ rfl _ rfl C k o.kept rfl d8 l8 ?_;intro s5 h1 g8 n8)|fail);go_frame;go_loopw [] (λwr=>∃V c7,Hid (∀G∈V,G∈o.kept)/\Hid (tT wr C u.heap.size k (vH c o.kept V) V c7)/\Hid (Mod (λk=>k=C) [none] u wr)) (λwr=>wr.rangeLeft C u.heap.size);(case atStart=>exact⟨_,_,zH (λG E=>E),zH (by rw[NQ];exact h1),zH (Mod.QF g8)⟩);case round=>
    clear h1 g8 n8 d8 k0;obtain⟨V,c7,b1,b0,Z⟩:=hrel;have e0:=b0.out;go_wp2_with (first|(at_next;refine Md _ rfl _ rfl C u.heap.size k _ V c7 rfl e0 ?_ ?_)|fail)
    ·intro l3
     subst l3;clear e0;go_wp2_with fail;refine mE ?_;rw[j0.out];have h0:=b0.out.owns;rw[KU]at h0;obtain⟨j3,k1,j6,k4,f0,j5,k3,j8,k6,o6,g3,k7,k8,q9,g4,k9,l0,l1,l2⟩:=I.out.ex;have o0:=g2.out;have m4:f0=C:=by
      have b4:=g3.cell 6;have v:=o0.cell 6;have b4:u.cell? ⟨p,6,none⟩=some (.map (some f0)):=b4;have v:u.cell? ⟨p,6,none⟩=some (.map (some C)):=v;rw[b4]at v;injection v with v;injection v with v;injection v
     subst m4;have b:bQ (grow S f u) [some 226,some 272,some 203,some 5] u wr:=Z.out.aM dC;have e8:=f8.out.size;have e9:=f9.out.size;have s3:=Z.out.size;have m7:ic wr (grow S f u) p k {o with kept:=o.kept.filter λi=>decide (c<=i.pn)}:=
      ⟨⟨j3,k1,j6,k4,f0,j5,k3,j8,k6,o6,g3.keep b I.out.mem sM,aG k7 b sM,aG k8 b sM,h0,g4,aG k9 b sM,l0.keep b sM,λi n9=>aG (l1 i n9) b sM,l2⟩,I.out.mem⟩
     refine⟨rfl,m7.mono (λk b=>b.imp id (λd=>⟨by have:=d.1;omega,by have:=d.2;omega⟩)),?_⟩;have l4:=(f8.out.then f9.out (λ_ _ h=>h)).mono (T':=peT) (λ_ _ h=>h) (by simp[peT]);refine l4.then (Z.out.mono (T':=peT) (λ_ _ h=>h) (by simp[peT])) (λk d7 b=>?_);subst b;exact g4.elim id (λd=>Wy d.1 oM)
    ·intro d s6 q2 o1 a5 r5 g9 r9 r1
     have g5:=b0.out.left_eq;have a8:=zH (Z.out.LU g9 (av _));have e4:=g2.out.mod a8.out dC;have q7:=e4.Wu 6;have r8:=e4.lt;clear e4 e0 g9;by_cases d9:d.pn<c
     ·have l7:decide (d.pn<c)=true:=by simpa using d9
      go_wp2_with (first|(at_delete;refine NP _ rfl _ _ rfl C u.heap.size k _ _ _ rfl a5 d rfl (j1.out d (b1.out d o1)) (λG E=>by simpa using(dx.1 E).2) ?_;intro s7 q3 e1 r4 l9 e2)|fail);(try go_frame);(have d5:(λi:Kp=> !decide (i.pn=d.pn))=λi=>decide (i.pn≠d.pn):=by funext i;simp);(try rw[d5]at e1);go_roundw;(case rel=>exact⟨_,_,zH (λG E=>b1.out G (dx.1 E).1),zH (by rw[KV d9];exact e1),zH (a8.out.RL l9 j2.out)⟩);case measure=>rw[e1.left_eq,g5];omega
     ·have l7:decide (d.pn<c)=false:=by simpa using d9
      go_wp2_with fail;(have d5:(λi:Kp=> !decide (i.pn=d.pn))=λi=>decide (i.pn≠d.pn):=by funext i;simp);(try rw[d5]at a5);go_roundw;(case rel=>exact⟨_,_,zH (λG E=>b1.out G (dx.1 E).1),zH (by rw[KT (show c<=d.pn by omega)];exact a5),a8⟩);case measure=>rw[a5.left_eq,g5];omega
theorem MO (w:World) (c1:Array Value) (b:TypeId) (c2:Array Value) (e:TypeId) (f:Array Value) (g:TypeId):
  Blk (((w.alloc (.cells c1 b)).alloc (.cells c2 e)).alloc (.cells f g)) w.heap.size b c1/\Blk (((w.alloc (.cells c1 b)).alloc (.cells c2 e)).alloc (.cells f g)) (w.heap.size+1) e c2/\Blk (((w.alloc (.cells c1 b)).alloc (.cells c2 e)).alloc (.cells f g)) (w.heap.size+1+1) g f:=by
 have j:=Wx w b c1;have s:=(aj (w.alloc (.cells c1 b)).heap.size (w.alloc (.cells c1 b))).alloc (av _) (.cells c2 e);have m:=j.below s j.lt;have n:=Wx (w.alloc (.cells c1 b)) e c2;have i:=(aj ((w.alloc (.cells c1 b)).alloc (.cells c2 e)).heap.size ((w.alloc (.cells c1 b)).alloc (.cells c2 e))).alloc (av _) (.cells f g);have r:=Wx ((w.alloc (.cells c1 b)).alloc (.cells c2 e)) g f;have t:(w.alloc (.cells c1 b)).heap.size=w.heap.size+1:=sM;have u:((w.alloc (.cells c1 b)).alloc (.cells c2 e)).heap.size=w.heap.size+1+1:=sM;have o:=n.below i n.lt;rw[t]at o;rw[u]at r;exact⟨m.below i m.lt,o,r⟩
theorem qc:Elem Tryz.prog 224 203 2 32 pvV:=
 ⟨by kernel_rfl,by
  obtain⟨b,f,g,i,j⟩:=info_parts (show(Tryz.prog.info? 203).map (λb=>(b.zero,b.size,b.bytes))=some (some (.agg #[uI 0,.slice none 0 0]),2,32) by kernel_rfl);exact⟨b,_,f,g,i,j,rfl⟩,dC,λ_=>rfl,λn m e=>by simp[pvV]at e;rcases e with rfl|rfl<;>rfl⟩
theorem Qs {q:Pe} {d:Da} (n:Gd q.fK) (b:DOk d) (j:Nat):GF d.off ((q.fK.take j).foldl jh [nW d])/\((q.fK.take j).foldl jh [nW d]).length<=100000:=by
 have m:=b.vz;have s:=b.off1;have t:=b.CW;have u:=b.xE;have i:GF d.off [nW d]:=⟨bY _,by simp only[nW];omega,by simp only[nW];omega,trivial⟩;obtain⟨a,g⟩:=tN (q.fK.take j) [nW d] d.off i m (λr o=>(GF.low n r (bf o)).2);refine⟨a,a.len_ (e:=d.off+d.body.length) (a.below λv f=>?_) oM⟩;rw[g]at f;simp[dI,nV,nW]at f;omega
theorem Nf {P:Program} {t e:TypeId} {i:TypeInfo} {kd:IntKind} (g:P.underlying t=some (.slice e)) (b:P.info? e=some i) (a:Option Addr) (n c k m:Nat) (h:k<=m) (f:m<=c) (w:World):
  (Instr.slice t (.slice a n c) (some (.int kd (k:Int))) (some (.int kd (m:Int))) none).run P w=.ok (.slice (fE a c k i.size) (m -k) (c -k)) w:=by
 simp[Instr.slice,Instr.sliceBounds,Instr.sliceBound,asIntOf,run_underlying g,sizeOf,typeInfo,b,h,f,fE]
theorem QT {d:Da} {x:Sp} (ab:Option Addr) (cb:Nat) (B:d.body.length<=cb) (y:d.off<=x.lo) (z:x.lo<=x.hi) (A:x.hi<d.off+d.body.length):
  ∃g n,(∀w,(Instr.slice 47 (.slice ab d.body.length cb) (some (uI (x.lo -d.off))) (some (uI (x.hi -d.off+1))) none).run Tryz.prog w=.ok (.slice g (nZ d x).body.length n) w)/\∀W S2,Bys W S2 ab d.body->Bys W S2 g (nZ d x).body:=by
 obtain⟨k,i⟩:∃k:Nat,x.lo -d.off=k:=⟨(x.lo -d.off).toNat,oM⟩;obtain⟨b,m⟩:∃b:Nat,x.hi -d.off+1=b:=⟨(x.hi -d.off+1).toNat,oM⟩;(have e:(nZ d x).body=(d.body.take b).drop k:=by unfold nZ;simp only[i,m,Int.toNat_natCast]);(have j:(nZ d x).body.length=b -k:=by rw[e,bI,aT];omega);obtain⟨G,r,D,u,E⟩:=info_parts (show(Tryz.prog.info? 5).map (λf=>(f.zero,f.size,f.bytes))=some (some (.int .u8 0),1,1) by kernel_rfl);refine⟨fE ab cb k 1,cb -k,λw=>?_,λW S2 s=>?_⟩
 ·have h:=Nf (P:=Tryz.prog) (kd:=.u64) fe.ht r ab d.body.length cb k b oM oM w
  rw[u]at h;rw[i,m,j];exact h
 ·have t:=Row.take s (k:=b) oM
  have o:=t.drop (k:=k) oM (a':=fE ab cb k 1) (λC v H e=>by subst e;exact lD oM);unfold Bys;rw[j,e,WZ fe.len,pQ fe.len];exact o
structure LyB (S S2:Nat->Prop) (w:World) (p k:Nat) (q:Pe) (d:Da) (ab:Option Addr) (cb:Nat) (a5:Option Addr) (L:List Sp) (W:World) (P:List Pi):Prop where
 pe:ic W (grow S w W) p k {q with pieces:=P}
 m:Mod S peT w W
 b1:Blk W w.heap.size 115 #[uI d.pn,uI d.bn,uI d.off,uI d.bX,jI d.ecn,.slice ab d.body.length cb]
 b2:Blk W (w.heap.size+1) 272 #[uI d.off,uI (d.off+d.body.length -1)]
 sp:Sps W (λk=>w.heap.size<=k) a5 L
 by_:Bys W S2 ab d.body
section
variable {S S2:Nat->Prop} {w W W':World} {p k cb:Nat} {q:Pe} {d:Da} {ab a5:Option Addr} {L:List Sp} {P P':List Pi}
theorem LyB.step (h:LyB S S2 w p k q d ab cb a5 L W P) {F:Nat->Prop} {T:List (Option TypeId)} (f:Mod F T W W') (o:∀k,F k->grow S w W k) (j:∀b∈T,b=some 226\/b=some 203) (s:ic W' (grow S w W') p k {q with pieces:=P'}):LyB S S2 w p k q d ab cb a5 L W' P':=by
 have v:=h.m.size;have g:∀b,b≠226->b≠203->some b∉T:=λb m n i=>by
  rcases j _ i with e|e
  ·injection e with e;exact m e
  ·injection e with e;exact n e
 exact⟨s,h.m.then (f.mono (λ_ _ h=>h) (λb i=>by rcases j b i with rfl|rfl<;>simp[peT])) (λk u r=>(o k r).elim id (λt=>Wy t.1 oM)),h.b1.mod f (g _ dC dC),h.b2.mod f (g _ dC dC),
  aG h.sp (ts:=[some 272]) (f.aM (by simpa using g 272 dC dC)) sM,aG h.by_ (ts:=[some 5]) (f.aM (by simpa using g 5 dC dC)) sM⟩
theorem LyB.below (h:LyB S S2 w p k q d ab cb a5 L W P) (hb:bW W W'):LyB S S2 w p k q d ab cb a5 L W' P:=
 h.step (F:=S) (T:=[]) (aH hb) (λk b=>.inl b) (λg f=>by cases f) ((h.pe.below hb).mono (λk b=>b.imp id (λe=>⟨e.1,aC e.2 hb.size⟩)))
theorem LyB.piece (h:LyB S S2 w p k q d ab cb a5 L W P):∃z A,∃e:List Pv,∃B,P=e.map Pv.pi/\Blk W p 226 B/\B.size=12/\B[11]?=some (.slice z e.length A)/\OwnAt W (grow S w W) 203 2 z e.length A (e.flatMap pvV)/\
  ∀(o Y:World) (i:Option Addr) (j:Nat) (g:Int) (f:List Int) (n:Option Addr) (r:Nat),bW W o->Bys o (λk=>W.heap.size<=k/\k<o.heap.size) i f->OwnAt Y (grow (grow S w W) o Y) 203 2 n (e++[Pv.mk g f i j]).length r ((e++[Pv.mk g f i j]).flatMap pvV)->Mod (grow S w W) [some 203] o Y->
   Blk Y p 226 B/\LyB S S2 w p k q d ab cb a5 L (Y.setCell ⟨p,11,none⟩ (.slice n (e++[Pv.mk g f i j]).length r)) (P++[Pi.mk g f]):=by
 obtain⟨N,U,R,X,b3,O,V,z,A,e,K,a6,a7,a8,H,a9,b0,b1,I⟩:=h.pe.ex;have E:=h.pe.mem;have b6:=h.m.size;refine⟨z,A,e,_,I.1,K,rfl,rfl,b0,?_⟩;intro o Y i j g f n r D a4 a1 C;have b7:=D.size;have b8:=C.size;have s:∀k,grow S w W k->grow S w Y k:=λk b=>b.imp id (λm=>⟨m.1,by have:=m.2;omega⟩);have v:bQ (grow S w W) [some 226,some 272,none,some 5] W Y:=(bQ.below D).trans (C.aM dC);have b2:bQ (λk=>W.heap.size<=k/\k<o.heap.size) [some 5] o Y:=C.aM dC;have G:=K.keep v E sM;refine⟨G,?_⟩;have M:Mod (grow S w Y) [some 226] Y (Y.setCell ⟨p,11,none⟩ (.slice n (e++[Pv.mk g f i j]).length r)):=(aV _ _ Y).setCell G (λ_=>s _ E) sM 11 _;(have b5:(Y.setCell ⟨p,11,none⟩ (.slice n (e++[Pv.mk g f i j]).length r)).heap.size=Y.heap.size:=by simp[World.setCell]);have Z:=G.bF 11 (.slice n (e++[Pv.mk g f i j]).length r);generalize Y.setCell ⟨p,11,none⟩ (.slice n (e++[Pv.mk g f i j]).length r)=y at*
 have u:∀J,bQ J [some 272,none,some 203,some 5] Y y:=λJ=>M.aM dC;have t:∀k,grow S w Y k->grow S w y k:=λk b=>b.imp id (λm=>⟨m.1,by have:=m.2;omega⟩);have a2:ic y (grow S w y) p k {q with pieces:=P++[Pi.mk g f]}:=by
  refine⟨⟨N,U,R,X,b3,O,V,n,r,e++[Pv.mk g f i j],Z,?_,?_,(a8.keep v H sM).keep (u (grow S w W)) H sM,t _ (s _ H),?_,?_,?_,?_⟩,t _ (s _ E)⟩
  ·exact aF (aG (aG a6 v sM) (u _) sM) (λk b=>t _ (s _ b))
  ·exact aF (aG (aG a7 v sM) (u _) sM) (λk b=>t _ (s _ b))
  ·exact aF (aG (aG a9 v sM) (u _) sM) (λk b=>t _ (s _ b))
  ·exact(a1.keep (u _) sM).mono (λk b=>b.elim (λm=>t _ (s _ m)) (λm=>.inr ⟨oM,oM⟩))
  ·intro b4 x
   rcases WB.1 x with x|x
   ·exact aF (aG (aG (b1 b4 x) v sM) (u _) sM) (λk b=>t _ (s _ b))
   ·obtain rfl:=dZ.1 x
    exact aF (aG (aG a4 b2 sM) (u _) sM) (λk b=>.inr ⟨oM,oM⟩)
  ·refine⟨?_,I.2⟩
   show P++[Pi.mk g f]=(e++[Pv.mk g f i j]).map Pv.pi;rw[List.map_append,<-I.1];rfl
 refine h.step (F:=grow S w W) (T:=[some 226,some 203]) ?_ (λ_ h=>h) (λb9 a3=>by simpa using a3) a2;refine((aH D).then (C.mono (λ_ _ h=>h) sM) (λ_ _ h=>h)).then (M.mono (S':=grow S w Y) (λ_ _ h=>h) sM) (λk a0 b=>b.imp id (λm=>⟨m.1,a0⟩))
end
section
variable {P:Program} {Q:Exit->Act->World->Prop} {a:Act} {w:World}
theorem FO {m:Nat} {l:List Oper} (F:Option Addr->Nat->Nat->Option Addr->Nat->Act) (C:World->Prop) (n:∀e i g f j b,C b->Q .normal (F e i g f j) b) (h:(∀e i g f j b,C b->Q .normal (F e i g f j) b)->(Code.region m l.toArray true).wp P Q a w):(Code.region m l.toArray true).wp P Q a w:=h n
end
section
variable {W Y:World} {F:Nat->Prop} {p k:Nat} {q:Pe} {a:Option Addr} {c:Nat} {l:List Sp}
theorem ic.Xu {b:World} {i:Nat} {u:Value} {g:Pe} (hb:bW W Y) (j:b=Y.setCell ⟨p,i,none⟩ u) (h:ic b (grow F W Y) p k g/\Mod (grow F W Y) [some 226] Y b):ic b (grow F W b) p k g/\Mod F [some 226] W b:=by
 (have m:b.heap.size=Y.heap.size:=by rw[j];simp[World.setCell]);have o:=hb.size;refine⟨h.1.mono (λk e=>e.imp id (λf=>⟨f.1,oM⟩)),(aH hb).then h.2 (λk n e=>e.elim id (λf=>Wy f.1 oM))⟩
theorem ic.putGot (h:ic W F p k q) (hb:bW W Y) (e:Sps Y (λk=>W.heap.size<=k/\k<Y.heap.size) a l) (b:l.length<=c):
  ic (Y.setCell ⟨p,4,none⟩ (.slice a l.length c)) (grow F W (Y.setCell ⟨p,4,none⟩ (.slice a l.length c))) p k {q with got:=l}/\Mod F [some 226] W (Y.setCell ⟨p,4,none⟩ (.slice a l.length c)):=
 ic.Xu hb rfl (((h.below hb).mono (λ_ h=>.inl h)).FI a c l (aF e (λ_ h=>.inr h)) b)
theorem ic.Nu (h:ic W F p k q) (hb:bW W Y) (e:Sps Y (λk=>W.heap.size<=k/\k<Y.heap.size) a l) (b:l.length<=c):
  ic (Y.setCell ⟨p,5,none⟩ (.slice a l.length c)) (grow F W (Y.setCell ⟨p,5,none⟩ (.slice a l.length c))) p k {q with aO:=l}/\Mod F [some 226] W (Y.setCell ⟨p,5,none⟩ (.slice a l.length c)):=
 ic.Xu hb rfl (((h.below hb).mono (λ_ h=>.inl h)).wD a c l (aF e (λ_ h=>.inr h)) b)
theorem ic.RS (h:ic W F p k q) (hb:bW W Y) (e:Sps Y (λk=>W.heap.size<=k/\k<Y.heap.size) a l) (b:l.length<=c):
  ic (Y.setCell ⟨p,10,none⟩ (.slice a l.length c)) (grow F W (Y.setCell ⟨p,10,none⟩ (.slice a l.length c))) p k {q with fK:=l}/\Mod F [some 226] W (Y.setCell ⟨p,10,none⟩ (.slice a l.length c)):=
 ic.Xu hb rfl (((h.below hb).mono (λ_ h=>.inl h)).RQ a c l (aF e (λ_ h=>.inr h)) b)
end
section
variable {P:Program} {Q:Exit->Act->World->Prop} {a:Act} {w:World}
theorem tZ {g:Nat} {l:List Oper} (F:Option Addr->Nat->Act) (C:World->Prop) (i:∀e f b,C b->Q .normal (F e f) b) (h:(∀e f b,C b->Q .normal (F e f) b)->(Code.region g l.toArray true).wp P Q a w):(Code.region g l.toArray true).wp P Q a w:=h i
end
theorem NA (S S2:Nat->Prop) (p k:Nat) (q:Pe) (d:Da) (ab:Option Addr) (cb:Nat) (w:World) (h:ic w S p k q) (w1:Bd S w) (T:DOk d) (hb:Bys w S2 ab d.body) (l6:d.body.length<=cb) (w4:q.fK.length<=1000000) (d8:Gd q.fK) (m5:q.pieces.length<=1000000000):
  Calls Tryz.prog 157 #[pT p,.agg #[uI d.pn,uI d.bn,uI d.off,uI d.bX,jI d.ecn,.slice ab d.body.length cb]] w λt5 t=>t5=.returned (.tuple #[])/\ic t (grow S w t) p k (Es q d)/\Mod S peT w t:=by
 have E:=zH T;have f4:=zH h;have c7:=zH hb;obtain⟨d0,d2,d1,d3,e6,j7,p9,u,v,n,d4,q1,q2,q3,q4,k7,_⟩:=h.ex;have k0:=d4.Wu 10;have w6:=d4.lt;have n0:=d4;have o7:=zH k7;have s9:¬p=w.heap.size:=oM;have t0:¬p=w.heap.size+1:=oM;have t1:¬p=w.heap.size+1+1:=oM;have q5:=T.CW;have a9:=T.xE;have q9:=T.vz;have r0:=T.off1;have x0:IntKind.u64.wrap (d.body.length:Int)=d.body.length:=Wz _ oM;have x1:IntKind.u64.wrap (d.off+d.body.length)=d.off+d.body.length:=Wz _ oM;have x2:IntKind.u64.wrap (d.off+d.body.length -1)=d.off+d.body.length -1:=Wz _ oM;obtain⟨a0,l3⟩:=eX (((w.alloc (.cells #[uI d.pn,uI d.bn,uI d.off,uI d.bX,jI d.ecn,.slice ab d.body.length cb] 115)).alloc (.cells #[uI d.off,uI (d.off+d.body.length -1)] 272)).alloc (.cells #[uI d.off,uI (d.off+d.body.length -1)] 272));have c8:=zH l3;have i3:=zH d8;have o5:=zH l6;have p0:=zH T.vz;have i6:=zH (λe=>Qs d8 T e);have i4:=zH (show∀h9∈q.fK,SpW h9 from d8.words (bY 0));clear h d4 q1 q2 q3 q4 k7 hb l3 T d8 l6;have c9:=zH n0;clear k0 n0;go_enter Tryz.func157,Tryz.ntmps157;go_upto_region 3 with fail;rw[<-c8.out];(have c1:bW w a0:=by rw[c8.out];exact BEL);obtain⟨h6,h7,h8⟩:=MO w #[uI d.pn,uI d.bn,uI d.off,uI d.bX,jI d.ecn,.slice ab d.body.length cb] 115 #[uI d.off,uI (d.off+d.body.length -1)] 272 #[uI d.off,uI (d.off+d.body.length -1)] 272;rw[<-c8.out]at h6 h7 h8;have j0:=zH h6;have j1:=zH h7;have p3:=zH h8;have f0:=zH c1;have k0:a0.cell? ⟨p,10,none⟩=some (.slice j7 q.fK.length p9):=(c9.out.below c1 c9.out.lt).cell 10;have w7:p<a0.heap.size:=(c9.out.below c1 c9.out.lt).lt;have o8:=zH (show Sps a0 S j7 q.fK from aD o7.out c1);clear h6 h7 h8 c1 c8 s9 t0 t1 q5 a9 q9 r0;go_wp2_with fail;go_loopw [28,5] (λI t6 wr=>∃(e:Nat) (a7:Option Addr) (g0:Nat),e<=q.fK.length/\I=jI e/\t6=.slice a7 ((q.fK.take e).foldl jh [nW d]).length g0/\Hid (Sps wr (λk=>w.heap.size<=k) a7 ((q.fK.take e).foldl jh [nW d]))/\Hid (bW a0 wr)) (λI _ _=>q.fK.length -(intOf I).toNat);(case atStart=>exact⟨0,_,_,oM,rfl,rfl,zH (aF (kQ p3.out) (λk g=>by omega)),zH (aj _ _)⟩);case round=>
  obtain⟨e,a7,g0,q8,rfl,rfl,b3,Z⟩:=hrel;have w9:=Z.out.size;by_cases U:e<q.fK.length
  ·obtain⟨j8,n7,rfl,g9,e5,X⟩:=Sps.at_ o8.out Z.out U
   have m9:=i4.out _ (aN U);(have c6:(q.fK.take (e+1)).foldl jh [nW d]=jh ((q.fK.take e).foldl jh [nW d]) q.fK[e]:=by rw[bB U,iA];rfl);obtain⟨k6,q0⟩:=i6.out e;have b4:=zH c6;generalize q.fK[e]=h9 at*
   obtain⟨n9,n8⟩:=h9;simp only at e5 X;have f1:=zH (λ(t:World) (r4:bW wr t)=>AV (λk=>w.heap.size<=k) a7 g0 ((q.fK.take e).foldl jh [nW d]) ⟨n9,n8⟩ t (aD b3.out r4) oM (k6.words p0.out) m9);clear c6 k6 q0 m9;rw[<-b4.out]at f1;generalize(q.fK.take e).foldl jh [nW d]=v5 at*
   obtain⟨p6,g8⟩:=eX ((q.fK.take (e+1)).foldl jh [nW d]);rw[<-g8]at f1;have i2:=zH g8;clear g8;go_wp2_with fail;refine(f1.out _ BEL).mono ?_;rintro v8 o0 ⟨j2,p7,rfl,h1,m7,hb⟩;have l4:bW a0 o0:=bD (show bW a0 (wr.alloc (.cells #[uI n9,uI n8] 272)) by have hb:=Z.out;exact BEL) (hb.mono sO);have m8:Sps o0 (λk=>w.heap.size<=k) j2 p6:=aF m7 (λk g=>by have:=g.1;have:=f0.out.size;simp at*;omega);have o4:=zH l4;have p1:=zH m8;clear hb l4 m7 m8 h1;go_wp2_with fail;go_roundw;(case rel=>exact⟨e+1,j2,p7,oM,by go_num,by rw[<-i2.out],by rw[<-i2.out];exact p1,o4⟩);case measure=>simp[intOf];omega
  ·obtain rfl:e=q.fK.length:=oM
   rw[dM]at b3|-;obtain⟨L,d5⟩:=eX (uT q d);have l2:q.fK.foldl jh [nW d]=L:=d5.symm;rw[l2]at b3|-;have o9:=zH d5;obtain⟨e7,s8,e8⟩:=IQ (p:=q) i3.out E.out;rw[<-d5]at e7 e8;have w0:L.length<=100000:=e7.len_ e8 (by have:=E.out.xE;omega);have i7:=zH (And.intro e7 e8);have a9:=f0.out.trans (Z.out.mono f0.out.size);have i5:Hid (LyB S S2 w p k q d ab cb a7 L wr q.pieces):=zH ⟨(f4.out.below a9).mono (λk g=>.inl g),aH a9,j0.out.below Z.out j0.out.lt,j1.out.below Z.out j1.out.lt,b3.out,aD c7.out a9⟩;clear d5 l2 e7 s8 e8 a9 Z i6 i4 b3;go_wp2_with fail;go_loopw [41] (λI t7=>∃(e:Nat),e<=L.length/\I=jI e/\Hid (LyB S S2 w p k q d ab cb a7 L t7 (q.pieces++(L.take e).map (nZ d)))) (λI _=>L.length -(intOf I).toNat);(case atStart=>exact⟨0,oM,rfl,by simpa using i5⟩);case round=>
    clear i5;obtain⟨e,q8,rfl,J⟩:=hrel;by_cases U:e<L.length
    ·obtain⟨j8,n7,rfl,g9,e5,X⟩:=Sps.at_ J.out.sp (aj _ _) U
     have b1:=GF.low i7.out.1 _ (aN U);have d9:=i7.out.2 _ (aN U);(have c6:q.pieces++(L.take (e+1)).map (nZ d)=(q.pieces++(L.take e).map (nZ d))++[nZ d L[e]]:=by rw[bB U,List.map_append,List.append_assoc];rfl);have b4:=zH c6;clear c6;obtain⟨i9,g7⟩:=eX (q.pieces++(L.take e).map (nZ d));(have h4:i9.length<=2000000000:=by rw[g7,aU,bR,aT];omega);rw[<-g7]at J b4;generalize L[e]=t8 at*
     obtain⟨f,A⟩:=t8;simp only at e5 X b1 d9;obtain⟨k1,k2,hcut,c5⟩:=QT (d:=d) (x:=⟨f,A⟩) ab cb o5.out b1.1 b1.2.1 d9;have l8:nZ d ⟨f,A⟩=⟨f,(nZ d ⟨f,A⟩).body⟩:=rfl;rw[l8]at b4;have l7:=vo (d:=d) (x:=⟨f,A⟩) b1.1 b1.2.1 d9;simp only at l7 hcut;(have w3:(nZ d ⟨f,A⟩).body.length<=100000:=by have:=E.out.xE;omega);generalize(nZ d ⟨f,A⟩).body=m at*
     have i8:=zH c5;have t2:=E.out.vz;have t3:=E.out.off1;have t4:=E.out.xE;have x5:IntKind.u64.wrap (f -d.off)=f -d.off:=Wz _ oM;have x6:IntKind.u64.wrap (A -d.off)=A -d.off:=Wz _ oM;have x7:IntKind.u64.wrap (A -d.off+1)=A -d.off+1:=Wz _ oM;clear c5 g7 l8 l7 t2 t3 t4 b1 d9;go_upto_region 11 with fail;obtain⟨j,e4⟩:=eX (wr.alloc (.cells #[uI f,uI A] 272));rw[<-e4];(have l5:bW wr j:=by rw[e4];exact BEL);have f6:=zH (show Blk j wr.heap.size 272 #[uI f,uI A] by rw[e4];exact Wx _ _ _);have a6:=zH (J.out.below l5);obtain⟨j9,l9⟩:=eX wr.heap.size;rw[<-l9]at f6|-;obtain⟨u,v,n,g4,c3,h3,b0,h0,m3,m4⟩:=a6.out.piece;have c7:=zH a6.out.by_;(have w8:n.length<=2000000000:=by rw[c3,bR]at h4;exact h4);have C:=zH h3;have f3:=zH m3;have f5:=zH m4;obtain⟨x3,h2,h5,M,w2⟩:=info_parts (show(Tryz.prog.info? 203).map (λI=>(I.zero,I.size,I.bytes))=some (some (.agg #[uI 0,.slice none 0 0]),2,32) by kernel_rfl);have m5:=h3.lt;clear e4 l5 l9 J h3 m3 m4 g9 e5 X c3 h4;refine' FO (F:=_) (λW=>Hid (LyB S S2 w p k q d ab cb (some ⟨j8,n7,none⟩) L W (i9++[Pi.mk f m]))) ?tl (λb5=>?mn);case mn=>
      have s:bW j j.drew:=bA (aj _ _);refine aZ (S:=λt=>Blk t w.heap.size 115 #[uI d.pn,uI d.bn,uI d.off,uI d.bX,jI d.ecn,.slice ab d.body.length cb]/\Blk t (w.heap.size+1) 272 #[uI d.off,uI (d.off+d.body.length -1)]/\Blk t j9 272 #[uI f,uI A]) kR (⟨a6.out.b1,a6.out.b2,f6.out⟩) (λg6=>?_);clear g6;have b:Blk j.drew w.heap.size 115 #[uI d.pn,uI d.bn,uI d.off,uI d.bX,jI d.ecn,.slice ab d.body.length cb]/\Blk j.drew (w.heap.size+1) 272 #[uI d.off,uI (d.off+d.body.length -1)]/\Blk j.drew j9 272 #[uI f,uI A]:=⟨a6.out.b1,a6.out.b2,f6.out⟩;refine tK 0 45 b ?_;refine tK 1 46 b ?_;refine tK 2 47 b ?_;refine tK 3 48 b ?_;refine nrm 28 15 ?_;refine tK 5 50 b ?_;refine tk 6 (some 51) b (hy:=by intro b2 y;have K:=y.2.2.Wu 0;exact gS) (h:=?_);refine tK 7 52 b ?_;refine tk 8 (some 53) b (hy:=by intro b2 y;have K:=y.1.Wu 5;exact gS) (h:=?_);refine nrm 28 495 ?_;refine tK 9 54 b ?_;refine tk 10 (some 55) b (hy:=by intro b2 y;have K:=y.2.2.Wu 0;exact gS) (h:=?_);refine tK 11 56 b ?_;refine tk 12 (some 57) b (hy:=by intro b2 y;have K:=y.2.1.Wu 0;exact gS) (h:=?_);refine nrm 28 8175 ?_;refine tK 13 58 b ?_;refine tK 14 59 b ?_;refine tk 15 (some 60) b (hy:=by intro b2 y;have K:=y.2.2.Wu 1;exact gS) (h:=?_);refine tK 16 61 b ?_;refine nrm 28 131055 ?_;refine tk 17 (some 62) b (hy:=by intro b2 y;have K:=y.2.1.Wu 0;exact gS) (h:=?_);refine tK 18 63 b ?_;refine tK 19 64 b ?_;refine tK 20 65 b ?_;refine nrm 28 2097135 ?_;refine fo 4 21 kR ?_ ?_
      ·refine iw (op:=_) rfl kR (some 49) kR (.slice u n.length v) ?_ ?_
       ·have K:j.drew.cell? ⟨p,11,none⟩=some (.slice u n.length v):=((C.out.below s C.out.lt).cell 11).trans h0
        go_simp
       refine⟨b,?_⟩;refine mP ?_;refine aI 21 kR ?_;refine jl (op:=_) rfl kR (fe.wp _ (.tmp 65) rfl j.drew.heap.size none 0 [] kR (iq _ _ _ _) k1 k2 m kR (i8.out _ _ (aD c7.out s)) (by simp only[List.length_nil];omega) dC (av _) ?_);intro a1 a8 i0 a3 G;rw[List.nil_append]at a3;have c2:=OwnAt.fresh (w:=j.drew) a3;have o:Below j.drew.heap.size j.drew i0:=(aj _ _).grown G (av _) (by simp[Value.ownBlock]);have r7:Bys i0 (λk=>j.heap.size<=k/\k<i0.heap.size) a1 m:=aF c2.row (λk g=>⟨ay s.size g.1,g.2⟩);have R:=And.intro (b.1.below o b.1.lt) (And.intro (b.2.1.below o b.2.1.lt) (b.2.2.below o b.2.2.lt));have l1:=s.trans (o.mono s.size);rw[List.nil_append];refine⟨R,?_⟩;clear a3 c2 G o;refine mP ?_;refine tK 22 67 R ?_;refine nrm 28 8388607 ?_;refine aI 23 kR ?_;refine jX (op:=_) rfl kR (some 68) kR 224 203 1 #[(0,.tmp 67)] kR #[uI f,.slice a1 m.length a8] qc.ht h2 h5 (by rw[M];decide) (by rw[M];decide) (by rw[M];kernel_rfl) ?_;intro j6 o2 i c4 o;have d6:=And.intro (R.1.below i R.1.lt) (And.intro (R.2.1.below i R.2.1.lt) (R.2.2.below i R.2.2.lt));have k8:=l1.trans (i.mono l1.size);have r5:=aF (S':=λk=>j.heap.size<=k/\k<o2.heap.size) (aD r7 i) (λk g=>⟨g.1,aC g.2 i.size⟩);refine⟨d6,?_⟩;clear i c4;refine mP ?_;refine aI 24 kR ?_;refine jl (op:=_) rfl kR (qc.wpO (.tmp 49) (.tmp 68) rfl u v n kR (f3.out.below k8) (some ⟨j6,0,none⟩) 1 [(⟨f,m,a1,a8⟩:Pv)] kR (qc.single (⟨f,m,a1,a8⟩:Pv) o rfl) (by simp only[bO];omega) dC ?_);intro f7 g1 v1 r1 e0 G;clear G;have b7:=And.intro (d6.1.mod e0 dC) (And.intro (d6.2.1.mod e0 dC) (d6.2.2.mod e0 dC));refine⟨b7,?_⟩;refine mP ?_;refine tK 25 70 b7 ?_;refine tK 26 71 b7 ?_;refine nrm 28 134217727 ?_;refine aI 27 kR ?_;obtain⟨H,z⟩:=f5.out o2 v1 a1 a8 f m f7 g1 k8 r5 r1 e0;refine fF (op:=_) rfl kR kR 224 (.tmp 71) (.tmp 69) kR p 11 (.slice f7 (n++[(⟨f,m,a1,a8⟩:Pv)]).length g1) kR kR rfl kR H (by rw[b0];decide) ?_;intro x8 n1;rw[<-n1]at z;refine⟨⟨z.b1,z.b2,by rw[n1];exact b7.2.2.far (by have:=dF b7.2.2 H dC;exact this) _⟩,?_⟩;refine mP ?_;refine bg kR ?_ _;exact b5 a1 a8 j6 f7 g1 _ (zH z)
      ·refine jl (op:=_) rfl kR (fe.wp _ (.tmp 65) rfl j.drew.heap.size none 0 [] kR (iq _ _ _ _) k1 k2 m kR (i8.out _ _ (aD c7.out s)) (by simp only[List.length_nil];omega) dC (av _) ?_)
       intro B D e9 a3 G;rw[List.nil_append]at a3;have c2:=OwnAt.fresh (w:=j.drew) a3;have o:Below j.drew.heap.size j.drew e9:=(aj _ _).grown G (av _) (by simp[Value.ownBlock]);have m6:Bys e9 (λk=>j.heap.size<=k/\k<e9.heap.size) B m:=aF c2.row (λk g=>⟨ay s.size g.1,g.2⟩);have r:=And.intro (b.1.below o b.1.lt) (And.intro (b.2.1.below o b.2.1.lt) (b.2.2.below o b.2.2.lt));have b6:=s.trans (o.mono s.size);rw[List.nil_append];refine⟨r,?_⟩;clear a3 c2 G o;refine mP ?_;refine tK 22 67 r ?_;refine nrm 28 8388591 ?_;refine fo 4 23 kR ?_ ?_
       ·refine iw (op:=_) rfl kR (some 49) kR (.slice u n.length v) ?_ ?_
        ·have K:e9.cell? ⟨p,11,none⟩=some (.slice u n.length v):=((C.out.below b6 C.out.lt).cell 11).trans h0
         go_simp
        refine⟨r,?_⟩;refine mP ?_;refine aI 23 kR ?_;refine jX (op:=_) rfl kR (some 68) kR 224 203 1 #[(0,.tmp 67)] kR #[uI f,.slice B m.length D] qc.ht h2 h5 (by rw[M];decide) (by rw[M];decide) (by rw[M];kernel_rfl) ?_;intro j4 o1 i c4 q6;have d7:=And.intro (r.1.below i r.1.lt) (And.intro (r.2.1.below i r.2.1.lt) (r.2.2.below i r.2.2.lt));have l0:=b6.trans (i.mono b6.size);have r6:=aF (S':=λk=>j.heap.size<=k/\k<o1.heap.size) (aD m6 i) (λk g=>⟨g.1,aC g.2 i.size⟩);refine⟨d7,?_⟩;clear i c4;refine mP ?_;refine aI 24 kR ?_;refine jl (op:=_) rfl kR (qc.wpO (.tmp 49) (.tmp 68) rfl u v n kR (f3.out.below l0) (some ⟨j4,0,none⟩) 1 [(⟨f,m,B,D⟩:Pv)] kR (qc.single (⟨f,m,B,D⟩:Pv) q6 rfl) (by simp only[bO];omega) dC ?_);intro f8 g2 v2 r2 e1 G;clear G;have b8:=And.intro (d7.1.mod e1 dC) (And.intro (d7.2.1.mod e1 dC) (d7.2.2.mod e1 dC));refine⟨b8,?_⟩;refine mP ?_;refine tK 25 70 b8 ?_;refine tK 26 71 b8 ?_;refine nrm 28 134217727 ?_;refine aI 27 kR ?_;obtain⟨H,z⟩:=f5.out o1 v2 B D f m f8 g2 l0 r6 r2 e1;refine fF (op:=_) rfl kR kR 224 (.tmp 71) (.tmp 69) kR p 11 (.slice f8 (n++[(⟨f,m,B,D⟩:Pv)]).length g2) kR kR rfl kR H (by rw[b0];decide) ?_;intro x9 n2;rw[<-n2]at z;refine⟨⟨z.b1,z.b2,by rw[n2];exact b8.2.2.far (by have:=dF b8.2.2 H dC;exact this) _⟩,?_⟩;refine mP ?_;refine bg kR ?_ _;exact b5 B D j4 f8 g2 _ (zH z)
       ·refine jX (op:=_) rfl kR (some 68) kR 224 203 1 #[(0,.tmp 67)] kR #[uI f,.slice B m.length D] qc.ht h2 h5 (by rw[M];decide) (by rw[M];decide) (by rw[M];kernel_rfl) ?_
        intro j5 i1 i c4 q7;have b9:=And.intro (r.1.below i r.1.lt) (And.intro (r.2.1.below i r.2.1.lt) (r.2.2.below i r.2.2.lt));have g5:=b6.trans (i.mono b6.size);have r8:=aF (S':=λk=>j.heap.size<=k/\k<i1.heap.size) (aD m6 i) (λk g=>⟨g.1,aC g.2 i.size⟩);refine⟨b9,?_⟩;clear i c4;refine mP ?_;refine aI 4 kR ?_;refine iw (op:=_) rfl kR (some 49) kR (.slice u n.length v) ?_ ?_
        ·have K:i1.cell? ⟨p,11,none⟩=some (.slice u n.length v):=((C.out.below g5 C.out.lt).cell 11).trans h0
         go_simp
        refine⟨b9,?_⟩;refine mP ?_;refine aI 24 kR ?_;refine jl (op:=_) rfl kR (qc.wpO (.tmp 49) (.tmp 68) rfl u v n kR (f3.out.below g5) (some ⟨j5,0,none⟩) 1 [(⟨f,m,B,D⟩:Pv)] kR (qc.single (⟨f,m,B,D⟩:Pv) q7 rfl) (by simp only[bO];omega) dC ?_);intro f9 g3 v3 r3 e2 G;clear G;have c0:=And.intro (b9.1.mod e2 dC) (And.intro (b9.2.1.mod e2 dC) (b9.2.2.mod e2 dC));refine⟨c0,?_⟩;refine mP ?_;refine tK 25 70 c0 ?_;refine tK 26 71 c0 ?_;refine nrm 28 134217727 ?_;refine aI 27 kR ?_;obtain⟨H,z⟩:=f5.out i1 v3 B D f m f9 g3 g5 r8 r3 e2;refine fF (op:=_) rfl kR kR 224 (.tmp 71) (.tmp 69) kR p 11 (.slice f9 (n++[(⟨f,m,B,D⟩:Pv)]).length g3) kR kR rfl kR H (by rw[b0];decide) ?_;intro y0 n3;rw[<-n3]at z;refine⟨⟨z.b1,z.b2,by rw[n3];exact c0.2.2.far (by have:=dF c0.2.2 H dC;exact this) _⟩,?_⟩;refine mP ?_;refine bg kR ?_ _;exact b5 B D j5 f9 g3 _ (zH z)
     case tl=>
      intro p5 p8 v6 v4 v7 p4 f2;(try simp only[]);go_wp2_with fail;go_roundw;(case rel=>exact⟨e+1,oM,by go_num,by rw[b4.out];exact f2⟩);case measure=>simp[intOf];omega
    ·obtain rfl:e=L.length:=oM
     rw[dM]at J;obtain⟨d0,d2,d1,d3,e6,N,O,u,v,n,X,s2,s3,s4,s5,n5,s6,s7,n6⟩:=J.out.pe.ex;have C:=zH X;have m1:(peC {q with pieces:=q.pieces++L.map (nZ d)} d0 d2 d1 d3 e6 N O u n.length v)[10]?=some (.slice N q.fK.length O):=rfl;have b0:(peC {q with pieces:=q.pieces++L.map (nZ d)} d0 d2 d1 d3 e6 N O u n.length v).size=12:=rfl;obtain⟨g4,m0⟩:∃g4,g4=peC {q with pieces:=q.pieces++L.map (nZ d)} d0 d2 d1 d3 e6 N O u n.length v:=⟨_,rfl⟩;rw[<-m0]at C m1 b0;obtain⟨a4,e3⟩:=eX (d.off+d.body.length -1);(have a2:Blk wr (w.heap.size+1) 272 #[uI d.off,uI a4]:=by rw[e3];exact J.out.b2);have o3:=zH (λt (hb:bW wr t)=>sH (grow S w wr) N O q.fK ⟨d.off,a4⟩ t (aD n5 hb) oM n6.2.2.2 (i3.out.words (bY 0)) ⟨⟨E.out.vz,by have:=E.out.off1;show d.off<_;omega⟩,by have:=E.out.vz;have:=E.out.off1;have:=E.out.CW;rw[e3];exact⟨by show 0<=d.off+d.body.length -1;omega,by show d.off+d.body.length -1<_;omega⟩⟩);have f4:=zH J.out.pe;have m5:=X.lt;have g9:=a2.lt;have p2:=zH e3;have o6:=zH a2;clear X s2 s3 s4 s5 n5 s6 s7 n6 m0 e3 a2;go_upto_region 13 with fail;have a2:=o6.out;refine' tZ (F:=_) (λW=>Hid (ic W (grow (grow S w wr) wr W) p k {q with pieces:=q.pieces++L.map (nZ d),fK:=iV q.fK ⟨d.off,a4⟩}/\Mod (grow S w wr) [some 226] wr W)) ?tl (λb5=>?mn);case mn=>
      have s:bW wr wr.drew:=bA (aj _ _);refine aZ (S:=λt=>Blk t (w.heap.size+1) 272 #[uI d.off,uI a4]) kR (a2) (λg6=>?_);clear g6;have b:Blk wr.drew (w.heap.size+1) 272 #[uI d.off,uI a4]:=a2;refine tK 0 74 b ?_;refine tK 1 75 b ?_;refine tK 2 76 b ?_;refine tK 3 77 b ?_;refine nrm 13 15 ?_;refine tk 5 (some 79) b (hy:=by intro b2 y;have K:=y.Wu 0;have x4:=y.Wu 1;exact gS) (h:=?_);refine nrm 13 47 ?_;refine aI 4 kR ?_;refine iw (op:=_) rfl kR (some 78) kR (.slice N q.fK.length O) ?_ ?_
      ·have K:wr.drew.cell? ⟨p,10,none⟩=some (.slice N q.fK.length O):=((C.out.below s C.out.lt).cell 10).trans m1
       go_simp
      refine⟨b,?_⟩;refine mP ?_;refine aI 6 kR ?_;refine WE (op:=_) rfl kR (some 80) kR 158 #[.slice N q.fK.length O,.agg #[uI d.off,uI a4]] kR ((o3.out _ s).mono ?_);rintro v9 v0 ⟨j3,k3,m2,h1,c5,o⟩;have V:=b.below o b.lt;have r9:=aF (S':=λk=>wr.heap.size<=k/\k<v0.heap.size) c5 (λk g=>⟨ay s.size g.1,g.2⟩);have k9:=s.trans (o.mono s.size);refine⟨_,m2,V,?_⟩;clear m2 o c5;refine mP ?_;refine tK 7 73 V ?_;refine tK 8 81 V ?_;refine tK 9 82 V ?_;refine tK 10 83 V ?_;refine nrm 13 2047 ?_;refine tK 11 84 V ?_;refine nrm 13 4095 ?_;refine aI 12 kR ?_;have H:=C.out.below k9 C.out.lt;have c3:=f4.out.RS k9 r9 h1;refine fF (op:=_) rfl kR kR 90 (.tmp 84) (.tmp 81) kR p 10 (.slice j3 (iV q.fK ⟨d.off,a4⟩).length k3) kR kR rfl kR H (by rw[b0];decide) ?_;intro y1 n4;rw[<-n4]at c3;refine⟨(by rw[n4];exact V.far (dF V H dC) _),?_⟩;refine mP ?_;refine bg kR ?_ _;exact b5 j3 k3 _ (zH c3)
     case tl=>
      intro p5 p8 p4 f2;(try simp only[]);clear a2;go_wp2_with fail;refine mE ?_;obtain⟨k4,k5⟩:=f2.out;rw[p2.out,o9.out]at k4;have s0:=J.out.m.size;have s1:=k5.size;refine⟨rfl,k4.mono (λk g=>grow_grow s0 s1 g),J.out.m.then (k5.mono (λ_ _ h=>h) (by simp[peT])) (λk w5 g=>g.elim id (λt9=>Wy t9.1 oM))⟩
end Go.Proofs.YtiflndepmgnojaaGreat
