import Derived.Maps.RangeWalk
import Derived.Maps.Ext
import Derived.Test.YtiflndepmgnojaaGreatEnt
namespace Go.Proofs.YtiflndepmgnojaaGreat
open Go.RowKit Tryz Go.ChangeMaps Go.MapKept
open Go.Maps (Keyed)
set_option linter.unusedSimpArgs false
set_option linter.unusedVariables false
set_option maxHeartbeats 8000000
set_option maxRecDepth 100000
variable {b n:Nat} {K:Act->World->Prop} {x:Int} {e t:TypeId} {w' w:World}
def kpR:Value->Option (DataW Unit×List MemPlace)
 | .agg ⟨[.int .u64 n,.bool c]⟩=>some (.agg [.lit (.int .u64 n),.lit (.bool c)],[])
 |_=>none
def kpM (c:Int×Bool):Value:=.agg #[.int .u64 c.1,.bool c.2]
theorem kpR_mk (n:Int) (c:Bool):kpR (.agg #[.int .u64 n,.bool c])=some (.agg [.lit (.int .u64 n),.lit (.bool c)],[]):=rfl
theorem Sd (v:Value) (y:DataW Unit×List MemPlace) (h:kpR v=some y):∃c,v=kpM c:=by
 unfold kpR at h;split at h
 .rename_i n c
  exact⟨(n,c),rfl⟩
 .cases h
theorem yU:Keyed prog 30:=Maps.int_keyed (q:=.u64) Tryz.underlying30
def kpL (x:Kp):Lit:=.int .u64 x.pn
def kpV (x:Kp):DataW Unit:=.agg [.lit (.int .u64 x.bX),.lit (.bool x.rE)]
theorem Qw (x:Kp):WideAt.IsKeyLit (kpL x):=by unfold kpL;exact trivial
theorem Gv {x y:Kp} (h:kpL x=kpL y):x.pn=y.pn:=by unfold kpL at h;injection h
theorem Qv {n:Int} (h:Word n):keyOf prog 30 (.int .u64 n)=some (.int .u64 n):=Maps.keyOf_int_mk Tryz.underlying30 (by
 simp[Lit.wf,IntKind.min,IntKind.max,IntKind.signed,IntKind.bits];exact⟨h.1,by have:=h.2;omega⟩)
abbrev Dis (l:List Kp):Prop:=l.Pairwise (λx y=>x.pn≠y.pn)
theorem Dis.eq {l:List Kp} (h:Dis l) {x y:Kp} (g:x∈l) (hy:y∈l) (f:x.pn=y.pn):x=y:=by
 induction l with
 |nil=>cases g
 |cons z t ih=>
  obtain⟨e,i⟩:=List.pairwise_cons.1 h;rcases bT.1 g with d|d
  .rcases bT.1 hy with c|c
   .rw[d,c]
   .exact Wy f (by rw[d];exact e y c)
  .rcases bT.1 hy with c|c
   .exact Wy f.symm (by rw[c];exact e x d)
   .exact ih i d c
structure KpD (D:DataW Unit) (l:List Kp):Prop where
 has:∀kl,Maps.has D kl=true↔∃x∈l,kl=kpL x
 val:∀x∈l,∀z,D.atKey (kpL x) z=kpV x
theorem KpD.nil:KpD (.map []) []:=⟨λd=>by simp[Maps.has],λe c=>by cases c⟩
theorem KpD.put {D:DataW Unit} {l:List Kp} (h:KpD D l) (g:Maps.IsMap D) {y:Kp} (hy:∀d∈l,d.pn≠y.pn):KpD (D.put (kpL y) (kpV y)) (l++[y]):=by
 refine⟨λi=>?_,λd c j=>?_⟩
 .by_cases f:i=kpL y
  .subst f
   rw[Maps.has_put_same g (Qw y)];exact⟨λ_=>⟨y,sM,rfl⟩,λ_=>rfl⟩
  .rw[Maps.has_put_other f,h.has]
   refine⟨λ⟨d,c,e⟩=>⟨d,by simp[c],e⟩,λ⟨d,c,e⟩=>?_⟩;rcases WB.1 c with c|c
   .exact⟨d,c,e⟩
   .obtain rfl:d=y:=by simpa using c
    exact Wy e f
 .rcases WB.1 c with c|c
  .rw[Maps.atKey_put_other (λe=>hy d c (Gv e)),h.val d c]
  .obtain rfl:d=y:=by simpa using c
   exact Maps.atKey_put_same g (Qw d) _ _
theorem KpD.del {D:DataW Unit} {l:List Kp} (h:KpD D l) (y:Kp):KpD (D.del (kpL y)) (l.filter λc=>decide (c.pn≠y.pn)):=by
 have m:∀c:Kp,c.pn≠y.pn->kpL c≠kpL y:=λc d e=>d (Gv e);refine⟨λp=>?_,λc d q=>?_⟩
 .by_cases f:p=kpL y
  .subst f
   rw[Maps.has_del_same];refine⟨λk=>(by cases k),λ⟨c,d,e⟩=>?_⟩;have:=(dx.1 d).2;exact Wy (Gv e).symm (by simpa using this)
  .rw[Maps.has_del_other f,h.has]
   refine⟨λ⟨c,d,e⟩=>⟨c,dx.2 ⟨d,?_⟩,e⟩,λ⟨c,d,e⟩=>⟨c,(dx.1 d).1,e⟩⟩;simp only[decide_eq_true_eq];intro g;apply f;rw[e];unfold kpL;rw[g]
 .obtain⟨i,j⟩:=dx.1 d
  rw[Maps.atKey_del_other (m c (by simpa using j)),h.val c i]
def nQ (w:World) (b n:Nat) (l:List Kp):Prop:=∃c,w.ownsMap prog 30 kpR b n c/\KpD c l
def tT (w:World) (b r n:Nat) (cur todo:List Kp) (cnt:Nat):Prop:=
 ∃d left,w.ranges prog 30 kpR b r n d left cnt/\KpD d cur/\(∀e,left e=true↔∃c∈todo,e=kpL c)/\(∀c∈todo,c∈cur)/\Dis todo
section
variable {w w':World} {b r n cnt:Nat} {l cur todo:List Kp}
theorem nQ.lt (h:nQ w b n l):b<w.heap.size:=by obtain⟨d,c,_⟩:=h;exact c.lt
theorem nQ.kept (h:nQ w b n l) {row:Option Nat} (f:w.grownBy w' row) (g:some b≠row):nQ w' b n l:=by
 obtain⟨c,d,e⟩:=h;exact⟨c,d.kept f g,e⟩
theorem nQ.same (h:nQ w b n l) (k:w'.heap[b]?=w.heap[b]?):nQ w' b n l:=by
 obtain⟨c,⟨f,e,j,d,m,i⟩,g⟩:=h;exact⟨c,⟨f,e,k.trans j,d,m,i⟩,g⟩
theorem nQ.obj (h:nQ w b n l):∃o,w.heap[b]?=some o/\nH o=none:=by
 obtain⟨d,⟨g,f,c,e,k,j⟩,i⟩:=h;exact⟨_,c,rfl⟩
theorem nQ.mod {S:X4} {T:X8} (h:nQ w b n l) (g:Mod S T w w') (e:¬(S b/\none∈T)):nQ w' b n l:=by
 refine h.same ?_;rcases g.block b h.lt with f|⟨j,o,i,d⟩
 .exact f
 .obtain⟨m,c,k⟩:=h.obj
  rw[i]at c;injection c with c;subst c;rw[k]at d;exact Wy ⟨j,d⟩ e
theorem nQ.below (h:nQ w b n l) (hb:bW w w'):nQ w' b n l:=h.same (hb.block b h.lt)
theorem nQ.made (w:World):nQ (w.alloc (.map #[] 0)) w.heap.size 0 []:=⟨_,World.ownsMap_made w _ _ _,KpD.nil⟩
theorem nQ.isMap {D:DataW Unit} (h:w.ownsMap prog 30 kpR b n D):Maps.IsMap D:=by
 obtain⟨f,e,g,d,i,c⟩:=h;exact⟨_,c⟩
theorem tT.owns (h:tT w b r n cur todo cnt):nQ w b n cur:=by
 obtain⟨c,left,d,e,_⟩:=h;exact⟨c,d.owns,e⟩
theorem tT.left_eq (h:tT w b r n cur todo cnt):w.rangeLeft b r=cnt:=by
 obtain⟨d,left,c,_⟩:=h;exact c.left_eq
theorem tT.kept (h:tT w b r n cur todo cnt) {row:Option Nat} (f:w.grownBy w' row) (hb:some b≠row) (g:some r≠row):tT w' b r n cur todo cnt:=by
 obtain⟨c,left,d,e⟩:=h;exact⟨c,left,d.kept f hb g,e⟩
theorem QP {y:Kp} (h:Dis todo) (hy:y∈todo):todo.Perm (y::todo.filter λc=>decide (c.pn≠y.pn)):=by
 induction todo with
 |nil=>cases hy
 |cons z t ih=>
  obtain⟨d,f⟩:=List.pairwise_cons.1 h;rcases bT.1 hy with rfl|hy
  .have:(y::t).filter (λc=>decide (c.pn≠y.pn))=t:=by
    rw[List.filter_cons_of_neg sM];exact List.filter_eq_self.2 (λc g=>by simpa using λe=>d c g e.symm)
   rw[this]
  .rw[List.filter_cons_of_pos (by simpa using d y hy)]
   exact((ih f hy).cons z).trans (List.Perm.swap _ _ _)
end
section
variable {ops:Array Oper} {rest:List Oper} {o:Oper} {a:Act} {Q:X7} (w:World)
theorem Jm (j:o.guard=none) (m:Operand) (q:o.op=Op.range 223 m) (b n:Nat) (l:List Kp) (p:a.eval m=.map (some b)) (h:nQ w b n l) (i:Dis l)
  (g:∀w',tT w' b w.heap.size n l l (w'.rangeLeft b w.heap.size)->w.grownBy w' none->w'.heap.size=w.heap.size+1->wpList prog ops Q rest (a.put o.dst (.pointer (some ⟨w.heap.size,0,none⟩))) w'):
  wpList prog ops Q (o::rest) a w:=by
 obtain⟨c,f,d⟩:=h;refine wpList_range_own w j m 223 q 30 301 yU Tryz.underlying223 kpR b n c p f ?_;intro w' e k s;exact g w' (by rw[e.left_eq];exact⟨c,_,e,d,λu=>d.has u,λv t=>t,i⟩) k s
theorem Md (M:o.guard=none) (v:Operand) (T:o.op=Op.next v false) (b r n:Nat) (cur todo:List Kp) (cnt:Nat) (O:a.eval v=.pointer (some ⟨r,0,none⟩)) (h:tT w b r n cur todo cnt)
  (G:todo=[]->wpList prog ops Q rest (a.put o.dst (.tuple #[.bool false])) w)
  (H:∀(d:Kp) (w':World) (i:Nat),d∈todo->tT w' b r n cur (todo.filter λc=>decide (c.pn≠d.pn)) i->i<cnt->w.grownBy w' (some r)->w'.heap.size=w.heap.size->
   (Instr.entry (.pointer (some ⟨r,0,none⟩))).run prog w'=.ok (.tuple #[.int .u64 d.pn,.agg #[.int .u64 d.bX,.bool d.rE]]) w'->wpList prog ops Q rest (a.put o.dst (.tuple #[.bool true,.int .u64 d.pn,.agg #[.int .u64 d.bX,.bool d.rE]])) w'):
  wpList prog ops Q (o::rest) a w:=by
 obtain⟨y,left,E,z,q,A,F⟩:=h;refine wpList_next_ranges w M v T 30 yU kpR (Value.int .u64) kpM (λa2 x s=>by obtain⟨c,rfl,_⟩:=Maps.keyOf_int_inv Tryz.underlying30 s;exact⟨c,rfl⟩) Sd b r n y left cnt O E ?_ ?_
 .intro a0 P
  refine G ?_;cases todo with
  |nil=>rfl
  |cons c t=>exact Wy ((q (kpL c)).2 ⟨c,sM,rfl⟩) (by rw[P];simp)
 .intro c m x d w' i s R I J U S N W L
  obtain⟨e,B,rfl⟩:=(q x).1 R;obtain⟨a3,p,j,a1⟩:=Maps.keyOf_int_inv Tryz.underlying30 s;have X:c=e.pn:=by
   injection p with _ p;unfold kpL at j;injection j with _ j;rw[p,j]
  have u:=z.val e (A e B);have u:=λC=>(J C).symm.trans (u C);have K:m=(e.bX,e.rE):=by
   have f:=u (.map []);have k:kpR (.agg #[.int .u64 m.1,.bool m.2])=some d:=I;rw[kpR_mk]at k;injection k with k;rw[<-k]at f;unfold kpV at f;simp at f;exact Prod.ext f.1 f.2
  subst X K;refine H e w' i B ⟨y,_,U,z,λx=>?_,λc g=>A c (dx.1 g).1,F.sublist List.filter_sublist⟩ S N W L;rw[Bool.and_eq_true,q];constructor
  .rintro⟨⟨c,g,rfl⟩,V⟩
   refine⟨c,dx.2 ⟨g,?_⟩,rfl⟩;simp only[decide_eq_true_eq];intro D;simp[kpL,Lit.sameKey,D]at V
  .rintro⟨c,g,rfl⟩
   obtain⟨Y,Z⟩:=dx.1 g;refine⟨⟨c,Y,rfl⟩,?_⟩;simp[kpL,Lit.sameKey];simpa using Z
theorem NP (v:o.guard=none) (m x:Operand) (C:o.op=Op.call {callee:=Callee.builtin Builtin.delete,args:= #[m,x],argTypes:= #[223,30]})
  (b r n:Nat) (cur todo:List Kp) (cnt:Nat) (B:a.eval m=.map (some b)) (h:tT w b r n cur todo cnt) (y:Kp) (d:a.eval x=.int .u64 y.pn) (F:Word y.pn) (hy:∀e∈todo,e.pn≠y.pn)
  (u:∀w' c,tT w' b r n (cur.filter λx=>decide (x.pn≠y.pn)) todo c->c<=cnt->w.grownBy w' (some b)->w'.heap.size=w.heap.size->wpList prog ops Q rest (a.put o.dst (.tuple #[])) w'):
  wpList prog ops Q (o::rest) a w:=by
 obtain⟨i,left,k,p,q,s,t⟩:=h;refine wpList_delete_ranges w v m x 223 30 C 301 yU Tryz.underlying223 kpR b r n i left cnt B k _ (kpL y) d (Qv F) ?_;intro w' c D A E;obtain⟨J,H,K,I,G,g⟩:=E;refine u w' c ⟨_,_,D,p.del y,λM=>?_,λe f=>dx.2 ⟨s e f,by simpa using hy e f⟩,t⟩ A ?_ ?_
 .rw[Bool.and_eq_true,q]
  constructor
  .rintro⟨h,_⟩;exact h
  .rintro⟨x,d,rfl⟩
   refine⟨⟨x,d,rfl⟩,?_⟩;simp[kpL,Lit.sameKey];exact hy x d
 .rw[g]
  exact⟨rfl,rfl,rfl,by simp[setBlock],λL _ z=>heap_setBlock_other G _ (λj=>z (by rw[j]))⟩
 .rw[g];simp[setBlock]
end
attribute[local go_sem] run_makeMap
structure Pv where
 off:Int
 b:List Int
 a:Option Addr
 c:Nat
def pvV (x:Pv):List Value:=[.int .u64 x.off,.slice x.a x.b.length x.c]
def Pv.pi (x:Pv):Pi:=⟨x.off,x.b⟩
def peC (q:Pe) (a:X5) (e:Nat) (c:X5) (g mb:Nat) (b:X5) (f:Nat) (d:X5) (j i:Nat):Array Value:=
 #[.int .u64 q.delay,.int .u64 q.floor,.int .u64 q.next,.int .u64 q.bytes,.slice a q.got.length e,.slice c q.aO.length g,.map (some mb),.int .i64 q.fG,.int .u64 q.dw,.int .u64 q.due,.slice b q.fK.length f,.slice d j i]
def uV:List (Option TypeId):=[some 226,some 272,none,some 203,some 5]
def peT:List (Option TypeId):=[some 226,none,some 203]
structure ic (w:World) (S:X4) (p k:Nat) (q:Pe):Prop where
 ex:∃ag cg am cm mb ah ch ap cp,∃pv:List Pv,Blk w p 226 (peC q ag cg am cm mb ah ch ap pv.length cp)/\Sps w S ag q.got/\Sps w S am q.aO/\nQ w mb k q.kept/\S mb/\Sps w S ah q.fK/\OwnAt w S 203 2 ap pv.length cp (pv.flatMap pvV)/\(∀x∈pv,Bys w S x.a x.b)/\q.pieces=pv.map Pv.pi/\q.got.length<=cg/\q.aO.length<=cm/\q.fK.length<=ch
 mem:S p
section
variable {w w':World} {S S':X4} {p k:Nat} {q:Pe} {ts:X8}
theorem ic.mono (h:ic w S p k q) (a:∀k,S k->S' k):ic w S' p k q:=by
 obtain⟨b,f,d,i,y,c,g,e,j,z,l,m,n,o,r,s,t,u,v⟩:=h.ex;exact⟨⟨b,f,d,i,y,c,g,e,j,z,l,aF m a,aF n a,o,a _ r,aF s a,t.mono a,λA x=>aF (u A x) a,v⟩,a _ h.mem⟩
theorem nQ.keep {l:List Kp} (h:nQ w b n l) (c:bQ S ts w w') (hb:S b) (d:none∈ts):nQ w' b n l:=by
 obtain⟨f,a,e⟩:=h.obj;exact h.same (by rw[c b f hb a (by rw[e];exact d),a])
theorem ic.keep (h:ic w S p k q) (a:bQ S ts w w') (b:∀B∈uV,B∈ts):ic w' S p k q:=by
 obtain⟨d,i,f,l,z,e,j,g,m,A,n,o,r,s,c,t,u,v,x⟩:=h.ex;exact⟨⟨d,i,f,l,z,e,j,g,m,A,n.keep a h.mem (b _ (by simp[uV])),aG o a (b _ (by simp[uV])),aG r a (b _ (by simp[uV])),s.keep a c (b _ (by simp[uV])),c,aG t a (b _ (by simp[uV])),u.keep a (b _ (by simp[uV])),λC y=>aG (v C y) a (b _ (by simp[uV])),x⟩,h.mem⟩
theorem ic.below (h:ic w S p k q) (hb:bW w w'):ic w' S p k q:=h.keep (ts:=uV) (bQ.below hb) (λ_ h=>h)
theorem ic.lt (h:ic w S p k q):p<w.heap.size:=by
 obtain⟨b,f,d,i,l,c,g,e,j,m,a,_⟩:=h.ex;exact a.lt
theorem ic.more {k':Nat} (h:ic w S p k q) (t:k<=k'):ic w S p k' q:=by
 obtain⟨b,f,d,i,u,c,g,e,j,v,n,o,r,⟨a,l,m⟩,s⟩:=h.ex;exact⟨⟨b,f,d,i,u,c,g,e,j,v,n,o,r,⟨a,l.mono t,m⟩,s⟩,h.mem⟩
theorem Mod.Qc {l:List Kp} (h:nQ w b n l) (a:w.grownBy w' (some b)) (hb:S b):Mod S [none] w w':=
 ⟨a.os,a.tape,a.output,a.size,λk e=>by
  by_cases c:k=b
  .subst c
   obtain⟨i,f,g⟩:=h.obj;exact .inr ⟨hb,i,f,by simp[g]⟩
  .exact .inl (a.block k e (λd=>c (by injection d)))⟩
end
theorem Nz (a:Int) (w:World):Yk 79 #[.int .u64 a] w λj w'=>∃p,j=.returned (.pointer (some ⟨p,0,none⟩))/\w.heap.size<=p/\ic w' (λk=>w.heap.size<=k/\k<w'.heap.size) p 0 (kU a)/\bW w w':=by
 go_enter Tryz.func79,Tryz.ntmps79;go_wp2;go_ret;have i:=nQ.made w;have d:bW w (w.alloc (.map #[] 0)):=BEL;have c:=(aj (w.alloc (.map #[] 0)).heap.size (w.alloc (.map #[] 0))).alloc (av _) (.cells (peC (kU a) none 0 none 0 w.heap.size none 0 none 0 0) 226);have b:=Wx (w.alloc (.map #[] 0)) 226 (peC (kU a) none 0 none 0 w.heap.size none 0 none 0 0);have f:(w.alloc (.map #[] 0)).heap.size=w.heap.size+1:=sM;simp only[peC,kU,List.length_nil]at c b;rw[f]at b;have g:=b.lt;refine⟨_,rfl,oM,⟨⟨none,0,none,0,w.heap.size,none,0,none,0,[],b,Row.WH,Row.WH,i.below c,⟨av _,oM⟩,Row.WH,OwnAt.WH,λl e=>(by cases e),rfl,av _,av _,av _⟩,⟨oM,g⟩⟩,d.trans (c.mono d.size)⟩
theorem IG (S:X4) (p k:Nat) (q:Pe) (w:World) (h:ic w S p k q):Yk 40 #[.pointer (some ⟨p,0,none⟩)] w λb w'=>b=.returned (.int .u64 q.bytes)/\w=w':=by
 obtain⟨c,i,e,l,o,d,j,f,m,r,a,_⟩:=h.ex;have g:=a.Wu 3;have n:=a.lt;clear a h;go_enter Tryz.func40,Tryz.ntmps40;go_wp2;go_ret;exact⟨rfl,rfl⟩
theorem NB (S:X4) (p k:Nat) (q:Pe) (w:World) (h:ic w S p k q) (F:q.got.length<=1000000000):Yk 213 #[.pointer (some ⟨p,0,none⟩)] w λt w'=>∃b c,t=.returned (.slice b q.got.length c)/\q.got.length<=c/\Sps w' (λk=>w.heap.size<=k/\k<w'.heap.size) b q.got/\bW w w':=by
 obtain⟨n,o,y,D,H,x,C,z,E,I,a,d,r,_⟩:=h.ex;have B:=a.Wu 4;have G:=a.lt;have j:=zH d;clear a h d r;go_enter Tryz.func213,Tryz.ntmps213;go_wp2_with (at_builtin;refine iP.wpList rfl _ (.tmp 8) rfl w.heap.size none 0 [] (by rfl) (iq _ _ _ _) n o q.got (by rfl) j.o sO dC (av _) ?_;intro v A u i f;have s:bW w u:=(aj w.heap.size w).grown f (av _) XI;have m:=zH i;have l:=zH s;clear i f);go_ret;have g:=m.o;rw[List.nil_append]at g;have e:=OwnAt.fresh g;exact⟨_,_,rfl,e.cap_,e.row,l.o⟩
theorem FZ (S:X4) (p k:Nat) (q:Pe) (w:World) (h:ic w S p k q) (F:q.aO.length<=1000000000):Yk 214 #[.pointer (some ⟨p,0,none⟩)] w λt w'=>∃b c,t=.returned (.slice b q.aO.length c)/\q.aO.length<=c/\Sps w' (λk=>w.heap.size<=k/\k<w'.heap.size) b q.aO/\bW w w':=by
 obtain⟨x,C,n,o,H,y,D,z,E,I,a,r,d,_⟩:=h.ex;have B:=a.Wu 5;have G:=a.lt;have j:=zH d;clear a h r d;go_enter Tryz.func214,Tryz.ntmps214;go_wp2_with (at_builtin;refine iP.wpList rfl _ (.tmp 8) rfl w.heap.size none 0 [] (by rfl) (iq _ _ _ _) n o q.aO (by rfl) j.o sO dC (av _) ?_;intro v A u i f;have s:bW w u:=(aj w.heap.size w).grown f (av _) XI;have m:=zH i;have l:=zH s;clear i f);go_ret;have g:=m.o;rw[List.nil_append]at g;have e:=OwnAt.fresh g;exact⟨_,_,rfl,e.cap_,e.row,l.o⟩
section
variable {W:World} {S:X4} {p k:Nat} {q:Pe}
theorem ic.set1 (h:ic W S p k q) (i:Nat) (u:Value) (b:Pe) (D:∀d j f m mb e l g A n,(peC q d j f m mb e l g A n).setIfInBounds i u=peC b d j f m mb e l g A n)
  (o:b.got=q.got) (s:b.aO=q.aO) (B:b.kept=q.kept) (t:b.fK=q.fK) (C:b.pieces=q.pieces):ic (W.setCell ⟨p,i,none⟩ u) S p k b/\Mod S [some 226] W (W.setCell ⟨p,i,none⟩ u):=by
 have v:=h.mem;obtain⟨d,j,f,m,mb,e,l,g,n,N,y,G,H,I,z,J,K,L,M⟩:=h.ex;have x:Mod S [some 226] W (W.setCell ⟨p,i,none⟩ u):=(aV S _ W).setCell y (λ_=>v) sM i _;have c:bQ S [some 272,none,some 203,some 5] W (W.setCell ⟨p,i,none⟩ u):=x.aM dC;refine⟨⟨⟨d,j,f,m,mb,e,l,g,n,N,?_,?_,?_,?_,z,?_,K.keep c sM,λO E=>aG (L O E) c sM,by rw[o,s,t,C];exact M⟩,v⟩,x⟩
 .rw[<-D];exact y.bF i u
 .rw[o];exact aG G c sM
 .rw[s];exact aG H c sM
 .rw[B];exact I.keep c z sM
 .rw[t];exact aG J c sM
theorem ic.FI (h:ic W S p k q) (a:X5) (c:Nat) (l:List Sp) (v:Sps W S a l) (u:l.length<=c):ic (W.setCell ⟨p,4,none⟩ (.slice a l.length c)) S p k {q with got:=l}/\Mod S [some 226] W (W.setCell ⟨p,4,none⟩ (.slice a l.length c)):=by
 have d:=h.mem;obtain⟨G,H,m,s,mb,j,o,n,t,D,f,I,y,z,g,A,B,C,i⟩:=h.ex;have e:Mod S [some 226] W (W.setCell ⟨p,4,none⟩ (.slice a l.length c)):=(aV S _ W).setCell f (λ_=>d) sM 4 _;have b:bQ S [some 272,none,some 203,some 5] W (W.setCell ⟨p,4,none⟩ (.slice a l.length c)):=e.aM dC;exact⟨⟨⟨a,c,m,s,mb,j,o,n,t,D,f.bF 4 _,aG v b sM,aG y b sM,z.keep b g sM,g,aG A b sM,B.keep b sM,λE x=>aG (C E x) b sM,⟨i.1,u,i.2.2⟩⟩,d⟩,e⟩
theorem ic.Yt (h:ic W S p k q) (a:X5) (c:Nat) (l:List Sp) (v:Sps W S a l) (u:l.length<=c):ic (W.setCell ⟨p,5,none⟩ (.slice a l.length c)) S p k {q with aO:=l}/\Mod S [some 226] W (W.setCell ⟨p,5,none⟩ (.slice a l.length c)):=by
 have e:=h.mem;obtain⟨j,o,G,H,mb,m,s,n,t,D,g,y,I,z,i,A,B,C,d⟩:=h.ex;have f:Mod S [some 226] W (W.setCell ⟨p,5,none⟩ (.slice a l.length c)):=(aV S _ W).setCell g (λ_=>e) sM 5 _;have b:bQ S [some 272,none,some 203,some 5] W (W.setCell ⟨p,5,none⟩ (.slice a l.length c)):=f.aM dC;exact⟨⟨⟨j,o,a,c,mb,m,s,n,t,D,g.bF 5 _,aG y b sM,aG v b sM,z.keep b i sM,i,aG A b sM,B.keep b sM,λE x=>aG (C E x) b sM,⟨d.1,d.2.1,u,d.2.2.2⟩⟩,e⟩,f⟩
theorem ic.RQ (h:ic W S p k q) (a:X5) (c:Nat) (l:List Sp) (v:Sps W S a l) (u:l.length<=c):ic (W.setCell ⟨p,10,none⟩ (.slice a l.length c)) S p k {q with fK:=l}/\Mod S [some 226] W (W.setCell ⟨p,10,none⟩ (.slice a l.length c)):=by
 have e:=h.mem;obtain⟨j,o,m,s,mb,G,H,n,t,D,g,y,z,A,i,I,B,C,d⟩:=h.ex;have f:Mod S [some 226] W (W.setCell ⟨p,10,none⟩ (.slice a l.length c)):=(aV S _ W).setCell g (λ_=>e) sM 10 _;have b:bQ S [some 272,none,some 203,some 5] W (W.setCell ⟨p,10,none⟩ (.slice a l.length c)):=f.aM dC;exact⟨⟨⟨j,o,m,s,mb,a,c,n,t,D,g.bF 10 _,aG y b sM,aG z b sM,A.keep b i sM,i,aG v b sM,B.keep b sM,λE x=>aG (C E x) b sM,⟨d.1,d.2.1,d.2.2.1,u⟩⟩,e⟩,f⟩
end
section
variable {a w w':World} {F:X4} {T:X8} {r mb:Nat}
theorem Mod.LU (h:Mod F T a w) (b:w.grownBy w' (some r)) (e:a.heap.size<=r):Mod F T a w':=
 ⟨b.os.trans h.os,b.tape.trans h.tape,b.output.trans h.output,ay h.size b.size,λk d=>by rw[b.block k (aC d h.size) (λc=>by injection c with c;omega)];exact h.block k d⟩
theorem Mod.RL (h:Mod (λk=>k=mb) [none] a w) (b:w.grownBy w' (some mb)) (g:∃c,a.heap[mb]?=some c/\nH c=none):Mod (λk=>k=mb) [none] a w':=
 ⟨b.os.trans h.os,b.tape.trans h.tape,b.output.trans h.output,ay h.size b.size,λk e=>by
  by_cases d:k=mb
  .subst d
   obtain⟨c,i,j⟩:=g;exact .inr ⟨rfl,c,i,by simp[j]⟩
  .rw[b.block k (aC e h.size) (λf=>d (by injection f))];exact h.block k e⟩
theorem Mod.QF (b:a.grownBy w none):Mod F T a w:=⟨b.os,b.tape,b.output,b.size,λk c=>.inl (b.block k c sM)⟩
end
def vH (c:Int) (l d:List Kp):List Kp:=l.filter λb=>decide (c<=b.pn)||d.any (λe=>e.pn==b.pn)
theorem NQ (b:Int) (l:List Kp):vH b l l=l:=by
 unfold vH;refine List.filter_eq_self.2 (λd c=>?_);rw[Bool.or_eq_true,List.any_eq_true];exact .inr ⟨d,c,sM⟩
theorem KU (b:Int) (l:List Kp):vH b l []=l.filter λc=>decide (b<=c.pn):=by
 unfold vH;congr 1;funext c;simp
theorem KT {l g:List Kp} {y:Kp} (i:x<=y.pn):vH x l (g.filter λc=>decide (c.pn≠y.pn))=vH x l g:=by
 unfold vH;congr 1;funext c;by_cases f:x<=c.pn
 .simp[f]
 .have j:¬c.pn=y.pn:=oM
  simp only[f,decide_false,Bool.false_or];rw[mU,List.any_eq_true,List.any_eq_true];constructor
  .rintro⟨e,d,b⟩;exact⟨e,(dx.1 d).1,b⟩
  .rintro⟨e,d,b⟩
   refine⟨e,dx.2 ⟨d,?_⟩,b⟩;simp only[beq_iff_eq]at b;simp only[decide_eq_true_eq];omega
theorem KV {l g:List Kp} {y:Kp} (j:y.pn<x):vH x l (g.filter λc=>decide (c.pn≠y.pn))=(vH x l g).filter λc=>decide (c.pn≠y.pn):=by
 unfold vH;rw[List.filter_filter];congr 1;funext c;by_cases f:c.pn=y.pn
 .have i:¬x<=y.pn:=oM
  simp only[f,i,decide_false,Bool.false_or,ne_eq,not_true_eq_false,Bool.false_and];rw[List.any_eq_false];rintro e b;have:=(dx.1 b).2;simpa using this
 .simp only[ne_eq,f,not_false_eq_true,decide_true,Bool.true_and]
  congr 1;rw[mU,List.any_eq_true,List.any_eq_true];constructor
  .rintro⟨e,b,d⟩;exact⟨e,(dx.1 b).1,d⟩
  .rintro⟨e,b,d⟩
   refine⟨e,dx.2 ⟨b,?_⟩,d⟩;simp only[beq_iff_eq]at d;simp only[decide_eq_true_eq];omega
section
variable {P:Program} {ops:Array Oper} {Q:X7} {op:Oper} {a:Act} {w:World}
theorem iw {i:Nat} (e:ops[i]?=some op) (c:op.guard=none) (d:Option Tmp) (b:op.dst=d) (v:Value) (f:(execOp a.eval op).run P w=.ok (.value v) w) (h:K (a.put d v) w):wpOp P ops Q i K a w:=
 KJ e c d b v w f h
theorem FK {l:List Oper} (F:Option Addr->Nat->Option Addr->Nat->Act) (C:Option Addr->Nat->Option Addr->Nat->World->Prop) (f:∀a c d e w',C a c d e w'->Q .normal (F a c d e) w') (h:(∀a c d e w',C a c d e w'->Q .normal (F a c d e) w')->(Code.region b l.toArray true).wp P Q a w):(Code.region b l.toArray true).wp P Q a w:=h f
end
theorem IE (S:X4) (p k:Nat) (q:Pe) (c:Int) (w:World) (h:ic w S p k q) (r0:Bd S w) (r3:Word c) (m0:q.got.length<=1000000000) (m1:∀f1∈q.got,SpW f1) (m5:q.aO.length<=1000000000) (m6:∀f1∈q.aO,SpW f1) (m2:Dis q.kept) (m3:∀i∈q.kept,Word i.pn):
  Yk 160 #[.pointer (some ⟨p,0,none⟩),.int .u64 c] w λr w'=>r=.returned (.tuple #[])/\ic w' (grow S w w') p k (gz q c)/\Mod S peT w w':=by
 obtain⟨z,D,x,A,mb,j4,k2,j7,k5,o5,K,c8,c9,_⟩:=h.ex;obtain⟨j9,p0⟩:=K.cz 1;have r6:=K.lt;have g0:=zH h;by_cases H:c<=q.floor
 .have g6:=bM H
  (have m8:gz q c=q:=by unfold gz;rw[aB H]);clear h K c8 c9 H;go_enter Tryz.func160,Tryz.ntmps160;go_wp2;refine mE ?_;rw[m8];exact⟨rfl,g0.o.mono (λ_ h=>.inl h),aV _ _ _⟩
 .have g6:=bJ H
  have r2:=H;obtain⟨U,y⟩:∃U:Pe,U={q with floor:=c}:=⟨_,rfl⟩;obtain⟨d3,L⟩:=h.set1 1 (.int .u64 c) U (by intros;rw[y];rfl) (by rw[y]) (by rw[y]) (by rw[y]) (by rw[y]) (by rw[y]);obtain⟨f,a3⟩:=eX (w.setCell ⟨p,1,none⟩ (.int .u64 c));rw[<-a3]at d3 L;obtain⟨a9,f8,g1⟩:=Av d3 L a3;(have h3:Blk f p 226 ((peC q z D x A mb j4 k2 j7 o5.length k5).setIfInBounds 1 (.int .u64 c)):=by rw[a3];exact K.bF 1 _);have b2:=zH h3;have e2:Sps f S z q.got:=aG c8 (ts:=[some 272]) (L.aM dC) sM;have h2:Sps f S x q.aO:=aG c9 (ts:=[some 272]) (L.aM dC) sM;obtain⟨X,Y⟩:=yx (λw' (d4:bW f w')=>zb S z D q.got c w' (aD e2 d4) m0 m1) (λw' (d4:bW f w')=>zb S x A q.aO c w' (aD h2 d4) m5 m6);clear h K c8 c9 H d3 L a3 h3 e2 h2 g0;go_enter Tryz.func160,Tryz.ntmps160;go_wp2_with fail;rw[<-g1.o];clear j9 p0 g6 g1;refine' FK (F:=_) (λa p6 p8 q5 W=>X3 (ic W (grow S f W) p k {U with got:=gV q.got c,aO:=gV q.aO c})/\X3 (Mod S [some 226] f W)) ?tl (λb3=>?mn);case mn=>
   have n:bW f f.drew:=bA (aj _ _);have t:=b2.o.below n b2.o.lt;refine aZ (S:=λw'=>True) kR (trivial) (λl6=>?_);clear l6;have g:True:=trivial;refine tK 0 15 g ?_;refine tK 1 16 g ?_;refine tK 2 17 g ?_;refine tK 3 18 g ?_;refine nrm 20 15 ?_;refine tK 4 19 g ?_;refine tK 6 21 g ?_;refine tK 8 23 g ?_;refine tK 9 24 g ?_;refine nrm 20 863 ?_;refine tK 10 25 g ?_;refine tK 12 27 g ?_;refine nrm 20 5983 ?_;refine fo 5 11 kR ?_ ?_
   .refine iw (op:=_) rfl kR (some 20) kR (.slice z q.got.length D) ?_ ?_
    .have a7:=t.Wu 4
     go_simp
    refine⟨trivial,?_⟩;refine mP ?_;refine fo 7 11 kR ?_ ?_
    .refine opC 22 200 #[.slice z q.got.length D,.int .u64 c] ((X.o _ n).mono ?_)
     rintro J o7 ⟨b8,c6,j,O,l,e⟩;have e3:=t.below e t.lt;have n7:=aF (S':=λk=>f.heap.size<=k/\k<o7.heap.size) l (λk b=>⟨ay n.size b.1,b.2⟩);have a1:=n.trans (e.mono n.size);refine⟨_,j,trivial,?_⟩;clear j e l;refine mP ?_;refine aI 11 kR ?_;refine iw (op:=_) rfl kR (some 26) kR (.slice x q.aO.length A) ?_ ?_
     .have a7:=e3.Wu 5
      go_simp
     refine⟨trivial,?_⟩;refine mP ?_;refine aI 13 kR ?_;refine opC 28 200 #[.slice x q.aO.length A,.int .u64 c] ((Y.o _ a1).mono ?_);rintro J f7 ⟨b5,c1,j,R,l,e⟩;have i1:=e3.below e e3.lt;have m9:=aF (S':=λk=>f.heap.size<=k/\k<f7.heap.size) l (λk b=>⟨ay a1.size b.1,b.2⟩);have d2:=a1.trans (e.mono a1.size);have n0:=aF (S':=λk=>f.heap.size<=k/\k<f7.heap.size) (aD n7 e) (λk b=>⟨b.1,aC b.2 e.size⟩);refine⟨_,j,trivial,?_⟩;clear j e l;refine Yf 14 29 g ?_;refine tK 15 30 g ?_;refine nrm 20 65535 ?_;refine aI 16 kR ?_;refine fF (op:=_) rfl kR kR 90 (.tmp 30) (.tmp 22) kR p 4 (.slice b8 (gV q.got c).length c6) kR kR rfl kR i1 (by simp[peC]) ?_;intro f2 e5;have h4:Blk f2 p 226 _:=(by rw[e5];exact i1.bF 4 _);refine⟨trivial,?_⟩;refine Yf 17 31 g ?_;refine tK 18 32 g ?_;refine nrm 20 524287 ?_;refine aI 19 kR ?_;refine fF (op:=_) rfl kR kR 90 (.tmp 32) (.tmp 28) kR p 5 (.slice b5 (gV q.aO c).length c1) kR kR rfl kR h4 (by simp[peC]) ?_;intro i7 i2;have s0:Blk i7 p 226 _:=(by rw[i2];exact h4.bF 5 _);refine⟨trivial,?_⟩;refine mP ?_;refine bg kR ?_ _;have N:=(a9.o.below d2).mono (S':=λk=>S k\/(f.heap.size<=k/\k<f7.heap.size)) (λk b=>.inl b);obtain⟨M,m⟩:=N.FI b8 c6 (gV q.got c) (aF n0 (λk b=>.inr b)) O;obtain⟨B,s⟩:=M.Yt b5 c1 (gV q.aO c) (aG (aF m9 (λk b=>.inr b)) (ts:=[some 272]) (m.aM dC) sM) R;rw[<-show f2=_ from e5,<-show i7=_ from i2]at B s;rw[<-show f2=_ from e5]at m;obtain⟨e8,e9,i5⟩:=FX m.size s.size d2.size;exact b3 b8 c6 b5 c1 _ ⟨zH (B.mono (λk b=>b.imp id (λd=>⟨d.1,by have:=d.2;omega⟩))),zH ((aH (S:=S) d2).then (m.trans s) (λk d7 b=>b.elim id (λd=>Wy d.1 oM)))⟩
    .refine iw (op:=_) rfl kR (some 26) kR (.slice x q.aO.length A) ?_ ?_
     .have a7:=t.Wu 5
      go_simp
     refine⟨trivial,?_⟩;refine mP ?_;refine aI 7 kR ?_;refine opC 22 200 #[.slice z q.got.length D,.int .u64 c] ((X.o _ n).mono ?_);rintro J o8 ⟨b6,c2,j,O,l,e⟩;have h5:=t.below e t.lt;have n1:=aF (S':=λk=>f.heap.size<=k/\k<o8.heap.size) l (λk b=>⟨ay n.size b.1,b.2⟩);have a0:=n.trans (e.mono n.size);refine⟨_,j,trivial,?_⟩;clear j e l;refine mP ?_;refine aI 13 kR ?_;refine opC 28 200 #[.slice x q.aO.length A,.int .u64 c] ((Y.o _ a0).mono ?_);rintro J f3 ⟨b7,c3,j,R,l,e⟩;have h6:=h5.below e h5.lt;have n2:=aF (S':=λk=>f.heap.size<=k/\k<f3.heap.size) l (λk b=>⟨ay a0.size b.1,b.2⟩);have d0:=a0.trans (e.mono a0.size);have n3:=aF (S':=λk=>f.heap.size<=k/\k<f3.heap.size) (aD n1 e) (λk b=>⟨b.1,aC b.2 e.size⟩);refine⟨_,j,trivial,?_⟩;clear j e l;refine Yf 14 29 g ?_;refine tK 15 30 g ?_;refine nrm 20 65535 ?_;refine aI 16 kR ?_;refine fF (op:=_) rfl kR kR 90 (.tmp 30) (.tmp 22) kR p 4 (.slice b6 (gV q.got c).length c2) kR kR rfl kR h6 (by simp[peC]) ?_;intro f4 e6;have h7:Blk f4 p 226 _:=(by rw[e6];exact h6.bF 4 _);refine⟨trivial,?_⟩;refine Yf 17 31 g ?_;refine tK 18 32 g ?_;refine nrm 20 524287 ?_;refine aI 19 kR ?_;refine fF (op:=_) rfl kR kR 90 (.tmp 32) (.tmp 28) kR p 5 (.slice b7 (gV q.aO c).length c3) kR kR rfl kR h7 (by simp[peC]) ?_;intro i8 i3;have s1:Blk i8 p 226 _:=(by rw[i3];exact h7.bF 5 _);refine⟨trivial,?_⟩;refine mP ?_;refine bg kR ?_ _;have N:=(a9.o.below d0).mono (S':=λk=>S k\/(f.heap.size<=k/\k<f3.heap.size)) (λk b=>.inl b);obtain⟨M,m⟩:=N.FI b6 c2 (gV q.got c) (aF n3 (λk b=>.inr b)) O;obtain⟨B,s⟩:=M.Yt b7 c3 (gV q.aO c) (aG (aF n2 (λk b=>.inr b)) (ts:=[some 272]) (m.aM dC) sM) R;rw[<-show f4=_ from e6,<-show i8=_ from i3]at B s;rw[<-show f4=_ from e6]at m;obtain⟨e8,e9,i5⟩:=FX m.size s.size d0.size;exact b3 b6 c2 b7 c3 _ ⟨zH (B.mono (λk b=>b.imp id (λd=>⟨d.1,by have:=d.2;omega⟩))),zH ((aH (S:=S) d0).then (m.trans s) (λk d7 b=>b.elim id (λd=>Wy d.1 oM)))⟩
   .refine iw (op:=_) rfl kR (some 26) kR (.slice x q.aO.length A) ?_ ?_
    .have a7:=t.Wu 5
     go_simp
    refine⟨trivial,?_⟩;refine mP ?_;refine aI 5 kR ?_;refine iw (op:=_) rfl kR (some 20) kR (.slice z q.got.length D) ?_ ?_
    .have a7:=t.Wu 4
     go_simp
    refine⟨trivial,?_⟩;refine mP ?_;refine aI 7 kR ?_;refine opC 22 200 #[.slice z q.got.length D,.int .u64 c] ((X.o _ n).mono ?_);rintro J o9 ⟨b9,c4,j,O,l,e⟩;have h8:=t.below e t.lt;have n4:=aF (S':=λk=>f.heap.size<=k/\k<o9.heap.size) l (λk b=>⟨ay n.size b.1,b.2⟩);have a2:=n.trans (e.mono n.size);refine⟨_,j,trivial,?_⟩;clear j e l;refine mP ?_;refine aI 13 kR ?_;refine opC 28 200 #[.slice x q.aO.length A,.int .u64 c] ((Y.o _ a2).mono ?_);rintro J f5 ⟨c0,c5,j,R,l,e⟩;have h9:=h8.below e h8.lt;have n5:=aF (S':=λk=>f.heap.size<=k/\k<f5.heap.size) l (λk b=>⟨ay a2.size b.1,b.2⟩);have d1:=a2.trans (e.mono a2.size);have n6:=aF (S':=λk=>f.heap.size<=k/\k<f5.heap.size) (aD n4 e) (λk b=>⟨b.1,aC b.2 e.size⟩);refine⟨_,j,trivial,?_⟩;clear j e l;refine Yf 14 29 g ?_;refine tK 15 30 g ?_;refine nrm 20 65535 ?_;refine aI 16 kR ?_;refine fF (op:=_) rfl kR kR 90 (.tmp 30) (.tmp 22) kR p 4 (.slice b9 (gV q.got c).length c4) kR kR rfl kR h9 (by simp[peC]) ?_;intro f6 e7;have i0:Blk f6 p 226 _:=(by rw[e7];exact h9.bF 4 _);refine⟨trivial,?_⟩;refine Yf 17 31 g ?_;refine tK 18 32 g ?_;refine nrm 20 524287 ?_;refine aI 19 kR ?_;refine fF (op:=_) rfl kR kR 90 (.tmp 32) (.tmp 28) kR p 5 (.slice c0 (gV q.aO c).length c5) kR kR rfl kR i0 (by simp[peC]) ?_;intro i9 i4;have s2:Blk i9 p 226 _:=(by rw[i4];exact i0.bF 5 _);refine⟨trivial,?_⟩;refine mP ?_;refine bg kR ?_ _;have N:=(a9.o.below d1).mono (S':=λk=>S k\/(f.heap.size<=k/\k<f5.heap.size)) (λk b=>.inl b);obtain⟨M,m⟩:=N.FI b9 c4 (gV q.got c) (aF n6 (λk b=>.inr b)) O;obtain⟨B,s⟩:=M.Yt c0 c5 (gV q.aO c) (aG (aF n5 (λk b=>.inr b)) (ts:=[some 272]) (m.aM dC) sM) R;rw[<-show f6=_ from e7,<-show i9=_ from i4]at B s;rw[<-show f6=_ from e7]at m;obtain⟨e8,e9,i5⟩:=FX m.size s.size d1.size;exact b3 b9 c4 c0 c5 _ ⟨zH (B.mono (λk b=>b.imp id (λd=>⟨d.1,by have:=d.2;omega⟩))),zH ((aH (S:=S) d1).then (m.trans s) (λk d7 b=>b.elim id (λd=>Wy d.1 oM)))⟩
  case tl=>
   intro v p7 q6 q8 u l5;obtain⟨I,f9⟩:=l5;obtain⟨o,a4⟩:∃o:Pe,o={U with got:=gV q.got c,aO:=gV q.aO c}:=⟨_,rfl⟩;rw[<-a4]at I;(have d6:o.kept=q.kept:=by rw[a4,y]);(have g7:gz q c={o with kept:=o.kept.filter λi=>decide (c<=i.pn)}:=by rw[a4,y];unfold gz;rw[Ww oM]);have j0:=zH g7;(have l8:Dis o.kept:=by rw[d6];exact m2);have j1:=zH (show∀i∈o.kept,Word i.pn from by rw[d6];exact m3);clear a4 y g7 d6 X Y b2;obtain⟨p2,p9,p4,q1,C,p3,q0,p5,q4,s4,a6,o2,o3,d8,i6,o4⟩:=I.o.ex;have k0:=a6.Wu 6;have r7:=a6.lt;obtain⟨g2,j2,p1⟩:=Av a6 d8.obj i6;clear a6 o2 o3 i6 o4;(try simp only[]);go_wp2_with (first|(at_range;refine Jm _ rfl _ rfl C k o.kept rfl d8 l8 ?_;intro s5 h1 g8 n8)|fail);go_frame;go_loopw [] (λwr=>∃V c7,X3 (∀G∈V,G∈o.kept)/\X3 (tT wr C u.heap.size k (vH c o.kept V) V c7)/\X3 (Mod (λk=>k=C) [none] u wr)) (λwr=>wr.rangeLeft C u.heap.size);(case atStart=>exact⟨_,_,zH (λG E=>E),zH (by rw[NQ];exact h1),zH (Mod.QF g8)⟩);case round=>
    clear h1 g8 n8 d8 k0;obtain⟨V,c7,b1,b0,Z⟩:=hrel;have e0:=b0.o;go_wp2_with (first|(at_next;refine Md _ rfl _ rfl C u.heap.size k _ V c7 rfl e0 ?_ ?_)|fail)
    .intro l3
     subst l3;clear e0;go_wp2;refine mE ?_;rw[j0.o];have h0:=b0.o.owns;rw[KU]at h0;obtain⟨j3,k1,j6,k4,f0,j5,k3,j8,k6,o6,g3,k7,k8,q9,g4,k9,l0,l1,l2⟩:=I.o.ex;have o0:=g2.o;have m4:f0=C:=by
      have b4:=g3.cell 6;have v:=o0.cell 6;have b4:u.cell? ⟨p,6,none⟩=some (.map (some f0)):=b4;have v:u.cell? ⟨p,6,none⟩=some (.map (some C)):=v;rw[b4]at v;injection v with v;injection v with v;injection v
     subst m4;have b:bQ (grow S f u) [some 226,some 272,some 203,some 5] u wr:=Z.o.aM dC;obtain⟨e8,e9,s3⟩:=FX f8.o.size f9.o.size Z.o.size;have m7:ic wr (grow S f u) p k {o with kept:=o.kept.filter λi=>decide (c<=i.pn)}:=
      ⟨⟨j3,k1,j6,k4,f0,j5,k3,j8,k6,o6,g3.keep b I.o.mem sM,aG k7 b sM,aG k8 b sM,h0,g4,aG k9 b sM,l0.keep b sM,λi n9=>aG (l1 i n9) b sM,l2⟩,I.o.mem⟩
     refine⟨rfl,m7.mono (λk b=>b.imp id (λd=>⟨by have:=d.1;omega,by have:=d.2;omega⟩)),?_⟩;have l4:=(f8.o.then f9.o (λ_ _ h=>h)).mono (T':=peT) (λ_ _ h=>h) (by simp[peT]);refine l4.then (Z.o.mono (T':=peT) (λ_ _ h=>h) (by simp[peT])) (λk d7 b=>?_);subst b;exact g4.elim id (λd=>Wy d.1 oM)
    .intro d s6 q2 o1 a5 r5 g9 r9 r1
     have g5:=b0.o.left_eq;have a8:=zH (Z.o.LU g9 (av _));have e4:=g2.o.mod a8.o dC;have q7:=e4.Wu 6;have r8:=e4.lt;clear e4 e0 g9;by_cases d9:d.pn<c
     .have l7:=bM d9
      go_wp2_with (first|(at_delete;refine NP _ rfl _ _ rfl C u.heap.size k _ _ _ rfl a5 d rfl (j1.o d (b1.o d o1)) (λG E=>by simpa using(dx.1 E).2) ?_;intro s7 q3 e1 r4 l9 e2)|fail);(try go_frame);(have d5:(λi:Kp=> !decide (i.pn=d.pn))=λi=>decide (i.pn≠d.pn):=by funext i;simp);(try rw[d5]at e1);go_roundw;(case rel=>exact⟨_,_,zH (λG E=>b1.o G (dx.1 E).1),zH (by rw[KV d9];exact e1),zH (a8.o.RL l9 j2.o)⟩);case measure=>rw[e1.left_eq,g5];omega
     .have l7:=bJ d9
      go_wp2_with fail;(have d5:(λi:Kp=> !decide (i.pn=d.pn))=λi=>decide (i.pn≠d.pn):=by funext i;simp);(try rw[d5]at a5);go_roundw;(case rel=>exact⟨_,_,zH (λG E=>b1.o G (dx.1 E).1),zH (by rw[KT (show c<=d.pn by omega)];exact a5),a8⟩);case measure=>rw[a5.left_eq,g5];omega
theorem MO (w:World) (c1:Array Value) (b:TypeId) (c2:Array Value) (e:TypeId) (f:Array Value) (g:TypeId):
  Blk (((w.alloc (.cells c1 b)).alloc (.cells c2 e)).alloc (.cells f g)) w.heap.size b c1/\Blk (((w.alloc (.cells c1 b)).alloc (.cells c2 e)).alloc (.cells f g)) (w.heap.size+1) e c2/\Blk (((w.alloc (.cells c1 b)).alloc (.cells c2 e)).alloc (.cells f g)) (w.heap.size+1+1) g f:=by
 have j:=Wx w b c1;have s:=(aj (w.alloc (.cells c1 b)).heap.size (w.alloc (.cells c1 b))).alloc (av _) (.cells c2 e);have m:=j.below s j.lt;have n:=Wx (w.alloc (.cells c1 b)) e c2;have i:=(aj ((w.alloc (.cells c1 b)).alloc (.cells c2 e)).heap.size ((w.alloc (.cells c1 b)).alloc (.cells c2 e))).alloc (av _) (.cells f g);have r:=Wx ((w.alloc (.cells c1 b)).alloc (.cells c2 e)) g f;have t:(w.alloc (.cells c1 b)).heap.size=w.heap.size+1:=sM;have u:((w.alloc (.cells c1 b)).alloc (.cells c2 e)).heap.size=w.heap.size+1+1:=sM;have o:=n.below i n.lt;rw[t]at o;rw[u]at r;exact⟨m.below i m.lt,o,r⟩
theorem qc:Elem prog 224 203 2 32 pvV:=
 ⟨by kernel_rfl,by
  obtain⟨b,f,g,i,j⟩:=info_parts (show(prog.info? 203).map (λb=>(b.zero,b.size,b.bytes))=some (some (.agg #[uI 0,zzN]),2,32) by kernel_rfl);exact⟨b,_,f,g,i,j,rfl⟩,dC,λ_=>rfl,λn m e=>by simp[pvV]at e;rcases e with rfl|rfl<;>rfl⟩
theorem Qs {q:Pe} {d:Da} (n:Gd q.fK) (b:DOk d) (j:Nat):GF d.off ((q.fK.take j).foldl jh [nW d])/\((q.fK.take j).foldl jh [nW d]).length<=100000:=by
 obtain⟨m,s,t,u⟩:=Hl b.vz b.off1 b.CW b.xE;have i:GF d.off [nW d]:=⟨bY _,by simp only[nW];omega,by simp only[nW];omega,trivial⟩;obtain⟨a,g⟩:=tN (q.fK.take j) [nW d] d.off i m (λr o=>(GF.low n r (bf o)).2);refine⟨a,a.len_ (e:=d.off+d.body.length) (a.below λv f=>?_) oM⟩;rw[g]at f;simp[dI,nV,nW]at f;omega
theorem Nf {P:Program} {i:TypeInfo} {kd:IntKind} (g:P.underlying t=some (.slice e)) (b:P.info? e=some i) (a:X5) (n c k m:Nat) (h:k<=m) (f:m<=c) (w:World):
  (Instr.slice t (.slice a n c) (some (.int kd (k:Int))) (some (.int kd (m:Int))) none).run P w=.ok (.slice (fE a c k i.size) (m -k) (c -k)) w:=by
 simp[Instr.slice,Instr.sliceBounds,Instr.sliceBound,asIntOf,run_underlying g,sizeOf,typeInfo,b,h,f,fE]
theorem QT {d:Da} {x:Sp} (ab:X5) (cb:Nat) (B:d.body.length<=cb) (y:d.off<=x.lo) (z:x.lo<=x.hi) (A:x.hi<d.off+d.body.length):
  ∃g n,(∀w,(Instr.slice 47 (.slice ab d.body.length cb) (some (uI (x.lo -d.off))) (some (uI (x.hi -d.off+1))) none).run prog w=.ok (.slice g (nZ d x).body.length n) w)/\∀W S2,Bys W S2 ab d.body->Bys W S2 g (nZ d x).body:=by
 obtain⟨k,i⟩:∃k:Nat,x.lo -d.off=k:=⟨(x.lo -d.off).toNat,oM⟩;obtain⟨b,m⟩:∃b:Nat,x.hi -d.off+1=b:=⟨(x.hi -d.off+1).toNat,oM⟩;(have e:(nZ d x).body=(d.body.take b).drop k:=by unfold nZ;simp only[i,m,Int.toNat_natCast]);(have j:(nZ d x).body.length=b -k:=by rw[e,bI,aT];omega);obtain⟨G,r,D,u,E⟩:=info_parts (show(prog.info? 5).map (λf=>(f.zero,f.size,f.bytes))=some (some (.int .u8 0),1,1) by kernel_rfl);refine⟨fE ab cb k 1,cb -k,λw=>?_,λW S2 s=>?_⟩
 .have h:=Nf (P:=prog) (kd:=.u64) fe.ht r ab d.body.length cb k b oM oM w
  rw[u]at h;rw[i,m,j];exact h
 .have t:=Row.take s (k:=b) oM
  have o:=t.drop (k:=k) oM (a':=fE ab cb k 1) (λC v H e=>by subst e;exact lD oM);unfold Bys;rw[j,e,WZ fe.len,pQ fe.len];exact o
structure LyB (S S2:X4) (w:World) (p k:Nat) (q:Pe) (d:Da) (ab:X5) (cb:Nat) (a5:X5) (L:List Sp) (W:World) (P:List Pi):Prop where
 pe:ic W (grow S w W) p k {q with pieces:=P}
 m:Mod S peT w W
 b1:Blk W w.heap.size 115 #[uI d.pn,uI d.bn,uI d.off,uI d.bX,jI d.ecn,.slice ab d.body.length cb]
 b2:Blk W (w.heap.size+1) 272 #[uI d.off,uI (d.off+d.body.length -1)]
 sp:Sps W (λk=>w.heap.size<=k) a5 L
 by_:Bys W S2 ab d.body
section
variable {S S2:X4} {w W W':World} {p k cb:Nat} {q:Pe} {d:Da} {ab a5:X5} {L:List Sp} {P P':List Pi}
theorem LyB.step (h:LyB S S2 w p k q d ab cb a5 L W P) {F:X4} {T:X8} (f:Mod F T W W') (o:∀k,F k->grow S w W k) (j:∀b∈T,b=some 226\/b=some 203) (s:ic W' (grow S w W') p k {q with pieces:=P'}):LyB S S2 w p k q d ab cb a5 L W' P':=by
 have v:=h.m.size;have g:∀b,b≠226->b≠203->some b∉T:=λb m n i=>by
  rcases j _ i with e|e
  .injection e with e;exact m e
  .injection e with e;exact n e
 exact⟨s,h.m.then (f.mono (λ_ _ h=>h) (λb i=>by rcases j b i with rfl|rfl<;>simp[peT])) (λk u r=>(o k r).elim id (λt=>Wy t.1 oM)),h.b1.mod f (g _ dC dC),h.b2.mod f (g _ dC dC),
  aG h.sp (ts:=[some 272]) (f.aM (by simpa using g 272 dC dC)) sM,aG h.by_ (ts:=[some 5]) (f.aM (by simpa using g 5 dC dC)) sM⟩
theorem LyB.below (h:LyB S S2 w p k q d ab cb a5 L W P) (hb:bW W W'):LyB S S2 w p k q d ab cb a5 L W' P:=
 h.step (F:=S) (T:=[]) (aH hb) (λk b=>.inl b) (λg f=>by cases f) ((h.pe.below hb).mono (λk b=>b.imp id (λe=>⟨e.1,aC e.2 hb.size⟩)))
theorem LyB.piece (h:LyB S S2 w p k q d ab cb a5 L W P):∃z A,∃e:List Pv,∃B,P=e.map Pv.pi/\Blk W p 226 B/\B.size=12/\B[11]?=some (.slice z e.length A)/\OwnAt W (grow S w W) 203 2 z e.length A (e.flatMap pvV)/\
  ∀(o Y:World) (i:X5) (j:Nat) (g:Int) (f:List Int) (n:X5) (r:Nat),bW W o->Bys o (λk=>W.heap.size<=k/\k<o.heap.size) i f->OwnAt Y (grow (grow S w W) o Y) 203 2 n (e++[Pv.mk g f i j]).length r ((e++[Pv.mk g f i j]).flatMap pvV)->Mod (grow S w W) [some 203] o Y->
   Blk Y p 226 B/\LyB S S2 w p k q d ab cb a5 L (Y.setCell ⟨p,11,none⟩ (.slice n (e++[Pv.mk g f i j]).length r)) (P++[Pi.mk g f]):=by
 obtain⟨N,U,R,X,b3,O,V,z,A,e,K,a6,a7,a8,H,a9,b0,b1,I⟩:=h.pe.ex;have E:=h.pe.mem;have b6:=h.m.size;refine⟨z,A,e,_,I.1,K,rfl,rfl,b0,?_⟩;intro o Y i j g f n r D a4 a1 C;have b7:=D.size;have b8:=C.size;have s:∀k,grow S w W k->grow S w Y k:=λk b=>b.imp id (λm=>⟨m.1,by have:=m.2;omega⟩);have v:bQ (grow S w W) [some 226,some 272,none,some 5] W Y:=(bQ.below D).trans (C.aM dC);have b2:bQ (λk=>W.heap.size<=k/\k<o.heap.size) [some 5] o Y:=C.aM dC;have G:=K.keep v E sM;refine⟨G,?_⟩;have M:Mod (grow S w Y) [some 226] Y (Y.setCell ⟨p,11,none⟩ (.slice n (e++[Pv.mk g f i j]).length r)):=(aV _ _ Y).setCell G (λ_=>s _ E) sM 11 _;(have b5:(Y.setCell ⟨p,11,none⟩ (.slice n (e++[Pv.mk g f i j]).length r)).heap.size=Y.heap.size:=by simp[World.setCell]);have Z:=G.bF 11 (.slice n (e++[Pv.mk g f i j]).length r);generalize Y.setCell ⟨p,11,none⟩ (.slice n (e++[Pv.mk g f i j]).length r)=y at*
 have u:∀J,bQ J [some 272,none,some 203,some 5] Y y:=λJ=>M.aM dC;have t:∀k,grow S w Y k->grow S w y k:=λk b=>b.imp id (λm=>⟨m.1,by have:=m.2;omega⟩);have a2:ic y (grow S w y) p k {q with pieces:=P++[Pi.mk g f]}:=by
  refine⟨⟨N,U,R,X,b3,O,V,n,r,e++[Pv.mk g f i j],Z,?_,?_,(a8.keep v H sM).keep (u (grow S w W)) H sM,t _ (s _ H),?_,?_,?_,?_⟩,t _ (s _ E)⟩
  .exact aF (aG (aG a6 v sM) (u _) sM) (λk b=>t _ (s _ b))
  .exact aF (aG (aG a7 v sM) (u _) sM) (λk b=>t _ (s _ b))
  .exact aF (aG (aG a9 v sM) (u _) sM) (λk b=>t _ (s _ b))
  .exact(a1.keep (u _) sM).mono (λk b=>b.elim (λm=>t _ (s _ m)) (λm=>.inr ⟨oM,oM⟩))
  .intro b4 x
   rcases WB.1 x with x|x
   .exact aF (aG (aG (b1 b4 x) v sM) (u _) sM) (λk b=>t _ (s _ b))
   .obtain rfl:=dZ.1 x
    exact aF (aG (aG a4 b2 sM) (u _) sM) (λk b=>.inr ⟨oM,oM⟩)
  .refine⟨?_,I.2⟩
   show P++[Pi.mk g f]=(e++[Pv.mk g f i j]).map Pv.pi;rw[List.map_append,<-I.1];rfl
 refine h.step (F:=grow S w W) (T:=[some 226,some 203]) ?_ (λ_ h=>h) (λb9 a3=>by simpa using a3) a2;refine((aH D).then (C.mono (λ_ _ h=>h) sM) (λ_ _ h=>h)).then (M.mono (S':=grow S w Y) (λ_ _ h=>h) sM) (λk a0 b=>b.imp id (λm=>⟨m.1,a0⟩))
end
section
variable {P:Program} {Q:X7} {a:Act} {w:World}
theorem FO {l:List Oper} (F:Option Addr->Nat->Nat->Option Addr->Nat->Act) (C:World->Prop) (n:∀f j i g m e,C e->Q .normal (F f j i g m) e) (h:(∀f j i g m e,C e->Q .normal (F f j i g m) e)->(Code.region b l.toArray true).wp P Q a w):(Code.region b l.toArray true).wp P Q a w:=h n
end
section
variable {W Y:World} {F:X4} {p k:Nat} {q:Pe} {a:X5} {c:Nat} {l:List Sp}
theorem ic.Xu {i:Nat} {u:Value} {f:Pe} (hb:bW W Y) (g:w'=Y.setCell ⟨p,i,none⟩ u) (h:ic w' (grow F W Y) p k f/\Mod (grow F W Y) [some 226] Y w'):ic w' (grow F W w') p k f/\Mod F [some 226] W w':=by
 (have j:w'.heap.size=Y.heap.size:=by rw[g];simp[World.setCell]);have n:=hb.size;refine⟨h.1.mono (λk b=>b.imp id (λe=>⟨e.1,oM⟩)),(aH hb).then h.2 (λk m b=>b.elim id (λe=>Wy e.1 oM))⟩
theorem ic.putGot (h:ic W F p k q) (hb:bW W Y) (e:Sps Y (λk=>W.heap.size<=k/\k<Y.heap.size) a l) (b:l.length<=c):
  ic (Y.setCell ⟨p,4,none⟩ (.slice a l.length c)) (grow F W (Y.setCell ⟨p,4,none⟩ (.slice a l.length c))) p k {q with got:=l}/\Mod F [some 226] W (Y.setCell ⟨p,4,none⟩ (.slice a l.length c)):=
 ic.Xu hb rfl (((h.below hb).mono (λ_ h=>.inl h)).FI a c l (aF e (λ_ h=>.inr h)) b)
theorem ic.Nu (h:ic W F p k q) (hb:bW W Y) (e:Sps Y (λk=>W.heap.size<=k/\k<Y.heap.size) a l) (b:l.length<=c):
  ic (Y.setCell ⟨p,5,none⟩ (.slice a l.length c)) (grow F W (Y.setCell ⟨p,5,none⟩ (.slice a l.length c))) p k {q with aO:=l}/\Mod F [some 226] W (Y.setCell ⟨p,5,none⟩ (.slice a l.length c)):=
 ic.Xu hb rfl (((h.below hb).mono (λ_ h=>.inl h)).Yt a c l (aF e (λ_ h=>.inr h)) b)
theorem ic.RS (h:ic W F p k q) (hb:bW W Y) (e:Sps Y (λk=>W.heap.size<=k/\k<Y.heap.size) a l) (b:l.length<=c):
  ic (Y.setCell ⟨p,10,none⟩ (.slice a l.length c)) (grow F W (Y.setCell ⟨p,10,none⟩ (.slice a l.length c))) p k {q with fK:=l}/\Mod F [some 226] W (Y.setCell ⟨p,10,none⟩ (.slice a l.length c)):=
 ic.Xu hb rfl (((h.below hb).mono (λ_ h=>.inl h)).RQ a c l (aF e (λ_ h=>.inr h)) b)
end
section
variable {P:Program} {Q:X7} {a:Act} {w:World}
theorem tZ {l:List Oper} (F:Option Addr->Nat->Act) (C:World->Prop) (i:∀f g e,C e->Q .normal (F f g) e) (h:(∀f g e,C e->Q .normal (F f g) e)->(Code.region b l.toArray true).wp P Q a w):(Code.region b l.toArray true).wp P Q a w:=h i
end
theorem NA (S S2:X4) (p k:Nat) (q:Pe) (d:Da) (ab:X5) (cb:Nat) (w:World) (h:ic w S p k q) (w2:Bd S w) (U:DOk d) (hb:Bys w S2 ab d.body) (l7:d.body.length<=cb) (w5:q.fK.length<=1000000) (d9:Gd q.fK) (m6:q.pieces.length<=1000000000):
  Yk 157 #[pT p,.agg #[uI d.pn,uI d.bn,uI d.off,uI d.bX,jI d.ecn,.slice ab d.body.length cb]] w λt6 t=>t6=.returned (.tuple #[])/\ic t (grow S w t) p k (Es q d)/\Mod S peT w t:=by
 obtain⟨G,f5,c8⟩:=Av U h hb;obtain⟨d1,d3,d2,d4,e7,j8,q0,u,v,n,d5,q2,q3,q4,q5,k8,_⟩:=h.ex;have k1:=d5.Wu 10;have w7:=d5.lt;have n1:=d5;have o8:=zH k8;have t0:¬p=w.heap.size:=oM;have t1:¬p=w.heap.size+1:=oM;have t2:¬p=w.heap.size+1+1:=oM;obtain⟨q6,b0,r0,r1⟩:=Hl U.CW U.xE U.vz U.off1;have x1:IntKind.u64.wrap (d.body.length:Int)=d.body.length:=Wz _ oM;have x2:IntKind.u64.wrap (d.off+d.body.length)=d.off+d.body.length:=Wz _ oM;have x3:IntKind.u64.wrap (d.off+d.body.length -1)=d.off+d.body.length -1:=Wz _ oM;obtain⟨a1,l4⟩:=eX (((w.alloc (.cells #[uI d.pn,uI d.bn,uI d.off,uI d.bX,jI d.ecn,.slice ab d.body.length cb] 115)).alloc (.cells #[uI d.off,uI (d.off+d.body.length -1)] 272)).alloc (.cells #[uI d.off,uI (d.off+d.body.length -1)] 272));obtain⟨c9,i4,o6,p1,i7,i5⟩:=Fy l4 d9 l7 U.vz (λe=>Qs d9 U e) (show∀i0∈q.fK,SpW i0 from d9.words (bY 0));clear h d5 q2 q3 q4 q5 k8 hb l4 U d9 l7;have d0:=zH n1;clear k1 n1;go_enter Tryz.func157,Tryz.ntmps157;go_upto_region 3 with fail;rw[<-c9.o];(have c2:bW w a1:=by rw[c9.o];exact BEL);obtain⟨h7,h8,h9⟩:=MO w #[uI d.pn,uI d.bn,uI d.off,uI d.bX,jI d.ecn,.slice ab d.body.length cb] 115 #[uI d.off,uI (d.off+d.body.length -1)] 272 #[uI d.off,uI (d.off+d.body.length -1)] 272;rw[<-c9.o]at h7 h8 h9;obtain⟨j1,j2,p4,f1⟩:=Bq h7 h8 h9 c2;have k1:a1.cell? ⟨p,10,none⟩=some (.slice j8 q.fK.length q0):=(d0.o.below c2 d0.o.lt).cell 10;have w8:p<a1.heap.size:=(d0.o.below c2 d0.o.lt).lt;have o9:=zH (show Sps a1 S j8 q.fK from aD o8.o c2);clear h7 h8 h9 c2 c9 t0 t1 t2 q6 b0 r0 r1;go_wp2;go_loopw [28,5] (λJ t7 wr=>∃(e:Nat) (a8:X5) (g1:Nat),e<=q.fK.length/\J=jI e/\t7=.slice a8 ((q.fK.take e).foldl jh [nW d]).length g1/\X3 (Sps wr (λk=>w.heap.size<=k) a8 ((q.fK.take e).foldl jh [nW d]))/\X3 (bW a1 wr)) (λJ _ _=>q.fK.length -(intOf J).toNat);(case atStart=>exact⟨0,_,_,oM,rfl,rfl,zH (aF (kQ p4.o) (λk g=>by omega)),zH (aj _ _)⟩);case round=>
  obtain⟨e,a8,g1,q9,rfl,rfl,b4,a0⟩:=hrel;have x0:=a0.o.size;by_cases V:e<q.fK.length
  .obtain⟨j9,n8,rfl,h0,e6,Z⟩:=Sps.at_ o9.o a0.o V
   have n0:=i5.o _ (aN V);(have c7:(q.fK.take (e+1)).foldl jh [nW d]=jh ((q.fK.take e).foldl jh [nW d]) q.fK[e]:=by rw[bB V,iA];rfl);obtain⟨k7,q1⟩:=i7.o e;have b5:=zH c7;generalize q.fK[e]=i0 at*
   obtain⟨o0,n9⟩:=i0;simp only at e6 Z;have f2:=zH (λ(t:World) (r5:bW wr t)=>AV (λk=>w.heap.size<=k) a8 g1 ((q.fK.take e).foldl jh [nW d]) ⟨o0,n9⟩ t (aD b4.o r5) oM (k7.words p1.o) n0);clear c7 k7 q1 n0;rw[<-b5.o]at f2;generalize(q.fK.take e).foldl jh [nW d]=v6 at*
   obtain⟨p7,g9⟩:=eX ((q.fK.take (e+1)).foldl jh [nW d]);rw[<-g9]at f2;have i3:=zH g9;clear g9;go_wp2_with fail;refine(f2.o _ BEL).mono ?_;rintro v9 o1 ⟨j3,p8,rfl,h2,m8,hb⟩;have l5:bW a1 o1:=bD (show bW a1 (wr.alloc (.cells #[uI o0,uI n9] 272)) by have hb:=a0.o;exact BEL) (hb.mono sO);have m9:Sps o1 (λk=>w.heap.size<=k) j3 p7:=aF m8 (λk g=>by have:=g.1;have:=f1.o.size;simp at*;omega);obtain⟨o5,p2⟩:=yx l5 m9;clear hb l5 m8 m9 h2;go_wp2;go_roundw;(case rel=>exact⟨e+1,j3,p8,oM,by go_num,by rw[<-i3.o],by rw[<-i3.o];exact p2,o5⟩);case measure=>exact Yl
  .obtain rfl:e=q.fK.length:=oM
   rw[dM]at b4|-;obtain⟨L,d6⟩:=eX (uT q d);have l3:q.fK.foldl jh [nW d]=L:=d6.symm;rw[l3]at b4|-;have p0:=zH d6;obtain⟨e8,s9,e9⟩:=IQ (p:=q) i4.o G.o;rw[<-d6]at e8 e9;have w1:L.length<=100000:=e8.len_ e9 (by have:=G.o.xE;omega);have i8:=zH (And.intro e8 e9);have b0:=f1.o.trans (a0.o.mono f1.o.size);have i6:X3 (LyB S S2 w p k q d ab cb a8 L wr q.pieces):=zH ⟨(f5.o.below b0).mono (λk g=>.inl g),aH b0,j1.o.below a0.o j1.o.lt,j2.o.below a0.o j2.o.lt,b4.o,aD c8.o b0⟩;clear d6 l3 e8 s9 e9 b0 a0 i7 i5 b4;go_wp2;go_loopw [41] (λJ t8=>∃(e:Nat),e<=L.length/\J=jI e/\X3 (LyB S S2 w p k q d ab cb a8 L t8 (q.pieces++(L.take e).map (nZ d)))) (λJ _=>L.length -(intOf J).toNat);(case atStart=>exact⟨0,oM,rfl,by simpa using i6⟩);case round=>
    clear i6;obtain⟨e,q9,rfl,K⟩:=hrel;by_cases V:e<L.length
    .obtain⟨j9,n8,rfl,h0,e6,Z⟩:=Sps.at_ K.o.sp (aj _ _) V
     have b2:=GF.low i8.o.1 _ (aN V);have e0:=i8.o.2 _ (aN V);(have c7:q.pieces++(L.take (e+1)).map (nZ d)=(q.pieces++(L.take e).map (nZ d))++[nZ d L[e]]:=by rw[bB V,List.map_append,List.append_assoc];rfl);have b5:=zH c7;clear c7;obtain⟨j0,g8⟩:=eX (q.pieces++(L.take e).map (nZ d));(have h5:j0.length<=2000000000:=by rw[g8,aU,bR,aT];omega);rw[<-g8]at K b5;generalize L[e]=t9 at*
     obtain⟨f,B⟩:=t9;simp only at e6 Z b2 e0;obtain⟨k2,k3,hcut,c6⟩:=QT (d:=d) (x:=⟨f,B⟩) ab cb o6.o b2.1 b2.2.1 e0;have l9:nZ d ⟨f,B⟩=⟨f,(nZ d ⟨f,B⟩).body⟩:=rfl;rw[l9]at b5;have l8:=vo (d:=d) (x:=⟨f,B⟩) b2.1 b2.2.1 e0;simp only at l8 hcut;(have w4:(nZ d ⟨f,B⟩).body.length<=100000:=by have:=G.o.xE;omega);generalize(nZ d ⟨f,B⟩).body=m at*
     have i9:=zH c6;obtain⟨t3,t4,t5⟩:=FX G.o.vz G.o.off1 G.o.xE;have x6:IntKind.u64.wrap (f -d.off)=f -d.off:=Wz _ oM;have x7:IntKind.u64.wrap (B -d.off)=B -d.off:=Wz _ oM;have x8:IntKind.u64.wrap (B -d.off+1)=B -d.off+1:=Wz _ oM;clear c6 g8 l9 l8 t3 t4 t5 b2 e0;go_upto_region 11 with fail;obtain⟨j,e5⟩:=eX (wr.alloc (.cells #[uI f,uI B] 272));rw[<-e5];(have l6:bW wr j:=by rw[e5];exact BEL);obtain⟨f7,a7⟩:=yx (show Blk j wr.heap.size 272 #[uI f,uI B] by rw[e5];exact Wx _ _ _) (K.o.below l6);obtain⟨k0,m0⟩:=eX wr.heap.size;rw[<-m0]at f7|-;obtain⟨u,v,n,g5,c4,h4,b1,h1,m4,m5⟩:=a7.o.piece;have c8:=zH a7.o.by_;(have w9:n.length<=2000000000:=by rw[c4,bR]at h5;exact h5);obtain⟨D,f4,f6⟩:=Av h4 m4 m5;obtain⟨x4,h3,h6,N,w3⟩:=info_parts (show(prog.info? 203).map (λJ=>(J.zero,J.size,J.bytes))=some (some (.agg #[uI 0,zzN]),2,32) by kernel_rfl);have m6:=h4.lt;clear e5 l6 m0 K h4 m4 m5 h0 e6 Z c4 h5;refine' FO (F:=_) (λW=>X3 (LyB S S2 w p k q d ab cb (some ⟨j9,n8,none⟩) L W (j0++[Pi.mk f m]))) ?tl (λb6=>?mn);case mn=>
      have s:bW j j.drew:=bA (aj _ _);refine aZ (S:=λt=>Blk t w.heap.size 115 #[uI d.pn,uI d.bn,uI d.off,uI d.bX,jI d.ecn,.slice ab d.body.length cb]/\Blk t (w.heap.size+1) 272 #[uI d.off,uI (d.off+d.body.length -1)]/\Blk t k0 272 #[uI f,uI B]) kR (⟨a7.o.b1,a7.o.b2,f7.o⟩) (λg7=>?_);clear g7;have b:Blk j.drew w.heap.size 115 #[uI d.pn,uI d.bn,uI d.off,uI d.bX,jI d.ecn,.slice ab d.body.length cb]/\Blk j.drew (w.heap.size+1) 272 #[uI d.off,uI (d.off+d.body.length -1)]/\Blk j.drew k0 272 #[uI f,uI B]:=⟨a7.o.b1,a7.o.b2,f7.o⟩;refine tK 0 45 b ?_;refine tK 1 46 b ?_;refine tK 2 47 b ?_;refine tK 3 48 b ?_;refine nrm 28 15 ?_;refine tK 5 50 b ?_;refine X6 6 51 b ?_ (y:=by intro b3 z;have M:=z.2.2.Wu 0;exact gS);refine tK 7 52 b ?_;refine X6 8 53 b ?_ (y:=by intro b3 z;have M:=z.1.Wu 5;exact gS);refine nrm 28 495 ?_;refine tK 9 54 b ?_;refine X6 10 55 b ?_ (y:=by intro b3 z;have M:=z.2.2.Wu 0;exact gS);refine tK 11 56 b ?_;refine X6 12 57 b ?_ (y:=by intro b3 z;have M:=z.2.1.Wu 0;exact gS);refine nrm 28 8175 ?_;refine tK 13 58 b ?_;refine tK 14 59 b ?_;refine X6 15 60 b ?_ (y:=by intro b3 z;have M:=z.2.2.Wu 1;exact gS);refine tK 16 61 b ?_;refine nrm 28 131055 ?_;refine X6 17 62 b ?_ (y:=by intro b3 z;have M:=z.2.1.Wu 0;exact gS);refine tK 18 63 b ?_;refine tK 19 64 b ?_;refine tK 20 65 b ?_;refine nrm 28 2097135 ?_;refine fo 4 21 kR ?_ ?_
      .refine iw (op:=_) rfl kR (some 49) kR (.slice u n.length v) ?_ ?_
       .have M:j.drew.cell? ⟨p,11,none⟩=some (.slice u n.length v):=((D.o.below s D.o.lt).cell 11).trans h1
        go_simp
       refine⟨b,?_⟩;refine mP ?_;refine aI 21 kR ?_;refine jl (op:=_) rfl kR (fe.wp _ (.tmp 65) rfl j.drew.heap.size none 0 [] kR (iq _ _ _ _) k2 k3 m kR (i9.o _ _ (aD c8.o s)) (by simp only[List.length_nil];omega) dC (av _) ?_);intro a2 a9 i1 a4 H;rw[List.nil_append]at a4;have c3:=OwnAt.fresh a4;have o:Below j.drew.heap.size j.drew i1:=(aj _ _).grown H (av _) XI;have r8:Bys i1 (λk=>j.heap.size<=k/\k<i1.heap.size) a2 m:=aF c3.row (λk g=>⟨ay s.size g.1,g.2⟩);have T:=And.intro (b.1.below o b.1.lt) (And.intro (b.2.1.below o b.2.1.lt) (b.2.2.below o b.2.2.lt));have l2:=s.trans (o.mono s.size);rw[List.nil_append];refine⟨T,?_⟩;clear a4 c3 H o;refine Yf 22 67 T ?_;refine nrm 28 8388607 ?_;refine aI 23 kR ?_;refine jX (op:=_) rfl kR (some 68) kR 224 203 1 #[(0,.tmp 67)] kR #[uI f,.slice a2 m.length a9] qc.ht h3 h6 (by rw[N];decide) (by rw[N];decide) (by rw[N];kernel_rfl) ?_;intro j7 o3 i c5 o;have d7:=And.intro (T.1.below i T.1.lt) (And.intro (T.2.1.below i T.2.1.lt) (T.2.2.below i T.2.2.lt));have k9:=l2.trans (i.mono l2.size);have r6:=aF (S':=λk=>j.heap.size<=k/\k<o3.heap.size) (aD r8 i) (λk g=>⟨g.1,aC g.2 i.size⟩);refine⟨d7,?_⟩;clear i c5;refine mP ?_;refine aI 24 kR ?_;refine jl (op:=_) rfl kR (qc.wpO (.tmp 49) (.tmp 68) rfl u v n kR (f4.o.below k9) (some ⟨j7,0,none⟩) 1 [(⟨f,m,a2,a9⟩:Pv)] kR (qc.single (⟨f,m,a2,a9⟩:Pv) o rfl) (by simp only[bO];omega) dC ?_);intro f8 g2 v2 r2 e1 H;clear H;have b8:=And.intro (d7.1.mod e1 dC) (And.intro (d7.2.1.mod e1 dC) (d7.2.2.mod e1 dC));refine⟨b8,?_⟩;refine Yf 25 70 b8 ?_;refine tK 26 71 b8 ?_;refine nrm 28 134217727 ?_;refine aI 27 kR ?_;obtain⟨I,A⟩:=f6.o o3 v2 a2 a9 f m f8 g2 k9 r6 r2 e1;refine fF (op:=_) rfl kR kR 224 (.tmp 71) (.tmp 69) kR p 11 (.slice f8 (n++[(⟨f,m,a2,a9⟩:Pv)]).length g2) kR kR rfl kR I (by rw[b1];decide) ?_;intro x9 n2;rw[<-n2]at A;refine⟨⟨A.b1,A.b2,by rw[n2];exact b8.2.2.far (by have:=dF b8.2.2 I dC;exact this) _⟩,?_⟩;refine mP ?_;refine bg kR ?_ _;exact b6 a2 a9 j7 f8 g2 _ (zH A)
      .refine jl (op:=_) rfl kR (fe.wp _ (.tmp 65) rfl j.drew.heap.size none 0 [] kR (iq _ _ _ _) k2 k3 m kR (i9.o _ _ (aD c8.o s)) (by simp only[List.length_nil];omega) dC (av _) ?_)
       intro C E f0 a4 H;rw[List.nil_append]at a4;have c3:=OwnAt.fresh a4;have o:Below j.drew.heap.size j.drew f0:=(aj _ _).grown H (av _) XI;have m7:Bys f0 (λk=>j.heap.size<=k/\k<f0.heap.size) C m:=aF c3.row (λk g=>⟨ay s.size g.1,g.2⟩);have r:=And.intro (b.1.below o b.1.lt) (And.intro (b.2.1.below o b.2.1.lt) (b.2.2.below o b.2.2.lt));have b7:=s.trans (o.mono s.size);rw[List.nil_append];refine⟨r,?_⟩;clear a4 c3 H o;refine Yf 22 67 r ?_;refine nrm 28 8388591 ?_;refine fo 4 23 kR ?_ ?_
       .refine iw (op:=_) rfl kR (some 49) kR (.slice u n.length v) ?_ ?_
        .have M:f0.cell? ⟨p,11,none⟩=some (.slice u n.length v):=((D.o.below b7 D.o.lt).cell 11).trans h1
         go_simp
        refine⟨r,?_⟩;refine mP ?_;refine aI 23 kR ?_;refine jX (op:=_) rfl kR (some 68) kR 224 203 1 #[(0,.tmp 67)] kR #[uI f,.slice C m.length E] qc.ht h3 h6 (by rw[N];decide) (by rw[N];decide) (by rw[N];kernel_rfl) ?_;intro j5 o2 i c5 q7;have d8:=And.intro (r.1.below i r.1.lt) (And.intro (r.2.1.below i r.2.1.lt) (r.2.2.below i r.2.2.lt));have l1:=b7.trans (i.mono b7.size);have r7:=aF (S':=λk=>j.heap.size<=k/\k<o2.heap.size) (aD m7 i) (λk g=>⟨g.1,aC g.2 i.size⟩);refine⟨d8,?_⟩;clear i c5;refine mP ?_;refine aI 24 kR ?_;refine jl (op:=_) rfl kR (qc.wpO (.tmp 49) (.tmp 68) rfl u v n kR (f4.o.below l1) (some ⟨j5,0,none⟩) 1 [(⟨f,m,C,E⟩:Pv)] kR (qc.single (⟨f,m,C,E⟩:Pv) q7 rfl) (by simp only[bO];omega) dC ?_);intro f9 g3 v3 r3 e2 H;clear H;have b9:=And.intro (d8.1.mod e2 dC) (And.intro (d8.2.1.mod e2 dC) (d8.2.2.mod e2 dC));refine⟨b9,?_⟩;refine Yf 25 70 b9 ?_;refine tK 26 71 b9 ?_;refine nrm 28 134217727 ?_;refine aI 27 kR ?_;obtain⟨I,A⟩:=f6.o o2 v3 C E f m f9 g3 l1 r7 r3 e2;refine fF (op:=_) rfl kR kR 224 (.tmp 71) (.tmp 69) kR p 11 (.slice f9 (n++[(⟨f,m,C,E⟩:Pv)]).length g3) kR kR rfl kR I (by rw[b1];decide) ?_;intro y0 n3;rw[<-n3]at A;refine⟨⟨A.b1,A.b2,by rw[n3];exact b9.2.2.far (by have:=dF b9.2.2 I dC;exact this) _⟩,?_⟩;refine mP ?_;refine bg kR ?_ _;exact b6 C E j5 f9 g3 _ (zH A)
       .refine jX (op:=_) rfl kR (some 68) kR 224 203 1 #[(0,.tmp 67)] kR #[uI f,.slice C m.length E] qc.ht h3 h6 (by rw[N];decide) (by rw[N];decide) (by rw[N];kernel_rfl) ?_
        intro j6 i2 i c5 q8;have c0:=And.intro (r.1.below i r.1.lt) (And.intro (r.2.1.below i r.2.1.lt) (r.2.2.below i r.2.2.lt));have g6:=b7.trans (i.mono b7.size);have r9:=aF (S':=λk=>j.heap.size<=k/\k<i2.heap.size) (aD m7 i) (λk g=>⟨g.1,aC g.2 i.size⟩);refine⟨c0,?_⟩;clear i c5;refine mP ?_;refine aI 4 kR ?_;refine iw (op:=_) rfl kR (some 49) kR (.slice u n.length v) ?_ ?_
        .have M:i2.cell? ⟨p,11,none⟩=some (.slice u n.length v):=((D.o.below g6 D.o.lt).cell 11).trans h1
         go_simp
        refine⟨c0,?_⟩;refine mP ?_;refine aI 24 kR ?_;refine jl (op:=_) rfl kR (qc.wpO (.tmp 49) (.tmp 68) rfl u v n kR (f4.o.below g6) (some ⟨j6,0,none⟩) 1 [(⟨f,m,C,E⟩:Pv)] kR (qc.single (⟨f,m,C,E⟩:Pv) q8 rfl) (by simp only[bO];omega) dC ?_);intro g0 g4 v4 r4 e3 H;clear H;have c1:=And.intro (c0.1.mod e3 dC) (And.intro (c0.2.1.mod e3 dC) (c0.2.2.mod e3 dC));refine⟨c1,?_⟩;refine Yf 25 70 c1 ?_;refine tK 26 71 c1 ?_;refine nrm 28 134217727 ?_;refine aI 27 kR ?_;obtain⟨I,A⟩:=f6.o i2 v4 C E f m g0 g4 g6 r9 r4 e3;refine fF (op:=_) rfl kR kR 224 (.tmp 71) (.tmp 69) kR p 11 (.slice g0 (n++[(⟨f,m,C,E⟩:Pv)]).length g4) kR kR rfl kR I (by rw[b1];decide) ?_;intro y1 n4;rw[<-n4]at A;refine⟨⟨A.b1,A.b2,by rw[n4];exact c1.2.2.far (by have:=dF c1.2.2 I dC;exact this) _⟩,?_⟩;refine mP ?_;refine bg kR ?_ _;exact b6 C E j6 g0 g4 _ (zH A)
     case tl=>
      intro p6 p9 v7 v5 v8 p5 f3;(try simp only[]);go_wp2;go_roundw;(case rel=>exact⟨e+1,oM,by go_num,by rw[b5.o];exact f3⟩);case measure=>exact Yl
    .obtain rfl:e=L.length:=oM
     rw[dM]at K;obtain⟨d1,d3,d2,d4,e7,O,R,u,v,n,Z,s3,s4,s5,s6,n6,s7,s8,n7⟩:=K.o.pe.ex;have D:=zH Z;have m2:(peC {q with pieces:=q.pieces++L.map (nZ d)} d1 d3 d2 d4 e7 O R u n.length v)[10]?=some (.slice O q.fK.length R):=rfl;have b1:(peC {q with pieces:=q.pieces++L.map (nZ d)} d1 d3 d2 d4 e7 O R u n.length v).size=12:=rfl;obtain⟨g5,m1⟩:∃g5,g5=peC {q with pieces:=q.pieces++L.map (nZ d)} d1 d3 d2 d4 e7 O R u n.length v:=⟨_,rfl⟩;rw[<-m1]at D m2 b1;obtain⟨a6,e4⟩:=eX (d.off+d.body.length -1);(have a3:Blk wr (w.heap.size+1) 272 #[uI d.off,uI a6]:=by rw[e4];exact K.o.b2);have o4:=zH (λt (hb:bW wr t)=>sH (grow S w wr) O R q.fK ⟨d.off,a6⟩ t (aD n6 hb) oM n7.2.2.2 (i4.o.words (bY 0)) ⟨⟨G.o.vz,by have:=G.o.off1;show d.off<_;omega⟩,by have:=G.o.vz;have:=G.o.off1;have:=G.o.CW;rw[e4];exact⟨by show 0<=d.off+d.body.length -1;omega,by show d.off+d.body.length -1<_;omega⟩⟩);have f5:=zH K.o.pe;have m6:=Z.lt;have h0:=a3.lt;obtain⟨p3,o7⟩:=yx e4 a3;clear Z s3 s4 s5 s6 n6 s7 s8 n7 m1 e4 a3;go_upto_region 13 with fail;have a3:=o7.o;refine' tZ (F:=_) (λW=>X3 (ic W (grow (grow S w wr) wr W) p k {q with pieces:=q.pieces++L.map (nZ d),fK:=iV q.fK ⟨d.off,a6⟩}/\Mod (grow S w wr) [some 226] wr W)) ?tl (λb6=>?mn);case mn=>
      have s:bW wr wr.drew:=bA (aj _ _);refine aZ (S:=λt=>Blk t (w.heap.size+1) 272 #[uI d.off,uI a6]) kR (a3) (λg7=>?_);clear g7;have b:Blk wr.drew (w.heap.size+1) 272 #[uI d.off,uI a6]:=a3;refine tK 0 74 b ?_;refine tK 1 75 b ?_;refine tK 2 76 b ?_;refine tK 3 77 b ?_;refine nrm 13 15 ?_;refine X6 5 79 b ?_ (y:=by intro b3 z;have M:=z.Wu 0;have x5:=z.Wu 1;exact gS);refine nrm 13 47 ?_;refine aI 4 kR ?_;refine iw (op:=_) rfl kR (some 78) kR (.slice O q.fK.length R) ?_ ?_
      .have M:wr.drew.cell? ⟨p,10,none⟩=some (.slice O q.fK.length R):=((D.o.below s D.o.lt).cell 10).trans m2
       go_simp
      refine⟨b,?_⟩;refine mP ?_;refine aI 6 kR ?_;refine opC 80 158 #[.slice O q.fK.length R,.agg #[uI d.off,uI a6]] ((o4.o _ s).mono ?_);rintro w0 v1 ⟨j4,k4,m3,h2,c6,o⟩;have X:=b.below o b.lt;have s0:=aF (S':=λk=>wr.heap.size<=k/\k<v1.heap.size) c6 (λk g=>⟨ay s.size g.1,g.2⟩);have l0:=s.trans (o.mono s.size);refine⟨_,m3,X,?_⟩;clear m3 o c6;refine Yf 7 73 X ?_;refine tK 8 81 X ?_;refine tK 9 82 X ?_;refine tK 10 83 X ?_;refine nrm 13 2047 ?_;refine tK 11 84 X ?_;refine nrm 13 4095 ?_;refine aI 12 kR ?_;have I:=D.o.below l0 D.o.lt;have c4:=f5.o.RS l0 s0 h2;refine fF (op:=_) rfl kR kR 90 (.tmp 84) (.tmp 81) kR p 10 (.slice j4 (iV q.fK ⟨d.off,a6⟩).length k4) kR kR rfl kR I (by rw[b1];decide) ?_;intro y2 n5;rw[<-n5]at c4;refine⟨(by rw[n5];exact X.far (dF X I dC) _),?_⟩;refine mP ?_;refine bg kR ?_ _;exact b6 j4 k4 _ (zH c4)
     case tl=>
      intro p6 p9 p5 f3;(try simp only[]);clear a3;go_wp2;refine mE ?_;obtain⟨k5,k6⟩:=f3.o;rw[p3.o,p0.o]at k5;have s1:=K.o.m.size;have s2:=k6.size;refine⟨rfl,k5.mono (λk g=>grow_grow s1 s2 g),K.o.m.then (k6.mono (λ_ _ h=>h) (by simp[peT])) (λk w6 g=>g.elim id (λv0=>Wy v0.1 oM))⟩
attribute[local go_sem] BW.cell BW.frozen
def puT:List (Option TypeId):=[some 218,some 222]
def Xb (q:Pp) (f:Fa) (b:List Int) (now:Int):Pp:=
 if f.drop then{q with count:=q.count+1}else
 {q with count:=q.count+1,items:=if f.twice then uD (uD q.items ⟨WI now f.delay,if f.mark then(qp b).getD b else b⟩) ⟨WI now f.delay,if f.mark then(qp b).getD b else b⟩else uD q.items ⟨WI now f.delay,if f.mark then(qp b).getD b else b⟩}
theorem PR (q:Pp) (b:List Int) (now:Int):qD q b now=Xb q (mK q) b now:=rfl
theorem El (k:Nat) (d:k<1000000000) (S h0:X4) (p:Nat) (q:Pp) (a:X5) (c:Nat) (b:List Int) (now:Int) (w:World) (h:rH w S p q) (c4:vY k q) (hb:Bys w h0 a b) (l2:b.length<=100000) (m4:dP b) (v:Word now) (i0:Bd S w):
  Yk 39 #[pT p,.slice a b.length c,uI now] w λd9 j0=>
   d9=.returned (.tuple #[])/\rH j0 (grow S w j0) p (qD q b now)/\Mod S puT w j0:=by
 rw[PR];obtain⟨a7,a8,c0,c1,c5,e8,l4,l5,l1,l7⟩:=h.ex;have c2:=h.mem;have i4:=e8.lt;obtain⟨j,g6⟩:=eX (mK q);rw[<-g6];have u:Word j.delay:=by
  rw[g6];unfold mK;rw[aW];cases b3:q.qF[q.count]?with
  |none=>exact⟨dC,dC⟩
  |some A=>exact c4.word A (List.mem_of_getElem? b3)
 have n0:=c4.count;have n3:=c4.items;have b8:=zH c4.ok;have n1:=c4.qF;obtain⟨l,e,a4⟩:=q;simp only at*
 obtain⟨d1,b6,c9,g9,d0,f9⟩:=Fy l5 l4 l1 l7 e8 hb;obtain⟨k0,g8⟩:=yx g6 l2;have f5:¬(p=w.heap.size):=oM;have d7:=e8.Wu 0;obtain⟨d8,h3⟩:=e8.cz 1;clear l5 l4 l1 l7 e8 hb g6 h c4 l2;have l3:(e:Int)+1<9223372036854775808:=oM;go_enter Tryz.func39,Tryz.ntmps39;go_wp2_with fail;generalize i1:w.alloc (.cells #[bV false,bV false,bV false,uI 0] 187)=U;(have i2:bW w U:=by rw[<-i1];exact BEL);(have g3:Blk U w.heap.size 187 #[bV false,bV false,bV false,uI 0]:=by rw[<-i1];exact Wx _ _ _);have g4:=d0.o.below i2 i4;have d7:=g4.Wu 0;obtain⟨d8,h3⟩:=g4.cz 1;obtain⟨s,k5⟩:=eX w.heap.size;rw[<-k5]at g3 f5|-;obtain⟨c8,c7⟩:=yx i2 g3;have k8:=g3.lt;have l6:=g4.lt;have n4:w.heap.size<=s:=oM;clear i1 i2 g3 g4 k5;by_cases c3:e<l.length
 case' pos=>
  obtain⟨J,K,rfl,m9,n2,e9⟩:=(aD b6.o c8.o).at_ (by omega:0<l.length);(have Z:j=l[e]:=by rw[k0.o];unfold mK;simp only;rw[aW,aL c3];rfl);(have i6:U.cell? ⟨J,K+e*4,none⟩=some (bV j.drop):=by rw[Z];exact e9 _ _ (mr AU l e 0 c3 oM));(have i7:U.cell? ⟨J,K+e*4+1,none⟩=some (bV j.twice):=by rw[Z,Nat.add_assoc];exact e9 _ _ (mr AU l e 1 c3 oM));(have i8:U.cell? ⟨J,K+e*4+2,none⟩=some (bV j.mark):=by rw[Z,Nat.add_assoc];exact e9 _ _ (mr AU l e 2 c3 oM));(have i9:U.cell? ⟨J,K+e*4+3,none⟩=some (uI j.delay):=by rw[Z,Nat.add_assoc];exact e9 _ _ (mr AU l e 3 c3 oM));have g7:(e:Int)<(l.length:Int):=oM;have m5:(0:Int)<=(e:Int):=oM;have e7:=c7.o;obtain⟨j1,j5,j2,j6,j3,j7,j4,j8⟩:=e7.c4;clear e7 Z e9;refine mQ ?_;rintro _ ⟨nq,rfl⟩;generalize N:World.drewN U _=I;obtain⟨j9,g2⟩:=yx (show bW w I from by rw[<-N];exact aA c8.o _) (show Blk I s 187 #[bV false,bV false,bV false,uI 0]from by rw[<-N];exact c7.o.drewN _);(have i6:I.cell? ⟨J,K+e*4,none⟩=some (bV j.drop):=by rw[<-N];exact i6);(have i7:I.cell? ⟨J,K+e*4+1,none⟩=some (bV j.twice):=by rw[<-N];exact i7);(have i8:I.cell? ⟨J,K+e*4+2,none⟩=some (bV j.mark):=by rw[<-N];exact i8);(have i9:I.cell? ⟨J,K+e*4+3,none⟩=some (uI j.delay):=by rw[<-N];exact i9);(have d7:I.cell? ⟨p,0,none⟩=some (.slice (some ⟨J,K,none⟩) l.length a8):=by rw[<-N];exact d7);(have d8:I.cell? ⟨p,1,none⟩=some (jI e):=by rw[<-N];exact d8);have m2:s<I.heap.size:=g2.o.lt;clear N j1 j2 j3 j4 j5 j6 j7 j8 c8 c7 k8 l6;have e7:=g2.o;obtain⟨j1,j5,j2,j6,j3,j7,j4,j8⟩:=e7.c4;clear e7;go_wp2;refine bP 10 kR kR ?_;refine mB ?_;rintro _ ⟨m0,rfl⟩;refine dA rfl rfl ?_;go_simp;refine aK ?_;obtain⟨n,Y⟩:=eX (((((I.drewN m0).setCell ⟨s,0,none⟩ (bV j.drop)).setCell ⟨s,1,none⟩ (bV j.twice)).setCell ⟨s,2,none⟩ (bV j.mark)).setCell ⟨s,3,none⟩ (uI j.delay));rw[<-Y];(have L:Blk n s 187 #[bV j.drop,bV j.twice,bV j.mark,uI j.delay]:=by rw[Y];exact((((g2.o.drewN m0).bF 0 _).bF 1 _).bF 2 _).bF 3 _);(have O:bW w n:=by rw[Y];have hb:=j9.o;exact BEL);clear Y j1 j2 j3 j4 j5 j6 j7 j8 i6 i7 i8 i9 j9 g2 m2 g7 m5;obtain⟨B,a5⟩:=yx O L;have M:=d0.o.below O i4;obtain⟨h4,h5⟩:=M.cz 1;obtain⟨h6,f2,e3,i5⟩:=Hl (L.Wu 0) M.lt L.lt O.size;have x:=zH M;clear l3 O L M d7 d8 h3;obtain⟨k6,W,k7,o⟩:=j;simp only at*
  generalize some (⟨J,K,none⟩:Addr)=a7 at*
 case' neg=>
  (have Z:j=⟨false,false,false,0⟩:=by rw[k0.o];unfold mK;simp only;rw[aW,List.getElem?_eq_none oM];rfl);have g7:¬(e:Int)<(l.length:Int):=oM;have m6:decide ((e:Int)<(l.length:Int))=false:=bJ g7;refine mQ ?_;rintro _ ⟨nq,rfl⟩;generalize Y:World.drewN U _=n;(have O:bW w n:=by rw[<-Y];exact aA c8.o _);(have L:Blk n s 187 #[bV j.drop,bV j.twice,bV j.mark,uI j.delay]:=by rw[Z,<-Y];exact c7.o.drewN _);clear Y Z c8 c7 k8 l6;obtain⟨B,a5⟩:=yx O L;have M:=d0.o.below O i4;obtain⟨h4,h5⟩:=M.cz 1;obtain⟨h6,f2,e3,i5⟩:=Hl (L.Wu 0) M.lt L.lt O.size;have x:=zH M;clear l3 O L M d7 d8 h3 m6 g7 c3;obtain⟨k6,W,k7,o⟩:=j;simp only at*
 all_goals
  cases k6 with
  |true=>
   go_wp2_with fail;refine mV ?_;obtain⟨h1,g5⟩:=eX (n.setCell ⟨p,1,none⟩ (jI ((e:Int)+1)));rw[<-g5];(have m7:Mod S puT w h1:=by rw[g5];exact(aH B.o).setCell x.o (λ_=>c2) (by simp[puT]) 1 _);(have m3:Blk h1 p 218 #[.slice a7 l.length a8,jI ((e+1:Nat):Int),.slice c0 c5.length c1]:=by rw[g5];exact x.o.bF 1 _);have i3:bQ S [some 187,some 222,some 5] w h1:=(bQ.below B.o).trans (by rw[g5];exact bQ.setCell x.o dC 1 _);refine⟨rfl,⟨⟨a7,a8,c0,c1,c5,m3,(b6.o.keep i3 sM).mono (λk d=>.inl d),(d1.o.keep i3 sM).mono (λk d=>.inl d),λf8 b3=>(aG (c9.o f8 b3) i3 sM).mono (λk d=>.inl d),g9.o⟩,.inl c2⟩,m7⟩
  |false=>
   cases k7 with
   |false=>
    go_wp2_with (at_builtin;have f6:Bys (n.setCell ⟨p,1,none⟩ (jI ((e:Int)+1))) h0 a b:=aG (ts:=[some 5]) f9.o ((bQ.below B.o).trans (bQ.setCell x.o dC 1 _)) sM;have f7:([]:List Int).length+b.length<=1000000000000:=(by have:=g8.o;simp;omega);refine fe.wpList rfl _ (.tmp 40) rfl (n.setCell ⟨p,1,none⟩ (jI ((e:Int)+1))).heap.size none 0 [] (by rfl) (iq _ _ _ _) a c b (by rfl) f6 (.inl f7) dC (av _) ?_;intro z V f f1 f0;have a9:Below (n.setCell ⟨p,1,none⟩ (jI ((e:Int)+1))).heap.size (n.setCell ⟨p,1,none⟩ (jI ((e:Int)+1))) f:=(aj _ _).grown f0 (av _) XI;have d4:=zH f1;have C:=zH a9;have b4:Blk (n.setCell ⟨p,1,none⟩ (jI ((e:Int)+1))) s 187 #[bV false,bV W,bV false,uI o]:=a5.o.far (Ne.symm f5) _;have R:=b4.below a9 b4.lt;have h7:=R.Wu 2;have h8:=R.Wu 3;have h9:s<f.heap.size:=R.lt;clear f1 f0 a9 b4 R f6 f7);(have Q:(n.setCell ⟨p,1,none⟩ (jI ((e:Int)+1))).heap.size=n.heap.size:=by simp[World.setCell]);have b2:Mod S puT w f:=((aH B.o).setCell x.o (λ_=>c2) (by simp[puT]) 1 _).trans (aH C.o);have e6:Blk f p 218 #[.slice a7 l.length a8,jI ((e+1:Nat):Int),.slice c0 c5.length c1]:=(x.o.bF 1 _).below C.o (by rw[Q];exact f2);have P:bQ S [some 187,some 222,some 5] w f:=((bQ.below B.o).trans (bQ.setCell x.o dC 1 _)).trans (bQ.below C.o);have e2:Blk f s 187 #[bV false,bV W,bV false,uI o]:=(a5.o.far (Ne.symm f5) _).below C.o (by rw[Q];exact e3);have b1:=OwnAt.fresh d4.o;rw[List.nil_append]at b1;have l9:w.heap.size<=f.heap.size:=b2.size;obtain⟨g0,d2,a6,b9⟩:=Bq (show rH f (grow S w f) p ⟨l,e+1,a4⟩from⟨⟨a7,a8,c0,c1,c5,e6,(b6.o.keep P sM).mono (λk d=>.inl d),(d1.o.keep P sM).mono (λk d=>.inl d),λf8 b3=>(aG (c9.o f8 b3) P sM).mono (λk d=>.inl d),g9.o⟩,.inl c2⟩) b2 e2 (show Bys f (grow S w f) z b from b1.row.mono (λk d=>.inr ⟨ay i5 (Q▸d.1),d.2⟩));clear Q b2 e6 P e2 b1 d4 C B x b6 d1 c9 d0 f9 a5 h6 h4 h5 f2 e3;clear h7 h8 h9;have X:Bd (grow S w f) f:=i0.grow d2.o.size;have e0:=a6.o.Wu 3;have e4:s<f.heap.size:=a6.o.lt;(try go_wp2_with fail);refine(lT now o v u _).mono ?_;rintro d9 m1 ⟨rfl,rfl⟩;go_wp2_with fail;refine Yd (qQ k oM (grow S w f) p ⟨l,e+1,a4⟩ ⟨WI now o,b,z,V⟩ f g0.o (by simp only;omega) b9.o (fB v u) (λA t=>(b8.o A t).1) X) ?_;rintro g ⟨a2,r⟩;have y:=a6.o.mod r dC;obtain⟨k3,k4⟩:=y.e2 1 3;have l0:=y.lt;have a0:Mod S puT w g:=d2.o.grow (r.mono (λ_ _ h=>h) (by simp[lyT,puT]));obtain⟨d6,T,D⟩:=Av (show Bys g (grow (grow S w f) f g) z b from(aG b9.o (r.aM (ts:=[some 5]) dC) sM).mono (λk d=>.inl d)) a2 a0;have e5:Bd (grow (grow S w f) f g) g:=X.grow r.size;have F:=r.size;have G:=d2.o.size;clear a2 r a0 y e0 e4;cases W with
    |false=>
     go_wp2;refine mE ?_;refine⟨rfl,?_,D.o⟩;have:=T.o.mono (S':=grow S w g) (λk d=>grow_grow G F d);simpa[Xb,Iv.it]using this
    |true=>
     go_wp2_with fail;refine Yd (lT now o v u _) ?_;intro m8 rfl;go_wp2_with fail;refine Yd (qQ k oM (grow (grow S w f) f g) p ⟨l,e+1,uD a4 (Iv.it ⟨WI now o,b,z,V⟩)⟩ ⟨WI now o,b,z,V⟩ g T.o (by simp only[vE];omega) d6.o (fB v u) (λA t=>by rcases vD t with rfl|t;exact fB v u;exact(b8.o A t).1) e5) ?_;rintro H ⟨a3,E⟩;have f4:=E.size;have a1:Mod S puT w H:=by
      have e1:Mod (grow S w g) puT g H:=E.mono (λk _ h=>grow_grow G F h) (by simp[lyT,puT]);exact D.o.grow e1
     obtain⟨d5,d3⟩:=yx a3 a1;clear a3 E a1;go_wp2;refine mE ?_;refine⟨rfl,?_,d3.o⟩;have f3:w.heap.size<=g.heap.size:=D.o.size;have:=d5.o.mono (S':=grow S w H) (λk d=>grow_grow f3 f4 (d.imp (λh=>grow_grow G F h) id));simpa[Xb,Iv.it]using this
   |true=>
    go_wp2_with (at_builtin;have f6:Bys (n.setCell ⟨p,1,none⟩ (jI ((e:Int)+1))) h0 a b:=aG (ts:=[some 5]) f9.o ((bQ.below B.o).trans (bQ.setCell x.o dC 1 _)) sM;have f7:([]:List Int).length+b.length<=1000000000000:=(by have:=g8.o;simp;omega);refine fe.wpList rfl _ (.tmp 40) rfl (n.setCell ⟨p,1,none⟩ (jI ((e:Int)+1))).heap.size none 0 [] (by rfl) (iq _ _ _ _) a c b (by rfl) f6 (.inl f7) dC (av _) ?_;intro z V f f1 f0;have a9:Below (n.setCell ⟨p,1,none⟩ (jI ((e:Int)+1))).heap.size (n.setCell ⟨p,1,none⟩ (jI ((e:Int)+1))) f:=(aj _ _).grown f0 (av _) XI;have d4:=zH f1;have C:=zH a9;have b4:Blk (n.setCell ⟨p,1,none⟩ (jI ((e:Int)+1))) s 187 #[bV false,bV W,bV true,uI o]:=a5.o.far (Ne.symm f5) _;have R:=b4.below a9 b4.lt;have h7:=R.Wu 2;have h8:=R.Wu 3;have h9:s<f.heap.size:=R.lt;clear f1 f0 a9 b4 R f6 f7);(have Q:(n.setCell ⟨p,1,none⟩ (jI ((e:Int)+1))).heap.size=n.heap.size:=by simp[World.setCell]);have b2:Mod S puT w f:=((aH B.o).setCell x.o (λ_=>c2) (by simp[puT]) 1 _).trans (aH C.o);have e6:Blk f p 218 #[.slice a7 l.length a8,jI ((e+1:Nat):Int),.slice c0 c5.length c1]:=(x.o.bF 1 _).below C.o (by rw[Q];exact f2);have P:bQ S [some 187,some 222,some 5] w f:=((bQ.below B.o).trans (bQ.setCell x.o dC 1 _)).trans (bQ.below C.o);have e2:Blk f s 187 #[bV false,bV W,bV true,uI o]:=(a5.o.far (Ne.symm f5) _).below C.o (by rw[Q];exact e3);have b1:=OwnAt.fresh d4.o;rw[List.nil_append]at b1;have l9:w.heap.size<=f.heap.size:=b2.size;obtain⟨g0,d2,a6,b9⟩:=Bq (show rH f (grow S w f) p ⟨l,e+1,a4⟩from⟨⟨a7,a8,c0,c1,c5,e6,(b6.o.keep P sM).mono (λk d=>.inl d),(d1.o.keep P sM).mono (λk d=>.inl d),λf8 b3=>(aG (c9.o f8 b3) P sM).mono (λk d=>.inl d),g9.o⟩,.inl c2⟩) b2 e2 (show Bys f (grow S w f) z b from b1.row.mono (λk d=>.inr ⟨ay i5 (Q▸d.1),d.2⟩));clear Q b2 e6 P e2 b1 d4 C B x b6 d1 c9 d0 f9 a5 h6 h4 h5 f2 e3;have k9:=a6.o.lt;refine(Qi _ z V b f b9.o g8.o m4).mono ?_;rintro d9 i ⟨c6,h2,rfl,l8,b0⟩;obtain⟨b7,b5,k1,k2,g1⟩:=BF (d2.o.trans (aH b0)) (a6.o.below b0 k9) ((g0.o.below b0).mono (S':=grow S w i) (λk d=>d.imp id (λh=>⟨h.1,aC h.2 b0.size⟩))) (show Bys i (grow S w i) z b from(aD b9.o b0).mono (λk d=>d.imp id (λh=>⟨h.1,aC h.2 b0.size⟩))) (show Bys i (grow S w i) c6 ((qp b).getD [])from aF l8 (λk d=>.inr ⟨ay l9 d.1,d.2⟩));clear l8 b0 h7 h8 h9 k9 a6 g0 b9;cases hmk:qp b with
    |none=>
     rw[hmk]at g1;simp only[Option.getD_none,Option.isSome_none]at*
     have X:Bd (grow S w i) i:=i0.grow b7.o.size;have e0:=b5.o.Wu 3;have e4:s<i.heap.size:=b5.o.lt;(try go_wp2_with fail);refine(lT now o v u _).mono ?_;rintro d9 m1 ⟨rfl,rfl⟩;go_wp2_with fail;refine Yd (qQ k oM (grow S w i) p ⟨l,e+1,a4⟩ ⟨WI now o,b,z,V⟩ i k1.o (by simp only;omega) k2.o (fB v u) (λA t=>(b8.o A t).1) X) ?_;rintro g ⟨a2,r⟩;have y:=b5.o.mod r dC;obtain⟨k3,k4⟩:=y.e2 1 3;have l0:=y.lt;have a0:Mod S puT w g:=b7.o.grow (r.mono (λ_ _ h=>h) (by simp[lyT,puT]));obtain⟨d6,T,D⟩:=Av (show Bys g (grow (grow S w i) i g) z b from(aG k2.o (r.aM (ts:=[some 5]) dC) sM).mono (λk d=>.inl d)) a2 a0;have e5:Bd (grow (grow S w i) i g) g:=X.grow r.size;have F:=r.size;have G:=b7.o.size;clear a2 r a0 y e0 e4;cases W with
     |false=>
      go_wp2;refine mE ?_;refine⟨rfl,?_,D.o⟩;have:=T.o.mono (S':=grow S w g) (λk d=>grow_grow G F d);simpa[Xb,Iv.it,hmk]using this
     |true=>
      go_wp2_with fail;refine Yd (lT now o v u _) ?_;intro m8 rfl;go_wp2_with fail;refine Yd (qQ k oM (grow (grow S w i) i g) p ⟨l,e+1,uD a4 (Iv.it ⟨WI now o,b,z,V⟩)⟩ ⟨WI now o,b,z,V⟩ g T.o (by simp only[vE];omega) d6.o (fB v u) (λA t=>by rcases vD t with rfl|t;exact fB v u;exact(b8.o A t).1) e5) ?_;rintro H ⟨a3,E⟩;have f4:=E.size;have a1:Mod S puT w H:=by
       have e1:Mod (grow S w g) puT g H:=E.mono (λk _ h=>grow_grow G F h) (by simp[lyT,puT]);exact D.o.grow e1
      obtain⟨d5,d3⟩:=yx a3 a1;clear a3 E a1;go_wp2;refine mE ?_;refine⟨rfl,?_,d3.o⟩;have f3:w.heap.size<=g.heap.size:=D.o.size;have:=d5.o.mono (S':=grow S w H) (λk d=>grow_grow f3 f4 (d.imp (λh=>grow_grow G F h) id));simpa[Xb,Iv.it,hmk]using this
    |some m=>
     rw[hmk]at g1;simp only[Option.getD_some,Option.isSome_some]at*
     have X:Bd (grow S w i) i:=i0.grow b7.o.size;have e0:=b5.o.Wu 3;have e4:s<i.heap.size:=b5.o.lt;(try go_wp2_with fail);refine(lT now o v u _).mono ?_;rintro d9 m1 ⟨rfl,rfl⟩;go_wp2_with fail;refine Yd (qQ k oM (grow S w i) p ⟨l,e+1,a4⟩ ⟨WI now o,m,c6,h2⟩ i k1.o (by simp only;omega) g1.o (fB v u) (λA t=>(b8.o A t).1) X) ?_;rintro g ⟨a2,r⟩;have y:=b5.o.mod r dC;obtain⟨k3,k4⟩:=y.e2 1 3;have l0:=y.lt;have a0:Mod S puT w g:=b7.o.grow (r.mono (λ_ _ h=>h) (by simp[lyT,puT]));obtain⟨d6,T,D⟩:=Av (show Bys g (grow (grow S w i) i g) c6 m from(aG g1.o (r.aM (ts:=[some 5]) dC) sM).mono (λk d=>.inl d)) a2 a0;have e5:Bd (grow (grow S w i) i g) g:=X.grow r.size;have F:=r.size;have G:=b7.o.size;clear a2 r a0 y e0 e4;cases W with
     |false=>
      go_wp2;refine mE ?_;refine⟨rfl,?_,D.o⟩;have:=T.o.mono (S':=grow S w g) (λk d=>grow_grow G F d);simpa[Xb,Iv.it,hmk]using this
     |true=>
      go_wp2_with fail;refine Yg (lT now o v u _) ?_;go_wp2_with fail;refine Yd (qQ k oM (grow (grow S w i) i g) p ⟨l,e+1,uD a4 (Iv.it ⟨WI now o,m,c6,h2⟩)⟩ ⟨WI now o,m,c6,h2⟩ g T.o (by simp only[vE];omega) d6.o (fB v u) (λA t=>by rcases vD t with rfl|t;exact fB v u;exact(b8.o A t).1) e5) ?_;rintro H ⟨a3,E⟩;have f4:=E.size;have a1:Mod S puT w H:=by
       have e1:Mod (grow S w g) puT g H:=E.mono (λk _ h=>grow_grow G F h) (by simp[lyT,puT]);exact D.o.grow e1
      obtain⟨d5,d3⟩:=yx a3 a1;clear a3 E a1;go_wp2;refine mE ?_;refine⟨rfl,?_,d3.o⟩;have f3:w.heap.size<=g.heap.size:=D.o.size;have:=d5.o.mono (S':=grow S w H) (λk d=>grow_grow f3 f4 (d.imp (λh=>grow_grow G F h) id));simpa[Xb,Iv.it,hmk]using this
theorem toB (h:w=w'):bW w w':=h▸aj _ _
theorem toD (h:∃a,w'=w.drewN a):bW w w':=by obtain⟨a,rfl⟩:=h;exact aA (aj _ _) a
theorem Ld (e:En):cK e=⟨e.aS,e.now,e.cc.win.cr,e.cc.win.dL,gq e.led,iI e,if Yn e then 18446744073709551615 else vL [e.gU,jJ e],e.led.next,gT e.led,fT e.dH -e.dH.base,e.fM.gP,e.gu.n⟩:=rfl
theorem CB (k:Nat) (S:X4) (p:Nat) (e:En) (w:World) (h:eB w S p e) (O:dG k e):
  Yk 24 #[pT p] w λD g=>D=.returned (.agg #[jI (cK e).aS,uI (cK e).now,uI (cK e).cr,uI (cK e).dL,uI (cK e).jS,uI (cK e).bK,uI (cK e).gU,uI (cK e).next,uI (cK e).low,uI (cK e).fG,uI (cK e).gP,uI (cK e).dh.dB,uI (cK e).dh.eT,uI (cK e).dh.fI,uI (cK e).dh.bE,uI (cK e).dh.late])/\bW w g:=by
 have i8:=h.lt;(have j0:0<=fT e.dH -e.dH.base/\fT e.dH -e.dH.base<18446744073709551616:=by have e3:=O.qu;have i3:=O.qr;have:=e3.len;have:=e3.qC;unfold fT;omega);obtain⟨i2,b4⟩:=eX (cK e);rw[<-b4];rw[Ld]at b4;have h6:¬(p=w.heap.size):=oM;obtain⟨d5,d7⟩:=yx h O;clear h O;go_enter Tryz.func24,Tryz.ntmps24;go_wp2_with fail;generalize c8:w.alloc (.cells Ya 38)=f;(have d0:bW w f:=by rw[<-c8];exact BEL);(have c4:Blk f w.heap.size 38 Ya:=by rw[<-c8];exact Wx _ _ _);obtain⟨X,e2⟩:=eX w.heap.size;have f1:w.heap.size<=X:=oM;rw[<-e2]at c4 h6|-;have a8:=d5.o.below d0;have O:=d7.o;obtain⟨j3,a1,R,d4,c,h2,c7,b3,e4⟩:=a8.ex;obtain⟨g5,g4,g7,g8,c3,e0⟩:=c.e6 18 17 30 31 21 20;obtain⟨g9,g6⟩:=c.e2 41 22;have K:=c.lt;have f5:=zH (λg (c:bW f g)=>vB S R e.led g (b3.below c) O.le);have g1:=zH (λg (c:bW f g)=>(xJ S p e g (a8.below c)).mono (R':=λD L=>D=.returned (uI (iI e))/\bW g L) (λD L h=>⟨h.1,by first|exact toB h.2|exact toB h.2.symm|exact toD h.2⟩));have f7:=zH (λg (c:bW f g)=>(pK S R e.led g (b3.below c)).mono (R':=λD L=>D=.returned (uI (e.led.next))/\bW g L) (λD L h=>⟨h.1,by first|exact toB h.2|exact toB h.2.symm|exact toD h.2⟩));have f6:=zH (λg (c:bW f g)=>(qY S R e.led g (b3.below c) O.le).mono (R':=λD L=>D=.returned (uI (gT e.led))/\bW g L) (λD L h=>⟨h.1,by first|exact toB h.2|exact toB h.2.symm|exact toD h.2⟩));have g0:=zH (λg (c:bW f g)=>(Xe S a1 e.dH g (c7.below c) O.qu).mono (R':=λD L=>D=.returned (uI (fT e.dH))/\bW g L) (λD L h=>⟨h.1,by first|exact toB h.2|exact toB h.2.symm|exact toD h.2⟩));have f9:=zH (λg (c:bW f g)=>(Eh S a1 e.dH g (c7.below c)).mono (R':=λD L=>D=.returned (uI (e.dH.base))/\bW g L) (λD L h=>⟨h.1,by first|exact toB h.2|exact toB h.2.symm|exact toD h.2⟩));obtain⟨f3,f8,f4⟩:=Av (λg (c:bW f g)=>Js S d4 e.gu g (GuW.gu (e4.below c))) (λg (c:bW f g)=>sP S p e g (a8.below c)) (λg (c:bW f g)=>xx k S p e g (a8.below c) O);have e1:=c.Wu 42;generalize jJ e=a5 at*
 generalize Yn e=h7 at*
 generalize iI e=G at*
 generalize fT e.dH=t at*
 generalize e.dH.base=s at*
 generalize gq e.led=z at*
 generalize gT e.led=A at*
 generalize e.led.next=C at*
 generalize e.gU=a2 at*
 generalize e.fM.gP=E at*
 generalize e.cc.win.cr=x at*
 generalize e.cc.win.dL=I at*
 generalize e.now=B at*
 generalize e.aS=H at*
 generalize e.gu.n=a at*
 obtain⟨b0,b1,d8⟩:=Av c4 d0 b4;clear b4 c8 d0 c4 a8 O c h2 c7 b3 e4 d5 d7 e2;have g2:=zH (show IntKind.u64.wrap (t -s)=t -s from by simp[IntKind.wrap,IntKind.bits,IntKind.signed];omega);refine' Ip (F:=_) (λU T=>bW f T/\Blk T U 38 #[jI H,uI B,uI x,uI I,uI z,uI G,uI 18446744073709551615,uI C,uI A,uI (t -s),uI E,uI a.dB,uI a.eT,uI a.fI,uI a.bE,uI a.late]/\f.heap.size<=U) ?tl (λg3=>?mn);case mn=>
  refine aZ (S:=λg=>bW f g) kR (bA (aj _ _)) (λc6=>?_);clear c6;have d:bW f f.drew:=bA (aj _ _);refine tK 0 7 d ?_;refine tK 1 8 d ?_;refine tK 2 9 d ?_;refine X6 3 10 d ?_ (y:=by intro w m;have r:bW f w:=m;have N:w.cell? ⟨p,18,none⟩=some (jI H):=(r.cell (p:=⟨p,18,none⟩) K).trans g5;exact gS);refine nrm 61 15 ?_;refine tK 4 11 d ?_;refine tK 5 12 d ?_;refine tK 6 13 d ?_;refine X6 7 14 d ?_ (y:=by intro w m;have r:bW f w:=m;have N:w.cell? ⟨p,17,none⟩=some (uI B):=(r.cell (p:=⟨p,17,none⟩) K).trans g4;exact gS);refine nrm 61 255 ?_;refine tK 8 15 d ?_;refine tK 9 16 d ?_;refine tK 10 17 d ?_;refine tK 11 18 d ?_;refine nrm 61 4095 ?_;refine tK 12 19 d ?_;refine X6 13 20 d ?_ (y:=by intro w m;have r:bW f w:=m;have N:w.cell? ⟨p,30,none⟩=some (uI x):=(r.cell (p:=⟨p,30,none⟩) K).trans g7;exact gS);refine tK 14 21 d ?_;refine tK 15 22 d ?_;refine nrm 61 65535 ?_;refine tK 16 23 d ?_;refine tK 17 24 d ?_;refine tK 18 25 d ?_;refine X6 19 26 d ?_ (y:=by intro w m;have r:bW f w:=m;have N:w.cell? ⟨p,31,none⟩=some (uI I):=(r.cell (p:=⟨p,31,none⟩) K).trans g8;exact gS);refine nrm 61 1048575 ?_;refine tK 20 27 d ?_;refine tK 21 28 d ?_;refine tK 22 29 d ?_;refine X6 23 30 d ?_ (y:=by intro w m;have r:bW f w:=m;have N:w.cell? ⟨p,21,none⟩=some ((pT R)):=(r.cell (p:=⟨p,21,none⟩) K).trans c3;exact gS);refine nrm 61 16777215 ?_;refine tK 25 32 d ?_;refine tK 27 34 d ?_;refine tK 28 35 d ?_;refine tK 29 36 d ?_;refine nrm 61 989855743 ?_;refine X6 30 37 d ?_ (y:=by intro w m;have r:bW f w:=m;have N:w.cell? ⟨p,21,none⟩=some ((pT R)):=(r.cell (p:=⟨p,21,none⟩) K).trans c3;exact gS);refine tK 32 39 d ?_;refine tK 33 40 d ?_;refine tK 34 41 d ?_;refine nrm 61 32128368639 ?_;refine X6 35 42 d ?_ (y:=by intro w m;have r:bW f w:=m;have N:w.cell? ⟨p,21,none⟩=some ((pT R)):=(r.cell (p:=⟨p,21,none⟩) K).trans c3;exact gS);refine tK 37 44 d ?_;refine tK 38 45 d ?_;refine tK 39 46 d ?_;refine nrm 61 1028560781311 ?_;refine X6 40 47 d ?_ (y:=by intro w m;have r:bW f w:=m;have N:w.cell? ⟨p,20,none⟩=some ((pT a1)):=(r.cell (p:=⟨p,20,none⟩) K).trans e0;exact gS);refine tK 42 49 d ?_;refine tK 43 50 d ?_;refine tK 44 51 d ?_;refine nrm 61 32914397986815 ?_;refine X6 45 52 d ?_ (y:=by intro w m;have r:bW f w:=m;have N:w.cell? ⟨p,20,none⟩=some ((pT a1)):=(r.cell (p:=⟨p,20,none⟩) K).trans e0;exact gS);refine tK 48 55 d ?_;refine tK 49 56 d ?_;refine tK 50 57 d ?_;refine nrm 61 2038423607050239 ?_;refine tK 51 58 d ?_;refine X6 52 59 d ?_ (y:=by intro w m;have r:bW f w:=m;have N:w.cell? ⟨p,41,none⟩=some (uI E):=(r.cell (p:=⟨p,41,none⟩) K).trans g9;exact gS);refine tK 53 60 d ?_;refine tK 54 61 d ?_;refine nrm 61 35815420812328959 ?_;refine tK 55 62 d ?_;refine X6 56 63 d ?_ (y:=by intro w m;have r:bW f w:=m;have N:w.cell? ⟨p,22,none⟩=some ((pT d4)):=(r.cell (p:=⟨p,22,none⟩) K).trans g6;exact gS);refine nrm 61 143901811869220863 ?_;have b:=d;(all_goals first|(have J:=c;clear J;refine aI 24 kR ?_)|(refine fo 24 59 kR ?_ ?_;rotate_left;refine opA 3 38 Ya ?_;intro u M o q c;have P:f.heap.size<=u:=ay b.size q;replace b:=b.trans (o.mono b.size);refine⟨b,?_⟩;clear o q;try simp only[aP];refine aI 24 kR ?_));all_goals
   refine opC 31 68 #[pT R] ((f5.o _ b).mono ?_);rintro e M j;have l:=j.2;(try replace c:=c.below l c.lt);replace b:=b.trans (l.mono b.size);refine⟨uI z,j.1,b,?_⟩;clear j l;refine mP ?_
  (all_goals first|(have J:=c;clear J;refine aI 26 kR ?_)|(refine fo 26 59 kR ?_ ?_;rotate_left;refine opA 3 38 Ya ?_;intro u M o q c;have P:f.heap.size<=u:=ay b.size q;replace b:=b.trans (o.mono b.size);refine⟨b,?_⟩;clear o q;try simp only[aP];refine aI 26 kR ?_));all_goals
   refine opC 33 69 #[pT p] ((g1.o _ b).mono ?_);rintro e M j;have l:=j.2;(try replace c:=c.below l c.lt);replace b:=b.trans (l.mono b.size);refine⟨uI G,j.1,b,?_⟩;clear j l;refine mP ?_
  (all_goals first|(have J:=c;clear J;refine aI 31 kR ?_)|(refine fo 31 59 kR ?_ ?_;rotate_left;refine opA 3 38 Ya ?_;intro u M o q c;have P:f.heap.size<=u:=ay b.size q;replace b:=b.trans (o.mono b.size);refine⟨b,?_⟩;clear o q;try simp only[aP];refine aI 31 kR ?_));all_goals
   refine opC 38 61 #[pT R] ((f7.o _ b).mono ?_);rintro e M j;have l:=j.2;(try replace c:=c.below l c.lt);replace b:=b.trans (l.mono b.size);refine⟨uI C,j.1,b,?_⟩;clear j l;refine mP ?_
  (all_goals first|(have J:=c;clear J;refine aI 36 kR ?_)|(refine fo 36 59 kR ?_ ?_;rotate_left;refine opA 3 38 Ya ?_;intro u M o q c;have P:f.heap.size<=u:=ay b.size q;replace b:=b.trans (o.mono b.size);refine⟨b,?_⟩;clear o q;try simp only[aP];refine aI 36 kR ?_));all_goals
   refine opC 43 70 #[pT R] ((f6.o _ b).mono ?_);rintro e M j;have l:=j.2;(try replace c:=c.below l c.lt);replace b:=b.trans (l.mono b.size);refine⟨uI A,j.1,b,?_⟩;clear j l;refine mP ?_
  (all_goals first|(have J:=c;clear J;refine aI 41 kR ?_)|(refine fo 41 59 kR ?_ ?_;rotate_left;refine opA 3 38 Ya ?_;intro u M o q c;have P:f.heap.size<=u:=ay b.size q;replace b:=b.trans (o.mono b.size);refine⟨b,?_⟩;clear o q;try simp only[aP];refine aI 41 kR ?_));all_goals
   refine opC 48 71 #[pT a1] ((g0.o _ b).mono ?_);rintro e M j;have l:=j.2;(try replace c:=c.below l c.lt);replace b:=b.trans (l.mono b.size);refine⟨uI t,j.1,b,?_⟩;clear j l;refine mP ?_
  (all_goals first|(have J:=c;clear J;refine aI 46 kR ?_)|(refine fo 46 59 kR ?_ ?_;rotate_left;refine opA 3 38 Ya ?_;intro u M o q c;have P:f.heap.size<=u:=ay b.size q;replace b:=b.trans (o.mono b.size);refine⟨b,?_⟩;clear o q;try simp only[aP];refine aI 46 kR ?_));all_goals
   refine opC 53 72 #[pT a1] ((f9.o _ b).mono ?_);rintro e M j;have l:=j.2;(try replace c:=c.below l c.lt);replace b:=b.trans (l.mono b.size);refine⟨uI s,j.1,b,?_⟩;clear j l;refine mP ?_
  (all_goals refine tk (v:=uI (t -s)) 47 (some 54) b (hy:=by intro w m;have j1:=g2.o;exact gS) (h:=?_));(all_goals first|(have J:=c;clear J;refine aI 57 kR ?_)|(refine fo 57 59 kR ?_ ?_;rotate_left;refine opA 3 38 Ya ?_;intro u M o q c;have P:f.heap.size<=u:=ay b.size q;replace b:=b.trans (o.mono b.size);refine⟨b,?_⟩;clear o q;try simp only[aP];refine aI 57 kR ?_));all_goals
   refine opC 64 73 #[pT d4] ((f3.o _ b).mono ?_);rintro e M j;have l:=j.2;(try replace c:=c.below l c.lt);replace b:=b.trans (l.mono b.size);refine⟨.agg #[uI a.dB,uI a.eT,uI a.fI,uI a.bE,uI a.late],j.1,b,?_⟩;clear j l;refine mP ?_
  (all_goals refine iL (v:=.agg #[jI H,uI B,uI x,uI I,uI z,uI G,uI 18446744073709551615,uI C,uI A,uI (t -s),uI E,uI a.dB,uI a.eT,uI a.fI,uI a.bE,uI a.late]) 58 (some 65) rfl kR kR kR kR (λ_ _ _ h=>h) (Or.inl ⟨by kernel_rfl,λw _=>by kernel_rfl⟩) b ?_);(all_goals try simp only[aP]);(all_goals first|(have J:=c;clear J;skip)|(refine aI 59 kR ?_;refine opA 3 38 Ya ?_;intro u M o q c;have P:f.heap.size<=u:=ay b.size q;replace b:=b.trans (o.mono b.size);refine⟨b,?_⟩;clear o q;try simp only[aP]));all_goals
   refine dJ (i:=60) 38 (.tmp 3) (.tmp 65) u 0 #[jI H,uI B,uI x,uI I,uI z,uI G,uI 18446744073709551615,uI C,uI A,uI (t -s),uI E,uI a.dB,uI a.eT,uI a.fI,uI a.bE,uI a.late] rfl kR kR kR kR kR kR (c.there _ sM) kR XF (Below.bZ P _ _ _ b) ?_;intro T e5;have Z:=Blk.gF c [jI H,uI B,uI x,uI I,uI z,uI G,uI 18446744073709551615,uI C,uI A,uI (t -s),uI E,uI a.dB,uI a.eT,uI a.fI,uI a.bE,uI a.late] rfl;rw[<-e5]at Z;(have a0:bW f T:=by rw[e5];exact Below.bZ P _ _ _ b);refine bg kR ?_ _;exact g3 _ _ ⟨a0,Z,P⟩
 case tl=>
  intro U T h1;obtain⟨a0,Z,h8⟩:=h1;(try simp only[]);obtain⟨W,c2,b9,b2⟩:=Bq (b0.o.below a0 b0.o.lt) (b1.o.trans (a0.mono b1.o.size)) Z a0;have i6:=Z.lt;have i4:=W.o.lt;have i9:=aC K a0.size;clear Z;go_wp2_with fail;refine Yd (f8.o _ b2.o) ?_;intro h9 h5;obtain rfl:T=h9:=h5.symm;cases h7 with
  |true=>
   repeat ((fail_if_success (with_reducible apply eG));first|(refine kP 38 (.tmp 3) rfl rfl (some 78) rfl U kR #[jI H,uI B,uI x,uI I,uI z,uI G,uI 18446744073709551615,uI C,uI A,uI (t -s),uI E,uI a.dB,uI a.eT,uI a.fI,uI a.bE,uI a.late] b9.o _ Tryz.underlying38 kR kR ?_)|(refine iG 38 (.tmp 2) (.tmp 78) rfl rfl rfl X 0 #[jI H,uI B,uI x,uI I,uI z,uI G,uI 18446744073709551615,uI C,uI A,uI (t -s),uI E,uI a.dB,uI a.eT,uI a.fI,uI a.bE,uI a.late] kR kR (W.o.there _ sM) kR XF ?_;intro a3 Y;have a6:Blk a3 X 38 #[jI H,uI B,uI x,uI I,uI z,uI G,uI 18446744073709551615,uI C,uI A,uI (t -s),uI E,uI a.dB,uI a.eT,uI a.fI,uI a.bE,uI a.late]:=(by rw[Y];exact Blk.gF W.o [jI H,uI B,uI x,uI I,uI z,uI G,uI 18446744073709551615,uI C,uI A,uI (t -s),uI E,uI a.dB,uI a.eT,uI a.fI,uI a.bE,uI a.late] rfl);have c0:=zH a6;have a7:bW w a3:=(by rw[Y];exact Below.bZ f1 _ _ _ c2.o);have c1:=zH a7;clear Y a6 a7)|go_values|go_skip|go_guarded|go_step|go_upon|go_back|go_simp)
   (try simp only[Exit.inBlock,Exit.then])
   refine iZ 2 38 X #[jI H,uI B,uI x,uI I,uI z,uI G,uI 18446744073709551615,uI C,uI A,uI (t -s),uI E,uI a.dB,uI a.eT,uI a.fI,uI a.bE,uI a.late] kR kR c0.o _ Tryz.underlying38 kR kR rfl ?_;rw[d8.o];exact⟨rfl,c1.o⟩
  |false=>
   go_wp2_with fail;have h0:T.cell? ⟨p,42,none⟩=some (uI a2):=(b2.o.cell (p:=⟨p,42,none⟩) K).trans e1;refine aZ (S:=λg=>bW f g) kR (bA b2.o) (λc6=>?_);clear c6;have Q:bW f T.drew:=bA b2.o;refine tK 0 69 Q ?_;refine tK 1 70 Q ?_;refine tK 2 71 Q ?_;refine X6 3 72 Q ?_ (y:=by intro w m;have r:bW f w:=m;have N:w.cell? ⟨p,42,none⟩=some (uI a2):=(r.cell (p:=⟨p,42,none⟩) K).trans e1;exact gS);refine tK 4 73 Q ?_;obtain⟨V,e7⟩:=eX (vL [a2,a5]);have d6:=zH e7;clear e7;obtain⟨j2,e8,f0,b5,h3⟩:=info_parts (show(prog.info? 30).map (λd3=>(d3.zero,d3.size,d3.bytes))=some (some (uI 0),1,8) by kernel_rfl);refine aI 5 kR ?_;refine opC 74 63 #[pT p] ((f4.o _ Q).mono ?_);rintro e i0 j;have b6:bW f i0:=Q.trans (j.2.mono Q.size);have d1:=(b9.o.drew).below j.2 (b9.o.drew).lt;refine⟨uI a5,j.1,b6,?_⟩;clear j;refine mP ?_;refine aI 6 kR ?_;refine jX (op:=_) rfl kR (some 75) kR 23 30 2 #[(0,.tmp 72),(1,.tmp 74)] kR #[uI a2,uI a5] qH.ht e8 f0 (by rw[b5];decide) (by rw[b5];decide) (by rw[b5];kernel_rfl) ?_;intro a4 b8 hA2 h4 e6;have a9:bW f b8:=b6.trans (hA2.mono b6.size);have d2:=d1.below hA2 d1.lt;refine⟨a9,?_⟩;refine mP ?_;have e9:Wos b8 (λk=>k=a4) (some ⟨a4,0,none⟩) [a2,a5]:=yG (size:=1) (n:=2) e6 rfl;refine aI 7 kR ?_;refine opC 76 74 #[.slice (some ⟨a4,0,none⟩) 2 2] ((ES (λk=>k=a4) (some ⟨a4,0,none⟩) 2 [a2,a5] b8 e9 sM).mono ?_);rintro e i1 j;obtain rfl:b8=i1:=j.2;refine⟨uI V,by rw[d6.o];exact j.1,a9,?_⟩;clear j;refine mP ?_;refine iL (v:=.pointer (some ⟨U,6,none⟩)) 8 (some 77) rfl kR kR kR kR (λ_ _ _ h=>h) (Or.inl ⟨by rfl,λw m=>by go_simp⟩) a9 ?_;refine mP ?_;refine aI 9 kR ?_;refine fF (op:=_) rfl kR kR 30 (.tmp 77) (.tmp 76) kR U 6 (uI V) kR kR rfl kR d2 sM ?_;intro d9 c9;(have b7:bW f d9:=by rw[c9];exact bG a9 h8 _);(have c5:Blk d9 U 38 #[jI H,uI B,uI x,uI I,uI z,uI G,uI V,uI C,uI A,uI (t -s),uI E,uI a.dB,uI a.eT,uI a.fI,uI a.bE,uI a.late]:=by rw[c9];exact d2.bF 6 _);refine⟨b7,?_⟩;clear c9;refine mP ?_;refine bg kR ?_ _;replace W:=zH (b0.o.below b7 b0.o.lt);replace c2:=zH (b1.o.trans (b7.mono b1.o.size));have f2:=zH c5;have i7:=c5.lt;have i5:=W.o.lt;clear c5 b7 d2 d1 a9 b6 hA2 h4 e6 e9 Q h0 e8 f0 b5 h3;repeat ((fail_if_success (with_reducible apply eG));first|(refine kP 38 (.tmp 3) rfl rfl (some 78) rfl U kR #[jI H,uI B,uI x,uI I,uI z,uI G,uI V,uI C,uI A,uI (t -s),uI E,uI a.dB,uI a.eT,uI a.fI,uI a.bE,uI a.late] f2.o _ Tryz.underlying38 kR kR ?_)|(refine iG 38 (.tmp 2) (.tmp 78) rfl rfl rfl X 0 #[jI H,uI B,uI x,uI I,uI z,uI G,uI V,uI C,uI A,uI (t -s),uI E,uI a.dB,uI a.eT,uI a.fI,uI a.bE,uI a.late] kR kR (W.o.there _ sM) kR XF ?_;intro a3 Y;have a6:Blk a3 X 38 #[jI H,uI B,uI x,uI I,uI z,uI G,uI V,uI C,uI A,uI (t -s),uI E,uI a.dB,uI a.eT,uI a.fI,uI a.bE,uI a.late]:=(by rw[Y];exact Blk.gF W.o [jI H,uI B,uI x,uI I,uI z,uI G,uI V,uI C,uI A,uI (t -s),uI E,uI a.dB,uI a.eT,uI a.fI,uI a.bE,uI a.late] rfl);have c0:=zH a6;have a7:bW w a3:=(by rw[Y];exact Below.bZ f1 _ _ _ c2.o);have c1:=zH a7;clear Y a6 a7)|go_values|go_skip|go_guarded|go_step|go_upon|go_back|go_simp)
   (try simp only[Exit.inBlock,Exit.then])
   refine iZ 2 38 X #[jI H,uI B,uI x,uI I,uI z,uI G,uI V,uI C,uI A,uI (t -s),uI E,uI a.dB,uI a.eT,uI a.fI,uI a.bE,uI a.late] kR kR c0.o _ Tryz.underlying38 kR kR rfl ?_;rw[d8.o,d6.o];exact⟨rfl,c1.o⟩
end Go.Proofs.YtiflndepmgnojaaGreat
