import Derived.OpenShut
import Derived.Deep.Slices
import Derived.ProofKit
import Derived.Test.YtiflndepmgnojaaGreatRlb
namespace Go.Proofs.YtiflndepmgnojaaGreat
open Go.RowKit Tryz Go.Deep Go.ChangeShapes Go.WideShapes Go.ChangeAt
set_option linter.unusedSimpArgs false
set_option linter.unusedVariables false
set_option maxHeartbeats 16000000
set_option maxRecDepth 100000
variable {b n m k p:Nat} {l:List Int} {w w':World} {V:List Value} {e t:TypeId} {z:Int}
structure Sq where
 (kind wait n:Int)
 zD:Sh
structure SqOk (w:World) (S:X4) (s:Sq):Prop where
 kind:0<=s.kind/\s.kind<256
 wait:0<=s.wait/\s.wait<4294967296
 n:U16 s.n
 zD:zW w S s.zD
theorem SqOk.below {S:X4} {s:Sq} (h:SqOk w S s) (hb:bW w w'):SqOk w' S s:=⟨h.kind,h.wait,h.n,h.zD.below hb⟩
structure Lq (W0 w:World) (F:X4) (p k:Nat) (c:Cf) (e:En):Prop where
 eg:Eg W0 w F p e
 ok:dG k e
 cf:e.c=c
section
variable {W0 w w':World} {F S:X4} {p k:Nat} {c:Cf} {e:En}
theorem Lq.below (h:Lq W0 w F p k c e) (hb:bW w w'):Lq W0 w' F p k c e:=⟨h.eg.below hb,h.ok,h.cf⟩
theorem Lq.mono {k':Nat} (h:Lq W0 w F p k c e) (a:k<=k'):Lq W0 w F p k' c e:=⟨h.eg,h.ok.mono a,h.cf⟩
theorem Lq.write (h:Lq W0 w F p k c e) {d:X5} (hb:Bys w S d l) (j:l.length<=b) (m:l.length<=1000000000) (n:dP l):
  Yk 17 #[pT p,.slice d l.length b] w λf w'=>(∃q,f=.returned q)/\∃a,Lq W0 w' a p k c (fU e l).en/\(fU e l).en.now=e.now/\Stp w w' F a:=by
 refine(h.eg.write h.ok hb j m).mono ?_;rintro f w' ⟨o,a,g,i⟩;refine⟨⟨_,o⟩,a,⟨g,CE h.ok n,?_⟩,?_,i⟩
 .rw[<-h.cf];unfold fU;(repeat' split)<;>rfl
 .unfold fU;(repeat' split)<;>rfl
theorem Lq.next (h:Lq W0 w F p k c e) (l:k<=70000000) {now:Int} (b:Word now):
  Yk 19 #[pT p,uI now] w λd w'=>(∃n,d=.returned n)/\∃a,Lq W0 w' a p (k+200) c (WK 200 e now).en/\(WK 200 e now).en.now=max e.now now/\Stp w w' F a:=by
 refine(Qf W0 k F p e now w h.eg h.ok l b).mono ?_;rintro d w' ⟨o,q,a,m,i,j,r⟩;obtain⟨f,g⟩:=IP 199 e now;exact⟨⟨_,m⟩,a,⟨i,Xi 200 k e now h.ok b,f.trans h.cf⟩,g,j⟩
theorem Lq.on (h:Lq W0 w F p k c e) (r:k<=90000000) {now:Int} (g:Word now) {tb:TypeId} {a:X5} {b:List Int} (hb:Byt tb w S a b) (q:b.length<=100000) (f:dP b) (t:tb≠154\/¬S p):
  Yk 20 #[pT p,.slice a b.length n,uI now] w λi w'=>i=.returned (.agg #[jI (lU e b now).ver.kind,jI (lU e b now).ver.why,uI (lU e b now).ver.pn,bV (lU e b now).ver.dU])/\∃d,Lq W0 w' d p (k+1) c (lU e b now).en/\(lU e b now).en.now=max e.now now/\Stp w w' F d:=by
 refine(h.eg.on h.ok r g hb q f t).mono ?_;rintro i w' ⟨s,d,m,o⟩;obtain⟨j,l⟩:=VQ e b now;exact⟨s,d,⟨m,Mo h.ok f g,j.trans h.cf⟩,l,o⟩
theorem Lq.aS (h:Lq W0 w F p k c e):Yk 24 #[pT p] w λa w'=>a=.returned (.agg (stV (cK e)))/\bW w w':=h.eg.aS h.ok
theorem Lq.ledger (h:Lq W0 w F p k c e):
 Yk 22 #[pT p,.agg (cfV c)] w λb w'=>∃a,b=.returned (.agg #[.pointer none,pT a])/\Ka w' a/\bW w w':=Gq W0 k F p e c w h.eg h.ok
theorem Lq.new {tw:TypeId} {f:X4} {a:X5} {words:List Int} (i:lV c) (o:Wot tw w f a words) (q:rG words) (j:words.length<=1000000):
  Yk 15 #[.agg (cfV c),.slice a words.length b] w λl w'=>∃p,l=.returned (.tuple #[pT p,jI 0])/\Lq w w' (λk=>w.heap.size<=k/\k<w'.heap.size) p 0 c (nK c words)/\bW w w':=by
 refine(JH f a b words c w i o j).mono ?_;rintro l w' ⟨p,n,m,g⟩;exact⟨p,n,⟨⟨m,λk d=>d.2,λk d=>d.1,g⟩,JI i q j,rfl⟩,g⟩
end
section
variable {H:Type} {enc:TypeId×Value->H} {w:World} {base:Nat} {spare:Nat->Bool} {held:Bool}
def Dec (enc:TypeId×Value->H) (w:World) (base:Nat) (spare:Nat->Bool) (held:Bool) {c:Type} (t:TypeId) (f:c->List Value) (d:c->Prop):Prop:=
 ∀e b g,DataW.trod enc prog w base spare held e t b=some g->∃a,b=f a/\d a
theorem nG {k:IntKind} (b:prog.underlying t=some (.int k)):Dec enc w base spare held t (λa=>[Value.int k a]) (λa=>(Lit.int k a).wf=true):=by
 intro f e g h;obtain⟨d,rfl,_,c⟩:=DataW.trod_int b h;exact⟨d,rfl,c⟩
theorem PD {z:Type} {f:z->List Value} (j:∀J,(f J).length=m) (o:0<m) (a:Addr) (xs:List z) (h:∀d (e:d<xs.length),w.cells? base (a.add (d*m)) m=some (f xs[d])):
  ∃q,Row w (λI=>I<w.heap.size) q m (some a) xs.length (xs.flatMap f):=by
 have t:∀d i (e:d<xs.length),i<m->w.cell? (a.add (d*m+i))=(f xs[d])[i]?:=by
  intro d i e k;have:=(World.cells?_some (h d e)).2.2 i k
  rwa [Go.Deep.add_add]at this
 by_cases C:xs.length=0
 .have:xs=[]:=by cases xs;rfl;simp at C
  subst this;exact⟨0,Row.WH⟩
 .have c:=t 0 0 oM o
  rw[Nat.zero_mul,Nat.zero_add,show a.add 0=a from rfl]at c;(have r:0<(f (xs[0]'oM)).length:=by rw[j];exact o);rw[aL r]at c;generalize(f (xs[0]'oM))[0]'r=L at c;obtain⟨l,p,y⟩:=a;unfold World.cell? at c;simp only at c;split at c
  .rename_i A q B n
   split at c
   .cases c
   .rename_i G
    (have F:y=none:=by cases y;rfl;simp at G);subst F;refine⟨q,sZ j xs,λ_=>⟨l,p,A,B,rfl,WT n,n,λb K u=>?_⟩⟩;have v:=(List.getElem?_eq_some_iff.1 u).1;rw[sZ j]at v;have e:b/m<xs.length:=Nat.div_lt_of_lt_mul (by rw[Nat.mul_comm];exact v);have k:b%m<m:=Nat.mod_lt _ o;(have x:b/m*m+b%m=b:=by rw[Nat.mul_comm];exact Nat.div_add_mod b m);have s:=mr j xs (b/m) (b%m) e k;rw[x,u]at s;have g:=t (b/m) (b%m) e k;rw[x,<-s]at g;have D:(⟨l,p,none⟩:Addr).add b=⟨l,p+b,none⟩:=by
     unfold Addr.add;split
     .rename_i E;rw[E];rfl
     .rfl
    rw[D]at g;unfold World.cell? at g;simp only[n]at g;simpa using g
  .cases c
theorem tL {j:Type} [Inhabited j] {f:j->List Value} {l:j->Prop} (C:∀x,(f x).length=m) (E:0<m) (G:prog.underlying t=some (.slice e)) (A:prog.cellsOf e=m) (B:Dec enc w base spare held e f l) {x:DataW H×List MemPlace}
  (h:DataW.trod enc prog w base spare held n t V=some x):
  ∃c q,∃i:List j,V=[.slice c i.length q]/\i.length<=q/\(∀a∈i,l a)/\∃K,Row w (λI=>I<w.heap.size) K m c i.length (i.flatMap f):=by
 rcases open_slice G h with⟨rfl,_⟩|⟨c,g,v,J,P,L,M,rfl,_,D,_,F,_,u⟩
 .exact⟨none,0,[],rfl,av _,λa d=>(by cases d),0,Row.WH⟩
 .have O:g<=J:=by rw[F];split<;>omega
  rw[A]at u;obtain⟨o,r⟩:=choose_lt (α:=j) (n:=g) (p:=λb a=>w.cells? base (c.add (b*m)) m=some (f a)/\l a) (λb k=>by
   obtain⟨N,y,z⟩:=u b oM;obtain⟨a,rfl,d⟩:=B _ _ _ z;exact⟨a,y,d⟩)
  have s:((List.range g).map o).length=g:=sM;refine⟨some c,v,(List.range g).map o,by rw[s],by rw[s];exact D,λa d=>?_,?_⟩
  .obtain⟨b,k,rfl⟩:=List.mem_map.1 d
   exact(r b (List.mem_range.1 k)).2
  .refine PD (base:=base) C E c _ (λb k=>?_)
   have:=(r b (by simpa using k)).1;simpa using this
theorem qj {a:Array Field} {x:DataW H×List MemPlace} (j:prog.underlying t=some (.struct a)) (h:DataW.trod enc prog w base spare held n t V=some x) (i:Nat) (f:Field) (b:a[i]?=some f) (u:TypeId) (o m:Nat) (k:f.type=u) (g:f.offset=o) (e:prog.cellsOf u=m):
  ∃n r,DataW.trod enc prog w base spare held n u ((V.drop o).take m)=some r:=by
 obtain⟨q,p,_,_,_,d,l⟩:=DataW.trod_struct j h;have:=l i f b;subst k g e;(have c:i<q.length:=by rw[d];exact(Array.getElem?_eq_some_iff.1 b).1);rw[aL c]at this;exact⟨p,_,this⟩
theorem wf_u32 (h:(Lit.int .u32 z).wf=true):0<=z/\z<4294967296:=by
 simp[Lit.wf,IntKind.min,IntKind.max,IntKind.signed,IntKind.bits]at h;omega
theorem wf_u16 (h:(Lit.int .u16 z).wf=true):0<=z/\z<65536:=by
 simp[Lit.wf,IntKind.min,IntKind.max,IntKind.signed,IntKind.bits]at h;omega
theorem wf_u8 (h:(Lit.int .u8 z).wf=true):0<=z/\z<256:=by
 simp[Lit.wf,IntKind.min,IntKind.max,IntKind.signed,IntKind.bits]at h;omega
theorem wf_u64 (h:(Lit.int .u64 z).wf=true):0<=z/\z<18446744073709551616:=by
 simp[Lit.wf,IntKind.min,IntKind.max,IntKind.signed,IntKind.bits]at h;omega
theorem wf_i64 (h:(Lit.int .i64 z).wf=true): -9223372036854775808<=z/\z<9223372036854775808:=by
 simp[Lit.wf,IntKind.min,IntKind.max,IntKind.signed,IntKind.bits]at h;omega
theorem UC {x:DataW H×List MemPlace} (h:DataW.trod enc prog w base spare held n 22 V=some x):
  ∃b c,∃a:List Int,V=[.slice b a.length c]/\a.length<=c/\U32 a/\∃l,Row w (λa=>a<w.heap.size) l 1 b a.length (a.flatMap u3V):=by
 obtain⟨b,c,m,d,e,g,i⟩:=tL (f:=u3V) (λ_=>rfl) dC Tryz.underlying22 kR (nG (k:=.u32) (t:=50) kR) h;exact⟨b,c,m,d,e,λo j=>wf_u32 (g o j),i⟩
theorem sl_u64 {x:DataW H×List MemPlace} (h:DataW.trod enc prog w base spare held n 23 V=some x):
  ∃b c,∃a:List Int,V=[.slice b a.length c]/\a.length<=c/\rG a/\∃l,Wot l w (λa=>a<w.heap.size) b a:=by
 obtain⟨b,c,m,d,e,g,i⟩:=tL (f:=woV) (λ_=>rfl) dC Tryz.underlying23 kR (nG (k:=.u64) (t:=30) kR) h;exact⟨b,c,m,d,e,λo j=>wf_u64 (g o j),i⟩
theorem sl_by {x:DataW H×List MemPlace} (h:DataW.trod enc prog w base spare held n 47 V=some x):
  ∃b c,∃a:List Int,V=[.slice b a.length c]/\a.length<=c/\dP a/\∃l,Byt l w (λa=>a<w.heap.size) b a:=by
 obtain⟨b,c,m,d,e,g,i⟩:=tL (f:=byV) (λ_=>rfl) dC Tryz.underlying47 kR (nG (k:=.u8) (t:=5) kR) h;exact⟨b,c,m,d,e,λo j=>wf_u8 (g o j),i⟩
instance:Inhabited Sh:=⟨⟨0,none,0,[],0,0,0,0,0,false,0⟩⟩
instance:Inhabited Mv:=⟨⟨0,0,default⟩⟩
instance:Inhabited Sq:=⟨⟨0,0,0,default⟩⟩
theorem list9 {l:List Value} (h:l.length=9):∃a b c d e f g i j,l=[a,b,c,d,e,f,g,i,j]:=by
 match l,h with
 |[a,b,c,d,e,f,g,i,j],_=>exact⟨a,b,c,d,e,f,g,i,j,rfl⟩
theorem JL:Dec enc w base spare held 53 shV (zW w (λl=>l<w.heap.size)):=by
 intro b0 t b7 h;(have E:t.length=9:=by obtain⟨U,l,_,_,B,_⟩:=DataW.trod_struct Tryz.underlying53 h;rw[B];kernel_rfl);obtain⟨Z,a0,a1,a2,a3,a4,a5,a7,a8,rfl⟩:=list9 E;obtain⟨b1,b8,u⟩:=qj Tryz.underlying53 h 0 _ rfl 3 0 1 rfl rfl kR;obtain⟨b2,b9,v⟩:=qj Tryz.underlying53 h 1 _ rfl 47 1 1 rfl rfl kR;obtain⟨b3,c0,x⟩:=qj Tryz.underlying53 h 2 _ rfl 51 2 4 rfl rfl kR;obtain⟨b4,c1,y⟩:=qj Tryz.underlying53 h 3 _ rfl 30 6 1 rfl rfl kR;obtain⟨b5,c2,z⟩:=qj Tryz.underlying53 h 4 _ rfl 4 7 1 rfl rfl kR;obtain⟨b6,c3,A⟩:=qj Tryz.underlying53 h 5 _ rfl 24 8 1 rfl rfl kR;obtain⟨V,b,R⟩:=nG Tryz.underlying3 _ _ _ u;obtain⟨q,s,r,c,D,C,M,F⟩:=sl_by v;obtain⟨W,d,S⟩:=nG Tryz.underlying30 _ _ _ y;obtain⟨X,e,_⟩:=DataW.trod_bool Tryz.underlying4 z;obtain⟨Y,f,T⟩:=nG Tryz.underlying24 _ _ _ A;obtain⟨U,a9,_,_,_,a6,a⟩:=DataW.trod_array Tryz.underlying51 x;(have G:prog.cellsOf 24=1:=by kernel_rfl);rw[G]at a;have m:=a 0 dC;have n:=a 1 dC;have o:=a 2 dC;have p:=a 3 dC;rw[aL oM]at m n o p;obtain⟨I,g,N⟩:=nG Tryz.underlying24 _ _ _ m;obtain⟨J,i,O⟩:=nG Tryz.underlying24 _ _ _ n;obtain⟨K,j,P⟩:=nG Tryz.underlying24 _ _ _ o;obtain⟨L,k,Q⟩:=nG Tryz.underlying24 _ _ _ p;simp at b c d e f g i j k;subst b c d e f g i j k;exact⟨⟨V,q,s,r,I,J,K,L,W,X,Y⟩,rfl,⟨M,F⟩,D,C,wf_u16 N,wf_u16 O,wf_u16 P,wf_u16 Q,wf_u64 S,wf_u16 T,wf_i64 R⟩
theorem dec_mv:Dec enc w base spare held 55 mvV (T9 w (λj=>j<w.heap.size)):=by
 intro v d A h;(have i:d.length=11:=by obtain⟨B,j,_,_,n,_⟩:=DataW.trod_struct Tryz.underlying55 h;rw[n];kernel_rfl);obtain⟨b,c,a,rfl⟩:∃b c a,d=b::c::a:=by
  match d,i with
  |b::c::a,_=>exact⟨b,c,a,rfl⟩
 obtain⟨x,C,k⟩:=qj Tryz.underlying55 h 0 _ rfl 5 0 1 rfl rfl kR;obtain⟨y,D,l⟩:=qj Tryz.underlying55 h 1 _ rfl 50 1 1 rfl rfl kR;obtain⟨z,E,m⟩:=qj Tryz.underlying55 h 2 _ rfl 53 2 9 rfl rfl kR;obtain⟨t,e,r⟩:=nG Tryz.underlying5 _ _ _ k;obtain⟨u,f,s⟩:=nG Tryz.underlying50 _ _ _ l;obtain⟨q,g,p⟩:=JL _ _ _ m;have o:a.take 9=a:=List.take_of_length_le (by simp at i;omega);simp only[List.drop_succ_cons,List.drop_zero,o]at g;simp at e f;subst e f g;exact⟨⟨t,u,q⟩,rfl,wf_u8 r,wf_u32 s,p⟩
theorem U0 {x:DataW H×List MemPlace} (h:DataW.trod enc prog w base spare held n 26 V=some x):
  ∃a:Pl,V=[.slice a.ka a.k.length a.kc,.slice a.wa a.ws.length a.wc,.slice a.aa a.ah.length a.ac,.slice a.ba a.bk.length a.bc,.int .u16 a.delay]/\UL w (λm=>m<w.heap.size) a:=by
 (have F:V.length=5:=by obtain⟨a0,m,_,_,D,_⟩:=DataW.trod_struct Tryz.underlying26 h;rw[D];kernel_rfl);obtain⟨b,c,d,e,f,rfl⟩:∃b c d e f,V=[b,c,d,e,f]:=by
  match V,F with
  |[b,c,d,e,f],_=>exact⟨b,c,d,e,f,rfl⟩
 obtain⟨U,a1,y⟩:=qj Tryz.underlying26 h 0 _ rfl 22 0 1 rfl rfl kR;obtain⟨W,a2,z⟩:=qj Tryz.underlying26 h 1 _ rfl 23 1 1 rfl rfl kR;obtain⟨X,a3,A⟩:=qj Tryz.underlying26 h 2 _ rfl 22 2 1 rfl rfl kR;obtain⟨Y,a4,B⟩:=qj Tryz.underlying26 h 3 _ rfl 22 3 1 rfl rfl kR;obtain⟨Z,a5,C⟩:=qj Tryz.underlying26 h 4 _ rfl 24 4 1 rfl rfl kR;obtain⟨o,s,G,g,R,u0,L⟩:=UC y;obtain⟨p,t,I,i,E,u1,M⟩:=sl_u64 z;obtain⟨q,u,J,j,S,u2,N⟩:=UC A;obtain⟨r,v,K,k,T,u3,O⟩:=UC B;obtain⟨Q,l,P⟩:=nG Tryz.underlying24 _ _ _ C;simp at g i j k l;subst g i j k l;exact⟨⟨o,s,G,p,t,I,q,u,J,r,v,K,Q⟩,rfl,L,u0,M,u1,E,N,u2,O,u3,wf_u16 P⟩
theorem sl_mv {a:X5} {l c:Nat} {x:DataW H×List MemPlace} (h:DataW.trod enc prog w base spare held n 27 [.slice a l c]=some x):
  ∃b:List Mv,l=b.length/\(∀j∈b,T9 w (λd=>d<w.heap.size) j)/\∃k,Row w (λd=>d<w.heap.size) k 11 a b.length (b.flatMap mvV):=by
 obtain⟨o,p,m,e,_,g,i⟩:=tL (f:=mvV) Uo dC Tryz.underlying27 kR dec_mv h;simp at e;obtain⟨rfl,rfl,rfl⟩:=e;exact⟨m,rfl,g,i⟩
end
theorem XC (e:En):CN e (jE e):=by
 rw[Bi];split
 (.exact CN.refl e);split
 (.exact(Mw e).trans (JU _ _ _));split
 .split<;>exact⟨rfl,rfl⟩
 .exact CN.refl e
theorem XY (e:En) (b:List Int):CN e (fU e b).en:=by
 unfold fU;split<;>exact⟨rfl,rfl⟩
theorem OV (e:En) (now:Int):(kr e now).c=e.c/\(kr e now).now=max e.now now:=XC (nO e now)
theorem VY:∀(b a:List Se),flS (b++a)=flS b+flS a
 |[],a=>by simp[flS]
 |s::t,a=>by
  have:=VY t a;simp only[List.cons_append,flS];omega
theorem XP (l:List Se) (h:∀a∈l,0<=a.len):flS (l.drop 1)<=flS l:=by
 cases l with
 |nil=>exact bY _
 |cons a t=>
  have:=Lr (h a sM);simp only[List.drop_succ_cons,List.drop_zero,flS];omega
theorem VL:∀(c:List Se) (a:Nat) (b:Se),(∀h:a<c.length,co1 b<=co1 c[a])->flS (c.set a b)<=flS c
 |[],a,b,_=>bY _
 |x::t,0,b,h=>by
  have:=h sM;simp only[List.set_cons_zero,flS];simp only[List.getElem_cons_zero]at this;omega
 |x::t,a+1,b,h=>by
  have:=VL t a b (λd=>by have:=h sO;simpa using this);simp only[List.set_cons_succ,flS];omega
theorem VG {l:Le} (h:gM l) (c a:Int) (f:a=2\/a=3):flS (gH l c a).kept<=flS l.kept:=by
 unfold gH;split
 .exact bY _
 .split
  .refine VL _ _ _ λb=>?_
   have d:=(Lr (h.yQ _ (aN b))).1;have e:co1 {l.kept.getD ‹Nat› seZ with aS:=a}=0:=by
    unfold co1;rw[Ww (by simp only;omega)]
   omega
  .exact bY _
theorem use_fl (l:Le) (b:Int):flS (lX l b).kept<=flS l.kept:=by
 unfold lX;split
 .exact bY _
 .split
  .exact bY _
  .refine VL _ _ _ λa=>?_
   rw[getD_at a];exact bY _
theorem VV {l:Le} {s:Se} (h:∀b∈l.kept,0<=b.len) (c:0<=s.len):flS (gG l s).led.kept<=flS l.kept+co1 s:=by
 have d:=(Lr c).1;have e:flS (l.kept++[{s with pn:=l.next}])=flS l.kept+co1 s:=by
  rw[VY];show _+(co1 s+0)=_;omega
 unfold gG;split
 (.simp only;omega);split
 .simp only;omega
 .simp only
  split
  .have f:=XP (l.kept++[{s with pn:=l.next}]) (λb a=>by
    rcases WB.1 a with a|a
    .exact h b a
    .obtain rfl:b=_:=by simpa using a
     exact c)
   omega
  .omega
def FL (e:En):Int:=flS e.led.kept
theorem VW {e:En} (h:dG k e) (a:Int):FL (jT e a)<=FL e:=VG h.le a 3 (.inr rfl)
theorem VN {k:Nat}:∀(b:List Int) (a:En),dG k a->FL (b.foldl jT a)<=FL a
 |[],_,_=>bY _
 |x::t,a,h=>oK (VN t _ (wP h x)) (VW h x)
theorem VX {e:En} (h:dG k e):FL (iB e).en<=FL e:=by
 have a:=Jz (dm:=e.dm) (now:=e.now) h.le (wY h.rtt h.cf.Cx h.cf.Gz);exact VN (k:=k) (qi e).lost {e with gU:=(qi e).next} {h with gU:=a.2.1}
theorem VM (e:En) (l:Int) (b:Bool):FL (kD e l b)=FL e:=by cases b<;>rfl
theorem VZ {a:Rse} {s:Se} (h:dG k a.en):FL (fH a s).en<=FL a.en:=by
 unfold fH;split
 .exact bY _
 .exact VG h.le s.pn 2 (.inl rfl)
theorem VE {k:Nat}:∀(c:List Se) (a:Rse),dG k a.en->(∀b∈c,vX b)->FL (c.foldl fH a).en<=FL a.en
 |[],_,_,_=>bY _
 |s::t,a,h,hl=>oK (VE t _ (FH h (hl s sM)) (λb d=>hl b (by simp[d]))) (VZ h)
theorem VR {e:En} (a:Ak) (h:dG k e):FL (ed e a).en<=FL e:=
 VE (k:=k) (a.cu.flatMap (partOf (gT e.led) e.led.kept)) ⟨[],false,e⟩ h (λc d=>by
  obtain⟨f,_,b⟩:=List.mem_flatMap.1 d;exact⟨h.le.ok c (BV b),h.le.pnw c (BV b)⟩)
theorem VS (e:En) (f:List Se) (top:Int):FL (iF e f top)=FL e:=by
 unfold iF;split
 .rfl
 .split<;>rfl
theorem XN (e:En) (m:List Sp) (f:List Se):FL (kv e m f)=FL e:=by
 unfold kv;split<;>rfl
theorem XV (e:En) (f:List Se):FL (kE e f)=FL e:=by
 unfold kE;split<;>rfl
theorem Wm (e:En) (f:List Se) (l:Bool):FL (lQ e f l)=FL e:=by
 unfold lQ;split<;>rfl
theorem Wk (e:En):FL (nN e)=FL e:=by
 unfold nN;split<;>rfl
theorem XU {e:En} {a:Ak} (h:dG k e) (f:Word (a.cu.getLastD ⟨0,0⟩).hi):FL (qh e a)<=FL e:=by
 have b:=zi (a:=a) h;have c:=GJ (top:=(a.cu.getLastD ⟨0,0⟩).hi) b.1 b.2.1;have d:dG k (qV (iF (ed e a).en (ed e a).fresh (a.cu.getLastD ⟨0,0⟩).hi) (a.cu.getLastD ⟨0,0⟩).hi):={c with dm:=kX c.dm f};have g:=VX d;have i:=VR a h;have j:=VS (ed e a).en (ed e a).fresh (a.cu.getLastD ⟨0,0⟩).hi;have l:FL (qV (iF (ed e a).en (ed e a).fresh (a.cu.getLastD ⟨0,0⟩).hi) (a.cu.getLastD ⟨0,0⟩).hi)=FL (iF (ed e a).en (ed e a).fresh (a.cu.getLastD ⟨0,0⟩).hi):=rfl;rw[yA,Wk];show FL (lQ _ _ _)<=_;rw[Wm,XV,VM,XN];omega
theorem fl_on1 {e:En} {b:List Int} (h:dG k e) (hb:dP b):FL (xw e b).en<=FL e:=by
 rw[Gc];split
 .exact bY _
 .dsimp only
  have a:flS (dN e.gu e.led b e.now).led.kept<=flS e.led.kept:=by
   rcases Cr e.gu e.led b e.now with c|⟨d,c⟩<;>rw[c]
   .exact bY _
   .exact use_fl _ _
  unfold onE;split
  .exact a
  .split
   .exact oK (XU (RD h) (MQ hb).2) a
   .exact a
theorem fl_on {e:En} {b:List Int} {now:Int} (h:dG k e) (hb:dP b) (a:Word now):FL (lU e b now).en<=FL e:=fl_on1 (qO h a) hb
theorem XT {e:En} (h:dG k e):FL (jE e)<=FL e:=by
 rw[Bi];split
 (.exact bY _);split
 .show FL (kD _ _ _)<=_
  rw[VM];exact VX h
 split
 .have a:dG k {e with dS:=jR e.dS e.now}:={h with pr:=BP _ h.now}
  have b:FL (e1T e)<=FL e:=VW a (eY e.led);split<;>exact b
 .exact bY _
theorem Wh {e:En} {now:Int} (h:dG k e) (a:Word now):FL (kr e now)<=FL e:=XT (qO h a)
theorem XR (e:En) (b:List Int):FL (fU e b).en=FL e:=by
 unfold fU;split<;>rfl
theorem XX (e:En):FL (kF e).en=FL e:=by
 unfold kF;split<;>rfl
theorem Wj {e:En} (h:dG k e):FL (eH e)<=FL e:=by
 unfold eH;split
 .have a:=VV (s:={seZ with aS:=4}) h.le.yQ (bY 0)
  exact oK a (by show flS e.led.kept+0<=flS e.led.kept;omega)
 .exact bY _
structure VH (m:Int) (e:En):Prop where
 fl:FL e<=m+e.c.mss
 pr:e.fP=true->FL e<=m
 cw:e.cc.win.cr<=m
theorem Wl {e:En} {p:Pi} (h:dG k e) (b:iY e.dH e.c.mss=some p):FL (jH e p).en<=FL e+p.body.length/\(p.body.length:Int)<=e.c.mss:=by
 obtain⟨d,f,g,a,i,j⟩:=nD h.qu b;have c:=wM h;have l:=Wj h;refine⟨?_,a⟩;unfold jH wN;show flS (jG (eH e).led _).led.kept<=_;unfold jG;split
 .have:(0:Int)<=p.body.length:=oM
  show FL (eH e)<=_;omega
 .refine oK (VV c.le.yQ (by show(0:Int)<=p.body.length;omega)) ?_
  show FL (eH e)+(if(1:Int)=1 then(p.body.length:Int)else 0)<=_;rw[aB rfl];omega
theorem VT (e:En) (p:Pi):(jH e p).en.cc=e.cc:=by
 unfold jH wN;show(eH _).cc=_;unfold eH;split<;>rfl
theorem VP {m:Int} {e:En} {p:Pi} (b:dG k e) (g:iY e.dH e.c.mss=some p) (f:VH m e) (c1:¬(e.fP=false/\e.cc.win.cr<gq e.led+p.body.length)):VH m (jH e p).en:=by
 obtain⟨r,i,j⟩:=f;obtain⟨n,o⟩:=Wl b g;have l:=b.cf.Gj;refine⟨?_,λa=>?_,?_⟩
 .rw[(Sw e p).1]
  by_cases a:e.fP=true
  .have:=i a
   omega
  .have c:gq e.led+p.body.length<=e.cc.win.cr:=by
    by_cases d:e.cc.win.cr<gq e.led+p.body.length
    .exact Wy ⟨by simpa using a,d⟩ c1
    .omega
   rw[Jg b.le]at c;have q:FL e+p.body.length<=e.cc.win.cr:=c;omega
 .have:(jH e p).en.fP=false:=rfl
  rw[this]at a;cases a
 .rw[VT];exact j
theorem XM {m:Int} {e:En} (h:dG k e) (a:VH m e):VH m (WQ e).en:=by
 have⟨b,c,d⟩:=a;rw[vk];split
 (.exact a);split
 (.exact⟨b,c,d⟩);unfold uS;split
 .exact a
 next p hp=>
 split
 .exact a
 next c1=>
 split
 (.exact⟨b,c,d⟩);split
 (.exact a);split
 .next ho=>
  obtain⟨i,j,l,n,o,q⟩:=nD h.qu hp;have g:Word (p.body.length:Int):=⟨oM,by have:=h.cf.Ca;omega⟩;have f:dG k {e with fM:=WR e.fM e.c.gD e.now p.body.length}:={h with pa:=Yr h.pa h.cf.Ym h.now g ho,ra0:=h.ra0,ra1:=h.ra1};exact VP f hp ⟨b,c,d⟩ c1
 .exact a
theorem VO {m:Int}:∀(c:List (List Int)) {n g i:Nat} {w:Wo},WdX n g i c.length w->(∀a∈c,dP a)->FL w.en<=m->FL (c.foldl je w).en<=m/\(c.foldl je w).en.c=w.en.c
 |[],_,_,_,_,_,_,hm=>⟨hm,rfl⟩
 |a::t,_,_,_,w,h,hb,hm=>by
  have k:=fl_on (b:=a) h.en (hb a sM) h.now;obtain⟨d,e⟩:=VO t (Fx h (hb a sM)) (λj f=>hb j (by simp[f])) (w:=je w a) (by show FL (lU w.en a w.now).en<=m;omega);exact⟨d,e.trans (VQ w.en a w.now).1⟩
theorem XW {w:Wo} {e:Ev} (h:WdX n n 0 0 w) (c:EvOk e):FL (Yp w e).en<=FL w.en/\(Yp w e).en.c=w.en.c:=by
 unfold Yp;split
 (.exact⟨by rw[XR];exact bY _,(XY w.en e.body).1⟩);split
 .have q:=c.n
  obtain⟨r,s,l,o,f,t⟩:=RA h (d:=min e.n 1099511627776) oM;have g:∀a∈iy (qB w (min e.n 1099511627776)).now (qB w (min e.n 1099511627776)).back.items,dP a:=λa j=>by
   obtain⟨p,k,rfl⟩:=wR j;exact(l.back.ok p k).2.1
  obtain⟨i,b⟩:=VO (m:=FL w.en) _ o g (by rw[U8];exact bY _);rw[U8]at b;rw[MK];exact⟨oK (Wh f.en f.now) i,((OV _ _).1).trans b⟩
 split
 (.exact⟨fl_on h.en c.body h.now,(VQ w.en e.body w.now).1⟩);split
 (.exact⟨bY _,rfl⟩);split
 .exact⟨bY _,rfl⟩
 .exact⟨by rw[XX];exact bY _,by unfold kF;split<;>rfl⟩
theorem VU {e:En} (h:dG k e):(WQ e).en.cc=e.cc/\(WQ e).en.c=e.c:=by
 refine⟨?_,(JS e).1⟩;rw[vk];split
 (.rfl);split
 (.rfl);unfold uS;split
 (.rfl);split
 (.rfl);split
 (.rfl);split
 (.rfl);split
 .exact VT _ _
 .rfl
theorem fl_do {w:Wo} {e:Ev} (h:WdX n n 0 0 w) (p:EvOk e) (u:1<=e.kind/\e.kind<=6):
  FL (Bc w e).en<=max (FL w.en) (Bc w e).en.cc.win.cr+w.en.c.mss/\(Bc w e).en.c=w.en.c:=by
 obtain⟨A,k⟩:=XW h p;have i:=Hf h p;unfold Bc;rw[aB u];generalize Yp w e=b at*
 have x:VH (max (FL w.en) b.en.cc.win.cr) b.en:=⟨by have:=i.en.cf.Gj;omega,λ_=>by omega,oM⟩;obtain⟨a,l,⟨j,y,z⟩,C,s⟩:=Eo (n:=n) (λg=>VH (max (FL w.en) b.en.cc.win.cr) g.en/\g.en.cc=b.en.cc/\g.en.c=b.en.c) (λg q d B=>by
  have c:=qO q.en q.now;have f:=VU c;exact⟨XM c ⟨d.1.fl,d.1.pr,d.1.cw⟩,f.1.trans d.2.1,f.2.trans d.2.2⟩) _ b (Yq i) (PV (Yq i)) ⟨x,rfl,rfl⟩
 unfold GY;rw[s];have c:=qO l.en l.now;have f:=VU c;have v:=XM c ⟨j.fl,j.pr,j.cw⟩;have t:(fD a.en a.now).en.cc=b.en.cc:=f.1.trans y;have o:(fD a.en a.now).en.c=b.en.c:=f.2.trans z;refine⟨?_,o.trans k⟩;show FL (fD a.en a.now).en<=max _ (fD a.en a.now).en.cc.win.cr+_;rw[t];have m:=v.fl;have r:(WQ (nO a.en a.now)).en.c=w.en.c:=o.trans k;rw[r]at m;exact m
theorem VJ {P:Program} {Q:X7} {a:Act} {l:List Oper} (F:Nat->Int->Int->Option Addr->Nat->List Int->Act) (C:Nat->Int->Int->Option Addr->Nat->List Int->World->Prop) (j:∀c g f b e d i,C c g f b e d i->Q .normal (F c g f b e d) i) (h:(∀c g f b e d i,C c g f b e d i->Q .normal (F c g f b e d) i)->(Code.region p l.toArray true).wp P Q a w):(Code.region p l.toArray true).wp P Q a w:=h j
theorem Blk.stR {y:Rw} (h:Blk w b t (rwV y)):w.rangeAt b 0 (stV y.aS).toList:=λd e a=>by
 have c:=(List.getElem?_eq_some_iff.1 a).1;refine h.range d e ?_;have:(rwV y).toList=(stV y.aS).toList++[uI y.sent,uI y.eO,uI y.told,uI y.tJ,uI y.qm,jI y.err]:=rfl;rw[this,List.getElem?_append_left c,a]
theorem VK {x:Wo} {e:Ev} {c:Cf} (h:WdX n n 0 0 x) (t:x.en.c=c) (p:EvOk e) (l:1<=e.kind/\e.kind<=6):
  (zz x e).aS.jS=FL (Bc x e).en/\FL (Bc x e).en<=max (FL x.en) (zz x e).aS.cr+c.mss/\(Bc x e).en.c=c/\(0<=FL x.en/\FL x.en<=1000000)/\(0<=FL (Bc x e).en/\FL (Bc x e).en<=1000000)/\(0<=(zz x e).aS.cr/\(zz x e).aS.cr<=1073741824)/\(0<=(zz x e).aS.low/\(zz x e).aS.low<=(zz x e).aS.next/\(zz x e).aS.next<=4611686018427387904)/\(zz x e).aS.next -(zz x e).aS.low<=c.ring/\(1<=c.mss/\c.mss<=1500)/\4<=c.ring/\c.ring<=256:=by
 obtain⟨m,j⟩:=fl_do h p l;have a:=U6 h p l;(have v:zz x e={woRow (Bc x e)with err:=OQ x e}:=by unfold zz;rw[aB l]);have q:∀{k:Nat} {u:En},dG k u->0<=FL u/\FL u<=1000000:=λ{k u} i=>by
  have g:∀d∈u.led.kept,0<=d.len/\d.len<=1500:=λd g=>⟨(i.le.ok d g).yQ,by have:=i.lm d g;have:=i.cf.Ca;omega⟩;obtain⟨s,y,z,A⟩:=Ju (xW u.led.kept (λd h=>(g d h).1)) (GG u.led.kept g) i.le.len i.le.lW;exact⟨s,by unfold FL;omega⟩
 rw[t]at m j;rw[v];have o:=j;generalize Bc x e=b at*
 have f:=a.en.cf;rw[o]at f;have w:(woRow b).aS.jS=gq b.en.led:=rfl;have r:=Jg a.en.le;refine⟨r,m,j,q h.en,q a.en,⟨?_,?_⟩,⟨a.en.le.KN,?_,?_⟩,?_,⟨f.Gj,f.Ca⟩,f.wZ,f.lW⟩
 .have:=a.en.cw.1;have:=a.en.cf.Gr;show 0<=b.en.cc.win.cr;omega
 .have:=a.en.cw.2;have:=a.en.cf.most;show b.en.cc.win.cr<=_;omega
 .have:=a.en.le.ut;show gT b.en.led<=b.en.led.next;omega
 .have:=a.en.le.nI;have:=a.en.le.mh;show b.en.led.next<=_;omega
 .have:=a.en.le.ut;have:=a.en.le.len;have:=a.en.lr;show b.en.led.next -gT b.en.led<=_;rw[o]at*;omega
theorem VF (S:X4) (q:Pl) (g9:X5) (m7:Nat) (j:List Mv) (w:World) (f:UL w S q) (h8:∀k1,S k1->k1<w.heap.size) (j3:∃k4,Row w S k4 11 g9 j.length (j.flatMap mvV)) (j2:∀l∈j,T9 w S l):
  Yk 3 #[.agg (Yi q),.slice g9 j.length m7] w λc5 Y=>c5=.returned (bV true)/\bW w Y:=by
 obtain⟨k,c8⟩:=eX (fV q.k);(have j5:lV k:=by rw[c8];exact CS f.ku);obtain⟨g1,r3,l4,g3,m1,m0⟩:=Fy (λr (a8:bW w r)=>f.below a8) j5 c8 h8 j3 j2;obtain⟨c2,a7⟩:=eX (w.alloc (.cells (Yi q) 26));(have i1:bW w c2:=by rw[a7];exact BEL);obtain⟨V,a9⟩:=eX w.heap.size;(have j9:Blk c2 V 26 (Yi q):=by rw[a7,a9];exact Wx _ _ _);obtain⟨d1,d6,g6,f7⟩:=Bq i1 j9 a7 a9;have i5:=λr (a8:bW w r)=>(by obtain⟨k4,n⟩:=(f.below a8).k;have h:=JR S q.ka q.kc q.k r n f.ku;rw[<-c8]at h;exact h:Yk 9 #[.slice q.ka q.k.length q.kc] r λc5 Y=>c5=.returned (.agg (cfV k))/\bW r Y);have f6:=zH i5;(have h7:c2.heap.size=V+1:=by rw[a7,a9];simp);have l9:=zH h7;clear f j5 c8 i1 j9 i5 a7 h8 j3 j2 h7;go_enter Tryz.func3,Tryz.ntmps3;go_upto_region 1 with fail;rw[<-g6.o,<-a9];clear a9 g6;(go_wp2_with first|(refine kP 26 (.tmp 2) rfl rfl (some 11) rfl V kR (Yi q) d6.o _ Tryz.underlying26 kR kR ?_)|fail);refine(U4 S q c2 (g1.o _ d1.o)).mono ?_;rintro c5 q8 ⟨⟨d,b,c,h3,k2,s2,k3,e1,e2,rfl,i4⟩,i2⟩;have W:=Tq.start (bL:=[(V,26,(Yi q))]) i4 d1.o i2 (g1.o _ (aj _ _)) (λr2 d0=>by obtain rfl:=dZ.1 d0;exact⟨Nat.le_of_eq f7.o.symm,d6.o⟩);rw[<-l4.o]at W;have o:=zH W;have h5:(mO k (q.ws.take 60) e1 e2 q.delay).en.c=k:=rfl;have a5:FL (mO k (q.ws.take 60) e1 e2 q.delay).en=0:=rfl;generalize mO k (q.ws.take 60) e1 e2 q.delay=r0 at*
 clear i4 i2 W;have g7:=zH (o.o.loc _ (jQ _ kT));have m6:=g7.o.Wu 0;go_wp2_with fail;refine Yd (f6.o q8 o.o.bel) ?_;intro f5 i3;have g4:=zH (o.o.below i3);clear i3 m6 g7 o;(repeat (go_not_at_region 3;first|(refine iG 32 (.tmp 6) (.tmp 15) rfl rfl rfl f5.heap.size 0 (cfV k) kR kR ((Wx f5 32 #[jI 0,uI 0,jI 0,uI 0,jI 0,uI 0,uI 0,uI 0,uI 0,jI 0,uI 0,uI 0,uI 0,uI 0,uI 0,jI 0,uI 0]).there _ sM) kR XF ?_;intro d8 i0;have e5:=g4.o.box #[jI 0,uI 0,jI 0,uI 0,jI 0,uI 0,uI 0,uI 0,uI 0,jI 0,uI 0,uI 0,uI 0,uI 0,uI 0,jI 0,uI 0] (cfV k) 32 rfl;rw[<-show d8=_ from i0]at e5;have c1:=zH e5;clear i0 e5)|go_values|go_skip|go_guarded|go_step|go_upon|go_back|go_simp));obtain⟨e0,e8⟩:=eX f5.heap.size;rw[<-e8]at c1;rw[<-e8];clear g4 f6 d6 f7 l9 d1 e8;by_cases r9:60<j.length
 .have h4:decide ((60:Int)<(j.length:Int))=true:=bM oM
  go_wp2_with fail;refine Yd (tQ d8) ?_;intro k5 c7;go_wp2_with fail;refine Yd (tQ k5) ?_;intro s4 p4;go_wp2;go_ret;exact⟨rfl,((c1.o.below c7).below p4).bel⟩
 have h4:decide ((60:Int)<(j.length:Int))=false:=bJ oM;go_wp2_with fail;refine Yd (tQ d8) ?_;intro k5 c7;have g5:=zH (c1.o.below c7);clear c7 c1;go_upto_region 6 with fail;go_wp2;go_loopg [7,34] j.length (λf1 q7 q6 wr=>∃p,q7=uI (FL p.en)/\q6=jI ((j.length:Int) -f1)/\f1<=j.length/\X3 (Tq w wr ⟨b,c,h3,k2,k3⟩ (j.length -f1) p [(e0,32,(cfV k)),(d,45,#[pT b,pT c]),(V,26,(Yi q))] [])/\X3 (p.en.c=k));(case atStart=>exact⟨r0,by rw[a5],by congr 1;omega,av _,by rw[Nat.sub_self];exact g5,zH h5⟩);case round=>
  obtain⟨p,rfl,rfl,r8,W,k0⟩:=hrel;have o:=W;have g8:=k0;clear W k0 h5 a5 g5;by_cases d0:0<gk
  .obtain⟨g,c9⟩:=eX (j.length -gk)
   have j0:(j.length:Int) -gk=(g:Int):=oM;have i9:g<j.length:=oM;rw[j0];rw[<-c9]at o;have l8:=zH c9;obtain⟨s3,j7⟩:=m1.o;obtain⟨x,z,rfl,p3,j6⟩:=UX j7 i9;obtain⟨t,g0⟩:=yx (λr (a8:bW w r)=>Ag j6 a8 p3) (m0.o _ (aN i9));generalize j[g]=l at*
   have n4:decide ((g:Int)<(j.length:Int))=true:=bM oM;have s0:(g:Int)<j.length:=oM;clear c9 j0 j6 j7 h4;go_upto_region 9 with fail;have i7:bW wr wr.drew:=bA (aj _ _);have G:=zH (o.o.below i7);have s:Blk wr.drew d 45 #[pT b,pT c]/\wr.drew.rangeAt x (z+g*11) (mvV l):=⟨G.o.loc _ (jQ _ kT),t.o _ G.o.bel⟩;have m2:=zH (λn6 (p5:wr.drew.heap.size<=n6)=>G.o.ne p5);clear i7 o;refine' VJ (F:=_) (λu T R m4 h0 Q r=>X3 (EvF false T R h0 Q)/\X3 (Tq w r ⟨b,c,h3,k2,k3⟩ (g+1) (Bc p ⟨T,R,Q⟩) ((u,41,rwV (zz p ⟨T,R,Q⟩))::[(e0,32,(cfV k)),(d,45,#[pT b,pT c]),(V,26,(Yi q))]) [])) ?tl (λd7=>?mn);case mn=>
    refine aZ (S:=λY=>Blk Y d 45 #[pT b,pT c]/\Y.rangeAt x (z+g*11) (mvV l)) kR s (λp2=>?_);clear p2;refine tK 0 37 s ?_;refine tK 1 38 s ?_;refine tK 2 39 s ?_;refine X6 3 40 s ?_ (y:=by intro w a6;have q5:w.cell? ⟨d,0,none⟩=_:=a6.1.cell 0;exact gS);refine tK 4 41 s ?_;refine tK 5 42 s ?_;refine tK 6 43 s ?_;refine iL (v:=.agg (mvV l).toArray) 7 (some 44) rfl kR kR kR kR (λ_ _ _ h=>h) (yieldsIf_load_mid rfl 55 (.tmp 43) rfl x (z+g*11) kR (mvV l) _ (λw a6=>a6.2) Tryz.underlying55 kR kR) s ?_;(try simp only[Act.put,List.setIfInBounds_toArray,List.set_cons_zero,List.set_cons_succ]);refine tK 8 45 s ?_;refine tK 9 46 s ?_;refine tK 10 47 s ?_;refine X6 11 48 s ?_ (y:=by intro w a6;have q5:w.cell? ⟨d,1,none⟩=_:=a6.1.cell 1;exact gS);refine nrm 16 4095 ?_;refine fo 12 14 kR ?_ ?_
    .refine opC 49 12 #[.agg (mvV l).toArray,pT c,bV false] ((G.o.event g3.o false l g0.o).mono ?_)
     rintro n3 k6 ⟨⟨A,I,U,c4,H,b0,b1,n⟩,e7⟩;obtain⟨a1,b5⟩:=yx n b1;have p7:Blk k6 d 45 #[pT b,pT c]/\k6.rangeAt x (z+g*11) (mvV l):=⟨a1.o.loc (d,45,#[pT b,pT c]) (jQ _ kT),t.o _ a1.o.bel⟩;refine⟨_,b0,p7,?_⟩;clear b0 b1 n e7;(try simp only[Act.put,List.setIfInBounds_toArray,List.set_cons_zero,List.set_cons_succ]);refine fo 13 14 kR ?_ ?_
     .refine opC 50 11 #[pT b,.agg #[jI A,uI I,.slice U H.length c4]] ((a1.o.doIt (kind:=A) (a:=U) kT b5.o oM).mono ?_)
      rintro h2 k7 ⟨M,n⟩;have b7:=zH n;have p8:Blk k7 d 45 #[pT b,pT c]/\k7.rangeAt x (z+g*11) (mvV l):=⟨b7.o.loc (d,45,#[pT b,pT c]) (jQ _ kT),t.o _ b7.o.bel⟩;refine⟨_,M,p8,?_⟩;clear M n;(try simp only[Act.put,List.setIfInBounds_toArray,List.set_cons_zero,List.set_cons_succ]);refine aI 14 kR ?_;refine fA (op:=_) rfl kR (some 9) kR 41 kR Yj kR ?_;intro u k8 J f L;obtain⟨b8,g2⟩:=yx (b7.o.new J f L) f;have p9:Blk k8 d 45 #[pT b,pT c]/\k8.rangeAt x (z+g*11) (mvV l):=⟨b8.o.loc (d,45,#[pT b,pT c]) (jQ _ (jQ _ kT)),t.o _ b8.o.bel⟩;have a0:=zH (b7.o.ne f);refine⟨p9,?_⟩;clear J f L;(try simp only[Act.put,List.setIfInBounds_toArray,List.set_cons_zero,List.set_cons_succ]);obtain⟨B,C,D,E⟩:=a0.o;have m:=b8.o.gF (cs':=rwV (zz p ⟨A,I,H⟩)) B C D E rfl;have N:=b8.o.loc _ kT;refine dJ (i:=15) 41 (.tmp 9) (.tmp 50) u 0 (rwV (zz p ⟨A,I,H⟩)) rfl kR kR kR kR kR kR (N.there _ (av _)) kR (by simp[rwV,Value.oneCell']) (⟨m.loc (d,45,#[pT b,pT c]) (jQ _ (jQ _ kT)),t.o _ m.bel⟩) ?_;intro a3 K;rw[<-show a3=_ from K]at m;have a2:=zH m;clear m N K B C D E;(try simp only[Act.put,List.setIfInBounds_toArray,List.set_cons_zero,List.set_cons_succ]);refine bg kR ?_ _;exact d7 u A I U c4 H _ ⟨b5,a2⟩
     .refine fA (op:=_) rfl kR (some 9) kR 41 kR Yj kR ?_
      intro u k9 J f L;obtain⟨d3,g2⟩:=yx (a1.o.new J f L) f;have q0:Blk k9 d 45 #[pT b,pT c]/\k9.rangeAt x (z+g*11) (mvV l):=⟨d3.o.loc (d,45,#[pT b,pT c]) (jQ _ (jQ _ kT)),t.o _ d3.o.bel⟩;have a0:=zH (a1.o.ne f);refine⟨q0,?_⟩;clear J f L;(try simp only[Act.put,List.setIfInBounds_toArray,List.set_cons_zero,List.set_cons_succ]);refine aI 13 kR ?_;refine opC 50 11 #[pT b,.agg #[jI A,uI I,.slice U H.length c4]] ((d3.o.doIt (kind:=A) (a:=U) kT b5.o oM).mono ?_);rintro h2 l0 ⟨M,n⟩;have b9:=zH n;have q1:Blk l0 d 45 #[pT b,pT c]/\l0.rangeAt x (z+g*11) (mvV l):=⟨b9.o.loc (d,45,#[pT b,pT c]) (jQ _ (jQ _ kT)),t.o _ b9.o.bel⟩;refine⟨_,M,q1,?_⟩;clear M n;(try simp only[Act.put,List.setIfInBounds_toArray,List.set_cons_zero,List.set_cons_succ]);obtain⟨B,C,D,E⟩:=a0.o;have m:=b9.o.gF (cs':=rwV (zz p ⟨A,I,H⟩)) B C D E rfl;have N:=b9.o.loc _ kT;refine dJ (i:=15) 41 (.tmp 9) (.tmp 50) u 0 (rwV (zz p ⟨A,I,H⟩)) rfl kR kR kR kR kR kR (N.there _ (av _)) kR (by simp[rwV,Value.oneCell']) (⟨m.loc (d,45,#[pT b,pT c]) (jQ _ (jQ _ kT)),t.o _ m.bel⟩) ?_;intro a3 K;rw[<-show a3=_ from K]at m;have a2:=zH m;clear m N K B C D E;(try simp only[Act.put,List.setIfInBounds_toArray,List.set_cons_zero,List.set_cons_succ]);refine bg kR ?_ _;exact d7 u A I U c4 H _ ⟨b5,a2⟩
    .refine fA (op:=_) rfl kR (some 9) kR 41 kR Yj kR ?_
     intro u l1 J f L;obtain⟨d4,g2⟩:=yx (G.o.new J f L) f;have q2:Blk l1 d 45 #[pT b,pT c]/\l1.rangeAt x (z+g*11) (mvV l):=⟨d4.o.loc (d,45,#[pT b,pT c]) (jQ _ (jQ _ kT)),t.o _ d4.o.bel⟩;have a0:=zH (G.o.ne f);refine⟨q2,?_⟩;clear J f L;(try simp only[Act.put,List.setIfInBounds_toArray,List.set_cons_zero,List.set_cons_succ]);refine aI 12 kR ?_;refine opC 49 12 #[.agg (mvV l).toArray,pT c,bV false] ((d4.o.event g3.o false l g0.o).mono ?_);rintro n3 l2 ⟨⟨b2,c6,d9,h1,c3,b0,b1,n⟩,e7⟩;obtain⟨d5,f8⟩:=yx n b1;have q3:Blk l2 d 45 #[pT b,pT c]/\l2.rangeAt x (z+g*11) (mvV l):=⟨d5.o.loc (d,45,#[pT b,pT c]) (jQ _ (jQ _ kT)),t.o _ d5.o.bel⟩;refine⟨_,b0,q3,?_⟩;clear b0 b1 n e7;(try simp only[Act.put,List.setIfInBounds_toArray,List.set_cons_zero,List.set_cons_succ]);refine aI 13 kR ?_;refine opC 50 11 #[pT b,.agg #[jI b2,uI c6,.slice d9 c3.length h1]] ((d5.o.doIt (kind:=b2) (a:=d9) kT f8.o oM).mono ?_);rintro h2 l3 ⟨M,n⟩;have c0:=zH n;have q4:Blk l3 d 45 #[pT b,pT c]/\l3.rangeAt x (z+g*11) (mvV l):=⟨c0.o.loc (d,45,#[pT b,pT c]) (jQ _ (jQ _ kT)),t.o _ c0.o.bel⟩;refine⟨_,M,q4,?_⟩;clear M n;(try simp only[Act.put,List.setIfInBounds_toArray,List.set_cons_zero,List.set_cons_succ]);obtain⟨B,C,D,E⟩:=a0.o;have m:=c0.o.gF (cs':=rwV (zz p ⟨b2,c6,c3⟩)) B C D E rfl;have N:=c0.o.loc _ kT;refine dJ (i:=15) 41 (.tmp 9) (.tmp 50) u 0 (rwV (zz p ⟨b2,c6,c3⟩)) rfl kR kR kR kR kR kR (N.there _ (av _)) kR (by simp[rwV,Value.oneCell']) (⟨m.loc (d,45,#[pT b,pT c]) (jQ _ (jQ _ kT)),t.o _ m.bel⟩) ?_;intro a3 K;rw[<-show a3=_ from K]at m;have a2:=zH m;clear m N K B C D E;(try simp only[Act.put,List.setIfInBounds_toArray,List.set_cons_zero,List.set_cons_succ]);refine bg kR ?_ _;exact d7 u b2 c6 d9 h1 c3 _ ⟨f8,a2⟩
   case tl=>
    intro u T R m4 h0 Q r ⟨b4,o⟩;have X:=VK (e:=⟨T,R,Q⟩) G.o.wd g8.o ⟨b4.o.by_,b4.o.hn.1⟩ b4.o.hk;obtain⟨r1,f0⟩:=eX (zz p ⟨T,R,Q⟩);rw[<-f0]at o X;obtain⟨q9,j8⟩:=eX (Bc p ⟨T,R,Q⟩);rw[<-j8]at o X;rw[<-f0];clear f0 j8 G g8 m2 s b4;have f9:=zH X;obtain⟨O,e9⟩:=eX r1.aS;have d2:=zH (o.o.loc _ kT).stR;rw[<-e9]at d2 X;obtain⟨f9,r4⟩:=yx X e9;clear e9 X;(repeat (go_not_at_region 11;first|(refine wpList_load_mid rfl 38 (.tmp 51) rfl u 0 rfl (stV O).toList _ d2.o Tryz.underlying38 kR kR ?_)|(refine iG 38 (.tmp 10) (.tmp 52) rfl rfl rfl r.heap.size 0 (stV O) kR kR ((Wx r 38 Ya).there _ (av _)) kR (by simp[stV,Value.oneCell']) ?_;intro m3 h9;have e4:=o.o.box Ya (stV O) 38 rfl;rw[<-show m3=_ from h9]at e4;have b6:=zH e4;clear h9 e4)|go_values|go_skip|go_guarded|go_step|go_upon|go_back|go_simp));obtain⟨m5,e6⟩:=eX r.heap.size;rw[<-e6]at b6;rw[<-e6];clear e6 o d2;have b3:=b6.o.loc (m5,38,stV O) kT;obtain⟨f4,m8,m9,n0,n1⟩:=LX (b6.o.loc (e0,32,(cfV k)) (jQ _ (jQ _ kT))) (b3.Wu 2) (b3.Wu 4) (b3.Wu 7) (b3.Wu 8);obtain⟨r5,r6⟩:=f4.e2 2 5;obtain⟨Z,e3⟩:=eX (FL p.en);rw[<-e3];have P:=f9.o;rw[<-e3]at P;obtain⟨a4,i6⟩:=eX O.cr;obtain⟨f3,j4⟩:=eX O.next;obtain⟨f2,j1⟩:=eX O.low;obtain⟨n5,i8⟩:=eX O.jS;rw[<-i6]at m8 P;rw[<-j4]at n0 P;rw[<-j1]at n1 P;rw[<-i8]at m9 P;have l6:=zH P;clear e3 i6 j4 j1 i8 P b3 f4;obtain⟨a5,n9,h6,⟨o0,o1⟩,⟨o2,o3⟩,⟨o4,o5⟩,⟨o6,o7,o8⟩,o9,⟨p0,p1⟩,n7,n8⟩:=l6.o;have p6:0<=max Z a4/\max Z a4<=1073741824:=oM;have B:IntKind.u64.wrap (max Z a4+k.mss)=max Z a4+k.mss:=Wz _ ⟨oM,oM⟩;have C:decide (max Z a4+k.mss<n5)=false:=bJ oM;have D:IntKind.u64.wrap k.ring=k.ring:=Wz _ ⟨oM,oM⟩;have E:IntKind.u64.wrap (f3 -f2)=f3 -f2:=Wz _ ⟨oM,oM⟩;have r7:decide (k.ring<f3 -f2)=false:=bJ oM;have s1:IntKind.i64.wrap ((g:Int)+1)=(g:Int)+1:=eP _ ⟨oM,oM⟩;obtain⟨l7,l5⟩:=yx a5 h6;clear a5 n9 h6 o0 o1 o2 o3 o4 o5 o6 o7 o8 o9 p0 p1 n7 n8 p6;go_wp2;go_roundg (gk -1);(case measure=>omega);case rel=>
     have c9:=l8.o;have n2:j.length -(gk -1)=g+1:=oM;exact⟨q9,by rw[l7.o],by congr 1;omega,oM,by rw[n2];exact zH (b6.o.sub (λr2 d0=>jQ _ (jQ _ d0))),l5⟩
  .have n4:decide ((j.length:Int) -gk<(j.length:Int))=false:=bJ oM
   go_wp2;go_ret;exact⟨rfl,o.o.bel⟩
theorem XK {H:Type} {enc:TypeId×Value->H} {base:Nat} (c:Value) (j:DataW H) (w:List MemPlace) (d:Value) (k:DataW H) (x:List MemPlace) (a:World) (u:Value.okWide prog a .any base 26 c) (r:DataW.Trod enc prog a 0 (λ_=>true) true 26 c j w) (v:Value.okWide prog a .any base 27 d) (s:DataW.Trod enc prog a 0 (λ_=>true) true 27 d k x):
  Yk 3 #[c,d] a λb y=>b=.returned (bV true)/\bW a y:=by
 obtain⟨e,rfl,-⟩:=okWide_struct Tryz.underlying26 u;obtain⟨z,m⟩:=r;obtain⟨f,b,q⟩:=U0 m;obtain⟨A,n⟩:=s;obtain⟨g,B,i,rfl⟩:=okWide_slice Tryz.underlying27 v;obtain⟨t,rfl,o,p⟩:=sl_mv n;(have l:e=(Yi f):=by cases e;simpa[Value.cells]using b);subst l;exact VF _ f g i t a q (λ_ h=>h) p o
end Go.Proofs.YtiflndepmgnojaaGreat
