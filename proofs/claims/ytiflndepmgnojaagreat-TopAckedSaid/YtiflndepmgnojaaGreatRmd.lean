import Derived.OpenShut
import Derived.Deep.Slices
import Derived.ProofKit
import Derived.Test.YtiflndepmgnojaaGreatRlb
namespace Go.Proofs.YtiflndepmgnojaaGreat
open Go.RowKit Tryz Go.Deep Go.ChangeShapes Go.WideShapes Go.ChangeAt
set_option linter.unusedSimpArgs false
set_option linter.unusedVariables false
set_option maxHeartbeats 16000000
set_option maxRecDepth 100000
variable {b n m:Nat} {l:List Int} {w w':World} {V:List Value} {e t:TypeId} {z:Int}
structure Sq where
 (kind wait n:Int)
 zD:Sh
structure SqOk (w:World) (S:X4) (s:Sq):Prop where
 kind:0<=s.kind/\s.kind<256
 wait:0<=s.wait/\s.wait<4294967296
 n:U16 s.n
 zD:zW w S s.zD
theorem SqOk.below {S:X4} {s:Sq} (h:SqOk w S s) (hb:bW w w'):SqOk w' S s:=⟨h.kind,h.wait,h.n,h.zD.below hb⟩
structure Lq (W0 w:World) (F:X4) (p k:Nat) (c:Cf) (e:En):Prop where
 eg:Eg W0 w F p e
 ok:dG k e
 cf:e.c=c
section
variable {W0 w w':World} {F S:X4} {p k:Nat} {c:Cf} {e:En}
theorem Lq.below (h:Lq W0 w F p k c e) (hb:bW w w'):Lq W0 w' F p k c e:=⟨h.eg.below hb,h.ok,h.cf⟩
theorem Lq.mono {k':Nat} (h:Lq W0 w F p k c e) (a:k<=k'):Lq W0 w F p k' c e:=⟨h.eg,h.ok.mono a,h.cf⟩
theorem Lq.write (h:Lq W0 w F p k c e) {d:X5} (hb:Bys w S d l) (j:l.length<=b) (m:l.length<=1000000000) (n:dP l):
  Yk 17 #[pT p,.slice d l.length b] w λf w'=>(∃q,f=.returned q)/\∃a,Lq W0 w' a p k c (fU e l).en/\(fU e l).en.now=e.now/\Stp w w' F a:=by
 refine(h.eg.write h.ok hb j m).mono ?_;rintro f w' ⟨o,a,g,i⟩;refine⟨⟨_,o⟩,a,⟨g,CE h.ok n,?_⟩,?_,i⟩
 .rw[<-h.cf];unfold fU;(repeat' split)<;>rfl
 .unfold fU;(repeat' split)<;>rfl
theorem Lq.next (h:Lq W0 w F p k c e) (l:k<=70000000) {now:Int} (b:Word now):
  Yk 19 #[pT p,uI now] w λd w'=>(∃n,d=.returned n)/\∃a,Lq W0 w' a p (k+200) c (WK 200 e now).en/\(WK 200 e now).en.now=max e.now now/\Stp w w' F a:=by
 refine(Qf W0 k F p e now w h.eg h.ok l b).mono ?_;rintro d w' ⟨o,q,a,m,i,j,r⟩;obtain⟨f,g⟩:=IP 199 e now;exact⟨⟨_,m⟩,a,⟨i,Xi 200 k e now h.ok b,f.trans h.cf⟩,g,j⟩
theorem Lq.on (h:Lq W0 w F p k c e) (r:k<=90000000) {now:Int} (g:Word now) {tb:TypeId} {a:X5} {b:List Int} (hb:Byt tb w S a b) (q:b.length<=100000) (f:dP b) (t:tb≠154\/¬S p):
  Yk 20 #[pT p,.slice a b.length n,uI now] w λi w'=>i=.returned (.agg #[jI (lU e b now).ver.kind,jI (lU e b now).ver.why,uI (lU e b now).ver.pn,bV (lU e b now).ver.dU])/\∃d,Lq W0 w' d p (k+1) c (lU e b now).en/\(lU e b now).en.now=max e.now now/\Stp w w' F d:=by
 refine(h.eg.on h.ok r g hb q f t).mono ?_;rintro i w' ⟨s,d,m,o⟩;obtain⟨j,l⟩:=VQ e b now;exact⟨s,d,⟨m,Mo h.ok f g,j.trans h.cf⟩,l,o⟩
theorem Lq.aS (h:Lq W0 w F p k c e):Yk 24 #[pT p] w λa w'=>a=.returned (.agg (stV (cK e)))/\bW w w':=h.eg.aS h.ok
theorem Lq.ledger (h:Lq W0 w F p k c e):
 Yk 22 #[pT p,.agg (cfV c)] w λb w'=>∃a,b=.returned (.agg #[.pointer none,pT a])/\Ka w' a/\bW w w':=Gq W0 k F p e c w h.eg h.ok
theorem Lq.new {tw:TypeId} {f:X4} {a:X5} {words:List Int} (i:lV c) (o:Wot tw w f a words) (q:rG words) (j:words.length<=1000000):
  Yk 15 #[.agg (cfV c),.slice a words.length b] w λl w'=>∃p,l=.returned (.tuple #[pT p,jI 0])/\Lq w w' (λk=>w.heap.size<=k/\k<w'.heap.size) p 0 c (nK c words)/\bW w w':=by
 refine(JH f a b words c w i o j).mono ?_;rintro l w' ⟨p,n,m,g⟩;exact⟨p,n,⟨⟨m,λk d=>d.2,λk d=>d.1,g⟩,JI i q j,rfl⟩,g⟩
end
section
variable {H:Type} {enc:TypeId×Value->H} {w:World} {base:Nat} {spare:Nat->Bool} {held:Bool}
def Dec (enc:TypeId×Value->H) (w:World) (base:Nat) (spare:Nat->Bool) (held:Bool) {c:Type} (t:TypeId) (f:c->List Value) (d:c->Prop):Prop:=
 ∀e b g,DataW.trod enc prog w base spare held e t b=some g->∃a,b=f a/\d a
theorem nG {k:IntKind} (b:prog.underlying t=some (.int k)):Dec enc w base spare held t (λa=>[Value.int k a]) (λa=>(Lit.int k a).wf=true):=by
 intro f e g h;obtain⟨d,rfl,_,c⟩:=DataW.trod_int b h;exact⟨d,rfl,c⟩
theorem PD {z:Type} {f:z->List Value} (j:∀J,(f J).length=m) (o:0<m) (a:Addr) (xs:List z) (h:∀d (e:d<xs.length),w.cells? base (a.add (d*m)) m=some (f xs[d])):
  ∃q,Row w (λI=>I<w.heap.size) q m (some a) xs.length (xs.flatMap f):=by
 have t:∀d i (e:d<xs.length),i<m->w.cell? (a.add (d*m+i))=(f xs[d])[i]?:=by
  intro d i e k;have:=(World.cells?_some (h d e)).2.2 i k
  rwa [Go.Deep.add_add]at this
 by_cases C:xs.length=0
 .have:xs=[]:=by cases xs;rfl;simp at C
  subst this;exact⟨0,Row.WH⟩
 .have c:=t 0 0 oM o
  rw[Nat.zero_mul,Nat.zero_add,show a.add 0=a from rfl]at c;(have r:0<(f (xs[0]'oM)).length:=by rw[j];exact o);rw[aL r]at c;generalize(f (xs[0]'oM))[0]'r=L at c;obtain⟨l,p,y⟩:=a;unfold World.cell? at c;simp only at c;split at c
  .rename_i A q B n
   split at c
   .cases c
   .rename_i G
    (have F:y=none:=by cases y;rfl;simp at G);subst F;refine⟨q,sZ j xs,λ_=>⟨l,p,A,B,rfl,WT n,n,λb K u=>?_⟩⟩;have v:=(List.getElem?_eq_some_iff.1 u).1;rw[sZ j]at v;have e:b/m<xs.length:=Nat.div_lt_of_lt_mul (by rw[Nat.mul_comm];exact v);have k:b%m<m:=Nat.mod_lt _ o;(have x:b/m*m+b%m=b:=by rw[Nat.mul_comm];exact Nat.div_add_mod b m);have s:=mr j xs (b/m) (b%m) e k;rw[x,u]at s;have g:=t (b/m) (b%m) e k;rw[x,<-s]at g;have D:(⟨l,p,none⟩:Addr).add b=⟨l,p+b,none⟩:=by
     unfold Addr.add;split
     .rename_i E;rw[E];rfl
     .rfl
    rw[D]at g;unfold World.cell? at g;simp only[n]at g;simpa using g
  .cases c
theorem tL {j:Type} [Inhabited j] {f:j->List Value} {l:j->Prop} (C:∀x,(f x).length=m) (E:0<m) (G:prog.underlying t=some (.slice e)) (A:prog.cellsOf e=m) (B:Dec enc w base spare held e f l) {x:DataW H×List MemPlace}
  (h:DataW.trod enc prog w base spare held n t V=some x):
  ∃c q,∃i:List j,V=[.slice c i.length q]/\i.length<=q/\(∀a∈i,l a)/\∃K,Row w (λI=>I<w.heap.size) K m c i.length (i.flatMap f):=by
 rcases open_slice G h with⟨rfl,_⟩|⟨c,g,v,J,P,L,M,rfl,_,D,_,F,_,u⟩
 .exact⟨none,0,[],rfl,av _,λa d=>(by cases d),0,Row.WH⟩
 .have O:g<=J:=by rw[F];split<;>omega
  rw[A]at u;obtain⟨o,r⟩:=choose_lt (α:=j) (n:=g) (p:=λb a=>w.cells? base (c.add (b*m)) m=some (f a)/\l a) (λb k=>by
   obtain⟨N,y,z⟩:=u b oM;obtain⟨a,rfl,d⟩:=B _ _ _ z;exact⟨a,y,d⟩)
  have s:((List.range g).map o).length=g:=sM;refine⟨some c,v,(List.range g).map o,by rw[s],by rw[s];exact D,λa d=>?_,?_⟩
  .obtain⟨b,k,rfl⟩:=List.mem_map.1 d
   exact(r b (List.mem_range.1 k)).2
  .refine PD (base:=base) C E c _ (λb k=>?_)
   have:=(r b (by simpa using k)).1;simpa using this
theorem qj {a:Array Field} {x:DataW H×List MemPlace} (j:prog.underlying t=some (.struct a)) (h:DataW.trod enc prog w base spare held n t V=some x) (i:Nat) (f:Field) (b:a[i]?=some f) (u:TypeId) (o m:Nat) (k:f.type=u) (g:f.offset=o) (e:prog.cellsOf u=m):
  ∃n r,DataW.trod enc prog w base spare held n u ((V.drop o).take m)=some r:=by
 obtain⟨q,p,_,_,_,d,l⟩:=DataW.trod_struct j h;have:=l i f b;subst k g e;(have c:i<q.length:=by rw[d];exact(Array.getElem?_eq_some_iff.1 b).1);rw[aL c]at this;exact⟨p,_,this⟩
theorem wf_u32 (h:(Lit.int .u32 z).wf=true):0<=z/\z<4294967296:=by
 simp[Lit.wf,IntKind.min,IntKind.max,IntKind.signed,IntKind.bits]at h;omega
theorem wf_u16 (h:(Lit.int .u16 z).wf=true):0<=z/\z<65536:=by
 simp[Lit.wf,IntKind.min,IntKind.max,IntKind.signed,IntKind.bits]at h;omega
theorem wf_u8 (h:(Lit.int .u8 z).wf=true):0<=z/\z<256:=by
 simp[Lit.wf,IntKind.min,IntKind.max,IntKind.signed,IntKind.bits]at h;omega
theorem wf_u64 (h:(Lit.int .u64 z).wf=true):0<=z/\z<18446744073709551616:=by
 simp[Lit.wf,IntKind.min,IntKind.max,IntKind.signed,IntKind.bits]at h;omega
theorem wf_i64 (h:(Lit.int .i64 z).wf=true): -9223372036854775808<=z/\z<9223372036854775808:=by
 simp[Lit.wf,IntKind.min,IntKind.max,IntKind.signed,IntKind.bits]at h;omega
theorem UC {x:DataW H×List MemPlace} (h:DataW.trod enc prog w base spare held n 22 V=some x):
  ∃b c,∃a:List Int,V=[.slice b a.length c]/\a.length<=c/\U32 a/\∃l,Row w (λa=>a<w.heap.size) l 1 b a.length (a.flatMap u3V):=by
 obtain⟨b,c,m,d,e,g,i⟩:=tL (f:=u3V) (λ_=>rfl) dC Tryz.underlying22 kR (nG (k:=.u32) (t:=50) kR) h;exact⟨b,c,m,d,e,λo j=>wf_u32 (g o j),i⟩
theorem sl_u64 {x:DataW H×List MemPlace} (h:DataW.trod enc prog w base spare held n 23 V=some x):
  ∃b c,∃a:List Int,V=[.slice b a.length c]/\a.length<=c/\rG a/\∃l,Wot l w (λa=>a<w.heap.size) b a:=by
 obtain⟨b,c,m,d,e,g,i⟩:=tL (f:=woV) (λ_=>rfl) dC Tryz.underlying23 kR (nG (k:=.u64) (t:=30) kR) h;exact⟨b,c,m,d,e,λo j=>wf_u64 (g o j),i⟩
theorem sl_by {x:DataW H×List MemPlace} (h:DataW.trod enc prog w base spare held n 47 V=some x):
  ∃b c,∃a:List Int,V=[.slice b a.length c]/\a.length<=c/\dP a/\∃l,Byt l w (λa=>a<w.heap.size) b a:=by
 obtain⟨b,c,m,d,e,g,i⟩:=tL (f:=byV) (λ_=>rfl) dC Tryz.underlying47 kR (nG (k:=.u8) (t:=5) kR) h;exact⟨b,c,m,d,e,λo j=>wf_u8 (g o j),i⟩
instance:Inhabited Sh:=⟨⟨0,none,0,[],0,0,0,0,0,false,0⟩⟩
instance:Inhabited Mv:=⟨⟨0,0,default⟩⟩
instance:Inhabited Sq:=⟨⟨0,0,0,default⟩⟩
theorem list9 {l:List Value} (h:l.length=9):∃a b c d e f g i j,l=[a,b,c,d,e,f,g,i,j]:=by
 match l,h with
 |[a,b,c,d,e,f,g,i,j],_=>exact⟨a,b,c,d,e,f,g,i,j,rfl⟩
theorem JL:Dec enc w base spare held 53 shV (zW w (λl=>l<w.heap.size)):=by
 intro b0 t b7 h;(have E:t.length=9:=by obtain⟨U,l,_,_,B,_⟩:=DataW.trod_struct Tryz.underlying53 h;rw[B];kernel_rfl);obtain⟨Z,a0,a1,a2,a3,a4,a5,a7,a8,rfl⟩:=list9 E;obtain⟨b1,b8,u⟩:=qj Tryz.underlying53 h 0 _ rfl 3 0 1 rfl rfl kR;obtain⟨b2,b9,v⟩:=qj Tryz.underlying53 h 1 _ rfl 47 1 1 rfl rfl kR;obtain⟨b3,c0,x⟩:=qj Tryz.underlying53 h 2 _ rfl 51 2 4 rfl rfl kR;obtain⟨b4,c1,y⟩:=qj Tryz.underlying53 h 3 _ rfl 30 6 1 rfl rfl kR;obtain⟨b5,c2,z⟩:=qj Tryz.underlying53 h 4 _ rfl 4 7 1 rfl rfl kR;obtain⟨b6,c3,A⟩:=qj Tryz.underlying53 h 5 _ rfl 24 8 1 rfl rfl kR;obtain⟨V,b,R⟩:=nG Tryz.underlying3 _ _ _ u;obtain⟨q,s,r,c,D,C,M,F⟩:=sl_by v;obtain⟨W,d,S⟩:=nG Tryz.underlying30 _ _ _ y;obtain⟨X,e,_⟩:=DataW.trod_bool Tryz.underlying4 z;obtain⟨Y,f,T⟩:=nG Tryz.underlying24 _ _ _ A;obtain⟨U,a9,_,_,_,a6,a⟩:=DataW.trod_array Tryz.underlying51 x;(have G:prog.cellsOf 24=1:=by kernel_rfl);rw[G]at a;have m:=a 0 dC;have n:=a 1 dC;have o:=a 2 dC;have p:=a 3 dC;rw[aL oM]at m n o p;obtain⟨I,g,N⟩:=nG Tryz.underlying24 _ _ _ m;obtain⟨J,i,O⟩:=nG Tryz.underlying24 _ _ _ n;obtain⟨K,j,P⟩:=nG Tryz.underlying24 _ _ _ o;obtain⟨L,k,Q⟩:=nG Tryz.underlying24 _ _ _ p;simp at b c d e f g i j k;subst b c d e f g i j k;exact⟨⟨V,q,s,r,I,J,K,L,W,X,Y⟩,rfl,⟨M,F⟩,D,C,wf_u16 N,wf_u16 O,wf_u16 P,wf_u16 Q,wf_u64 S,wf_u16 T,wf_i64 R⟩
theorem dec_mv:Dec enc w base spare held 55 mvV (T9 w (λj=>j<w.heap.size)):=by
 intro v d A h;(have i:d.length=11:=by obtain⟨B,j,_,_,n,_⟩:=DataW.trod_struct Tryz.underlying55 h;rw[n];kernel_rfl);obtain⟨b,c,a,rfl⟩:∃b c a,d=b::c::a:=by
  match d,i with
  |b::c::a,_=>exact⟨b,c,a,rfl⟩
 obtain⟨x,C,k⟩:=qj Tryz.underlying55 h 0 _ rfl 5 0 1 rfl rfl kR;obtain⟨y,D,l⟩:=qj Tryz.underlying55 h 1 _ rfl 50 1 1 rfl rfl kR;obtain⟨z,E,m⟩:=qj Tryz.underlying55 h 2 _ rfl 53 2 9 rfl rfl kR;obtain⟨t,e,r⟩:=nG Tryz.underlying5 _ _ _ k;obtain⟨u,f,s⟩:=nG Tryz.underlying50 _ _ _ l;obtain⟨q,g,p⟩:=JL _ _ _ m;have o:a.take 9=a:=List.take_of_length_le (by simp at i;omega);simp only[List.drop_succ_cons,List.drop_zero,o]at g;simp at e f;subst e f g;exact⟨⟨t,u,q⟩,rfl,wf_u8 r,wf_u32 s,p⟩
theorem U0 {x:DataW H×List MemPlace} (h:DataW.trod enc prog w base spare held n 26 V=some x):
  ∃a:Pl,V=[.slice a.ka a.k.length a.kc,.slice a.wa a.ws.length a.wc,.slice a.aa a.ah.length a.ac,.slice a.ba a.bk.length a.bc,.int .u16 a.delay]/\UL w (λm=>m<w.heap.size) a:=by
 (have F:V.length=5:=by obtain⟨a0,m,_,_,D,_⟩:=DataW.trod_struct Tryz.underlying26 h;rw[D];kernel_rfl);obtain⟨b,c,d,e,f,rfl⟩:∃b c d e f,V=[b,c,d,e,f]:=by
  match V,F with
  |[b,c,d,e,f],_=>exact⟨b,c,d,e,f,rfl⟩
 obtain⟨U,a1,y⟩:=qj Tryz.underlying26 h 0 _ rfl 22 0 1 rfl rfl kR;obtain⟨W,a2,z⟩:=qj Tryz.underlying26 h 1 _ rfl 23 1 1 rfl rfl kR;obtain⟨X,a3,A⟩:=qj Tryz.underlying26 h 2 _ rfl 22 2 1 rfl rfl kR;obtain⟨Y,a4,B⟩:=qj Tryz.underlying26 h 3 _ rfl 22 3 1 rfl rfl kR;obtain⟨Z,a5,C⟩:=qj Tryz.underlying26 h 4 _ rfl 24 4 1 rfl rfl kR;obtain⟨o,s,G,g,R,u0,L⟩:=UC y;obtain⟨p,t,I,i,E,u1,M⟩:=sl_u64 z;obtain⟨q,u,J,j,S,u2,N⟩:=UC A;obtain⟨r,v,K,k,T,u3,O⟩:=UC B;obtain⟨Q,l,P⟩:=nG Tryz.underlying24 _ _ _ C;simp at g i j k l;subst g i j k l;exact⟨⟨o,s,G,p,t,I,q,u,J,r,v,K,Q⟩,rfl,L,u0,M,u1,E,N,u2,O,u3,wf_u16 P⟩
theorem sl_mv {a:X5} {l c:Nat} {x:DataW H×List MemPlace} (h:DataW.trod enc prog w base spare held n 27 [.slice a l c]=some x):
  ∃b:List Mv,l=b.length/\(∀j∈b,T9 w (λd=>d<w.heap.size) j)/\∃k,Row w (λd=>d<w.heap.size) k 11 a b.length (b.flatMap mvV):=by
 obtain⟨o,p,m,e,_,g,i⟩:=tL (f:=mvV) Uo dC Tryz.underlying27 kR dec_mv h;simp at e;obtain⟨rfl,rfl,rfl⟩:=e;exact⟨m,rfl,g,i⟩
end
theorem Uz {x:Wo} {e:Ev} (h:WdX n n 0 0 x) (k:∃c,AkI c x) (d:EvOk e) (b:1<=e.kind/\e.kind<=6) (j:e.kind≠3):
  (e.kind=1->(woRow x).aS.fG<(zz x e).aS.fG->fT (Bc x e).en.dH=fT x.en.dH+(zz x e).aS.fG -(woRow x).aS.fG)/\(e.kind=1->¬(woRow x).aS.fG<(zz x e).aS.fG->fT (Bc x e).en.dH=fT x.en.dH)/\(e.kind≠1->fT (Bc x e).en.dH=fT x.en.dH)
  /\(0<=(zz x e).aS.fG/\(zz x e).aS.fG<=fT (Bc x e).en.dH)/\fT (Bc x e).en.dH -(zz x e).aS.fG<=(zz x e).qm/\(zz x e).qm<=fT (Bc x e).en.dH/\(0<=(woRow x).aS.fG/\(woRow x).aS.fG<=fT x.en.dH)/\fT x.en.dH<=4611686018427387903/\fT (Bc x e).en.dH<=4611686018427387903/\∃c,AkI c (Bc x e):=by
 obtain⟨i,m⟩:=do_end h d b j k;have f:=U6 h d b;have l:=ak_do h d b j k;obtain⟨B,s⟩:=ak_row f l;(have o:zz x e={woRow (Bc x e)with err:=OQ x e}:=by unfold zz;rw[aB b]);rw[o];generalize Bc x e=a at*
 obtain⟨w,y,q,r⟩:=Ju h.en.qu.base0 f.en.qu.base0 h.en.qu.qx f.en.qu.qx;have u:(woRow x).aS.fG=fT x.en.dH -x.en.dH.base:=rfl;have v:({woRow a with err:=OQ x e}:Rw).aS.fG=fT a.en.dH -a.en.dH.base:=rfl;have t:({woRow a with err:=OQ x e}:Rw).qm=yL a.pe:=rfl;(have z:x.en.dH.base<=fT x.en.dH:=by unfold fT;omega);(have A:a.en.dH.base<=fT a.en.dH:=by unfold fT;omega);rw[u,v,t];exact⟨λg p=>by have:=i g;omega,λg p=>by have:=i g;omega,m,oM,oM,s,oM,q,r,l⟩
theorem Ul (S:X4) (q:Pl) (f8:X5) (l4:Nat) (g:List Mv) (w:World) (t:UL w S q) (g5:∀A,S A->A<w.heap.size) (h8:∃m6,Row w S m6 11 f8 g.length (g.flatMap mvV)) (h7:∀b7∈g,T9 w S b7):
  Yk 4 #[.agg (Yi q),.slice f8 g.length l4] w λc8 b8=>c8=.returned (bV true)/\bW w b8:=by
 obtain⟨b2,d8⟩:=eX (fV q.k);(have h9:lV b2:=by rw[d8];exact CS t.ku);obtain⟨f3,n8,j8,k5,k3,k2⟩:=Fy (λO (d7:bW w O)=>t.below d7) h9 d8 g5 h8 h7;obtain⟨c6,b3⟩:=eX (w.alloc (.cells (Yi q) 26));(have g8:bW w c6:=by rw[b3];exact BEL);obtain⟨X,b6⟩:=eX w.heap.size;(have i4:Blk c6 X 26 (Yi q):=by rw[b3,b6];exact Wx _ _ _);obtain⟨c0,c5,f6,M⟩:=Bq g8 i4 b3 b6;clear t h9 d8 g8 i4 b3 g5 h8 h7;go_enter Tryz.func4,Tryz.ntmps4;go_upto_region 1 with fail;rw[<-f6.o,<-b6];clear b6 f6;(go_wp2_with first|(refine kP 26 (.tmp 2) rfl rfl (some 11) rfl X kR (Yi q) c5.o _ Tryz.underlying26 kR kR ?_)|fail);refine(U4 S q c6 (f3.o _ c0.o)).mono ?_;rintro c8 j4 ⟨⟨n,k,m,g1,i8,o5,j3,c9,d0,rfl,h0⟩,g9⟩;have P:=Tq.start (bL:=[(X,26,(Yi q))]) h0 c0.o g9 (f3.o _ (aj _ _)) (λf2 G=>by obtain rfl:=dZ.1 G;exact⟨Nat.le_of_eq M.o.symm,c5.o⟩);rw[<-j8.o]at P;have l:=zH P;have g3:=ak_new b2 (q.ws.take 60) c9 d0 q.delay;have g4:fT (mO b2 (q.ws.take 60) c9 d0 q.delay).en.dH=0:=rfl;generalize mO b2 (q.ws.take 60) c9 d0 q.delay=m9 at*
 clear h0 g9 P c5 M c0;by_cases o0:60<g.length
 .have g2:decide ((60:Int)<(g.length:Int))=true:=bM oM
  go_wp2_with fail;refine Yd (tQ j4) ?_;intro R b4;go_wp2_with fail;refine Yd (tQ R) ?_;intro o9 m2;go_wp2;go_ret;exact⟨rfl,((l.o.below b4).below m2).bel⟩
 have g2:decide ((60:Int)<(g.length:Int))=false:=bJ oM;go_wp2_with fail;refine Yd (tQ j4) ?_;intro R b4;have V:=zH (l.o.below b4);clear b4 l;go_upto_region 5 with fail;go_wp2;go_loopg [6,31] g.length (λH m8 m7 wr=>∃o,m8=uI (fT o.en.dH)/\m7=jI ((g.length:Int) -H)/\H<=g.length/\X3 (Tq w wr ⟨k,m,g1,i8,j3⟩ (g.length -H) o [(n,45,#[pT k,pT m]),(X,26,(Yi q))] [])/\X3 (∃k6,AkI k6 o));(case atStart=>exact⟨m9,by rw[g4],by congr 1;omega,av _,by rw[Nat.sub_self];exact V,zH g3⟩);case round=>
  obtain⟨o,rfl,rfl,n9,P,i6⟩:=hrel;have l:=P;have N:=i6;clear P i6 g3 g4 V;by_cases G:0<gk
  .obtain⟨r,Q⟩:=eX (g.length -gk)
   have h6:(g.length:Int) -gk=(r:Int):=oM;have h5:r<g.length:=oM;have h4:r<=147:=oM;rw[h6];rw[<-Q]at l;have c1:=zH Q;obtain⟨o8,i2⟩:=k3.o;obtain⟨l2,l3,rfl,m1,i0⟩:=UX i2 h5;obtain⟨k4,k1⟩:=yx (λO (d7:bW w O)=>Ag i0 d7 m1) (k2.o _ (aN h5));generalize g[r]=b7 at*
   have l9:decide ((r:Int)<(g.length:Int))=true:=bM oM;have o1:(r:Int)<g.length:=oM;have d3:=zH h4;clear Q h6 i0 i2 g2 h4;go_upto_region 8 with fail;have i1:=k4.o _ l.o.bel;(go_wp2_with first|(refine wpList_load_mid rfl 55 (.tmp 37) rfl l2 (l3+r*11) rfl (mvV b7) _ i1 Tryz.underlying55 kR kR ?_)|fail);refine(l.o.ways k5.o kT b7 k1.o).mono ?_;rintro c8 f0 ⟨⟨b,d,f,j,c,rfl,h2,E⟩,b5⟩;obtain⟨C,f5⟩:=yx h2 E;clear h2 E b5 i1 l;(repeat (go_not_at_region 9;first|(refine iG 49 (.tmp 8) (.tmp 39) rfl rfl rfl f0.heap.size 0 #[jI b,uI d,.slice f c.length j] kR kR ((Wx f0 49 #[jI 0,uI 0,zzN]).there _ sM) kR XF ?_;intro k7 g6;have d5:=f5.o.box #[jI 0,uI 0,zzN] #[jI b,uI d,.slice f c.length j] 49 rfl;rw[<-show k7=_ from g6]at d5;have U:=zH d5;clear g6 d5)|go_values|go_skip|go_guarded|go_step|go_upon|go_back|go_simp));obtain⟨p,d9⟩:=eX f0.heap.size;rw[<-d9]at U;rw[<-d9];clear d9 f5;have i9:=U.o.loc (n,45,#[pT k,pT m]) (jQ _ kT);have g0:=i9.Wu 0;go_wp2_with fail;refine Yd (U.o.row (by have:=d3.o;omega)) ?_;intro R b5;have V:=zH (U.o.below b5);(have h3:∀e9,(Instr.field 41 (.agg (rwV (woRow o))) 0).run prog e9=.ok (.agg (stV (woRow o).aS)) e9:=λe9=>by kernel_rfl);obtain⟨a9,e2⟩:=eX ((woRow o).aS);rw[<-e2]at h3;generalize rwV (woRow o)=o6 at*
   have f4:=zH e2;clear b5 U e2 g0 i9;(repeat (go_not_at_region 10;first|(refine iG 38 (.tmp 9) (.tmp 45) rfl rfl rfl R.heap.size 0 (stV a9) kR kR ((Wx R 38 Ya).there _ (av _)) kR (by simp[stV,Value.oneCell']) ?_;intro W g7;have d6:=V.o.box Ya (stV a9) 38 rfl;rw[<-show W=_ from g7]at d6;have c3:=zH d6;clear g7 d6)|go_values|go_skip|go_guarded|go_step|go_upon|go_back|go_simp));obtain⟨f9,e0⟩:=eX R.heap.size;rw[<-e0]at c3;rw[<-e0];clear e0 V h3;have h1:bW W W.drew:=bA (aj _ _);have J:=zH (c3.o.below h1);have K:Blk W.drew n 45 #[pT k,pT m]/\Blk W.drew p 49 #[jI b,uI d,.slice f c.length j]:=⟨J.o.loc (n,45,#[pT k,pT m]) (jQ _ (jQ _ kT)),J.o.loc (p,49,#[jI b,uI d,.slice f c.length j]) (jQ _ kT)⟩;clear h1 c3;refine' uf (F:=_) (λz O=>X3 (Tq w O ⟨k,m,g1,i8,j3⟩ (r+1) (Bc o ⟨b,d,c⟩) ((z,41,rwV (zz o ⟨b,d,c⟩))::[(f9,38,stV a9),(p,49,#[jI b,uI d,.slice f c.length j]),(n,45,#[pT k,pT m]),(X,26,(Yi q))]) [])) ?tl (λf7=>?mn);case mn=>
    refine aZ (S:=λb8=>Blk b8 n 45 #[pT k,pT m]/\Blk b8 p 49 #[jI b,uI d,.slice f c.length j]) kR K (λm0=>?_);clear m0;refine tK 0 46 K ?_;refine tK 1 47 K ?_;refine tK 2 48 K ?_;refine X6 3 49 K ?_ (y:=by intro w d4;have o7:w.cell? ⟨n,0,none⟩=_:=d4.1.cell 0;exact gS);refine iL (v:=.agg #[jI b,uI d,.slice f c.length j]) 4 (some 50) rfl kR kR kR kR (λ_ _ _ h=>h) (lH 49 (.tmp 8) rfl rfl p kR #[jI b,uI d,.slice f c.length j] (λw d4=>d4.2) _ Tryz.underlying49 kR kR) K ?_;(try simp only[Act.put,List.setIfInBounds_toArray,List.set_cons_zero,List.set_cons_succ]);refine nrm 8 31 ?_;refine fo 5 6 kR ?_ ?_
    .refine opC 51 11 #[pT k,.agg #[jI b,uI d,.slice f c.length j]] ((J.o.doIt (kind:=b) (a:=f) kT C.o (by have:=d3.o;omega)).mono ?_)
     rintro l8 b0 ⟨a6,E⟩;have D:=zH E;have e3:Blk b0 n 45 #[pT k,pT m]/\Blk b0 p 49 #[jI b,uI d,.slice f c.length j]:=⟨D.o.loc (n,45,#[pT k,pT m]) (jQ _ (jQ _ kT)),D.o.loc (p,49,#[jI b,uI d,.slice f c.length j]) (jQ _ kT)⟩;refine⟨_,a6,e3,?_⟩;clear a6 E;(try simp only[Act.put,List.setIfInBounds_toArray,List.set_cons_zero,List.set_cons_succ]);refine aI 6 kR ?_;refine fA (op:=_) rfl kR (some 10) kR 41 kR Yj kR ?_;intro z b1 a3 t a5;have x:=zH (D.o.new a3 t a5);have e4:Blk b1 n 45 #[pT k,pT m]/\Blk b1 p 49 #[jI b,uI d,.slice f c.length j]:=⟨x.o.loc (n,45,#[pT k,pT m]) (jQ _ (jQ _ (jQ _ kT))),x.o.loc (p,49,#[jI b,uI d,.slice f c.length j]) (jQ _ (jQ _ kT))⟩;have c2:=zH (D.o.ne t);refine⟨e4,?_⟩;clear a3 t a5;(try simp only[Act.put,List.setIfInBounds_toArray,List.set_cons_zero,List.set_cons_succ]);obtain⟨Z,a0,a1,a2⟩:=c2.o;have u:=x.o.gF (cs':=rwV (zz o ⟨b,d,c⟩)) Z a0 a1 a2 rfl;have a8:=x.o.loc _ kT;refine dJ (i:=7) 41 (.tmp 10) (.tmp 51) z 0 (rwV (zz o ⟨b,d,c⟩)) rfl kR kR kR kR kR kR (a8.there _ (av _)) kR (by simp[rwV,Value.oneCell']) (⟨u.loc (n,45,#[pT k,pT m]) (jQ _ (jQ _ (jQ _ kT))),u.loc (p,49,#[jI b,uI d,.slice f c.length j]) (jQ _ (jQ _ kT))⟩) ?_;intro c7 a4;rw[<-show c7=_ from a4]at u;have c4:=zH u;clear u a8 a4 Z a0 a1 a2;(try simp only[Act.put,List.setIfInBounds_toArray,List.set_cons_zero,List.set_cons_succ]);refine bg kR ?_ _;exact f7 z _ c4
    .refine fA (op:=_) rfl kR (some 10) kR 41 kR Yj kR ?_
     intro z b0 a3 t a5;have D:=zH (J.o.new a3 t a5);have e3:Blk b0 n 45 #[pT k,pT m]/\Blk b0 p 49 #[jI b,uI d,.slice f c.length j]:=⟨D.o.loc (n,45,#[pT k,pT m]) (jQ _ (jQ _ (jQ _ kT))),D.o.loc (p,49,#[jI b,uI d,.slice f c.length j]) (jQ _ (jQ _ kT))⟩;have c2:=zH (J.o.ne t);refine⟨e3,?_⟩;clear a3 t a5;(try simp only[Act.put,List.setIfInBounds_toArray,List.set_cons_zero,List.set_cons_succ]);refine aI 5 kR ?_;refine opC 51 11 #[pT k,.agg #[jI b,uI d,.slice f c.length j]] ((D.o.doIt (kind:=b) (a:=f) kT C.o (by have:=d3.o;omega)).mono ?_);rintro l8 b1 ⟨a6,E⟩;have x:=zH E;have e4:Blk b1 n 45 #[pT k,pT m]/\Blk b1 p 49 #[jI b,uI d,.slice f c.length j]:=⟨x.o.loc (n,45,#[pT k,pT m]) (jQ _ (jQ _ (jQ _ kT))),x.o.loc (p,49,#[jI b,uI d,.slice f c.length j]) (jQ _ (jQ _ kT))⟩;refine⟨_,a6,e4,?_⟩;clear a6 E;(try simp only[Act.put,List.setIfInBounds_toArray,List.set_cons_zero,List.set_cons_succ]);obtain⟨Z,a0,a1,a2⟩:=c2.o;have u:=x.o.gF (cs':=rwV (zz o ⟨b,d,c⟩)) Z a0 a1 a2 rfl;have a8:=x.o.loc _ kT;refine dJ (i:=7) 41 (.tmp 10) (.tmp 51) z 0 (rwV (zz o ⟨b,d,c⟩)) rfl kR kR kR kR kR kR (a8.there _ (av _)) kR (by simp[rwV,Value.oneCell']) (⟨u.loc (n,45,#[pT k,pT m]) (jQ _ (jQ _ (jQ _ kT))),u.loc (p,49,#[jI b,uI d,.slice f c.length j]) (jQ _ (jQ _ kT))⟩) ?_;intro c7 a4;rw[<-show c7=_ from a4]at u;have c4:=zH u;clear u a8 a4 Z a0 a1 a2;(try simp only[Act.put,List.setIfInBounds_toArray,List.set_cons_zero,List.set_cons_succ]);refine bg kR ?_ _;exact f7 z _ c4
   case tl=>
    intro z O l;have a7:=Uz (e:=⟨b,d,c⟩) J.o.wd N.o ⟨C.o.by_,C.o.hn.1⟩ C.o.hk (C.o.hh rfl);have k0:=zH C.o.hk;rw[<-f4.o]at a7;obtain⟨f1,e7⟩:=eX (zz o ⟨b,d,c⟩);rw[<-e7]at l a7;obtain⟨b9,i3⟩:=eX (Bc o ⟨b,d,c⟩);rw[<-i3]at l a7;rw[<-e7];clear e7 i3 J N K C f4;have e8:=l.o.loc (z,41,rwV f1) kT;have j1:=l.o.loc (f9,38,stV a9) (jQ _ kT);have j0:=l.o.loc (p,49,#[jI b,uI d,.slice f c.length j]) (jQ _ (jQ _ kT));have g0:=j0.Wu 0;have l5:=j1.Wu 9;obtain⟨l6,l7⟩:=e8.e2 9 20;obtain⟨I,d1⟩:=eX (fT o.en.dH);obtain⟨B,d2⟩:=eX (fT b9.en.dH);obtain⟨T,e6⟩:=eX a9.fG;obtain⟨s,e5⟩:=eX f1.aS.fG;obtain⟨j2,e1⟩:=eX f1.qm;rw[<-d1,<-d2,<-e6,<-e5,<-e1]at a7;rw[<-d1];rw[<-e6]at l5;rw[<-e5]at l6;rw[<-e1]at l7;have M:=zH d2;clear d1 d2 e6 e5 e1 e8 j1 j0;obtain⟨j5,j6,j7,⟨n2,n3⟩,n4,n5,⟨n6,n7⟩,n0,n1,i5⟩:=a7;have N:=zH i5;have m5:=k0.o;have o2:IntKind.i64.wrap ((r:Int)+1)=(r:Int)+1:=eP _ ⟨oM,oM⟩;have k8:decide (B<s)=false:=bJ oM;have k9:IntKind.u64.wrap (B -s)=B -s:=Wz _ ⟨oM,oM⟩;have l0:decide (j2<B -s)=false:=bJ oM;have l1:decide (B<j2)=false:=bJ oM;have m3:(((b==1)=true/\decide (T<s)=true)/\B=I+s -T/\IntKind.u64.wrap (I+s)=I+s/\IntKind.u64.wrap (I+s -T)=I+s -T)\/((b==1)=true/\decide (T<s)=false)/\B=I\/(b==1)=false/\B=I:=by
     by_cases A:b=1
     .by_cases H:T<s
      .have:=j5 A H;exact .inl ⟨⟨by simp[A],bM H⟩,this,Wz _ ⟨oM,oM⟩,Wz _ ⟨oM,oM⟩⟩
      .exact .inr (.inl ⟨⟨by simp[A],bJ H⟩,j6 A H⟩)
     .exact .inr (.inr ⟨by simp[A],j7 A⟩)
    clear j5 j6 j7 n2 n3 n4 n5 n6 n7 n0 n1 i5 m5;rcases m3 with⟨⟨i7,m4⟩,L,o3,o4⟩|⟨⟨i7,m4⟩,L⟩|⟨i7,L⟩
    .rw[L]at k8 k9 l0 l1
     have j9:=zH L;clear L;go_wp2;go_roundg (gk -1);(case measure=>omega);case rel=>
      have Q:=c1.o;have Y:g.length -(gk -1)=r+1:=oM;exact⟨b9,by rw[<-M.o,j9.o],by congr 1;omega,oM,by rw[Y];exact zH (l.o.sub (λf2 G=>jQ _ (jQ _ (jQ _ G)))),N⟩
    .subst L
     go_wp2;go_roundg (gk -1);(case measure=>omega);case rel=>
      have Q:=c1.o;have Y:g.length -(gk -1)=r+1:=oM;exact⟨b9,by rw[<-M.o],by congr 1;omega,oM,by rw[Y];exact zH (l.o.sub (λf2 G=>jQ _ (jQ _ (jQ _ G)))),N⟩
    .subst L
     go_wp2;go_roundg (gk -1);(case measure=>omega);case rel=>
      have Q:=c1.o;have Y:g.length -(gk -1)=r+1:=oM;exact⟨b9,by rw[<-M.o],by congr 1;omega,oM,by rw[Y];exact zH (l.o.sub (λf2 G=>jQ _ (jQ _ (jQ _ G)))),N⟩
  .have l9:decide ((g.length:Int) -gk<(g.length:Int))=false:=bJ oM
   go_wp2;go_ret;exact⟨rfl,l.o.bel⟩
theorem Ua {H:Type} {enc:TypeId×Value->H} {base:Nat} (c:Value) (j:DataW H) (w:List MemPlace) (d:Value) (k:DataW H) (x:List MemPlace) (a:World) (u:Value.okWide prog a .any base 26 c) (r:DataW.Trod enc prog a 0 (λ_=>true) true 26 c j w) (v:Value.okWide prog a .any base 27 d) (s:DataW.Trod enc prog a 0 (λ_=>true) true 27 d k x):
  Yk 4 #[c,d] a λb y=>b=.returned (bV true)/\bW a y:=by
 obtain⟨e,rfl,-⟩:=okWide_struct Tryz.underlying26 u;obtain⟨z,m⟩:=r;obtain⟨f,b,q⟩:=U0 m;obtain⟨A,n⟩:=s;obtain⟨g,B,i,rfl⟩:=okWide_slice Tryz.underlying27 v;obtain⟨t,rfl,o,p⟩:=sl_mv n;(have l:e=(Yi f):=by cases e;simpa[Value.cells]using b);subst l;exact Ul _ f g i t a q (λ_ h=>h) p o
end Go.Proofs.YtiflndepmgnojaaGreat
