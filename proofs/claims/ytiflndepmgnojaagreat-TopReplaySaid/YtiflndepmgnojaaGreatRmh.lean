import Derived.Laws.BytesArg
import Derived.ProofKit
import Derived.OpenShut
import Derived.Deep.Slices
import Derived.Test.YtiflndepmgnojaaGreatRle
namespace Go.Proofs.YtiflndepmgnojaaGreat
open Go.RowKit Go.Deep
set_option linter.unusedSimpArgs false
set_option linter.unusedVariables false
set_option maxRecDepth 100000
section
variable {H:Type} {enc:TypeId×Value->H} {w:World} {base:Nat} {spare:Nat->Bool} {held:Bool}
def Dec (enc:TypeId×Value->H) (w:World) (base:Nat) (spare:Nat->Bool) (held:Bool) {c:Type} (t:TypeId) (f:c->List Value) (d:c->Prop):Prop:=
 ∀e b g,DataW.trod enc Tryz.prog w base spare held e t b=some g->∃a,b=f a/\d a
theorem nG {k:IntKind} {t:TypeId} (b:Tryz.prog.underlying t=some (.int k)):Dec enc w base spare held t (λa=>[Value.int k a]) (λa=>(Lit.int k a).wf=true):=by
 intro f e g h;obtain⟨d,rfl,_,c⟩:=DataW.trod_int b h;exact⟨d,rfl,c⟩
theorem PD {z:Type} {f:z->List Value} {m:Nat} (j:∀J,(f J).length=m) (o:0<m) (a:Addr) (xs:List z) (h:∀d (e:d<xs.length),w.cells? base (a.add (d*m)) m=some (f xs[d])):
  ∃q,Row w (λI=>I<w.heap.size) q m (some a) xs.length (xs.flatMap f):=by
 have t:∀d i (e:d<xs.length),i<m->w.cell? (a.add (d*m+i))=(f xs[d])[i]?:=by
  intro d i e k;have:=(World.cells?_some (h d e)).2.2 i k
  rwa [Go.Deep.add_add]at this
 by_cases C:xs.length=0
 ·have:xs=[]:=by cases xs;rfl;simp at C
  subst this;exact⟨0,Row.WH⟩
 ·have c:=t 0 0 oM o
  rw[Nat.zero_mul,Nat.zero_add,show a.add 0=a from rfl]at c;(have r:0<(f (xs[0]'oM)).length:=by rw[j];exact o);rw[aL r]at c;generalize(f (xs[0]'oM))[0]'r=L at c;obtain⟨l,p,y⟩:=a;unfold World.cell? at c;simp only at c;split at c
  ·rename_i A q B n
   split at c
   ·cases c
   ·rename_i G
    (have F:y=none:=by cases y;rfl;simp at G);subst F;refine⟨q,sZ j xs,λ_=>⟨l,p,A,B,rfl,WT n,n,λb K u=>?_⟩⟩;have v:=(List.getElem?_eq_some_iff.1 u).1;rw[sZ j]at v;have e:b/m<xs.length:=Nat.div_lt_of_lt_mul (by rw[Nat.mul_comm];exact v);have k:b%m<m:=Nat.mod_lt _ o;(have x:b/m*m+b%m=b:=by rw[Nat.mul_comm];exact Nat.div_add_mod b m);have s:=mr j xs (b/m) (b%m) e k;rw[x,u]at s;have g:=t (b/m) (b%m) e k;rw[x,<-s]at g;have D:(⟨l,p,none⟩:Addr).add b=⟨l,p+b,none⟩:=by
     unfold Addr.add;split
     ·rename_i E;rw[E];rfl
     ·rfl
    rw[D]at g;unfold World.cell? at g;simp only[n]at g;simpa using g
  ·cases c
theorem tL {j:Type} [Inhabited j] {t e:TypeId} {m:Nat} {f:j->List Value} {l:j->Prop} (D:∀x,(f x).length=m) (F:0<m) (I:Tryz.prog.underlying t=some (.slice e)) (B:Tryz.prog.cellsOf e=m) (C:Dec enc w base spare held e f l) {n:Nat} {r:List Value} {x:DataW H×List MemPlace}
  (h:DataW.trod enc Tryz.prog w base spare held n t r=some x):
  ∃c q,∃i:List j,r=[.slice c i.length q]/\i.length<=q/\(∀a∈i,l a)/\∃L,Row w (λJ=>J<w.heap.size) L m c i.length (i.flatMap f):=by
 rcases open_slice I h with⟨rfl,_⟩|⟨c,g,y,K,Q,M,N,rfl,_,E,_,G,_,v⟩
 ·exact⟨none,0,[],rfl,av _,λa d=>(by cases d),0,Row.WH⟩
 ·have P:g<=K:=by rw[G];split<;>omega
  rw[B]at v;obtain⟨o,s⟩:=choose_lt (α:=j) (n:=g) (p:=λb a=>w.cells? base (c.add (b*m)) m=some (f a)/\l a) (λb k=>by
   obtain⟨O,z,A⟩:=v b oM;obtain⟨a,rfl,d⟩:=C _ _ _ A;exact⟨a,z,d⟩)
  have u:((List.range g).map o).length=g:=sM;refine⟨some c,y,(List.range g).map o,by rw[u],by rw[u];exact E,λa d=>?_,?_⟩
  ·obtain⟨b,k,rfl⟩:=List.mem_map.1 d
   exact(s b (List.mem_range.1 k)).2
  ·refine PD (base:=base) D F c _ (λb k=>?_)
   have:=(s b (by simpa using k)).1;simpa using this
theorem qj {t:TypeId} {b:Array Field} {n:Nat} {a:List Value} {x:DataW H×List MemPlace} (k:Tryz.prog.underlying t=some (.struct b)) (h:DataW.trod enc Tryz.prog w base spare held n t a=some x) (i:Nat) (f:Field) (c:b[i]?=some f) (u:TypeId) (o m:Nat) (l:f.type=u) (j:f.offset=o) (g:Tryz.prog.cellsOf u=m):
  ∃n s,DataW.trod enc Tryz.prog w base spare held n u ((a.drop o).take m)=some s:=by
 obtain⟨r,q,_,_,_,e,p⟩:=DataW.trod_struct k h;have:=p i f c;subst l j g;(have d:i<r.length:=by rw[e];exact(Array.getElem?_eq_some_iff.1 c).1);rw[aL d]at this;exact⟨q,_,this⟩
theorem wf_u32 {z:Int} (h:(Lit.int .u32 z).wf=true):0<=z/\z<4294967296:=by
 simp[Lit.wf,IntKind.min,IntKind.max,IntKind.signed,IntKind.bits]at h;omega
theorem wf_u16 {z:Int} (h:(Lit.int .u16 z).wf=true):0<=z/\z<65536:=by
 simp[Lit.wf,IntKind.min,IntKind.max,IntKind.signed,IntKind.bits]at h;omega
theorem wf_u8 {z:Int} (h:(Lit.int .u8 z).wf=true):0<=z/\z<256:=by
 simp[Lit.wf,IntKind.min,IntKind.max,IntKind.signed,IntKind.bits]at h;omega
theorem wf_u64 {z:Int} (h:(Lit.int .u64 z).wf=true):0<=z/\z<18446744073709551616:=by
 simp[Lit.wf,IntKind.min,IntKind.max,IntKind.signed,IntKind.bits]at h;omega
theorem wf_i64 {z:Int} (h:(Lit.int .i64 z).wf=true): -9223372036854775808<=z/\z<9223372036854775808:=by
 simp[Lit.wf,IntKind.min,IntKind.max,IntKind.signed,IntKind.bits]at h;omega
theorem UC {n:Nat} {d:List Value} {x:DataW H×List MemPlace} (h:DataW.trod enc Tryz.prog w base spare held n 22 d=some x):
  ∃b c,∃a:List Int,d=[.slice b a.length c]/\a.length<=c/\U32 a/\∃m,Row w (λa=>a<w.heap.size) m 1 b a.length (a.flatMap u3V):=by
 obtain⟨b,c,o,e,g,i,j⟩:=tL (f:=u3V) (λ_=>rfl) dC Tryz.underlying22 kR (nG (k:=.u32) (t:=50) kR) h;exact⟨b,c,o,e,g,λp l=>wf_u32 (i p l),j⟩
theorem sl_u64 {n:Nat} {d:List Value} {x:DataW H×List MemPlace} (h:DataW.trod enc Tryz.prog w base spare held n 23 d=some x):
  ∃b c,∃a:List Int,d=[.slice b a.length c]/\a.length<=c/\rG a/\∃m,Wot m w (λa=>a<w.heap.size) b a:=by
 obtain⟨b,c,o,e,g,i,j⟩:=tL (f:=woV) (λ_=>rfl) dC Tryz.underlying23 kR (nG (k:=.u64) (t:=30) kR) h;exact⟨b,c,o,e,g,λp l=>wf_u64 (i p l),j⟩
theorem sl_by {n:Nat} {d:List Value} {x:DataW H×List MemPlace} (h:DataW.trod enc Tryz.prog w base spare held n 47 d=some x):
  ∃b c,∃a:List Int,d=[.slice b a.length c]/\a.length<=c/\dP a/\∃m,Byt m w (λa=>a<w.heap.size) b a:=by
 obtain⟨b,c,o,e,g,i,j⟩:=tL (f:=byV) (λ_=>rfl) dC Tryz.underlying47 kR (nG (k:=.u8) (t:=5) kR) h;exact⟨b,c,o,e,g,λp l=>wf_u8 (i p l),j⟩
instance:Inhabited Sh:=⟨⟨0,none,0,[],0,0,0,0,0,false,0⟩⟩
instance:Inhabited Mv:=⟨⟨0,0,default⟩⟩
instance:Inhabited Sq:=⟨⟨0,0,0,default⟩⟩
theorem list9 {l:List Value} (h:l.length=9):∃a b c d e f g i j,l=[a,b,c,d,e,f,g,i,j]:=by
 match l,h with
 |[a,b,c,d,e,f,g,i,j],_=>exact⟨a,b,c,d,e,f,g,i,j,rfl⟩
theorem JL:Dec enc w base spare held 53 shV (zW w (λl=>l<w.heap.size)):=by
 intro b0 t b7 h;(have E:t.length=9:=by obtain⟨U,l,_,_,B,_⟩:=DataW.trod_struct Tryz.underlying53 h;rw[B];kernel_rfl);obtain⟨Z,a0,a1,a2,a3,a4,a5,a7,a8,rfl⟩:=list9 E;obtain⟨b1,b8,u⟩:=qj Tryz.underlying53 h 0 _ rfl 3 0 1 rfl rfl kR;obtain⟨b2,b9,v⟩:=qj Tryz.underlying53 h 1 _ rfl 47 1 1 rfl rfl kR;obtain⟨b3,c0,x⟩:=qj Tryz.underlying53 h 2 _ rfl 51 2 4 rfl rfl kR;obtain⟨b4,c1,y⟩:=qj Tryz.underlying53 h 3 _ rfl 30 6 1 rfl rfl kR;obtain⟨b5,c2,z⟩:=qj Tryz.underlying53 h 4 _ rfl 4 7 1 rfl rfl kR;obtain⟨b6,c3,A⟩:=qj Tryz.underlying53 h 5 _ rfl 24 8 1 rfl rfl kR;obtain⟨V,b,R⟩:=nG Tryz.underlying3 _ _ _ u;obtain⟨q,s,r,c,D,C,M,F⟩:=sl_by v;obtain⟨W,d,S⟩:=nG Tryz.underlying30 _ _ _ y;obtain⟨X,e,_⟩:=DataW.trod_bool Tryz.underlying4 z;obtain⟨Y,f,T⟩:=nG Tryz.underlying24 _ _ _ A;obtain⟨U,a9,_,_,_,a6,a⟩:=DataW.trod_array Tryz.underlying51 x;(have G:Tryz.prog.cellsOf 24=1:=by kernel_rfl);rw[G]at a;have m:=a 0 dC;have n:=a 1 dC;have o:=a 2 dC;have p:=a 3 dC;rw[aL oM]at m n o p;obtain⟨I,g,N⟩:=nG Tryz.underlying24 _ _ _ m;obtain⟨J,i,O⟩:=nG Tryz.underlying24 _ _ _ n;obtain⟨K,j,P⟩:=nG Tryz.underlying24 _ _ _ o;obtain⟨L,k,Q⟩:=nG Tryz.underlying24 _ _ _ p;simp at b c d e f g i j k;subst b c d e f g i j k;exact⟨⟨V,q,s,r,I,J,K,L,W,X,Y⟩,rfl,⟨M,F⟩,D,C,wf_u16 N,wf_u16 O,wf_u16 P,wf_u16 Q,wf_u64 S,wf_u16 T,wf_i64 R⟩
theorem dec_sq:Dec enc w base spare held 67 sqV (SqOk w (λl=>l<w.heap.size)):=by
 intro B e G h;(have k:e.length=12:=by obtain⟨I,l,_,_,q,_⟩:=DataW.trod_struct Tryz.underlying67 h;rw[q];kernel_rfl);obtain⟨b,c,d,a,rfl⟩:∃b c d a,e=b::c::d::a:=by
  match e,k with
  |b::c::d::a,_=>exact⟨b,c,d,a,rfl⟩
 obtain⟨C,J,m⟩:=qj Tryz.underlying67 h 0 _ rfl 5 0 1 rfl rfl kR;obtain⟨D,K,n⟩:=qj Tryz.underlying67 h 1 _ rfl 50 1 1 rfl rfl kR;obtain⟨E,L,o⟩:=qj Tryz.underlying67 h 2 _ rfl 24 2 1 rfl rfl kR;obtain⟨F,M,p⟩:=qj Tryz.underlying67 h 3 _ rfl 53 3 9 rfl rfl kR;obtain⟨y,f,u⟩:=nG Tryz.underlying5 _ _ _ m;obtain⟨z,g,v⟩:=nG Tryz.underlying50 _ _ _ n;obtain⟨A,i,x⟩:=nG Tryz.underlying24 _ _ _ o;obtain⟨t,j,s⟩:=JL _ _ _ p;have r:a.take 9=a:=List.take_of_length_le (by simp at k;omega);simp only[List.drop_succ_cons,List.drop_zero,r]at j;simp at f g i;subst f g i j;exact⟨⟨y,z,A,t⟩,rfl,wf_u8 u,wf_u32 v,wf_u16 x,s⟩
theorem sl_sq {n:Nat} {a:Option Addr} {l c:Nat} {x:DataW H×List MemPlace} (h:DataW.trod enc Tryz.prog w base spare held n 60 [.slice a l c]=some x):
  ∃b:List Sq,l=b.length/\(∀j∈b,SqOk w (λd=>d<w.heap.size) j)/\∃k,Row w (λd=>d<w.heap.size) k 12 a b.length (b.flatMap sqV):=by
 obtain⟨o,p,m,e,_,g,i⟩:=tL (f:=sqV) Xy dC Tryz.underlying60 kR dec_sq h;simp at e;obtain⟨rfl,rfl,rfl⟩:=e;exact⟨m,rfl,g,i⟩
theorem sl_sh {n:Nat} {a:Option Addr} {l c:Nat} {x:DataW H×List MemPlace} (h:DataW.trod enc Tryz.prog w base spare held n 61 [.slice a l c]=some x):
  ∃b:List Sh,l=b.length/\(∀j∈b,zW w (λd=>d<w.heap.size) j)/\∃k,Row w (λd=>d<w.heap.size) k 9 a b.length (b.flatMap shV):=by
 obtain⟨o,p,m,e,_,g,i⟩:=tL (f:=shV) LX dC Tryz.underlying61 kR JL h;simp at e;obtain⟨rfl,rfl,rfl⟩:=e;exact⟨m,rfl,g,i⟩
theorem sl_k {n:Nat} {a:Option Addr} {l c:Nat} {x:DataW H×List MemPlace} (h:DataW.trod enc Tryz.prog w base spare held n 22 [.slice a l c]=some x):
  ∃b:List Int,l=b.length/\U32 b/\∃g,Row w (λb=>b<w.heap.size) g 1 a b.length (b.flatMap u3V):=by
 obtain⟨j,k,i,d,_,e,f⟩:=UC h;simp at d;obtain⟨rfl,rfl,rfl⟩:=d;exact⟨i,rfl,e,f⟩
theorem sl_w {n:Nat} {a:Option Addr} {l c:Nat} {x:DataW H×List MemPlace} (h:DataW.trod enc Tryz.prog w base spare held n 23 [.slice a l c]=some x):
  ∃b:List Int,l=b.length/\b.length<=c/\rG b/\∃i,Wot i w (λb=>b<w.heap.size) a b:=by
 obtain⟨k,m,j,d,e,f,g⟩:=sl_u64 h;simp at d;obtain⟨rfl,rfl,rfl⟩:=d;exact⟨j,rfl,e,f,g⟩
end
end Go.Proofs.YtiflndepmgnojaaGreat
namespace Go.Proofs.YtiflndepmgnojaaGreat
open Go.RowKit Go.ChangeShapes Go.WideShapes Go.ChangeAt
set_option linter.unusedSimpArgs false
set_option linter.unusedVariables false
set_option maxHeartbeats 16000000
set_option maxRecDepth 100000
theorem Tc (S I:Nat->Prop) (a b:Option Addr) (c d:Nat) (e:List Se) (w:World) (h:Ses w S a e) (j:Ses w I b e) (V:e.length<=1000000000):
  Calls Tryz.prog 26 #[.slice a e.length c,.slice b e.length d] w λJ M=>J=.returned (bV true)/\bW w M:=by
 have F:=zH h;have G:=zH j;clear h j;go_enter Tryz.func26,Tryz.ntmps26;go_wp2_with fail;go_loopg [5] e.length (λn L wr=>L=jI ((e.length:Int) -n)/\n<=e.length/\Hid (bW w wr));(case atStart=>exact⟨by congr 1;omega,av _,zH (aj _ _)⟩);case round=>
  obtain⟨rfl,U,g⟩:=hrel;by_cases W:0<gk
  ·have i:decide ((e.length:Int) -gk<e.length)=true:=bM oM
   go_upto_region 6 with fail;obtain⟨f,k⟩:=eX (e.length -gk);have m:(e.length:Int) -gk=(f:Int):=oM;have l:f<e.length:=oM;obtain⟨O,a0,rfl,R,o,p,q,r,s,t,u,v⟩:=Ses.at_ F.out g.out l;obtain⟨P,a1,rfl,T,x,y,z,A,B,C,D,E⟩:=Ses.at_ G.out g.out l;generalize e[f]=K at o p q r s t u v x y z A B C D E;obtain⟨a2,a5,Z,Q,a4,a3,a6,N⟩:=K;dsimp only at o p q r s t u v x y z A B C D E;rw[m];have H:=zH k;have X:(f:Int)<e.length:=oM;have Y:IntKind.i64.wrap ((f:Int)+1)=(f:Int)+1:=eP _ ⟨oM,oM⟩;clear k m i;refine mQ ?_;rintro _ ⟨nq,rfl⟩;go_wp2_with fail;go_roundg (gk -1);(case measure=>omega);case rel=>have:=H.out;exact⟨by congr 1;omega,oM,zH (aA g.out _)⟩
  ·have i:decide ((e.length:Int) -gk<e.length)=false:=bJ oM
   go_wp2_with fail;go_ret;exact⟨rfl,g.out⟩
theorem Tx {P:Program} {ops:Array Oper} {op:Oper} {i:Nat} {a:Act} {w:World} {Q:Exit->Act->World->Prop} {K:Act->World->Prop} (m:ops[i]?=some op) (p:Region.wanted op (yielded ops a.tmps)=true) (d:Option Tmp) (j:op.dst=d) (f:FuncId) (args:Array Value) (o:(execOp a.eval op).run P w=.ok (.enter f args) w)
  (h:Calls P f args w λg w'=>∃e,g=.returned e/\K (a.put d e) w'):wpOp P ops Q i K a w:=by
 subst j;unfold wpOp;simp only[m,p,if_true];refine .inl ?_;unfold Oper.wp;rw[o,Oper.upon_enter];refine h.mono λg q l=>?_;obtain⟨e,rfl,n⟩:=l;exact n
abbrev Bb:=List (TypeId×Option Addr×List Int)
structure DqF (W0 w:World) (p1 p2:Nat) (a b:En) (bL:Bl) (bo:Bb) (F1 F2:Nat->Prop):Prop where
 e1:Eg W0 w F1 p1 a
 e2:Eg W0 w F2 p2 b
 dis:∀k,F1 k->¬F2 k
 bl:∀z∈bL,¬F1 z.1/\¬F2 z.1
 by_:∀z∈bo,Byt z.1 w (λk=>¬F1 k/\¬F2 k/\k<w.heap.size) z.2.1 z.2.2
 loc:∀z∈bL,Blk w z.1 z.2.1 z.2.2
def Dq (W0 w:World) (p1 p2:Nat) (a b:En) (bL:Bl) (bo:Bb):Prop:=∃F1 F2,DqF W0 w p1 p2 a b bL bo F1 F2
section
variable {W0 w w':World} {p1 p2 k:Nat} {a b a' b':En} {bL bL':Bl} {bo:Bb} {c:Cf} {F1 F2 F1':Nat->Prop}
theorem Dq.low (h:Dq W0 w p1 p2 a b bL bo):bW W0 w:=by obtain⟨F1,F2,h⟩:=h;exact h.e1.bl
theorem Dq.loc (h:Dq W0 w p1 p2 a b bL bo):∀d∈bL,Blk w d.1 d.2.1 d.2.2:=by obtain⟨F1,F2,h⟩:=h;exact h.loc
theorem Dq.swap (h:Dq W0 w p1 p2 a b bL bo):Dq W0 w p2 p1 b a bL bo:=by
 obtain⟨F1,F2,h⟩:=h;exact⟨F2,F1,h.e2,h.e1,λk d g=>h.dis k g d,λf e=>(h.bl f e).symm,λf e=>aF (h.by_ f e) (λk d=>⟨d.2.1,d.1,d.2.2⟩),h.loc⟩
theorem DqF.below (h:DqF W0 w p1 p2 a b bL bo F1 F2) (hb:bW w w'):DqF W0 w' p1 p2 a b bL bo F1 F2:=
 ⟨h.e1.below hb,h.e2.below hb,h.dis,h.bl,λe d=>aF (aD (h.by_ e d) hb) (λk f=>⟨f.1,f.2.1,aC f.2.2 hb.size⟩),λe d=>(h.loc e d).below hb (h.loc e d).lt⟩
theorem Dq.below (h:Dq W0 w p1 p2 a b bL bo) (hb:bW w w'):Dq W0 w' p1 p2 a b bL bo:=by
 obtain⟨F1,F2,h⟩:=h;exact⟨F1,F2,h.below hb⟩
theorem Dq.sub (h:Dq W0 w p1 p2 a b bL bo) (f:∀d∈bL',d∈bL):Dq W0 w p1 p2 a b bL' []:=by
 obtain⟨F1,F2,h⟩:=h;exact⟨F1,F2,h.e1,h.e2,h.dis,λd e=>h.bl d (f d e),λd e=>(by cases e),λd e=>h.loc d (f d e)⟩
theorem Dq.new {g:Nat} {t:TypeId} {j:Array Value} (h:Dq W0 w p1 p2 a b bL bo) (hb:bW w w') (m:w.heap.size<=g) (l:Blk w' g t j):Dq W0 w' p1 p2 a b ((g,t,j)::bL) bo:=by
 obtain⟨F1,F2,h⟩:=h;have e:=h.below hb;refine⟨F1,F2,e.e1,e.e2,e.dis,λi d=>?_,e.by_,λi d=>?_⟩
 ·rcases bT.1 d with rfl|d
  ·exact⟨λf=>by have:=h.e1.bd _ f;dsimp only at*;omega,λf=>by have:=h.e2.bd _ f;dsimp only at*;omega⟩
  ·exact h.bl i d
 ·rcases bT.1 d with rfl|d
  ·exact l
  ·exact e.loc i d
theorem Dq.box (h:Dq W0 w p1 p2 a b bL bo) (d cs':Array Value) (t:TypeId) (e:cs'.size=d.size):Dq W0 ((w.alloc (.cells d t)).setCells w.heap.size 0 cs'.toList) p1 p2 a b ((w.heap.size,t,cs')::bL) bo:=
 h.new (Below.bZ (av _) _ _ _ ((aj _ _).alloc (av _) _)) (av _) (by have:=Blk.gF (Wx w t d) cs'.toList (by simpa using e);simpa using this)
theorem Dq.got {S:Nat->Prop} {tb:TypeId} {j:Option Addr} {l:List Int} (h:Dq W0 w p1 p2 a b bL bo) (hb:bW w w') (g:∀k,S k->k<W0.heap.size) (m:Byt tb w' (λk=>S k\/w.heap.size<=k/\k<w'.heap.size) j l):Dq W0 w' p1 p2 a b bL ((tb,j,l)::bo):=by
 obtain⟨F1,F2,h⟩:=h;have f:=h.below hb;refine⟨F1,F2,f.e1,f.e2,f.dis,f.bl,λn i=>?_,f.loc⟩;rcases bT.1 i with rfl|i
 ·refine aF m (λk e=>?_)
  have p:=hb.size;have o:=h.e1.bl.size;rcases e with e|e
  ·exact⟨λd=>by have:=h.e1.lo k d;have:=g k e;omega,λd=>by have:=h.e2.lo k d;have:=g k e;omega,by have:=g k e;omega⟩
  ·exact⟨λd=>by have:=h.e1.bd k d;omega,λd=>by have:=h.e2.bd k d;omega,e.2⟩
 ·exact f.by_ n i
theorem DqF.stp (h:DqF W0 w p1 p2 a b bL bo F1 F2) (j:Eg W0 w' F1' p1 a') (g:Stp w w' F1 F1'):DqF W0 w' p1 p2 a' b bL bo F1' F2:=by
 obtain⟨C,D⟩:=g.other h.e2 h.dis j.bl;have e:=g.size;have l:∀k,¬F1 k->k<w.heap.size->w'.heap[k]?=w.heap[k]?:=λk i m=>by
  obtain⟨E,y⟩:=g.m;rcases y.block k m with h|⟨h,-⟩
  ·exact h
  ·exact Wy h i
 have n:∀k,¬F1 k->k<w.heap.size->¬F1' k:=λk i m x=>by
  rcases g.sub k x with h|h
  ·exact i h
  ·omega
 refine⟨j,C,D,λd e=>⟨n _ (h.bl d e).1 (h.loc d e).lt,(h.bl d e).2⟩,λd A=>?_,λd e=>(l _ (h.bl d e).1 (h.loc d e).lt).trans (h.loc d e)⟩;obtain⟨r,s⟩:=h.by_ d A;refine⟨r,λz=>?_⟩;obtain⟨o,B,p,t,q,f,v,u⟩:=s z;exact⟨o,B,p,t,q,⟨n _ f.1 f.2.2,f.2.1,oM⟩,(l _ f.1 f.2.2).trans v,u⟩
theorem Dq.write (h:Dq W0 w p1 p2 a b bL bo) (p:dG k a) {j:Nat->Prop} {e:Option Addr} {d:List Int} {f:Nat} (hb:Bys w j e d) (n:d.length<=f) (o:d.length<=1000000000):
  Calls Tryz.prog 17 #[pT p1,.slice e d.length f] w λg w'=>(∃r,g=.returned r)/\Dq W0 w' p1 p2 (fU a d).en b bL bo:=by
 obtain⟨F1,F2,h⟩:=h;refine(h.e1.write p hb n o).mono ?_;rintro g w' ⟨q,i,l,m⟩;exact⟨⟨_,q⟩,i,F2,h.stp l m⟩
theorem Dq.tick (h:Dq W0 w p1 p2 a b bL bo) (i:dG k a) {now:Int} (j:Word now):
  Calls Tryz.prog 23 #[pT p1,uI now] w λd w'=>d=.returned (.tuple #[])/\Dq W0 w' p1 p2 (kr a now) b bL bo:=by
 obtain⟨F1,F2,h⟩:=h;refine(h.e1.tick i j).mono ?_;rintro d w' ⟨l,e,f,g⟩;exact⟨l,e,F2,h.stp f g⟩
theorem Dq.on (h:Dq W0 w p1 p2 a b bL bo) (o:dG k a) (p:k<=90000000) {now:Int} (r:Word now) {tb:TypeId} {e:Option Addr} {i:Nat} {d:List Int} (q:(tb,e,d)∈bo) (m:d.length<=100000) (n:dP d):
  Calls Tryz.prog 20 #[pT p1,.slice e d.length i,uI now] w λf w'=>f=.returned (.agg #[jI (lU a d now).ver.kind,jI (lU a d now).ver.why,uI (lU a d now).ver.pn,bV (lU a d now).ver.dU])/\Dq W0 w' p1 p2 (lU a d now).en b bL bo:=by
 obtain⟨F1,F2,h⟩:=h;refine(h.e1.on o p r (h.by_ _ q) m n (.inr (λt=>t.1 h.e1.en.mem))).mono ?_;rintro f w' ⟨s,g,j,l⟩;exact⟨s,g,F2,h.stp j l⟩
theorem Dq.next (h:Dq W0 w p1 p2 a b bL bo) (f:dG k a) (q:k<=70000000) {now:Int} (r:Word now):
  Calls Tryz.prog 19 #[pT p1,uI now] w λj w'=>∃e g,j=.returned (.tuple #[.slice e (WK 200 a now).b.length g,jI (WK 200 a now).err])/\Dq W0 w' p1 p2 (WK 200 a now).en b bL ((5,e,(WK 200 a now).b)::bo):=by
 obtain⟨F1,F2,h⟩:=h;refine(Qf W0 k F1 p1 a now w h.e1 f q r).mono ?_;rintro j w' ⟨e,g,l,s,m,n,o⟩;have d:=h.stp m n;refine⟨e,g,s,l,F2,d.e1,d.e2,d.dis,d.bl,λt i=>?_,d.loc⟩;rcases bT.1 i with rfl|i
 ·exact aF o (λk f=>⟨f.1,λp=>by have:=h.e2.bd k p;omega,f.2.2⟩)
 ·exact d.by_ t i
theorem Dq.aS (h:Dq W0 w p1 p2 a b bL bo) (d:dG k a):Calls Tryz.prog 24 #[pT p1] w λe w'=>e=.returned (.agg (stV (cK a)))/\bW w w':=by
 obtain⟨F1,F2,h⟩:=h;exact h.e1.aS d
theorem Dq.sent (h:Dq W0 w p1 p2 a b bL bo) (f:dG k a):Calls Tryz.prog 27 #[pT p1] w λg w'=>∃d e,g=.returned (.slice d a.led.kept.length e)/\a.led.kept.length<=e/\Ses w' (λk=>w.heap.size<=k/\k<w'.heap.size) d a.led.kept/\bW w w':=by
 obtain⟨F1,F2,h⟩:=h;exact h.e1.sent f
theorem Dq.ledger (h:Dq W0 w p1 p2 a b bL bo) (e:dG k a) (c:Cf):
  Calls Tryz.prog 22 #[pT p1,.agg (cfV c)] w λf w'=>∃d,f=.returned (.agg #[.pointer none,pT d])/\Ka w' d/\bW w w':=by
 obtain⟨F1,F2,h⟩:=h;exact Gq W0 k F1 p1 a c w h.e1 e
theorem Dq.both {i:World} {F:Nat->Prop} (d:Eg W0 i F p1 a) (f:Eg i w (λk=>i.heap.size<=k/\k<w.heap.size) p2 b):Dq W0 w p1 p2 a b [] []:=
 ⟨F,_,d.below f.bl,⟨f.en,f.bd,λk g=>ay d.bl.size g.1,d.bl.trans (f.bl.mono d.bl.size)⟩,λk g l=>by have:=d.bd k g;have:=l.1;omega,λj e=>(by cases e),λj e=>(by cases e),λj e=>(by cases e)⟩
theorem Tk {tb:TypeId} {S:Nat->Prop} {g:Option Addr} {d:List Int} (h:Byt tb w S g d) (e:Nat):(convert 47 9 (.slice g d.length e)).run Tryz.prog w=.ok (.string (strOfNums d)) w:=by
 (have u1:Tryz.prog.underlying 47=some (.slice 5):=by kernel_rfl);(have u2:Tryz.prog.underlying 5=some (.int .u8):=by kernel_rfl);(have u3:Tryz.prog.underlying 9=some .string:=by kernel_rfl);by_cases n:0<d.length
 ·obtain⟨b,r,rfl,_,s,o⟩:=h.at_ n
  exact run_convert_bytes_arg w 47 5 u1 u2 b r d.length e d rfl (λl j=>by
   have i:=o (l*1) _ (mr (f:=byV) (m:=1) (λ_=>rfl) d l 0 j oM);rw[Nat.mul_one]at i;rw[i];simp[byV,List.getD,aL j]) 9 u3
 ·have q:d=[]:=List.length_eq_zero_iff.1 oM
  subst q;cases g with
  |none=>exact run_convert_bytes_nil w 47 5 u1 u2 0 e 9 u3
  |some x=>
   show(convert 47 9 (.slice (some x) 0 e)).run Tryz.prog w=_;rw[run_convert_bytes_string w 47 9 5 _ 0 e u1 u2 u3];have:=run_bytesToString (P:=Tryz.prog) w x 0 e [] (by simpa using run_loadCells_list (P:=Tryz.prog) w x [] (λt u p=>by simp at p));exact this
theorem Dq.str (h:Dq W0 w p1 p2 a b bL bo) {z:TypeId×Option Addr×List Int} (e:z∈bo) (d:Nat):(convert 47 9 (.slice z.2.1 z.2.2.length d)).run Tryz.prog w=.ok (.string (strOfNums z.2.2)) w:=by
 obtain⟨F1,F2,h⟩:=h;exact Tk (h.by_ z e) d
end
theorem Tt (E:St) (a:E.dh.eT=0) (b:E.dh.dB=0) (w:World):(Instr.field 38 (.agg (stV E)) 11).run Tryz.prog w=.ok (.agg #[uI 0,uI 0,uI E.dh.fI,uI E.dh.bE,uI E.dh.late]) w:=by
 obtain⟨c,d,e,f,g,i,j,h,k,l,m,⟨n,o,p,q,r⟩⟩:=E;simp only at a b;subst a b;kernel_rfl
theorem Ty (a b c:Int):(∀d,(Instr.field 36 (.agg #[uI 0,uI 0,uI a,uI b,uI c]) 1).run Tryz.prog d=.ok (uI 0) d)/\∀d,(Instr.field 36 (.agg #[uI 0,uI 0,uI a,uI b,uI c]) 0).run Tryz.prog d=.ok (uI 0) d:=⟨λd=>by kernel_rfl,λd=>by kernel_rfl⟩
theorem S8 (S:Nat->Prop) (f6 b0 j6:Option Addr) (i8 wc r9:Nat) (K n:List Int) (i:List Sq) (w:World) (k5:∀f5,S f5->f5<w.heap.size) (D:∃a7,Row w S a7 1 f6 K.length (K.flatMap u3V)) (i3:U32 K) (o1:∃a7,Wot a7 w S b0 n) (o5:rG n) (o2:n.length<=wc)
  (n7:∃a7,Row w S a7 12 j6 i.length (i.flatMap sqV)) (n6:∀t8∈i,SqOk w S t8):
  Calls Tryz.prog 6 #[.slice f6 K.length i8,.slice b0 n.length wc,.slice j6 i.length r9] w λf t=>f=.returned (bV true)/\bW w t:=by
 have q8:=zH n7;have q7:=zH n6;clear n7 n6;obtain⟨a,f0⟩:=eX (fV K);(have m9:lV a:=by rw[f0];exact CS i3);have g5:=zH m9;have v7:=zH f0;have q5:=zH k5;have l5:=(by obtain⟨a7,s9⟩:=D;have h:=JR S f6 i8 K w s9 i3;rw[<-f0]at h;exact h:Calls Tryz.prog 9 #[.slice f6 K.length i8] w λf t=>f=.returned (.agg (cfV a))/\bW w t);have p7:=zH l5;have j5:=zH (And.intro o1 (And.intro o5 o2));clear m9 f0 l5 k5 D i3 o1 o5 o2;go_enter Tryz.func6,Tryz.ntmps6;go_wp2_with fail;refine p7.out.mono ?_;rintro f a8 ⟨rfl,k8⟩;have f8:=zH k8;clear k8;(repeat (go_not_at_region 2;first|(refine iG 32 (.tmp 7) (.tmp 22) rfl rfl rfl a8.heap.size 0 (cfV a) kR kR ((Wx a8 32 #[jI 0,uI 0,jI 0,uI 0,jI 0,uI 0,uI 0,uI 0,uI 0,jI 0,uI 0,uI 0,uI 0,uI 0,uI 0,jI 0,uI 0]).there _ sM) kR (by simp[Value.oneCell']) ?_;intro P h6;have o7:Blk P a8.heap.size 32 (cfV a):=(by rw[h6];exact Blk.gF (Wx a8 32 _) [jI a.bits,uI a.one,jI a.ring,uI a.dO,jI a.room,uI a.mss,uI a.jD,uI a.bn,uI a.most,jI a.pX,uI a.first,uI a.jc,uI a.cap,uI a.gD,uI a.WL,jI a.bE,uI a.every] rfl);have d9:=zH o7;have j0:=zH (show bW a8 P by rw[h6];exact Below.bZ (av _) _ _ _ BEL);clear h6 o7)|go_values|go_skip|go_guarded|go_step|go_upon|go_back|go_simp));obtain⟨r,Z⟩:=eX a8.heap.size;rw[<-Z]at d9;rw[<-Z];have f9:=zH (f8.out.trans (j0.out.mono f8.out.size));clear Z f8 j0;have h9:bW P P.drew:=bA (aj _ _);have l:Blk P.drew r 32 (cfV a):=d9.out.below h9 d9.out.lt;have a0:bW w P.drew:=f9.out.trans (h9.mono f9.out.size);refine aZ (S:=λt=>Blk t r 32 (cfV a)) kR l (λR=>?_);clear R;refine iL (v:=.agg (cfV a)) 0 (some 24) rfl kR kR kR kR (λ_ _ _ h=>h) (lH 32 (.tmp 7) rfl rfl r kR (cfV a) (λw u=>u) _ Tryz.underlying32 kR kR) l ?_;(try simp only[Act.put,List.setIfInBounds_toArray,List.set_cons_zero,List.set_cons_succ]);refine tK 1 25 l ?_;refine nrm 9 3 ?_;refine aI 2 kR ?_;obtain⟨⟨y3,n9⟩,i7,o3⟩:=j5.out;refine WE (op:=_) rfl kR (some 26) kR 16 #[.slice b0 n.length wc,jI 60] kR ((MZ S b0 wc n _ (aD n9 a0) o3).mono ?_);rintro s1 v5 ⟨⟨r3,c5,d0⟩,rfl⟩;refine⟨_,c5,l,?_⟩;(try simp only[Act.put,List.setIfInBounds_toArray,List.set_cons_zero,List.set_cons_succ]);(have a2:(n.take 60).length<=1000000:=by rw[aT];omega);refine aI 3 kR ?_;refine WE (op:=_) rfl kR (some 27) kR 15 #[.agg (cfV a),.slice r3 (n.take 60).length wc] kR ((Lq.new (c:=a) (words:=n.take 60) g5.out d0 (λg d1=>i7 g (bf d1)) a2).mono ?_);rintro s2 b6 ⟨d2,c6,a1,x⟩;have I:Blk b6 r 32 (cfV a):=l.below x l.lt;refine⟨_,c6,I,?_⟩;(try simp only[Act.put,List.setIfInBounds_toArray,List.set_cons_zero,List.set_cons_succ]);refine tK 4 23 I ?_;refine nrm 9 31 ?_;refine tK 5 28 I ?_;refine tK 6 29 I ?_;refine nrm 9 127 ?_;refine tK 7 8 I ?_;refine tK 8 9 I ?_;refine nrm 9 511 ?_;refine bg kR ?_ _;have c9:=rp_new g5.out (λg d1=>i7 g (bf d1)) a2;obtain⟨e0,k6⟩:=eX P.drew;rw[<-k6]at a1 x l a0;have j2:=zH a1;have X:=zH l;have p:=zH a0;have b4:=zH c9;have h0:=zH I;have g0:=zH (a0.trans (x.mono a0.size));clear d0 a2 n9 i7 o3 c5 c6 a1 x l a0 h9 I d9 f9 k6 c9;go_upto_region 3 with fail;have f1:bW b6 b6.drew:=bA (aj _ _);have F:Blk b6.drew r 32 (cfV a):=h0.out.below f1 h0.out.lt;have m4:bW w b6.drew:=g0.out.trans (f1.mono g0.out.size);refine aZ (S:=λt=>Blk t r 32 (cfV a)) kR F (λR=>?_);clear R;refine iL (v:=.agg (cfV a)) 0 (some 31) rfl kR kR kR kR (λ_ _ _ h=>h) (lH 32 (.tmp 7) rfl rfl r kR (cfV a) (λw u=>u) _ Tryz.underlying32 kR kR) F ?_;(try simp only[Act.put,List.setIfInBounds_toArray,List.set_cons_zero,List.set_cons_succ]);refine tK 1 32 F ?_;refine nrm 9 3 ?_;refine aI 2 kR ?_;obtain⟨⟨y4,o0⟩,o6,o4⟩:=j5.out;refine WE (op:=_) rfl kR (some 33) kR 16 #[.slice b0 n.length wc,jI 60] kR ((MZ S b0 wc n _ (aD o0 m4) o4).mono ?_);rintro s1 v5 ⟨⟨r4,c5,d0⟩,rfl⟩;refine⟨_,c5,F,?_⟩;(try simp only[Act.put,List.setIfInBounds_toArray,List.set_cons_zero,List.set_cons_succ]);(have a2:(n.take 60).length<=1000000:=by rw[aT];omega);refine aI 3 kR ?_;refine WE (op:=_) rfl kR (some 34) kR 15 #[.agg (cfV a),.slice r4 (n.take 60).length wc] kR ((Lq.new (c:=a) (words:=n.take 60) g5.out d0 (λg d1=>o6 g (bf d1)) a2).mono ?_)
 rintro s2 h2 ⟨d3,c6,a1,x⟩;have y:Blk h2 r 32 (cfV a):=F.below x F.lt;refine⟨_,c6,y,?_⟩;(try simp only[Act.put,List.setIfInBounds_toArray,List.set_cons_zero,List.set_cons_succ]);refine tK 4 30 y ?_;refine nrm 9 31 ?_;refine tK 5 35 y ?_;refine tK 6 36 y ?_;refine nrm 9 127 ?_;refine tK 7 10 y ?_;refine tK 8 11 y ?_;refine nrm 9 511 ?_;refine bg kR ?_ _;have l7:=Dq.both (j2.out.below f1).eg a1.eg;have g4:=zH l7;clear d0 a2 o0 o6 o4 c5 c6 a1 x F m4 f1 y h0 g0 l7 j2;generalize nK a (n.take 60)=j8 at*
 by_cases x1:60<i.length
 ·have j9:decide ((60:Int)<(i.length:Int))=true:=bM oM
  go_wp2_with fail;refine(tQ h2).mono ?_;rintro f p2 ⟨rfl,e8⟩;go_wp2_with fail;refine(tQ p2).mono ?_;rintro f a9 ⟨rfl,C⟩;go_wp2_with fail;go_ret;exact⟨rfl,p.out.trans (((g4.out.below e8).below C).low.mono p.out.size)⟩
 have j9:decide ((60:Int)<(i.length:Int))=false:=bJ oM;go_wp2_with fail;refine(tQ h2).mono ?_;rintro f p2 ⟨rfl,e8⟩;have b1:=zH (g4.out.below e8);clear e8 g4;go_upto_region 7 with fail;go_wp2_with fail;go_loopg [12,71] i.length (λA v0 d4 wr=>∃o g a4,v0=uI a4/\d4=jI ((i.length:Int) -A)/\A<=i.length/\(0<=a4/\a4<=4294967296*((i.length:Int) -A))/\Hid (Dq e0 wr d2 d3 o g [] [])/\Hid (SQ (60001*(i.length -A)) ((i.length -A:Nat):Int) o g));(case atStart=>exact⟨j8,j8,0,rfl,by congr 1;omega,av _,oM,b1,by rw[Nat.sub_self];exact b4⟩);case round=>
  obtain⟨o,g,a4,rfl,rfl,w9,⟨s8,m6⟩,k0,k4⟩:=hrel;have m:=k0;have d:=k4;clear k0 k4 b1 b4;by_cases a3:0<gk
  ·obtain⟨e,f3⟩:=eX (i.length -gk)
   have m2:(i.length:Int) -gk=(e:Int):=oM;have m1:e<i.length:=oM;rw[m2]at m6|-;rw[<-f3]at d;have p9:=zH f3;obtain⟨y1,n8⟩:=q8.out;obtain⟨b7,b8,rfl,s6,n1⟩:=BF Xy n8 m1;have g7:=zH (λh1 (T:bW w h1)=>Ag n1 T s6);have b3:=zH (q7.out _ (aN m1));generalize i[e]=s at*
   have h4:=p.out.trans (m.out.low.mono p.out.size);obtain⟨b9,e1,e2,-⟩:=Bq (g7.out _ h4);have s3:decide ((e:Int)<(i.length:Int))=true:=bM oM;have x3:(e:Int)<i.length:=oM;have m0:(e:Int)<=59:=oM;obtain⟨t6,t7⟩:=b3.out.wait;obtain⟨e5,e6⟩:=b3.out.kind;have x4:IntKind.u64.wrap s.wait=s.wait:=Wz _ ⟨oM,oM⟩;obtain⟨j,m8⟩:=eX (a4+s.wait);(have x5:IntKind.u64.wrap (a4+s.wait)=j:=by rw[m8];exact Wz _ ⟨oM,oM⟩);have m7:Word j:=⟨oM,oM⟩;have i4:0<=j/\j<=4294967296*((e:Int)+1):=⟨oM,oM⟩;have B:=zH m7;have q1:=zH i4;have v6:=zH h4;have O:=zH m0;clear f3 m2 n1 n8 j9 m8 m7 i4 s8 m6 t6 t7 h4;go_upto_block 2 with fail;go_cut [14,15,71]from 71 to 181 (λy6 y7 d4 wx=>d4=jI (e:Int)/\∃d5 d6,Hid (Dq e0 wx d2 d3 d5 d6 [] [])/\Hid (Xw j (60001*e+1) ((e:Int)+1) d5 d6));case first=>
    go_upto_if 112 with fail;cases hq:(s.kind%4==0)with
    |true=>
     have j4:=zH hq;clear hq e5 e6;go_wp2_with fail;refine(OW s.n b3.out.n _).mono ?_;rintro f a9 ⟨v8,rfl,c3,C⟩;have q:=zH (m.out.below C);go_wp2_with fail;refine(q.out.write d.out.oka c3 (av _) (by have:=MP s.n;omega)).mono ?_;rintro f f7 ⟨⟨z4,rfl⟩,H⟩;have G:=zH H;have r6:=(Bq (g7.out _ (p.out.trans (H.low.mono p.out.size)))).2.2.1;clear c3 C H q b9 e1 e2;go_wp2_with fail;refine(OW s.n b3.out.n _).mono ?_;rintro f p3 ⟨v9,rfl,c3,c2⟩;have L:=zH (G.out.below c2).swap;go_wp2_with fail;refine(L.out.write d.out.okb c3 (av _) (by have:=MP s.n;omega)).mono ?_;rintro f v1 ⟨⟨z5,rfl⟩,k3⟩;have b2:=zH k3.swap;clear c3 c2 k3 L r6;go_wp2_with fail;go_meet;exact⟨rfl,_,_,b2,zH (((Tw d.out (OX s.n)).mono (Nat.le_succ _) oM).late j)⟩
    |false=>
     go_upto_if 130 with fail;cases hq1:(s.kind%4==1)with
     |true=>
      have j4:=zH hq;clear e5 e6 b9 e1 e2 hq1;go_wp2_with fail;refine(m.out.tick d.out.oka B.out).mono ?_;rintro f a9 ⟨rfl,c0⟩;have q:=zH c0.swap;clear c0;go_wp2_with fail;refine(q.out.tick d.out.okb B.out).mono ?_;rintro f f7 ⟨rfl,H⟩;have G:=zH H.swap;clear H;go_wp2_with fail;go_meet;exact⟨rfl,_,_,G,zH (((TA d.out B.out).mono (Nat.le_succ _) oM).late j)⟩
     |false=>
      have j4:=zH (And.intro hq hq1);clear e5 e6 b9 e1 e2 hq1 hq;go_upto_region 12 with fail;have Y:bW wr wr.drew:=bA (aj _ _);have M:=zH (m.out.below Y);have e9:=p.out.trans (M.out.low.mono p.out.size);have q6:=zH b3.out.zD;have g8:=zH (λh1 T=>(Bq (g7.out h1 T)).2.2.2);have k:wr.drew.rangeAt b7 (b8+e*12+3) (shV s.zD)/\Blk wr.drew r 32 (cfV a):=⟨g8.out _ e9,X.out.below M.out.low X.out.lt⟩;generalize s.zD=a6 at*
      refine aZ (S:=λt=>t.rangeAt b7 (b8+e*12+3) (shV a6)/\Blk t r 32 (cfV a)) kR k (λR=>?_);clear R;refine tK 0 88 k ?_;refine tK 1 89 k ?_;refine tK 2 90 k ?_;refine tK 3 91 k ?_;refine iL (v:=.agg (shV a6).toArray) 4 (some 92) rfl kR kR kR kR (λ_ _ _ h=>h) (yieldsIf_load_mid rfl 53 (.tmp 91) rfl b7 (b8+e*12+3) kR (shV a6) _ (λw u=>u.1) Tryz.underlying53 kR kR) k ?_;(try simp only[Act.put,List.setIfInBounds_toArray,List.set_cons_zero,List.set_cons_succ]);refine tK 5 93 k ?_;refine iL (v:=.agg (cfV a)) 6 (some 94) rfl kR kR kR kR (λ_ _ _ h=>h) (lH 32 (.tmp 7) rfl rfl r kR (cfV a) (λw u=>u.2) _ Tryz.underlying32 kR kR) k ?_;(try simp only[Act.put,List.setIfInBounds_toArray,List.set_cons_zero,List.set_cons_succ]);refine nrm 10 127 ?_;refine aI 7 kR ?_;refine WE (op:=_) rfl kR (some 95) kR 22 #[pT d2,.agg (cfV a)] kR ((M.out.ledger d.out.oka a).mono ?_);rintro w3 p5 ⟨t5,Z,n3,x⟩;have g3:=zH (M.out.below x);have h8:=e9.trans (x.mono e9.size);have E:p5.rangeAt b7 (b8+e*12+3) (shV a6)/\Blk p5 r 32 (cfV a):=⟨g8.out _ h8,X.out.below g3.out.low X.out.lt⟩;refine⟨_,Z,E,?_⟩;(try simp only[Act.put,List.setIfInBounds_toArray,List.set_cons_zero,List.set_cons_succ]);refine nrm 10 255 ?_;refine aI 8 kR ?_;refine WE (op:=_) rfl kR (some 96) kR 21 #[.agg (shV a6).toArray,.agg #[.pointer none,pT t5]] kR ((Ju n3 (q6.out.below h8)).mono ?_);rintro w0 p4 ⟨s4,s5,e4,l9,f2,l2⟩;obtain⟨y2,o9⟩:=f2.ex;have d8:=zH (g3.out.got l2 (λf5 D=>aC (q5.out f5 D) p.out.size) o9);have l3:=p.out.trans (d8.out.low.mono p.out.size);have l:p4.rangeAt b7 (b8+e*12+3) (shV a6)/\Blk p4 r 32 (cfV a):=⟨g8.out _ l3,X.out.below d8.out.low X.out.lt⟩;refine⟨_,l9,l,?_⟩;(try simp only[Act.put,List.setIfInBounds_toArray,List.set_cons_zero,List.set_cons_succ]);refine tK 9 14 l ?_;refine nrm 10 1023 ?_;refine bg kR ?_ _;have W:=zH (And.intro f2.len f2.by_);clear k E l Z l9 f2 o9 n3 x h8 l2 e9 l3 Y M g3 m;go_wp2_with fail;refine(d8.out.on d.out.oka (by have:=O.out;omega) B.out kT (ay W.out.1 dC) W.out.2).mono ?_;obtain⟨b,i5⟩:=eX ((lU o e4 j).ver);rw[<-i5];rintro w1 i9 ⟨rfl,k1⟩;have j1:=zH k1;have g9:=zH i5;clear k1 i5 d8;(repeat (go_not_at_region 14;first|(refine iG 74 (.tmp 15) (.tmp 100) rfl rfl rfl i9.heap.size 0 #[jI b.kind,jI b.why,uI b.pn,bV b.dU] kR kR ((Wx i9 74 #[jI 0,jI 0,uI 0,bV false]).there _ sM) kR (by simp[Value.oneCell']) ?_;intro b5 k7;have h5:=j1.out.box #[jI 0,jI 0,uI 0,bV false] #[jI b.kind,jI b.why,uI b.pn,bV b.dU] 74 rfl;rw[<-show b5=_ from k7]at h5;have N:=zH h5;clear k7 h5)|go_values|go_skip|go_guarded|go_step|go_upon|go_back|go_simp));obtain⟨Q,i1⟩:=eX i9.heap.size;rw[<-i1]at N;rw[<-i1];clear i1 j1;have a5:=N.out.loc (Q,74,#[jI b.kind,jI b.why,uI b.pn,bV b.dU]) kT;by_cases U:b.kind=1
      ·have b9:b5.cell? ⟨Q,0,none⟩=some (jI 1):=by rw[<-U];exact a5.cell 0
       have w6:=a5.lt;(have c7:(lU o e4 j).ver.kind=1:=by rw[<-g9.out];exact U);have n2:=TE d.out B.out W.out.2 c7;have q3:=zH n2;clear n2 c7 U a5;refine mQ ?_;rintro _ ⟨nq,rfl⟩;go_wp2_with fail;go_meet;exact⟨rfl,_,_,zH ((N.out.sub (bL':=[]) (λp6 a3=>by cases a3)).below BEL),q3⟩
      ·have t1:(b.kind==1)=false:=by simp[U]
       (have t2:(b.kind !=1)=true:=by simp[U]);(have c7:(lU o e4 j).ver.kind≠1:=by rw[<-g9.out];exact U);obtain⟨i6,n5⟩:=TB d.out B.out W.out.2 c7;rw[<-g9.out]at i6;have q4:=zH n5;have q9:=zH i6;clear n5 i6 c7 U;go_upto_region 14 with fail;have Y:bW b5 b5.drew:=bA (aj _ _);have M:=zH (N.out.below Y).swap;have k:Blk b5.drew Q 74 #[jI b.kind,jI b.why,uI b.pn,bV b.dU]:=a5.below Y a5.lt;clear a5 Y;refine aZ (S:=λt=>Blk t Q 74 #[jI b.kind,jI b.why,uI b.pn,bV b.dU]) kR k (λR=>?_);clear R;refine tK 0 101 k ?_;refine tk 1 (some 102) k (hy:=by intro w u;have x8:=u.Wu 0;exact gS) (h:=?_);refine tk (v:=bV true) 2 (some 103) k (h:=?_);refine tK 3 104 k ?_;refine nrm 11 15 ?_;refine tK 4 105 k ?_;refine tK 5 106 k ?_;refine tK 6 107 k ?_;refine iL (v:=.agg #[jI b.kind,jI b.why,uI b.pn,bV b.dU]) 8 (some 109) rfl kR kR kR kR (λ_ _ _ h=>h) (yieldsIf_load_mid rfl 74 (.tmp 15) rfl Q 0 kR [jI b.kind,jI b.why,uI b.pn,bV b.dU] _ (λw u=>Blk.range u) Tryz.underlying74 kR kR) k ?_;(try simp only[Act.put,List.setIfInBounds_toArray,List.set_cons_zero,List.set_cons_succ]);refine nrm 11 383 ?_;refine aI 7 kR ?_;refine Tx (op:=_) rfl (by rfl) (some 108) kR 20 #[pT d3,.slice s4 e4.length s5,uI j] kR ((M.out.on d.out.okb (by have:=O.out;omega) B.out kT (ay W.out.1 dC) W.out.2).mono ?_);rintro w2 v4 ⟨i0,k2⟩;rw[q9.out]at i0;have b1:=zH k2.swap;have E:Blk v4 Q 74 #[jI b.kind,jI b.why,uI b.pn,bV b.dU]:=b1.out.loc (Q,74,#[jI b.kind,jI b.why,uI b.pn,bV b.dU]) kT;refine⟨_,i0,E,?_⟩;(try simp only[Act.put,List.setIfInBounds_toArray,List.set_cons_zero,List.set_cons_succ]);refine tk (v:=bV false) 9 (some 110) E (h:=?_);refine tk (v:=bV false) 10 (some 111) E (h:=?_);refine bg kR ?_ _;clear k E i0 k2 M t1 t2;go_wp2_with fail;go_meet;exact⟨rfl,_,_,zH (b1.out.sub (bL':=[]) (λp6 a3=>by cases a3)),zH ((q4.out.mono (av _) oM).late j)⟩
   case rest=>
    obtain⟨rfl,v2,v3,l6,n0⟩:=hcut;have g1:=l6;have g6:=n0;clear l6 n0 m d b9 e1 e2 e5 e6;go_upto_block 3 with fail;go_cut [16,17,18,19,20,71]from 71 to 181 (λp0 y8 y9 z0 z2 d4 wx=>d4=jI (e:Int)/\∃d5 d6,Hid (Dq e0 wx d2 d3 d5 d6 [] [])/\Hid (SQ (60001*(e+1)) ((e:Int)+1) d5 d6));case first=>
     go_wp2_with fail;go_loopg [16] 300 (λA p0 wx=>∃o g,p0=jI ((300:Int) -A)/\A<=300/\Hid (Dq e0 wx d2 d3 o g [] [])/\Hid (Xw j (60001*e+1+200*(300 -A)) ((e:Int)+1) o g)/\Hid (A<300->SQ (60001*e+1+200*(300 -A)) ((e:Int)+1) o g));(case atStart=>exact⟨v2,v3,rfl,av _,g1,g6,zH (λh=>Wy h dC)⟩);case round=>
      obtain⟨o,g,rfl,x0,c4,c8,n4⟩:=hrel;have m:=c4;have d:=c8;have j3:=n4;clear c4 c8 n4 g1 g6;by_cases I:0<gk
      ·obtain⟨V,f4⟩:=eX (300 -gk)
       have m3:(300:Int) -gk=(V:Int):=oM;rw[m3];rw[<-f4]at d;have q2:=zH f4;have x2:V<300:=oM;have w4:decide ((V:Int)<300)=true:=bM oM;have t0:IntKind.i64.wrap ((V:Int)+1)=(V:Int)+1:=eP _ ⟨oM,oM⟩;clear f4 m3;go_wp2_with fail;refine(m.out.next d.out.oka (by have:=O.out;omega) B.out).mono ?_;rintro f a9 ⟨r1,r7,rfl,c0⟩;have q:=zH c0.swap;clear c0;go_wp2_with fail;refine(q.out.next d.out.okb (by have:=O.out;omega) B.out).mono ?_;rintro f f7 ⟨r2,r8,rfl,H⟩;obtain⟨T,l8,c9⟩:=TD d.out B.out (by have:=O.out;omega) (by have:=O.out;omega);have e7:=H.swap;have t9:=e7.str (z:=(5,r1,(WK 200 o j).b)) (jQ _ kT) r7;have o8:=e7.str (z:=(5,r2,(WK 200 g j).b)) kT r8;have L:=zH (e7.sub (bL':=[]) (λp6 a3=>by cases a3));have b4:=zH c9;dsimp only at t9 o8;rw[<-T]at o8;rw[<-T,<-l8];generalize(WK 200 o j).b=r5 at*
       generalize(WK 200 o j).err=h3 at*
       generalize(WK 200 o j).en=J at*
       generalize(WK 200 g j).en=d7 at*
       clear H e7 T l8 c9 q m;generalize strOfNums r5=y0 at*
       by_cases y:h3=0
       ·subst y
        go_wp2_with fail;go_roundg (gk -1);(case measure=>omega);case rel=>
         have f4:=q2.out;have e3:300 -(gk -1)=V+1:=oM;have D:=b4.out.mono (k':=60001*e+1+200*(V+1)) oM (bY _);exact⟨J,d7,by congr 1;omega,oM,L,by rw[e3];exact zH (D.late j),by rw[e3];exact zH (λ_=>D)⟩
       ·have x6:(h3==0)=false:=by simp[y]
        (have x7:(h3 !=0)=true:=by simp[y]);go_wp2_with fail;go_meet;exact⟨rfl,_,_,L,zH (b4.out.mono oM (bY _))⟩
      ·have s7:gk=0:=oM
       subst s7;have D:=j3.out dC;have q0:=zH (D.mono (k':=60001*(e+1)) oM (bY _));clear D j3 d;go_wp2_with fail;go_meet;exact⟨rfl,_,_,m,q0⟩
    case rest=>
     obtain⟨rfl,J,d7,c4,c8⟩:=hcut;have m:=c4;have d:=c8;clear c4 c8 g1 g6;go_upto_region 30 with fail;go_wp2_with fail;refine(m.out.aS d.out.oka).mono ?_;rintro f a9 ⟨rfl,C⟩;have q:=zH (m.out.below C);go_wp2_with fail;refine(Tg (cK J) a9).mono ?_;rintro f f7 ⟨rfl,c1⟩;have G:=zH (q.out.below c1).swap;clear C c1 q m;go_wp2_with fail;refine(G.out.aS d.out.okb).mono ?_;rintro f p3 ⟨rfl,c2⟩;have L:=zH (G.out.below c2);go_wp2_with fail;refine(Tg (cK d7) p3).mono ?_;rintro f v1 ⟨rfl,l1⟩;have b2:=zH (L.out.below l1).swap;clear c2 l1 L G;obtain⟨l4,i2⟩:=TC d.out;rw[<-show SL (cK J)=SL (cK d7)from l4];generalize SL (cK J)=x9 at*
     go_wp2_with fail;refine(b2.out.sent d.out.oka).mono ?_;rintro f z6 ⟨j7,t3,rfl,-,E,k9⟩;have g2:=zH (b2.out.below k9).swap;go_wp2_with fail;refine(g2.out.sent d.out.okb).mono ?_;rintro f p1 ⟨s0,t4,rfl,-,l,h7⟩;(have m5:J.led.kept.length<=1000000000:=by have:=d.out.oka.le.len;have:=d.out.oka.le.lW;omega);rw[<-i2]at l;rw[<-i2];have F:Ses p1 _ j7 J.led.kept:=aD E h7;have N:=zH ((g2.out.below h7).swap);generalize J.led.kept=r0 at*
     clear i2 l4;go_wp2_with fail;refine(Tc _ _ j7 s0 t3 t4 r0 p1 F l m5).mono ?_;rintro f z7 ⟨rfl,l0⟩;have p8:=zH (N.out.below l0);clear E l F k9 h7 l0 g2 N b2 m5;have m0:=O.out;have t0:IntKind.i64.wrap ((e:Int)+1)=(e:Int)+1:=eP _ ⟨oM,oM⟩;go_wp2_with fail;go_roundg (gk -1);(case measure=>omega);case rel=>
      have f3:=p9.out;have e3:i.length -(gk -1)=e+1:=oM;have i4:=q1.out;exact⟨J,d7,j,rfl,by congr 1;omega,oM,oM,p8,by rw[e3];push_cast;exact d⟩
  ·have s3:decide ((i.length:Int) -gk<(i.length:Int))=false:=bJ oM
   go_upto_region 33 with fail;go_wp2_with fail;refine(m.out.swap.aS d.out.okb).mono ?_;rintro f a9 ⟨rfl,C⟩;have q:=zH (m.out.below C);clear C;have w7:=Tt (cK g) d.out.bd d.out.bm;have w8:=Ty (cK g).dh.fI (cK g).dh.bE (cK g).dh.late;generalize(cK g).dh.fI=y5 at*
   generalize(cK g).dh.bE=z1 at*
   generalize(cK g).dh.late=z3 at*
   have w5:((0:Int)==0)=true:=rfl;go_wp2_with fail;refine(q.out.swap.aS d.out.okb).mono ?_;rintro f f7 ⟨rfl,c1⟩;have G:=zH (q.out.below c1);clear c1;go_wp2_with fail;go_ret;exact⟨rfl,p.out.trans (G.out.low.mono p.out.size)⟩
theorem SY {H:Type} {enc:TypeId×Value->H} {base:Nat} (b:Value) (l:DataW H) (G:List MemPlace) (c:Value) (m:DataW H) (I:List MemPlace) (d:Value) (n:DataW H) (J:List MemPlace) (a:World) (D:Value.okWide Tryz.prog a .any base 22 b) (A:DataW.Trod enc Tryz.prog a 0 (λ_=>true) true 22 b l G) (E:Value.okWide Tryz.prog a .any base 23 c) (B:DataW.Trod enc Tryz.prog a 0 (λ_=>true) true 23 c m I) (F:Value.okWide Tryz.prog a .any base 60 d) (C:DataW.Trod enc Tryz.prog a 0 (λ_=>true) true 60 d n J):
  Calls Tryz.prog 6 #[b,c,d] a λo L=>o=.returned (bV true)/\bW a L:=by
 obtain⟨N,p⟩:=A;obtain⟨e,Q,i,rfl⟩:=okWide_slice Tryz.underlying22 D;obtain⟨z,rfl,t,s⟩:=sl_k p;obtain⟨O,q⟩:=B;obtain⟨f,R,j,rfl⟩:=okWide_slice Tryz.underlying23 E;obtain⟨M,rfl,x,y,w⟩:=sl_w q;obtain⟨P,r⟩:=C;obtain⟨g,S,k,rfl⟩:=okWide_slice Tryz.underlying60 F;obtain⟨K,rfl,u,v⟩:=sl_sq r;exact S8 _ e f g i j k z M K a (λ_ h=>h) s t w y x v u
end Go.Proofs.YtiflndepmgnojaaGreat
