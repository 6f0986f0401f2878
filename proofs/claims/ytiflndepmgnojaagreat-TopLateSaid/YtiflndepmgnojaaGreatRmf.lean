import Derived.OpenShut
import Derived.Deep.Slices
import Derived.ProofKit
import Derived.Test.YtiflndepmgnojaaGreatRle
namespace Go.Proofs.YtiflndepmgnojaaGreat
open Go.RowKit Go.Deep Go.ChangeShapes Go.WideShapes Go.ChangeAt
set_option linter.unusedSimpArgs false
set_option linter.unusedVariables false
set_option maxHeartbeats 16000000
set_option maxRecDepth 100000
section
variable {H:Type} {enc:TypeId×Value->H} {w:World} {base:Nat} {spare:Nat->Bool} {held:Bool}
def Dec (enc:TypeId×Value->H) (w:World) (base:Nat) (spare:Nat->Bool) (held:Bool) {c:Type} (t:TypeId) (f:c->List Value) (d:c->Prop):Prop:=
 ∀e b g,DataW.trod enc Tryz.prog w base spare held e t b=some g->∃a,b=f a/\d a
theorem nG {k:IntKind} {t:TypeId} (b:Tryz.prog.underlying t=some (.int k)):Dec enc w base spare held t (λa=>[Value.int k a]) (λa=>(Lit.int k a).wf=true):=by
 intro f e g h;obtain⟨d,rfl,_,c⟩:=DataW.trod_int b h;exact⟨d,rfl,c⟩
theorem PD {z:Type} {f:z->List Value} {m:Nat} (j:∀J,(f J).length=m) (o:0<m) (a:Addr) (xs:List z) (h:∀d (e:d<xs.length),w.cells? base (a.add (d*m)) m=some (f xs[d])):
  ∃q,Row w (λI=>I<w.heap.size) q m (some a) xs.length (xs.flatMap f):=by
 have t:∀d i (e:d<xs.length),i<m->w.cell? (a.add (d*m+i))=(f xs[d])[i]?:=by
  intro d i e k;have:=(World.cells?_some (h d e)).2.2 i k
  rwa [Go.Deep.add_add]at this
 by_cases C:xs.length=0
 ·have:xs=[]:=by cases xs;rfl;simp at C
  subst this;exact⟨0,Row.WH⟩
 ·have c:=t 0 0 oM o
  rw[Nat.zero_mul,Nat.zero_add,show a.add 0=a from rfl]at c;(have r:0<(f (xs[0]'oM)).length:=by rw[j];exact o);rw[aL r]at c;generalize(f (xs[0]'oM))[0]'r=L at c;obtain⟨l,p,y⟩:=a;unfold World.cell? at c;simp only at c;split at c
  ·rename_i A q B n
   split at c
   ·cases c
   ·rename_i G
    (have F:y=none:=by cases y;rfl;simp at G);subst F;refine⟨q,sZ j xs,λ_=>⟨l,p,A,B,rfl,WT n,n,λb K u=>?_⟩⟩;have v:=(List.getElem?_eq_some_iff.1 u).1;rw[sZ j]at v;have e:b/m<xs.length:=Nat.div_lt_of_lt_mul (by rw[Nat.mul_comm];exact v);have k:b%m<m:=Nat.mod_lt _ o;(have x:b/m*m+b%m=b:=by rw[Nat.mul_comm];exact Nat.div_add_mod b m);have s:=mr j xs (b/m) (b%m) e k;rw[x,u]at s;have g:=t (b/m) (b%m) e k;rw[x,<-s]at g;have D:(⟨l,p,none⟩:Addr).add b=⟨l,p+b,none⟩:=by
     unfold Addr.add;split
     ·rename_i E;rw[E];rfl
     ·rfl
    rw[D]at g;unfold World.cell? at g;simp only[n]at g;simpa using g
  ·cases c
theorem tL {j:Type} [Inhabited j] {t e:TypeId} {m:Nat} {f:j->List Value} {l:j->Prop} (D:∀x,(f x).length=m) (F:0<m) (I:Tryz.prog.underlying t=some (.slice e)) (B:Tryz.prog.cellsOf e=m) (C:Dec enc w base spare held e f l) {n:Nat} {r:List Value} {x:DataW H×List MemPlace}
  (h:DataW.trod enc Tryz.prog w base spare held n t r=some x):
  ∃c q,∃i:List j,r=[.slice c i.length q]/\i.length<=q/\(∀a∈i,l a)/\∃L,Row w (λJ=>J<w.heap.size) L m c i.length (i.flatMap f):=by
 rcases open_slice I h with⟨rfl,_⟩|⟨c,g,y,K,Q,M,N,rfl,_,E,_,G,_,v⟩
 ·exact⟨none,0,[],rfl,av _,λa d=>(by cases d),0,Row.WH⟩
 ·have P:g<=K:=by rw[G];split<;>omega
  rw[B]at v;obtain⟨o,s⟩:=choose_lt (α:=j) (n:=g) (p:=λb a=>w.cells? base (c.add (b*m)) m=some (f a)/\l a) (λb k=>by
   obtain⟨O,z,A⟩:=v b oM;obtain⟨a,rfl,d⟩:=C _ _ _ A;exact⟨a,z,d⟩)
  have u:((List.range g).map o).length=g:=sM;refine⟨some c,y,(List.range g).map o,by rw[u],by rw[u];exact E,λa d=>?_,?_⟩
  ·obtain⟨b,k,rfl⟩:=List.mem_map.1 d
   exact(s b (List.mem_range.1 k)).2
  ·refine PD (base:=base) D F c _ (λb k=>?_)
   have:=(s b (by simpa using k)).1;simpa using this
theorem qj {t:TypeId} {b:Array Field} {n:Nat} {a:List Value} {x:DataW H×List MemPlace} (k:Tryz.prog.underlying t=some (.struct b)) (h:DataW.trod enc Tryz.prog w base spare held n t a=some x) (i:Nat) (f:Field) (c:b[i]?=some f) (u:TypeId) (o m:Nat) (l:f.type=u) (j:f.offset=o) (g:Tryz.prog.cellsOf u=m):
  ∃n s,DataW.trod enc Tryz.prog w base spare held n u ((a.drop o).take m)=some s:=by
 obtain⟨r,q,_,_,_,e,p⟩:=DataW.trod_struct k h;have:=p i f c;subst l j g;(have d:i<r.length:=by rw[e];exact(Array.getElem?_eq_some_iff.1 c).1);rw[aL d]at this;exact⟨q,_,this⟩
theorem wf_u32 {z:Int} (h:(Lit.int .u32 z).wf=true):0<=z/\z<4294967296:=by
 simp[Lit.wf,IntKind.min,IntKind.max,IntKind.signed,IntKind.bits]at h;omega
theorem wf_u16 {z:Int} (h:(Lit.int .u16 z).wf=true):0<=z/\z<65536:=by
 simp[Lit.wf,IntKind.min,IntKind.max,IntKind.signed,IntKind.bits]at h;omega
theorem wf_u8 {z:Int} (h:(Lit.int .u8 z).wf=true):0<=z/\z<256:=by
 simp[Lit.wf,IntKind.min,IntKind.max,IntKind.signed,IntKind.bits]at h;omega
theorem wf_u64 {z:Int} (h:(Lit.int .u64 z).wf=true):0<=z/\z<18446744073709551616:=by
 simp[Lit.wf,IntKind.min,IntKind.max,IntKind.signed,IntKind.bits]at h;omega
theorem wf_i64 {z:Int} (h:(Lit.int .i64 z).wf=true): -9223372036854775808<=z/\z<9223372036854775808:=by
 simp[Lit.wf,IntKind.min,IntKind.max,IntKind.signed,IntKind.bits]at h;omega
theorem UC {n:Nat} {d:List Value} {x:DataW H×List MemPlace} (h:DataW.trod enc Tryz.prog w base spare held n 22 d=some x):
  ∃b c,∃a:List Int,d=[.slice b a.length c]/\a.length<=c/\U32 a/\∃m,Row w (λa=>a<w.heap.size) m 1 b a.length (a.flatMap u3V):=by
 obtain⟨b,c,o,e,g,i,j⟩:=tL (f:=u3V) (λ_=>rfl) dC Tryz.underlying22 kR (nG (k:=.u32) (t:=50) kR) h;exact⟨b,c,o,e,g,λp l=>wf_u32 (i p l),j⟩
theorem sl_u64 {n:Nat} {d:List Value} {x:DataW H×List MemPlace} (h:DataW.trod enc Tryz.prog w base spare held n 23 d=some x):
  ∃b c,∃a:List Int,d=[.slice b a.length c]/\a.length<=c/\rG a/\∃m,Wot m w (λa=>a<w.heap.size) b a:=by
 obtain⟨b,c,o,e,g,i,j⟩:=tL (f:=woV) (λ_=>rfl) dC Tryz.underlying23 kR (nG (k:=.u64) (t:=30) kR) h;exact⟨b,c,o,e,g,λp l=>wf_u64 (i p l),j⟩
theorem sl_by {n:Nat} {d:List Value} {x:DataW H×List MemPlace} (h:DataW.trod enc Tryz.prog w base spare held n 47 d=some x):
  ∃b c,∃a:List Int,d=[.slice b a.length c]/\a.length<=c/\dP a/\∃m,Byt m w (λa=>a<w.heap.size) b a:=by
 obtain⟨b,c,o,e,g,i,j⟩:=tL (f:=byV) (λ_=>rfl) dC Tryz.underlying47 kR (nG (k:=.u8) (t:=5) kR) h;exact⟨b,c,o,e,g,λp l=>wf_u8 (i p l),j⟩
instance:Inhabited Sh:=⟨⟨0,none,0,[],0,0,0,0,0,false,0⟩⟩
instance:Inhabited Mv:=⟨⟨0,0,default⟩⟩
instance:Inhabited Sq:=⟨⟨0,0,0,default⟩⟩
theorem list9 {l:List Value} (h:l.length=9):∃a b c d e f g i j,l=[a,b,c,d,e,f,g,i,j]:=by
 match l,h with
 |[a,b,c,d,e,f,g,i,j],_=>exact⟨a,b,c,d,e,f,g,i,j,rfl⟩
theorem JL:Dec enc w base spare held 53 shV (zW w (λl=>l<w.heap.size)):=by
 intro b0 t b7 h;(have E:t.length=9:=by obtain⟨U,l,_,_,B,_⟩:=DataW.trod_struct Tryz.underlying53 h;rw[B];kernel_rfl);obtain⟨Z,a0,a1,a2,a3,a4,a5,a7,a8,rfl⟩:=list9 E;obtain⟨b1,b8,u⟩:=qj Tryz.underlying53 h 0 _ rfl 3 0 1 rfl rfl kR;obtain⟨b2,b9,v⟩:=qj Tryz.underlying53 h 1 _ rfl 47 1 1 rfl rfl kR;obtain⟨b3,c0,x⟩:=qj Tryz.underlying53 h 2 _ rfl 51 2 4 rfl rfl kR;obtain⟨b4,c1,y⟩:=qj Tryz.underlying53 h 3 _ rfl 30 6 1 rfl rfl kR;obtain⟨b5,c2,z⟩:=qj Tryz.underlying53 h 4 _ rfl 4 7 1 rfl rfl kR;obtain⟨b6,c3,A⟩:=qj Tryz.underlying53 h 5 _ rfl 24 8 1 rfl rfl kR;obtain⟨V,b,R⟩:=nG Tryz.underlying3 _ _ _ u;obtain⟨q,s,r,c,D,C,M,F⟩:=sl_by v;obtain⟨W,d,S⟩:=nG Tryz.underlying30 _ _ _ y;obtain⟨X,e,_⟩:=DataW.trod_bool Tryz.underlying4 z;obtain⟨Y,f,T⟩:=nG Tryz.underlying24 _ _ _ A;obtain⟨U,a9,_,_,_,a6,a⟩:=DataW.trod_array Tryz.underlying51 x;(have G:Tryz.prog.cellsOf 24=1:=by kernel_rfl);rw[G]at a;have m:=a 0 dC;have n:=a 1 dC;have o:=a 2 dC;have p:=a 3 dC;rw[aL oM]at m n o p;obtain⟨I,g,N⟩:=nG Tryz.underlying24 _ _ _ m;obtain⟨J,i,O⟩:=nG Tryz.underlying24 _ _ _ n;obtain⟨K,j,P⟩:=nG Tryz.underlying24 _ _ _ o;obtain⟨L,k,Q⟩:=nG Tryz.underlying24 _ _ _ p;simp at b c d e f g i j k;subst b c d e f g i j k;exact⟨⟨V,q,s,r,I,J,K,L,W,X,Y⟩,rfl,⟨M,F⟩,D,C,wf_u16 N,wf_u16 O,wf_u16 P,wf_u16 Q,wf_u64 S,wf_u16 T,wf_i64 R⟩
theorem dec_sq:Dec enc w base spare held 67 sqV (SqOk w (λl=>l<w.heap.size)):=by
 intro B e G h;(have k:e.length=12:=by obtain⟨I,l,_,_,q,_⟩:=DataW.trod_struct Tryz.underlying67 h;rw[q];kernel_rfl);obtain⟨b,c,d,a,rfl⟩:∃b c d a,e=b::c::d::a:=by
  match e,k with
  |b::c::d::a,_=>exact⟨b,c,d,a,rfl⟩
 obtain⟨C,J,m⟩:=qj Tryz.underlying67 h 0 _ rfl 5 0 1 rfl rfl kR;obtain⟨D,K,n⟩:=qj Tryz.underlying67 h 1 _ rfl 50 1 1 rfl rfl kR;obtain⟨E,L,o⟩:=qj Tryz.underlying67 h 2 _ rfl 24 2 1 rfl rfl kR;obtain⟨F,M,p⟩:=qj Tryz.underlying67 h 3 _ rfl 53 3 9 rfl rfl kR;obtain⟨y,f,u⟩:=nG Tryz.underlying5 _ _ _ m;obtain⟨z,g,v⟩:=nG Tryz.underlying50 _ _ _ n;obtain⟨A,i,x⟩:=nG Tryz.underlying24 _ _ _ o;obtain⟨t,j,s⟩:=JL _ _ _ p;have r:a.take 9=a:=List.take_of_length_le (by simp at k;omega);simp only[List.drop_succ_cons,List.drop_zero,r]at j;simp at f g i;subst f g i j;exact⟨⟨y,z,A,t⟩,rfl,wf_u8 u,wf_u32 v,wf_u16 x,s⟩
theorem sl_sq {n:Nat} {a:Option Addr} {l c:Nat} {x:DataW H×List MemPlace} (h:DataW.trod enc Tryz.prog w base spare held n 60 [.slice a l c]=some x):
  ∃b:List Sq,l=b.length/\(∀j∈b,SqOk w (λd=>d<w.heap.size) j)/\∃k,Row w (λd=>d<w.heap.size) k 12 a b.length (b.flatMap sqV):=by
 obtain⟨o,p,m,e,_,g,i⟩:=tL (f:=sqV) Xy dC Tryz.underlying60 kR dec_sq h;simp at e;obtain⟨rfl,rfl,rfl⟩:=e;exact⟨m,rfl,g,i⟩
theorem sl_sh {n:Nat} {a:Option Addr} {l c:Nat} {x:DataW H×List MemPlace} (h:DataW.trod enc Tryz.prog w base spare held n 61 [.slice a l c]=some x):
  ∃b:List Sh,l=b.length/\(∀j∈b,zW w (λd=>d<w.heap.size) j)/\∃k,Row w (λd=>d<w.heap.size) k 9 a b.length (b.flatMap shV):=by
 obtain⟨o,p,m,e,_,g,i⟩:=tL (f:=shV) LX dC Tryz.underlying61 kR JL h;simp at e;obtain⟨rfl,rfl,rfl⟩:=e;exact⟨m,rfl,g,i⟩
theorem sl_k {n:Nat} {a:Option Addr} {l c:Nat} {x:DataW H×List MemPlace} (h:DataW.trod enc Tryz.prog w base spare held n 22 [.slice a l c]=some x):
  ∃b:List Int,l=b.length/\U32 b/\∃g,Row w (λb=>b<w.heap.size) g 1 a b.length (b.flatMap u3V):=by
 obtain⟨j,k,i,d,_,e,f⟩:=UC h;simp at d;obtain⟨rfl,rfl,rfl⟩:=d;exact⟨i,rfl,e,f⟩
theorem sl_w {n:Nat} {a:Option Addr} {l c:Nat} {x:DataW H×List MemPlace} (h:DataW.trod enc Tryz.prog w base spare held n 23 [.slice a l c]=some x):
  ∃b:List Int,l=b.length/\b.length<=c/\rG b/\∃i,Wot i w (λb=>b<w.heap.size) a b:=by
 obtain⟨k,m,j,d,e,f,g⟩:=sl_u64 h;simp at d;obtain⟨rfl,rfl,rfl⟩:=d;exact⟨j,rfl,e,f,g⟩
end
theorem Hl (S:Nat->Prop) (f2 f4 k7 k8:Option Addr) (i8 wc q9 r0:Nat) (K J:List Int) (f:List Sq) (j:List Sh) (w:World) (l2:∀b2,S b2->b2<w.heap.size) (b0:∃a0,Row w S a0 1 f2 K.length (K.flatMap u3V)) (i2:U32 K) (o0:∃a0,Wot a0 w S f4 J) (o5:rG J) (o3:J.length<=wc)
  (n8:∃a0,Row w S a0 12 k7 f.length (f.flatMap sqV)) (n7:∀j0∈f,SqOk w S j0) (m4:∃a0,Row w S a0 9 k8 j.length (j.flatMap shV)) (m3:∀j0∈j,zW w S j0):
  Calls Tryz.prog 5 #[.slice f2 K.length i8,.slice f4 J.length wc,.slice k7 f.length q9,.slice k8 j.length r0] w λe F=>e=.returned (bV true)/\bW w F:=by
 have k2:=zH n8;have k1:=zH n7;have q2:=zH m4;have q1:=zH m3;clear n8 n7 m4 m3;obtain⟨a,f0⟩:=eX (fV K);(have n0:lV a:=by rw[f0];exact CS i2);have M:=zH n0;have t6:=zH f0;have k0:=zH l2;have m0:=(by obtain⟨a0,r7⟩:=b0;have h:=JR S f2 i8 K w r7 i2;rw[<-f0]at h;exact h:Calls Tryz.prog 9 #[.slice f2 K.length i8] w λe F=>e=.returned (.agg (cfV a))/\bW w F);have q0:=zH m0;have q5:=zH (And.intro o0 (And.intro o5 o3));clear n0 f0 m0 l2 b0 i2 o0 o5 o3;go_enter Tryz.func5,Tryz.ntmps5;go_wp2_with fail;refine q0.out.mono ?_;rintro e b6 ⟨rfl,l4⟩;have f5:=zH l4;clear l4;(repeat (go_not_at_region 2;first|(refine iG 32 (.tmp 9) (.tmp 18) rfl rfl rfl b6.heap.size 0 (cfV a) kR kR ((Wx b6 32 #[jI 0,uI 0,jI 0,uI 0,jI 0,uI 0,uI 0,uI 0,uI 0,jI 0,uI 0,uI 0,uI 0,uI 0,uI 0,jI 0,uI 0]).there _ sM) kR (by simp[Value.oneCell']) ?_;intro a2 h4;have o7:Blk a2 b6.heap.size 32 (cfV a):=(by rw[h4];exact Blk.gF (Wx b6 32 _) [jI a.bits,uI a.one,jI a.ring,uI a.dO,jI a.room,uI a.mss,uI a.jD,uI a.bn,uI a.most,jI a.pX,uI a.first,uI a.jc,uI a.cap,uI a.gD,uI a.WL,jI a.bE,uI a.every] rfl);have e5:=zH o7;have j3:=zH (show bW b6 a2 by rw[h4];exact Below.bZ (av _) _ _ _ BEL);clear h4 o7)|go_values|go_skip|go_guarded|go_step|go_upon|go_back|go_simp));obtain⟨p,Q⟩:=eX b6.heap.size;rw[<-Q]at e5;rw[<-Q];have f6:=zH (f5.out.trans (j3.out.mono f5.out.size));clear Q f5 j3;have h8:bW a2 a2.drew:=bA (aj _ _);have V:Blk a2.drew p 32 (cfV a):=e5.out.below h8 e5.out.lt;have f1:bW w a2.drew:=f6.out.trans (h8.mono f6.out.size);refine aZ (S:=λF=>Blk F p 32 (cfV a)) kR V (λc1=>?_);clear c1;refine iL (v:=.agg (cfV a)) 0 (some 20) rfl kR kR kR kR (λ_ _ _ h=>h) (lH 32 (.tmp 9) rfl rfl p kR (cfV a) (λw G=>G) _ Tryz.underlying32 kR kR) V ?_;(try simp only[Act.put,List.setIfInBounds_toArray,List.set_cons_zero,List.set_cons_succ]);refine tK 1 21 V ?_;refine nrm 9 3 ?_;refine aI 2 kR ?_;obtain⟨⟨x8,n9⟩,o6,o4⟩:=q5.out;refine WE (op:=_) rfl kR (some 22) kR 16 #[.slice f4 J.length wc,jI 60] kR ((MZ S f4 wc J _ (aD n9 f1) o4).mono ?_);rintro w0 y0 ⟨⟨q6,m1,o1⟩,rfl⟩;refine⟨_,m1,V,?_⟩;(try simp only[Act.put,List.setIfInBounds_toArray,List.set_cons_zero,List.set_cons_succ]);(have o2:(J.take 60).length<=1000000:=by rw[aT];omega);refine aI 3 kR ?_;refine WE (op:=_) rfl kR (some 23) kR 15 #[.agg (cfV a),.slice q6 (J.take 60).length wc] kR ((Lq.new (c:=a) (words:=J.take 60) M.out o1 (λt5 r8=>o6 t5 (bf r8)) o2).mono ?_);rintro w1 e6 ⟨a5,m2,i3,C⟩;have a4:Blk e6 p 32 (cfV a):=V.below C V.lt;refine⟨_,m2,a4,?_⟩;(try simp only[Act.put,List.setIfInBounds_toArray,List.set_cons_zero,List.set_cons_succ]);refine tK 4 19 a4 ?_;refine nrm 9 31 ?_;refine tK 5 24 a4 ?_;refine tK 6 25 a4 ?_;refine nrm 9 127 ?_;refine tK 7 10 a4 ?_;refine tK 8 11 a4 ?_;refine nrm 9 511 ?_;refine bg kR ?_ _;obtain⟨g5,l3⟩:=eX a2.drew;rw[<-l3]at i3 C V f1;have e3:=zH i3;have m:=zH V;have l:=zH f1;clear o1 o2 n9 o6 o4 m1 m2 i3 C V f1 h8 a4 e5 f6 l3;by_cases x4:40<f.length
 ·have g8:decide ((40:Int)<(f.length:Int))=true:=bM oM
  go_wp2_with fail;refine(tQ e6).mono ?_;rintro e f3 ⟨rfl,a8⟩;go_wp2_with fail;refine(tQ f3).mono ?_;rintro e W ⟨rfl,P⟩;go_wp2_with fail;go_ret;exact⟨rfl,l.out.trans (((e3.out.below a8).below P).eg.bl.mono l.out.size)⟩
 have g8:decide ((40:Int)<(f.length:Int))=false:=bJ oM;by_cases x5:20<j.length
 ·have l1:decide ((20:Int)<(j.length:Int))=true:=bM oM
  go_wp2_with fail;refine(tQ e6).mono ?_;rintro e f3 ⟨rfl,a8⟩;go_wp2_with fail;refine(tQ f3).mono ?_;rintro e W ⟨rfl,P⟩;go_wp2_with fail;go_ret;exact⟨rfl,l.out.trans (((e3.out.below a8).below P).eg.bl.mono l.out.size)⟩
 have l1:decide ((20:Int)<(j.length:Int))=false:=bJ oM;go_wp2_with fail;refine(tQ e6).mono ?_;rintro e f3 ⟨rfl,a8⟩;have j6:=zH (e3.out.below a8);clear a8 e3;generalize nK a (J.take 60)=r1 at*
 go_upto_region 6 with fail;go_wp2_with fail;go_loopg [12,53] f.length (λx t2 t4 wr=>∃z L b3,t2=uI b3/\t4=jI ((f.length:Int) -x)/\x<=f.length/\(0<=b3/\b3<=4294967296*((f.length:Int) -x))/\Hid (Lq g5 wr L a5 (201*(f.length -x)) a z));(case atStart=>exact⟨r1,_,0,rfl,by congr 1;omega,av _,oM,by rw[Nat.sub_self];exact j6⟩);case round=>
  obtain⟨z,L,b3,rfl,rfl,a9,⟨m6,i4⟩,X⟩:=hrel;have d:=X;clear X j6;by_cases b1:0<gk
  ·obtain⟨b,U⟩:=eX (f.length -gk)
   have c8:(f.length:Int) -gk=(b:Int):=oM;have c7:b<f.length:=oM;rw[c8]at i4|-;rw[<-U]at d;have f8:=zH U;obtain⟨s9,d2⟩:=k2.out;obtain⟨t,u,rfl,h6,d0⟩:=BF Xy d2 c7;have j9:=zH (λc0 (c2:bW w c0)=>Ag d0 c2 h6);have g2:=zH (k1.out _ (aN c7));generalize f[b]=Y at*
   have h3:=l.out.trans (d.out.eg.bl.mono l.out.size);obtain⟨q8,k9,l0,-⟩:=Bq (j9.out _ h3);have g9:decide ((b:Int)<(f.length:Int))=true:=bM oM;have r9:(b:Int)<f.length:=oM;have x3:(b:Int)<=39:=oM;obtain⟨s1,s2⟩:=g2.out.wait;have s0:IntKind.u64.wrap Y.wait=Y.wait:=Wz _ ⟨oM,oM⟩;obtain⟨b4,m9⟩:=eX (b3+Y.wait);(have x7:IntKind.u64.wrap (b3+Y.wait)=b4:=by rw[m9];exact Wz _ ⟨oM,oM⟩);have m8:Word b4:=⟨oM,oM⟩;have i5:0<=b4/\b4<=4294967296*((b:Int)+1):=⟨oM,oM⟩;have j7:=zH m8;have q3:=zH i5;have f7:=zH h3;clear U c8 d0 d2 g8 m9 m8 i5 m6 i4 s1 s2 h3;go_wp2_with fail;refine(OW Y.n g2.out.n _).mono ?_;rintro e W ⟨t8,rfl,l9,P⟩;have b9:=zH (d.out.below P);go_wp2_with fail;refine(b9.out.write l9 (av _) (by have:=MP Y.n;omega) (OX Y.n)).mono ?_;rintro e b7 ⟨⟨x9,rfl⟩,a1,g,-,-⟩;have k:=zH g;clear l9 P b9 g d q8 k9 l0;go_wp2_with fail;refine(k.out.next oM j7.out).mono ?_;rintro e I ⟨⟨b5,rfl⟩,B,i,-,-⟩;have q:=zH i;generalize(WK 200 _ _).en=A at*
   clear i k;go_upto_region 12 with fail;have j5:=zH (l.out.trans (q.out.eg.bl.mono l.out.size));have g4:=zH g2.out.zD;have N:=zH (λc0 c2=>(Bq (j9.out c0 c2)).2.2.2);generalize Y.zD=o at*
   have h7:bW I I.drew:=bA (aj _ _);have d8:=zH (q.out.below h7);have e8:=j5.out.trans (h7.mono j5.out.size);have D:I.drew.rangeAt t (u+b*12+3) (shV o)/\Blk I.drew p 32 (cfV a):=⟨N.out _ e8,m.out.below d8.out.eg.bl m.out.lt⟩;refine aZ (S:=λF=>F.rangeAt t (u+b*12+3) (shV o)/\Blk F p 32 (cfV a)) kR D (λc1=>?_);clear c1;refine tK 0 75 D ?_;refine tK 1 76 D ?_;refine tK 2 77 D ?_;refine tK 3 78 D ?_;refine tK 4 79 D ?_;refine iL (v:=.agg (shV o).toArray) 5 (some 80) rfl kR kR kR kR (λ_ _ _ h=>h) (yieldsIf_load_mid rfl 53 (.tmp 79) rfl t (u+b*12+3) kR (shV o) _ (λw G=>G.1) Tryz.underlying53 kR kR) D ?_;(try simp only[Act.put,List.setIfInBounds_toArray,List.set_cons_zero,List.set_cons_succ]);refine tK 6 81 D ?_;refine iL (v:=.agg (cfV a)) 7 (some 82) rfl kR kR kR kR (λ_ _ _ h=>h) (lH 32 (.tmp 9) rfl rfl p kR (cfV a) (λw G=>G.2) _ Tryz.underlying32 kR kR) D ?_;(try simp only[Act.put,List.setIfInBounds_toArray,List.set_cons_zero,List.set_cons_succ]);refine tK 10 85 D ?_;refine nrm 12 1279 ?_;refine aI 8 kR ?_;refine WE (op:=_) rfl kR (some 83) kR 22 #[pT a5,.agg (cfV a)] kR (d8.out.ledger.mono ?_);rintro r4 d7 ⟨i9,Q,d1,C⟩;have d9:=zH (d8.out.below C);have c3:=e8.trans (C.mono e8.size);have n1:d7.rangeAt t (u+b*12+3) (shV o)/\Blk d7 p 32 (cfV a):=⟨N.out _ c3,m.out.below d9.out.eg.bl m.out.lt⟩;refine⟨_,Q,n1,?_⟩;(try simp only[Act.put,List.setIfInBounds_toArray,List.set_cons_zero,List.set_cons_succ]);refine nrm 12 1535 ?_;refine aI 9 kR ?_;refine WE (op:=_) rfl kR (some 84) kR 21 #[.agg (shV o).toArray,.agg #[.pointer none,pT i9]] kR ((Ju d1 (g4.out.below c3)).mono ?_);rintro r2 a7 ⟨h0,h2,h1,c5,R,a3⟩;have g0:=zH (d9.out.below a3);have l5:=c3.trans (a3.mono c3.size);have n2:a7.rangeAt t (u+b*12+3) (shV o)/\Blk a7 p 32 (cfV a):=⟨N.out _ l5,m.out.below g0.out.eg.bl m.out.lt⟩;refine⟨_,c5,n2,?_⟩;(try simp only[Act.put,List.setIfInBounds_toArray,List.set_cons_zero,List.set_cons_succ]);refine nrm 12 2047 ?_;refine aI 11 kR ?_;obtain⟨t0,d5⟩:=R.ex;have d4:=d9.out.notin (λb2 b0=>aC (k0.out b2 b0) l.out.size) a7;refine WE (op:=_) rfl kR (some 86) kR 20 #[pT a5,.slice h0 h1.length h2,uI b4] kR ((g0.out.on oM j7.out d5 (ay R.len dC) R.by_ (.inr d4)).mono ?_);rintro r3 d6 ⟨c6,j2,O,c9,-⟩;have e2:=zH O;have l6:=l.out.trans (O.eg.bl.mono l.out.size);have n3:d6.rangeAt t (u+b*12+3) (shV o)/\Blk d6 p 32 (cfV a):=⟨N.out _ l6,m.out.below O.eg.bl m.out.lt⟩;refine⟨_,c6,n3,?_⟩;(try simp only[Act.put,List.setIfInBounds_toArray,List.set_cons_zero,List.set_cons_succ]);have g3:=zH c9;refine bg kR ?_ _;generalize(lU _ _ _).en=j1 at*
   clear D n1 n2 n3 R d4 d5 d1 C a3 Q c5 c6 O c9 h7 e8 c3 l5 l6 d8 d9 g0;go_wp2_with fail;go_roundg (gk -1);(case measure=>omega);case rel=>
    have U:=f8.out;have g7:f.length -(gk -1)=b+1:=oM;have i5:=q3.out;exact⟨j1,j2,b4,rfl,by congr 1;omega,oM,oM,by rw[g7];exact zH (e2.out.mono oM)⟩
  ·have g9:decide ((f.length:Int) -gk<(f.length:Int))=false:=bJ oM
   have i1:gk=0:=oM;subst i1;have b8:=zH (d.out.mono (show 201*(f.length -0)<=8040 by omega));clear d k2 k1 b1 m6 i4 g8;go_upto_region 14 with fail;go_wp2_with fail;go_loopg [14] 5 (λx t3 wx=>∃z L,t3=jI ((5:Int) -x)/\x<=5/\(x<5->18446744073709551615<=z.now)/\Hid (Lq g5 wx L a5 (8040+200*(5 -x)) a z));(case atStart=>exact⟨_,_,rfl,av _,λh=>Wy h dC,b8⟩);case round=>
    obtain⟨z,L,rfl,a9,i7,X⟩:=hrel;have d:=X;clear X b8;by_cases b1:0<gk
    ·have r5:(gk=5/\(5:Int) -gk=0)\/(gk=4/\(5:Int) -gk=1)\/(gk=3/\(5:Int) -gk=2)\/(gk=2/\(5:Int) -gk=3)\/(gk=1/\(5:Int) -gk=4):=oM
     have t7:=zH a9;clear a9 i7 b1;rcases r5 with⟨h,s⟩|⟨h,s⟩|⟨h,s⟩|⟨h,s⟩|⟨h,s⟩
     ·rw[s]
      have r:=zH h;clear h s;go_wp2_with fail;refine(d.out.tick (now:=18446744073709551613) ⟨dC,dC⟩).mono ?_;rintro e b7 ⟨rfl,a1,g,-,-⟩;have k:=zH g;clear g d;go_wp2_with fail;refine(k.out.next oM (now:=18446744073709551615) ⟨dC,dC⟩).mono ?_;rintro e I ⟨⟨b5,rfl⟩,B,i,n,-⟩;have q:=zH i;have y:=zH n;generalize(WK 200 _ _).en=A at*
      clear i n k;go_wp2_with fail;go_roundg (gk -1);(case measure=>have:=r.out;omega);case rel=>
       have T:=r.out;subst T;exact⟨A,B,rfl,dC,λ_=>by rw[y.out];omega,q⟩
     ·rw[s]
      have r:=zH h;clear h s;go_wp2_with fail;refine(d.out.tick (now:=18446744073709551613) ⟨dC,dC⟩).mono ?_;rintro e b7 ⟨rfl,a1,g,-,-⟩;have k:=zH g;clear g d;go_wp2_with fail;refine(k.out.next oM (now:=18446744073709551615) ⟨dC,dC⟩).mono ?_;rintro e I ⟨⟨b5,rfl⟩,B,i,n,-⟩;have q:=zH i;have y:=zH n;generalize(WK 200 _ _).en=A at*
      clear i n k;go_wp2_with fail;go_roundg (gk -1);(case measure=>have:=r.out;omega);case rel=>
       have T:=r.out;subst T;exact⟨A,B,rfl,dC,λ_=>by rw[y.out];omega,q⟩
     ·rw[s]
      have r:=zH h;clear h s;go_wp2_with fail;refine(d.out.tick (now:=18446744073709551614) ⟨dC,dC⟩).mono ?_;rintro e b7 ⟨rfl,a1,g,-,-⟩;have k:=zH g;clear g d;go_wp2_with fail;refine(k.out.next oM (now:=18446744073709551615) ⟨dC,dC⟩).mono ?_;rintro e I ⟨⟨b5,rfl⟩,B,i,n,-⟩;have q:=zH i;have y:=zH n;generalize(WK 200 _ _).en=A at*
      clear i n k;go_wp2_with fail;go_roundg (gk -1);(case measure=>have:=r.out;omega);case rel=>
       have T:=r.out;subst T;exact⟨A,B,rfl,dC,λ_=>by rw[y.out];omega,q⟩
     ·rw[s]
      have r:=zH h;clear h s;go_wp2_with fail;refine(d.out.tick (now:=18446744073709551614) ⟨dC,dC⟩).mono ?_;rintro e b7 ⟨rfl,a1,g,-,-⟩;have k:=zH g;clear g d;go_wp2_with fail;refine(k.out.next oM (now:=18446744073709551615) ⟨dC,dC⟩).mono ?_;rintro e I ⟨⟨b5,rfl⟩,B,i,n,-⟩;have q:=zH i;have y:=zH n;generalize(WK 200 _ _).en=A at*
      clear i n k;go_wp2_with fail;go_roundg (gk -1);(case measure=>have:=r.out;omega);case rel=>
       have T:=r.out;subst T;exact⟨A,B,rfl,dC,λ_=>by rw[y.out];omega,q⟩
     ·rw[s]
      have r:=zH h;clear h s;go_wp2_with fail;refine(d.out.tick (now:=18446744073709551615) ⟨dC,dC⟩).mono ?_;rintro e b7 ⟨rfl,a1,g,-,-⟩;have k:=zH g;clear g d;go_wp2_with fail;refine(k.out.next oM (now:=18446744073709551615) ⟨dC,dC⟩).mono ?_;rintro e I ⟨⟨b5,rfl⟩,B,i,n,-⟩;have q:=zH i;have y:=zH n;generalize(WK 200 _ _).en=A at*
      clear i n k;go_wp2_with fail;go_roundg (gk -1);(case measure=>have:=r.out;omega);case rel=>
       have T:=r.out;subst T;exact⟨A,B,rfl,dC,λ_=>by rw[y.out];omega,q⟩
    ·have i1:gk=0:=oM
     subst i1;have d3:=i7 dC;have b8:=zH (d.out.mono (show 8040+200*(5 -0)<=9040 by omega));have k5:=zH d3;clear d i7 d3 b1 a9;go_upto_region 19 with fail;go_wp2_with fail;go_loopg [102] j.length (λx t1 wx=>∃z L,t1=jI ((j.length:Int) -x)/\x<=j.length/\Hid (18446744073709551615<=z.now)/\Hid (Lq g5 wx L a5 (9040+201*(j.length -x)) a z));(case atStart=>exact⟨z,L,by congr 1;omega,av _,k5,by rw[Nat.sub_self];exact b8⟩);case round=>
      obtain⟨z,L,rfl,a9,d3,X⟩:=hrel;have d:=X;have e4:=d3;clear X b8 d3 k5;by_cases b1:0<gk
      ·obtain⟨b,U⟩:=eX (j.length -gk)
       have c8:(j.length:Int) -gk=(b:Int):=oM;have c7:b<j.length:=oM;rw[c8];rw[<-U]at d;have f8:=zH U;obtain⟨s9,d2⟩:=q2.out;obtain⟨t,u,rfl,h6,d0⟩:=BF LX d2 c7;have N:=zH (λc0 (c2:bW w c0)=>Ag d0 c2 h6);have g4:=zH (q1.out _ (aN c7));generalize j[b]=o at*
       have f7:=zH (l.out.trans (d.out.eg.bl.mono l.out.size));have g9:decide ((b:Int)<(j.length:Int))=true:=bM oM;have r9:(b:Int)<j.length:=oM;have s0:IntKind.u64.wrap (b:Int)=b:=Wz _ ⟨oM,oM⟩;have x6:IntKind.i64.wrap ((b:Int)+1)=(b:Int)+1:=eP _ ⟨oM,oM⟩;have m5:b<=19:=oM;have f9:=zH m5;clear U c8 d0 d2 m5 l1;go_upto_region 22 with fail;have h9:bW wr wr.drew:=bA (aj _ _);have e0:=zH (d.out.below h9);have e9:=f7.out.trans (h9.mono f7.out.size);have E:wr.drew.rangeAt t (u+b*9) (shV o)/\Blk wr.drew p 32 (cfV a):=⟨N.out _ e9,m.out.below e0.out.eg.bl m.out.lt⟩;refine aZ (S:=λF=>F.rangeAt t (u+b*9) (shV o)/\Blk F p 32 (cfV a)) kR E (λc1=>?_);clear c1;refine tK 0 105 E ?_;refine tK 1 106 E ?_;refine tK 2 107 E ?_;refine tK 3 108 E ?_;refine iL (v:=.agg (shV o).toArray) 4 (some 109) rfl kR kR kR kR (λ_ _ _ h=>h) (yieldsIf_load_mid rfl 53 (.tmp 108) rfl t (u+b*9) kR (shV o) _ (λw G=>G.1) Tryz.underlying53 kR kR) E ?_;(try simp only[Act.put,List.setIfInBounds_toArray,List.set_cons_zero,List.set_cons_succ]);refine tK 5 110 E ?_;refine iL (v:=.agg (cfV a)) 6 (some 111) rfl kR kR kR kR (λ_ _ _ h=>h) (lH 32 (.tmp 9) rfl rfl p kR (cfV a) (λw G=>G.2) _ Tryz.underlying32 kR kR) E ?_;(try simp only[Act.put,List.setIfInBounds_toArray,List.set_cons_zero,List.set_cons_succ]);refine tK 9 114 E ?_;refine tk 10 (some 115) E (hy:=by intro w G;exact gS) (h:=?_);refine nrm 12 1663 ?_;refine aI 7 kR ?_;refine WE (op:=_) rfl kR (some 112) kR 22 #[pT a5,.agg (cfV a)] kR (e0.out.ledger.mono ?_);rintro r4 d7 ⟨i9,Q,d1,C⟩;have e1:=zH (e0.out.below C);have c4:=e9.trans (C.mono e9.size);have n4:d7.rangeAt t (u+b*9) (shV o)/\Blk d7 p 32 (cfV a):=⟨N.out _ c4,m.out.below e1.out.eg.bl m.out.lt⟩;refine⟨_,Q,n4,?_⟩;(try simp only[Act.put,List.setIfInBounds_toArray,List.set_cons_zero,List.set_cons_succ]);refine nrm 12 1791 ?_;refine aI 8 kR ?_;refine WE (op:=_) rfl kR (some 113) kR 21 #[.agg (shV o).toArray,.agg #[.pointer none,pT i9]] kR ((Ju d1 (g4.out.below c4)).mono ?_);rintro r2 a7 ⟨h0,h2,h1,c5,R,a3⟩;have g1:=zH (e1.out.below a3);have l7:=c4.trans (a3.mono c4.size);have n5:a7.rangeAt t (u+b*9) (shV o)/\Blk a7 p 32 (cfV a):=⟨N.out _ l7,m.out.below g1.out.eg.bl m.out.lt⟩;refine⟨_,c5,n5,?_⟩;(try simp only[Act.put,List.setIfInBounds_toArray,List.set_cons_zero,List.set_cons_succ]);refine nrm 12 2047 ?_;refine aI 11 kR ?_;obtain⟨t0,d5⟩:=R.ex;have d4:=e1.out.notin (λb2 b0=>aC (k0.out b2 b0) l.out.size) a7;refine WE (op:=_) rfl kR (some 116) kR 20 #[pT a5,.slice h0 h1.length h2,uI (b:Int)] kR ((g1.out.on (by have:=f9.out;omega) ⟨oM,by have:=f9.out;omega⟩ d5 (ay R.len dC) R.by_ (.inr d4)).mono ?_);rintro r3 d6 ⟨c6,j2,O,c9,-⟩;have e2:=zH O;have l8:=l.out.trans (O.eg.bl.mono l.out.size);have n6:d6.rangeAt t (u+b*9) (shV o)/\Blk d6 p 32 (cfV a):=⟨N.out _ l8,m.out.below O.eg.bl m.out.lt⟩;refine⟨_,c6,n6,?_⟩;(try simp only[Act.put,List.setIfInBounds_toArray,List.set_cons_zero,List.set_cons_succ]);have g3:=zH c9;refine bg kR ?_ _;generalize(lU _ _ _).en=j1 at*
       clear E n4 n5 n6 R d4 d5 d1 C a3 Q c5 c6 O c9 h9 e9 c4 l7 l8 e0 e1 g1;have k4:=zH (show 18446744073709551615<=j1.now by rw[g3.out];have:=e4.out;omega);clear d e4 g3;go_wp2_with fail;refine(e2.out.next (by have:=f9.out;omega) (now:=5) ⟨dC,dC⟩).mono ?_;rintro e I ⟨⟨b5,rfl⟩,B,i,n,-⟩;have q:=zH i;have y:=zH n;generalize(WK 200 _ _).en=A at*
       have k3:=zH (show 18446744073709551615<=A.now by rw[y.out];have:=k4.out;omega);clear i n y e2 k4;go_wp2_with fail;refine(q.out.tick (now:=7) ⟨dC,dC⟩).mono ?_;rintro e b7 ⟨rfl,a1,g,m7,-⟩;have k:=zH g;have j8:=zH m7;generalize kr _ _=p9 at*
       have q4:=zH (show 18446744073709551615<=p9.now by rw[j8.out];have:=k3.out;omega);clear g m7 j8 q k3;go_wp2_with fail;go_roundg (gk -1);(case measure=>omega);case rel=>
        have U:=f8.out;have g7:j.length -(gk -1)=b+1:=oM;exact⟨p9,a1,by congr 1;omega,oM,q4,by rw[g7];exact zH (k.out.mono oM)⟩
      ·have g9:decide ((j.length:Int) -gk<(j.length:Int))=false:=bJ oM
       go_upto_region 26 with fail;go_wp2_with fail;refine d.out.aS.mono ?_;rintro e W ⟨rfl,P⟩;have e7:=Sb d.out.ok e4.out;rw[d.out.cf]at e7;have b9:=zH (d.out.below P);obtain⟨H,i6⟩:=eX (cK z);rw[<-i6]at e7;rw[<-i6];clear P i6 d e4 a9 b1;(repeat (go_not_at_region 27;first|(refine iG 38 (.tmp 16) (.tmp 123) rfl rfl rfl W.heap.size 0 (stV H) kR kR ((Wx W 38 #[jI 0,uI 0,uI 0,uI 0,uI 0,uI 0,uI 0,uI 0,uI 0,uI 0,uI 0,uI 0,uI 0,uI 0,uI 0,uI 0]).there _ (av _)) kR (by simp[stV,Value.oneCell']) ?_;intro g6 h5;have o8:Blk g6 W.heap.size 38 (stV H):=(by rw[h5];have:=Blk.gF (Wx W 38 #[jI 0,uI 0,uI 0,uI 0,uI 0,uI 0,uI 0,uI 0,uI 0,uI 0,uI 0,uI 0,uI 0,uI 0,uI 0,uI 0]) (stV H).toList rfl;simpa using this);have k6:=zH o8;have j4:=zH (show bW W g6 by rw[h5];exact Below.bZ (av _) _ _ _ BEL);clear h5 o8)|go_values|go_skip|go_guarded|go_step|go_upon|go_back|go_simp));obtain⟨q7,i0⟩:=eX W.heap.size;rw[<-i0]at k6;rw[<-i0];have o9:=(b9.out.below j4.out).eg.bl.trans (aj _ _);have Z:=m.out.below o9 m.out.lt;have a6:=k6.out;(have k9:g6.cell? ⟨q7,1,none⟩=some (uI 18446744073709551615):=by have:=a6.cell 1;rw[<-e7.now];exact this);have l0:=a6.Wu 2;have v0:=a6.Wu 4;have v1:=a6.Wu 7;have v2:=a6.Wu 9;have t9:=a6.Wu 10;have v4:=Z.Wu 2;have v5:=Z.Wu 3;have v6:=Z.Wu 4;have v7:=Z.Wu 5;have v8:=Z.Wu 7;have v9:=Z.Wu 8;have v3:=Z.Wu 14;obtain⟨-,p0,p1,p2,p3,p4,p5,p6⟩:=e7;obtain⟨s3,p7,s4,s5,s6,s7,s8,p8⟩:4<=a.ring/\a.ring<=256/\0<=a.dO/\a.dO<=4611686018427387903/\1<=a.room/\a.room<=65536/\1<=a.mss/\a.mss<=1500:=⟨M.out.wZ,M.out.lW,M.out.limit0,M.out.mh,M.out.Af,M.out.qC,M.out.Gj,M.out.Ca⟩;have r6:0<=a.ring*a.mss/\a.ring*a.mss<=256*1500:=⟨dK oM oM,Int.mul_le_mul p7 p8 oM oM⟩;have w2:decide (a.bn<=H.cr)=true:=bM p0;have w5:decide (H.cr<=a.most)=true:=bM p1;have w6:decide (H.gP<=4294967296)=true:=bM p2;have w7:decide (a.WL<=H.gP)=true:=bM p3;have w8:IntKind.u64.wrap a.ring=a.ring:=Wz _ ⟨oM,oM⟩;have w9:IntKind.u64.wrap (a.ring*a.mss)=a.ring*a.mss:=Wz _ ⟨oM,oM⟩;have x0:decide (H.jS<=a.ring*a.mss)=true:=bM p4;have x1:IntKind.u64.wrap (a.dO+1)=a.dO+1:=Wz _ ⟨oM,oM⟩;have x2:decide (H.next<=a.dO+1)=true:=bM p5;have w3:IntKind.u64.wrap a.room=a.room:=Wz _ ⟨oM,oM⟩;have w4:decide (H.fG<=a.room)=true:=bM p6;clear p0 p1 p2 p3 p4 p5 p6 s3 p7 s4 s5 s6 s7 s8 p8 r6 Z a6 o9 i0;go_wp2_with fail;go_ret;exact⟨rfl,l.out.trans ((b9.out.below j4.out).eg.bl.mono l.out.size)⟩
theorem Fy {H:Type} {enc:TypeId×Value->H} {base:Nat} (b:Value) (o:DataW H) (R:List MemPlace) (c:Value) (p:DataW H) (S:List MemPlace) (d:Value) (q:DataW H) (T:List MemPlace) (e:Value) (r:DataW H) (U:List MemPlace) (a:World) (N:Value.okWide Tryz.prog a .any base 22 b) (J:DataW.Trod enc Tryz.prog a 0 (λ_=>true) true 22 b o R) (O:Value.okWide Tryz.prog a .any base 23 c) (K:DataW.Trod enc Tryz.prog a 0 (λ_=>true) true 23 c p S) (P:Value.okWide Tryz.prog a .any base 60 d) (L:DataW.Trod enc Tryz.prog a 0 (λ_=>true) true 60 d q T) (Q:Value.okWide Tryz.prog a .any base 61 e) (M:DataW.Trod enc Tryz.prog a 0 (λ_=>true) true 61 e r U):
  Calls Tryz.prog 5 #[b,c,d,e] a λs W=>s=.returned (bV true)/\bW a W:=by
 obtain⟨Y,t⟩:=J;obtain⟨f,a2,k,rfl⟩:=okWide_slice Tryz.underlying22 N;obtain⟨I,rfl,A,z⟩:=sl_k t;obtain⟨Z,u⟩:=K;obtain⟨g,a3,l,rfl⟩:=okWide_slice Tryz.underlying23 O;obtain⟨X,rfl,F,G,E⟩:=sl_w u;obtain⟨a0,v⟩:=L;obtain⟨i,a4,m,rfl⟩:=okWide_slice Tryz.underlying60 P;obtain⟨V,rfl,C,D⟩:=sl_sq v;obtain⟨a1,w⟩:=M;obtain⟨j,a5,n,rfl⟩:=okWide_slice Tryz.underlying61 Q;obtain⟨B,rfl,x,y⟩:=sl_sh w;exact Hl _ f g i j k l m n I X V B a (λ_ h=>h) z A E G F D C y x
end Go.Proofs.YtiflndepmgnojaaGreat
