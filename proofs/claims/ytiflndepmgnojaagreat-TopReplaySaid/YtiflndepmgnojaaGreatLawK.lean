import Derived.Test.YtiflndepmgnojaaGreatQud
import Derived.Test.YtiflndepmgnojaaGreatAce
namespace Go.Proofs.YtiflndepmgnojaaGreat
open Go.RowKit
set_option linter.unusedSimpArgs false
set_option linter.unusedVariables false
set_option maxHeartbeats 4000000
set_option maxRecDepth 100000
attribute[local go_sem] BW.cell BW.frozen
def SN (S:Nat->Prop) (w:World):Nat->Prop:=λd=>S d\/w.heap.size<=d
theorem Row.tight {w W:World} {S:Nat->Prop} {t:TypeId} {size n:Nat} {a:Option Addr} {xs:List Value} (h:Row W (SN S w) t size a n xs):Row W (grow S w W) t size a n xs:=by
 refine⟨h.1,λl=>?_⟩;obtain⟨b,m,e,g,f,j,d,k⟩:=h.2 l;exact⟨b,m,e,g,f,j.elim .inl (λi=>.inr ⟨i,WT d⟩),d,k⟩
theorem OwnAt.tight {w W:World} {S:Nat->Prop} {t:TypeId} {size n c:Nat} {a:Option Addr} {xs:List Value} (h:OwnAt W (SN S w) t size a n c xs):OwnAt W (grow S w W) t size a n c xs:=
 ⟨h.own,λd e=>(h.mem d e).elim .inl (λf=>.inr ⟨f,h.lt d e⟩)⟩
theorem mG.tight {w W:World} {S:Nat->Prop} {p:Nat} {q:Qu} (h:mG W (SN S w) p q) (f:S p):mG W (grow S w W) p q:=by
 obtain⟨a,c,a4,c4,a5,c5,d,e,g,i,j,k⟩:=h.ex;exact⟨⟨a,c,a4,c4,a5,c5,d,e.tight,Row.tight g,i,Row.tight j,k⟩,.inl f⟩
structure Qp (w W:World) (S:Nat->Prop) (p:Nat) (room base fresh:Int) (a:Option Addr) (c:Nat) (b:List Int) (a4:Option Addr) (c4:Nat) (dX:List Sp) (a5:Option Addr) (c5:Nat) (cO:List Sp):Prop where
 hblk:Blk W p 234 #[jI room,uI base,uI fresh,.slice a b.length c,.slice a4 dX.length c4,.slice a5 cO.length c5]
 hown:OwnAt W (SN S w) 5 1 a b.length c (b.flatMap byV)
 rW:Sps W (SN S w) a4 dX
 EM:dX.length<=c4
 Cn:Sps W (SN S w) a5 cO
 EK:cO.length<=c5
 hmod:Qum S w W
section
variable {w W W':World} {S:Nat->Prop} {p:Nat} {room base fresh:Int} {a a4 a5:Option Addr} {c c4 c5:Nat} {b:List Int} {dX cO:List Sp}
theorem Qp.below (h:Qp w W S p room base fresh a c b a4 c4 dX a5 c5 cO) (hb:bW W W'):Qp w W' S p room base fresh a c b a4 c4 dX a5 c5 cO:=
 ⟨h.hblk.below hb h.hblk.lt,h.hown.below hb,aD h.rW hb,h.EM,aD h.Cn hb,h.EK,Mod.then (S':=S) h.hmod (aH hb) (λ_ _ h=>h)⟩
theorem Qp.quAt (h:Qp w W S p room base fresh a c b a4 c4 dX a5 c5 cO) (d:S p):mG W (grow S w W) p ⟨room,base,fresh,b,dX,cO⟩:=
 mG.tight ⟨⟨a,c,a4,c4,a5,c5,h.hblk,h.hown,h.rW,h.EM,h.Cn,h.EK⟩,.inl d⟩ d
theorem Qp.yX (h:Qp w W S p room base fresh a c b a4 c4 dX a5 c5 cO) (i:Nat) (u:Value):bQ (SN S w) [some 272] W (W.setCell ⟨p,i,none⟩ u):=bQ.setCell h.hblk dC i u
theorem Qp.owed_ (h:Qp w W S p room base fresh a c b a4 c4 dX a5 c5 cO) (i:S p) {a':Option Addr} {e:Nat} {d:List Sp} (f:Sps W (SN S w) a' d) (g:d.length<=e):
  Qp w (W.setCell ⟨p,5,none⟩ (.slice a' d.length e)) S p room base fresh a c b a4 c4 dX a' e d:=
 ⟨by simpa using h.hblk.bF 5 (.slice a' d.length e),h.hown.far (h.hown.pI h.hblk dC),aG h.rW (h.yX _ _) sM,h.EM,aG f (h.yX _ _) sM,g,Mod.setCell h.hmod h.hblk (λ_=>i) sM 5 _⟩
theorem Qp.LC (h:Qp w W S p room base fresh a c b a4 c4 dX a5 c5 cO) (i:S p) {a':Option Addr} {e:Nat} {d:List Sp} (f:Sps W (SN S w) a' d) (g:d.length<=e):
  Qp w (W.setCell ⟨p,4,none⟩ (.slice a' d.length e)) S p room base fresh a c b a' e d a5 c5 cO:=
 ⟨by simpa using h.hblk.bF 4 (.slice a' d.length e),h.hown.far (h.hown.pI h.hblk dC),aG f (h.yX _ _) sM,g,aG h.Cn (h.yX _ _) sM,h.EK,Mod.setCell h.hmod h.hblk (λ_=>i) sM 4 _⟩
theorem Qp.b_ (h:Qp w W S p room base fresh a c b a4 c4 dX a5 c5 cO) (g:S p) {a':Option Addr} {e:Nat} {d:List Int} (f:OwnAt W (SN S w) 5 1 a' d.length e (d.flatMap byV)):
  Qp w (W.setCell ⟨p,3,none⟩ (.slice a' d.length e)) S p room base fresh a' e d a4 c4 dX a5 c5 cO:=
 ⟨by simpa using h.hblk.bF 3 (.slice a' d.length e),f.far (f.pI h.hblk dC),aG h.rW (h.yX _ _) sM,h.EM,aG h.Cn (h.yX _ _) sM,h.EK,Mod.setCell h.hmod h.hblk (λ_=>g) sM 3 _⟩
theorem Qp.base_ (h:Qp w W S p room base fresh a c b a4 c4 dX a5 c5 cO) (e:S p) (d:Int):
  Qp w (W.setCell ⟨p,1,none⟩ (uI d)) S p room d fresh a c b a4 c4 dX a5 c5 cO:=
 ⟨by simpa using h.hblk.bF 1 (uI d),h.hown.far (h.hown.pI h.hblk dC),aG h.rW (h.yX _ _) sM,h.EM,aG h.Cn (h.yX _ _) sM,h.EK,Mod.setCell h.hmod h.hblk (λ_=>e) sM 1 _⟩
end
theorem Ir (S:Nat->Prop) (p:Nat) (q:Qu) (d n:Int) (w:World) (h:mG w S p q) (l:WV q) (X:Word d) (j7:Word n):
  Calls Tryz.prog 190 #[pT p,uI d,uI n] w λT f=>(∃b,T=.returned (bV b))/\mG f (grow S w f) p (kS q d n)/\Qum S w f:=by
 have r:=h.mem;have b3:=zH (zT d n q.fresh X ⟨by have:=l.base0;have:=l.vV;omega,by have:=l.fresh;have:=l.qx;omega⟩);have g7:=zH h;obtain⟨a,c,a4,c4,a5,c5,a2,c6,c7,b7,c8,c9⟩:=h.ex;have l2:=a2.Wu 2;have m3:=a2.lt;by_cases b8:nk d n q.fresh=true
 ·obtain⟨n7,n8,n9⟩:=kC.1 b8
  have m2:=l.qx;have j4:=l.fresh;have l0:=l.base0;have z:d+n<18446744073709551616:=oM;(have k7:0<=d+n -1:=by have:=X.1;omega);(have n6:1<=d+n:=by have:=X.1;omega);have g1:=X.1;have g3:d<=d+n -1:=oM;have g4:d+n -1<=4611686018427387903:=oM;rw[b8]at b3;have d5:SpW ⟨d,d+n -1⟩:=⟨X,⟨k7,by show d+n -1<18446744073709551616;omega⟩⟩;have d1:Gd q.dX:=l.dX.mono oM;have a9:=zV (s:=⟨d,d+n -1⟩) d1 g1 g3 g4;have j1:=zu q.dX ⟨d,d+n -1⟩;have c0:=l.small;(have m4:q.b.length<=65536:=by have:=l.len;have:=l.qC;omega);(have b0:kS q d n=oJ {q with cO:=jh q.cO ⟨d,d+n -1⟩,dX:=gV (iV q.dX ⟨d,d+n -1⟩) q.base}:=by unfold kS;rw[Ww (by rw[b8];simp)]);have i8:∀k5∈gV (iV q.dX ⟨d,d+n -1⟩) q.base,k5.hi<q.fresh:=by
   refine GF.below (pP (lo:=q.base) a9 oM) λn4 r=>?_;rw[sW a9,vW d1 g3 g4]at r;simp only[Bool.and_eq_true,Bool.or_eq_true]at r;rcases r.1 with r|r
   ·exact uQ l.Xk r
   ·simp[nV]at r;omega
  have f6:=pP (lo:=q.base) a9 oM;have j5:=xM l d n g1;have j0:Qp w w S p q.room q.base q.fresh a c q.b a4 c4 q.dX a5 c5 q.cO:=⟨a2,c6.mono (λ_ h=>.inl h),aF c7 (λ_ h=>.inl h),b7,aF c8 (λ_ h=>.inl h),c9,aV _ _ _⟩;have g8:=zH (λf (W:World) (O:Sps W (SN S w) a5 q.cO) (i:bW W f)=>AV (SN S w) a5 c5 q.cO ⟨d,d+n -1⟩ f (aD O i) (by have:=c0.2;omega) (l.cO.words l.base0) d5);have h2:=zH (λf (W:World) (O:Sps W (SN S w) a4 q.dX) (i:bW W f)=>sH (SN S w) a4 c4 q.dX ⟨d,d+n -1⟩ f (aD O i) (by have:=c0.1;omega) b7 (l.dX.words oM) d5);have h3:=zH (λ(e2:Option Addr) (i0:Nat) f (W:World) (O:Sps W (SN S w) e2 (iV q.dX ⟨d,d+n -1⟩)) (i:bW W f)=>zb (SN S w) e2 i0 (iV q.dX ⟨d,d+n -1⟩) q.base f (aD O i) (by have:=c0.1;omega) (a9.words oM));rw[b0];have h4:=zH j0;have k8:=zH j5;obtain⟨room,base,fresh,b,dX,cO⟩:=q;simp only at*
  have j6:GF base (gV (iV dX ⟨d,d+n -1⟩) base):=f6.mono oM;generalize gV (iV dX ⟨d,d+n -1⟩) base=c2 at*
  generalize iV dX ⟨d,d+n -1⟩=e3 at*
  generalize jh cO ⟨d,d+n -1⟩=L at*
  clear h a2 c6 c7 b7 c8 c9 l b0 d1 a9 j1 c0 f6 d5 X j7;go_enter Tryz.func190,Tryz.ntmps190;go_wp2_with fail;refine(b3.out _).mono ?_;rintro T z ⟨rfl,rfl⟩;go_wp2_with fail;obtain⟨Z,a3⟩:=eX (w.alloc (.cells #[uI d,uI (d+n -1)] 272));rw[<-a3];(have C:Blk Z w.heap.size 272 #[uI d,uI (d+n -1)]:=by rw[a3];exact Wx w 272 _);have g:=h4.out.below (show bW w Z by rw[a3];exact BEL);(have m6:w.heap.size<=Z.heap.size:=by rw[a3];simp);have o:=zH C;have e:=zH g;clear a3 C g;have i4:=e.out.hblk.Wu 5;have d8:=o.out.Wu 0;have d9:=o.out.Wu 1;have d4:=e.out.hblk.lt;have b1:=o.out.lt;refine gN kR ?_;refine dR 0 (v:=?_) rfl kR (λ_ _ _ h=>h) (Or.inl ⟨by rfl,?_⟩) ?_;rotate_left
  (·exact λw=>gS);(try simp only[Act.put,Array.setIfInBounds]);(try go_simp);refine eQ 1 6 kR (λf=>∃n,f=Z.drewN n) ⟨1,rfl⟩ ?_;refine mA ?_;rintro _ ⟨d7,rfl⟩;refine dA rfl rfl ?_;go_wp2_with fail;refine(g8.out _ _ e.out.Cn (aA (aj _ _) _)).mono ?_;rintro T z ⟨g2,k4,rfl,D,I,i⟩;have y:bW Z z:=bD (aA (aj _ _) _) i;have A:=e.out.below y;have K:=o.out.below y b1;have f7:=y.size;have J:Sps z (SN S w) g2 L:=aF I (λm u=>.inr (by have:=u.1;first|omega|(simp at this;omega)));obtain⟨b2,a1⟩:=A.hblk.cz 5;have G:=zH A;have H:=zH K;have h8:=zH J;have h1:=zH D;clear i y A K I J D i4 d8 d9;go_wp2_with fail;refine dR 7 (v:=?_) rfl kR (λ_ _ _ h=>h) (Or.inl ⟨by rfl,?_⟩) ?_;rotate_left
  (·exact λw=>gS);refine dR 8 (v:=?_) rfl kR (λ_ _ _ h=>h) (Or.inl ⟨by rfl,?_⟩) ?_;rotate_left
  (·exact λw=>gS);refine dR 9 (v:=?_) rfl kR (λ_ _ _ h=>h) (Or.inl ⟨by rfl,?_⟩) ?_;rotate_left
  (·exact λw=>gS);(try simp only[Act.put,Array.setIfInBounds]);(try go_simp);refine eQ 10 12 kR (λf=>∃_:Unit,f=_) ⟨(),rfl⟩ ?_;refine mA ?_;rintro Q ⟨_,B⟩;rw[B];clear B Q;refine dA rfl rfl ?_;go_simp;refine jY 13 kR kR ?_;refine mC ?_;go_wp2_with fail;obtain⟨b4,a6⟩:=eX (z.setCell ⟨p,5,none⟩ (.slice g2 L.length k4));rw[<-a6];have g:=G.out.owed_ r h8.out h1.out;rw[<-a6]at g;(have C:Blk b4 w.heap.size 272 #[uI d,uI (d+n -1)]:=by rw[a6];exact H.out.far (show w.heap.size≠p by omega) _);(have m7:w.heap.size<=b4.heap.size:=by rw[a6];simp[World.setCell];omega);clear e o;have o:=zH C;have e:=zH g;clear a6 C g G H b2 a1;have c3:=e.out.hblk.Wu 4;have d8:=o.out.Wu 0;have d9:=o.out.Wu 1;have d4:=e.out.hblk.lt;have b1:=o.out.lt;refine gN kR ?_;refine dR 0 (v:=?_) rfl kR (λ_ _ _ h=>h) (Or.inl ⟨by rfl,?_⟩) ?_;rotate_left
  (·exact λw=>gS);(try simp only[Act.put,Array.setIfInBounds]);(try go_simp);refine eQ 1 6 kR (λf=>∃n,f=b4.drewN n) ⟨1,rfl⟩ ?_;refine mA ?_;rintro _ ⟨d7,rfl⟩;refine dA rfl rfl ?_;go_wp2_with fail;refine(h2.out _ _ e.out.rW (aA (aj _ _) _)).mono ?_;rintro T z ⟨e4,h9,rfl,D,I,i⟩;have y:bW b4 z:=bD (aA (aj _ _) _) i;have A:=e.out.below y;have K:=o.out.below y b1;have f7:=y.size;have J:Sps z (SN S w) e4 e3:=aF I (λm u=>.inr (by have:=u.1;first|omega|(simp at this;omega)));obtain⟨b2,a1⟩:=A.hblk.cz 4;have G:=zH A;have H:=zH K;have h6:=zH J;have g9:=zH D;clear i y A K I J D c3 d8 d9;go_wp2_with fail;refine dR 7 (v:=?_) rfl kR (λ_ _ _ h=>h) (Or.inl ⟨by rfl,?_⟩) ?_;rotate_left
  (·exact λw=>gS);refine dR 8 (v:=?_) rfl kR (λ_ _ _ h=>h) (Or.inl ⟨by rfl,?_⟩) ?_;rotate_left
  (·exact λw=>gS);refine dR 9 (v:=?_) rfl kR (λ_ _ _ h=>h) (Or.inl ⟨by rfl,?_⟩) ?_;rotate_left
  (·exact λw=>gS);(try simp only[Act.put,Array.setIfInBounds]);(try go_simp);refine eQ 10 12 kR (λf=>∃_:Unit,f=_) ⟨(),rfl⟩ ?_;refine mA ?_;rintro Q ⟨_,B⟩;rw[B];clear B Q;refine dA rfl rfl ?_;go_simp;refine jY 13 kR kR ?_;refine mC ?_;go_wp2_with fail;obtain⟨b5,a7⟩:=eX (z.setCell ⟨p,4,none⟩ (.slice e4 e3.length h9));rw[<-a7];have g:=G.out.LC r h6.out g9.out;rw[<-a7]at g;(have C:Blk b5 w.heap.size 272 #[uI d,uI (d+n -1)]:=by rw[a7];exact H.out.far (show w.heap.size≠p by omega) _);(have m8:w.heap.size<=b5.heap.size:=by rw[a7];simp[World.setCell];omega);clear e o;have o:=zH C;have e:=zH g;clear a7 C g G H b2 a1;have c3:=e.out.hblk.Wu 4;have i3:=e.out.hblk.Wu 1;have d4:=e.out.hblk.lt;have b1:=o.out.lt;refine gN kR ?_;refine dR 0 (v:=?_) rfl kR (λ_ _ _ h=>h) (Or.inl ⟨by rfl,?_⟩) ?_;rotate_left
  (·exact λw=>gS);(try simp only[Act.put,Array.setIfInBounds]);(try go_simp);refine eQ 1 9 kR (λf=>∃n,f=b5.drewN n) ⟨1,rfl⟩ ?_;refine mA ?_;rintro _ ⟨d7,rfl⟩;refine dA rfl rfl ?_;go_wp2_with fail;refine(h3.out _ _ _ _ e.out.rW (aA (aj _ _) _)).mono ?_;rintro T z ⟨e5,F,rfl,D,I,i⟩;have y:bW b5 z:=bD (aA (aj _ _) _) i;have A:=e.out.below y;have K:=o.out.below y b1;have f7:=y.size;have J:Sps z (SN S w) e5 c2:=aF I (λm u=>.inr (by have:=u.1;first|omega|(simp at this;omega)));obtain⟨b2,a1⟩:=A.hblk.cz 4;have G:=zH A;have H:=zH K;have h7:=zH J;have h0:=zH D;clear i y A K I J D c3 i3;go_wp2_with fail;refine eQ 10 12 kR (λf=>∃_:Unit,f=_) ⟨(),rfl⟩ ?_;refine mA ?_;rintro Q ⟨_,B⟩;rw[B];clear B Q;refine dA rfl rfl ?_;go_simp;refine jY 13 kR kR ?_;refine mC ?_;go_wp2_with fail;obtain⟨a0,a8⟩:=eX (z.setCell ⟨p,4,none⟩ (.slice e5 c2.length F));rw[<-a8];have g:=G.out.LC r h7.out h0.out;rw[<-a8]at g;(have C:Blk a0 w.heap.size 272 #[uI d,uI (d+n -1)]:=by rw[a8];exact H.out.far (show w.heap.size≠p by omega) _);(have j8:w.heap.size<=a0.heap.size:=by rw[a8];simp[World.setCell];omega);clear e o;have o:=zH C;have e:=zH g;clear a8 C g G H b2 a1;have U:=e.out.hblk.Wu 4;have b6:=e.out.hblk.Wu 1;have d4:=e.out.hblk.lt;cases u:c2 with
  |nil=>
   subst u;have V:oJ ⟨room,base,fresh,b,[],L⟩=⟨room,base,fresh,b,[],L⟩:=rfl;simp only[List.length_nil]at U;refine mQ ?_;rintro _ ⟨nq,rfl⟩;go_wp2_with fail;go_ret;have g:=e.out.below (aA (aj _ _) nq);rw[V];exact⟨⟨_,rfl⟩,g.quAt r,g.hmod⟩
  |cons x t=>
   subst u;obtain⟨M,R,rfl,j9,g0,d6⟩:=Sps.at_ e.out.rW (aj _ _) (j:=0) sM;simp only[Nat.zero_mul,Nat.add_zero,List.getElem_cons_zero]at g0 d6;have o0:=i8 x sM;obtain⟨l3,l4,l5⟩:=j6.head;have n5:decide ((0:Int)<((t.length:Int)+1))=true:=sM;have k6:(x::t).length=t.length+1:=rfl;rw[k6]at U;by_cases i:x.lo=base
   ·have j2:(x.lo==base)=true:=by simp[i]
    have V:oJ ⟨room,base,fresh,b,x::t,L⟩=⟨room,x.hi+1,fresh,b.drop (x.hi+1 -base).toNat,t,L⟩:=by
     unfold oJ;simp only[aY,List.getD_cons_zero,i,List.drop_succ_cons,List.drop_zero];rw[aB ⟨oM,trivial⟩]
    obtain⟨m,u⟩:∃m:Nat,(m:Int)=x.hi+1 -base:=⟨(x.hi+1 -base).toNat,oM⟩;have f5:(x.hi+1 -base).toNat=m:=oM;rw[f5]at V;(have f4:m<=b.length:=by have:=j4;simp only[fT]at this;omega);have l6:x.hi+1<18446744073709551616:=oM;have l7:0<=x.hi:=oM;have l8:base<=x.hi+1:=oM;have l9:x.hi+1 -base=(m:Int):=u.symm;have m0:(m:Int)<18446744073709551616:=oM;obtain⟨n1,f2,k2,f9,k3⟩:=info_parts lF;have hcut:=BC (P:=Tryz.prog) Tryz.underlying47 f2 a b.length c m f4;rw[f9]at hcut;have D:=e.out.hown.cap_;have Y:=zH (fe.drop e.out.hown.row f4 D);have c1:=zH (show(b.drop m).length=b.length -m by rw[bI]);generalize fE a c m 1=i2 at*
    clear f2 k2 f9 k3 u f5;refine mQ ?_;rintro _ ⟨nq,rfl⟩;obtain⟨E,N⟩:=eX (a0.drewN nq);rw[<-N];have g:=e.out.below (show bW a0 E by rw[N];exact aA (aj _ _) nq);have e6:=aD Y.out (show bW a0 E by rw[N];exact aA (aj _ _) nq);(have n3:E.cell? ⟨M,R+1,none⟩=some (uI x.hi):=by rw[N];exact d6);(have n0:M<E.heap.size:=by rw[N];exact j9);(have m9:w.heap.size<=E.heap.size:=by rw[N];exact j8);clear e o Y g0 d6 b6 U;have e:=zH g;have Y:=zH e6;clear N g e6;have U:=e.out.hblk.Wu 4;have i5:=e.out.hblk.Wu 3;have b6:=e.out.hblk.Wu 1;go_wp2_with fail;refine gN kR ?_;refine dR 0 (v:=?_) rfl kR (λ_ _ _ h=>h) (Or.inl ⟨by rfl,?_⟩) ?_;rotate_left
    (·exact λw=>gS);(try simp only[Act.put,Array.setIfInBounds]);(try go_simp);refine eQ 1 12 kR (λf=>∃n,f=E.drewN n) ⟨1,rfl⟩ ?_;refine mA ?_;rintro _ ⟨d7,rfl⟩;refine dA rfl rfl ?_;refine fe.wp _ (.tmp 102) rfl E.heap.size none 0 [] (by rfl) (iq _ _ _ _) i2 (c -m) (b.drop m) (by simp[Act.eval,c1.out]) (aD Y.out (aA (aj _ _) _)) (by rw[c1.out];simp;omega) dC (av _) ?_;intro g6 i1 g5 d3 f1;have d2:bW E g5:=bD (aA (aj _ _) _) ((aj _ _).grown f1 (av _) (by simp[Value.ownBlock]));have b9:=e.out.below d2;rw[List.nil_append]at d3;have f0:=(OwnAt.fresh (w:=E) d3).mono (S':=SN S w) (λm u=>.inr (by have:=u.1;omega));have i7:=b9.hblk.frozen 3;have i6:=b9.hblk.Wu 3;have m5:=d2.size;have e1:=zH b9;have e0:=zH f0;clear d3 f1 d2 b9 f0;refine eQ 13 15 kR (λf=>∃_:Unit,f=_) ⟨(),rfl⟩ ?_;refine mA ?_;rintro Q ⟨_,B⟩;rw[B];clear B Q;refine dA rfl rfl ?_;go_simp;refine jY 16 kR kR ?_;refine mC ?_;go_wp2_with fail;obtain⟨k9,d0⟩:=eX (g5.setCell ⟨p,3,none⟩ (.slice g6 (b.length -m) i1));rw[<-d0];have g:=e1.out.b_ r e0.out;rw[c1.out,<-d0]at g;clear e Y e1 e0 b6 i5 U i6 i7;have e:=zH g;clear d0 g;have U:=e.out.hblk.Wu 4;have b6:=e.out.hblk.Wu 1;have o2:=e.out.hblk.frozen 4;have o1:=e.out.hblk.frozen 1;obtain⟨n2,f3,k0,f8,k1⟩:=info_parts AQ;have j3:t.length+1<=F:=e.out.EM;have m1:∀w,(Instr.slice 90 (.slice (some ⟨M,R,none⟩) (t.length+1) F) (some (jI 1)) none none).run Tryz.prog w=.ok (.slice (fE (some ⟨M,R,none⟩) F 1 2) t.length (F -1)) w:=λw=>by
     have:=gI (P:=Tryz.prog) Tryz.underlying90 f3 (some ⟨M,R,none⟩) (t.length+1) F 1 oM w;rw[f8]at this;exact this
    clear f3 k0 f8 k1;have h5:=zH (λ(W:World) (O:Sps W (SN S w) (some ⟨M,R,none⟩) (x::t))=>(iP.drop O (k:=1) sM j3:Sps W (SN S w) (fE (some ⟨M,R,none⟩) F 1 2) t));generalize fE (some ⟨M,R,none⟩) F 1 2=l1 at*
    go_region;all_goals (
     go_wp2_with fail;go_ret;have e7:=e.out.base_ r (x.hi+1);have i9:=e7.LC r (h5.out _ e7.rW) (show t.length<=F -1 by omega);have e8:=i9.below (bA (aj _ _));rw[V];exact⟨⟨_,rfl⟩,e8.quAt r,e8.hmod⟩)
   ·have j2:(x.lo==base)=false:=by simp[i]
    have V:oJ ⟨room,base,fresh,b,x::t,L⟩=⟨room,base,fresh,b,x::t,L⟩:=by
     unfold oJ;simp only[aY,List.getD_cons_zero];rw[Ww (by simp[i])]
    refine mQ ?_;rintro _ ⟨nq,rfl⟩;go_wp2_with fail;go_ret;have g:=e.out.below (aA (aj _ _) nq);rw[V];exact⟨⟨_,rfl⟩,g.quAt r,g.hmod⟩
 ·have e9:nk d n q.fresh=false:=by simpa using b8
  (have b0:kS q d n=q:=by unfold kS;rw[aB (by simp[e9])]);rw[b0];rw[e9]at b3;clear h a2 c6 c7 b7 c8 c9 l b0;go_enter Tryz.func190,Tryz.ntmps190;go_wp2_with fail;refine(b3.out _).mono ?_;rintro T z ⟨rfl,rfl⟩;go_wp2_with fail;go_ret;exact⟨⟨_,rfl⟩,g7.out.za (λm u=>.inl u),aV _ _ _⟩
theorem GF.len_ {l:List Sp} {b e:Int} (h:GF b l) (a:∀d∈l,d.hi<e) (i:e -b<=65536):l.length<=100000:=by
 by_cases c:b<=e
 ·have:=h.count a c;omega
 ·cases l with
  |nil=>simp
  |cons x t=>
   have f:=h.head;have g:=a x sM;omega
theorem KO {q:Qu} (h:WV q) {a n:Int} (o:0<=a) (p:nk a n q.fresh=true):
  (∀d,GF q.base ((q.dX.take d).foldl jh (gV [⟨a,a+n -1⟩] q.base))/\((q.dX.take d).foldl jh (gV [⟨a,a+n -1⟩] q.base)).length<=100000)/\
  (∀d,GF q.base (((q.dX.foldl jh (gV [⟨a,a+n -1⟩] q.base)).take d).foldl iV q.cO)/\(((q.dX.foldl jh (gV [⟨a,a+n -1⟩] q.base)).take d).foldl iV q.cO).length<=100000):=by
 obtain⟨z,A,B⟩:=kC.1 p;have C:=h.base0;have D:=h.qx;have s:=h.fresh;have E:=h.len;have F:=h.qC;have x:a<=a+n -1:=oM;have y:a+n -1<=4611686018427387903:=oM;have k:Gd [(⟨a,a+n -1⟩:Sp)]:=⟨o,x,y,trivial⟩;have t:=pP (lo:=q.base) k oM;have r:=sW (lo:=q.base) k;(have l:q.fresh -q.base<=65536:=by unfold fT at s;omega);have hcut:∀i:List Sp,(∀b∈i,b.lo<=b.hi/\b.hi<=4611686018427387903)->GF q.base (i.foldl jh (gV [⟨a,a+n -1⟩] q.base))/\∀b∈i.foldl jh (gV [⟨a,a+n -1⟩] q.base),b.hi<q.fresh:=by
  intro i u;obtain⟨f,g⟩:=tN i _ _ t oM u;refine⟨f.mono oM,f.below λw c=>?_⟩;rw[g,r]at c;simp only[Bool.and_eq_true]at c;have:=c.1.1;simp[dI,nV]at this;omega
 refine⟨λd=>?_,λd=>?_⟩
 ·obtain⟨f,g⟩:=hcut (q.dX.take d) (λb e=>(h.dX.low b (bf e)).2)
  exact⟨f,f.len_ g l⟩
 ·obtain⟨f,g⟩:=hcut q.dX (λb e=>(h.dX.low b e).2)
  generalize q.dX.foldl jh (gV [⟨a,a+n -1⟩] q.base)=m at*
  obtain⟨j,v⟩:=zU (m.take d) q.cO q.base h.cO h.base0 (λb e=>f.low b (bf e));refine⟨j,j.len_ (j.below λw c=>?_) l⟩;rw[v]at c;simp only[Bool.or_eq_true]at c;rcases c with c|c
  ·exact uQ h.ni c
  ·exact uQ (λb e=>g b (bf e)) c
theorem Kz (S:Nat->Prop) (p:Nat) (q:Qu) (b n:Int) (w:World) (h:mG w S p q) (a:WV q) (C:Word b) (g9:Word n):
  Calls Tryz.prog 144 #[pT p,uI b,uI n] w λB g=>(∃a9,B=.returned (bV a9))/\mG g (grow S w g) p (pF q b n)/\Qum S w g:=by
 have e6:=h.mem;have T:=zH (zT b n q.fresh C ⟨by have:=a.base0;have:=a.vV;omega,by have:=a.fresh;have:=a.qx;omega⟩);have f4:=zH h;obtain⟨d6,d8,a8,b3,d7,d9,y,b7,b8,b9,c0,c1⟩:=h.ex;have i1:=y.Wu 2;have h0:=y.lt;by_cases L:nk b n q.fresh=true
 ·obtain⟨j9,k0,k1⟩:=kC.1 L
  have i4:=a.qx;have i5:=a.fresh;have h9:=a.base0;have k:b+n<18446744073709551616:=oM;(have a3:0<=b+n -1:=by have:=C.1;omega);(have j8:1<=b+n:=by have:=C.1;omega);have h2:=C.1;obtain⟨d3,d4⟩:=KO a h2 L;rw[L]at T;have f1:SpW ⟨b,b+n -1⟩:=⟨C,⟨a3,by show b+n -1<18446744073709551616;omega⟩⟩;(have P:pF q b n={q with cO:=(q.dX.foldl jh (gV [⟨b,b+n -1⟩] q.base)).foldl iV q.cO}:=by unfold pF;rw[Ww (by rw[L];simp)]);have e2:Qp w w S p q.room q.base q.fresh d6 d8 q.b a8 b3 q.dX d7 d9 q.cO:=⟨y,b7.mono (λ_ h=>.inl h),aF b8 (λ_ h=>.inl h),b9,aF c0 (λ_ h=>.inl h),c1,aV _ _ _⟩;have e4:=a.dX.words oM;have i9:=a.small.1;rw[P];have d2:=zH e2;have c8:=zH d3;have c9:=zH d4;have f5:=zH e4;obtain⟨h4,b1,g7,a9,c,x⟩:=q;simp only at*
  have i0:=y.Wu 1;have g4:=y.Wu 4;have f9:=zH (λ(g:World) (W:Nat) (M:Sps g (λe=>e=W) (some ⟨W,0,none⟩) [(⟨b,b+n -1⟩:Sp)])=>zb (λe=>e=W) (some ⟨W,0,none⟩) 1 [(⟨b,b+n -1⟩:Sp)] b1 g M sM (λa2 f0=>by simp at f0;rw[f0];exact f1));clear h y b7 b8 b9 c0 c1 a P d3 d4 e2 e4 f1 C g9;generalize gV [(⟨b,b+n -1⟩:Sp)] b1=j at*
  go_enter Tryz.func144,Tryz.ntmps144;go_wp2_with fail;refine(T.out _).mono ?_;rintro B k ⟨rfl,rfl⟩;go_wp2_with fail;refine(f9.out _ _ (kQ (Wx w _ _))).mono ?_;rintro B k ⟨e1,g6,rfl,o,s,l⟩;have m:bW w k:=bD (by exact BEL) (l.mono sM);have N:Sps k (SN S w) e1 j:=aF s (λe r=>.inr (by have:=r.1;simp at this;omega));have f6:=zH m;have a6:=zH N;have f8:=zH o;have i2:k.cell? ⟨p,4,none⟩=some (.slice a8 c.length b3):=(m.cell (p:=⟨p,4,none⟩) h0).trans g4;clear l m s N o;go_wp2_with fail;go_loopw [41,7,9] (λA h5 j7 wr=>∃(d:Nat) (J:Option Addr) (V:Nat),d<=c.length/\A=jI d/\h5=.slice J ((c.take d).foldl jh j).length V/\Hid (Sps wr (SN S w) J ((c.take d).foldl jh j))/\Hid (((c.take d).foldl jh j).length<=V)/\Hid (bW w wr)) (λA _ _ _=>c.length -(intOf A).toNat);(case atStart=>exact⟨0,e1,g6,oM,rfl,sM,a6,f8,f6⟩);case round=>
   obtain⟨d,J,V,i6,rfl,rfl,i,a4,G⟩:=hrel;have h1:=G.out.size;by_cases z:d<c.length
   ·obtain⟨b0,c6,rfl,g8,a0,a1⟩:=Sps.at_ d2.out.rW G.out z
    have Q:=f5.out _ (aN z);(have O:(c.take (d+1)).foldl jh j=jh ((c.take d).foldl jh j) c[d]:=by rw[bB z,iA];rfl);obtain⟨K,b6⟩:=c8.out d;have a7:=zH O;generalize c[d]=a2 at*
    obtain⟨E,D⟩:=a2;simp only at a0 a1;have t:=zH (λ(g:World) (M:bW wr g)=>AV (SN S w) J V ((c.take d).foldl jh j) ⟨E,D⟩ g (aD i.out M) oM (K.words oM) Q);clear O K b6 Q;rw[<-a7.out]at t;generalize(c.take d).foldl jh j=h8 at*
    obtain⟨g3,c3⟩:=eX ((c.take (d+1)).foldl jh j);rw[<-c3]at t;have F:=zH c3;clear c3;go_wp2_with fail;refine(t.out _ (BEL)).mono ?_;rintro B a3 ⟨I,b2,rfl,o,s,l⟩;have e5:bW w a3:=bD (show bW w (wr.alloc (.cells #[uI E,uI D] 272)) by have l:=G.out;exact BEL) (l.mono sO);have e8:Sps a3 (SN S w) I g3:=aF s (λe r=>.inr (by have:=r.1;simp at this;omega));have f7:=zH e5;have g1:=zH e8;have a5:=zH o;clear l e5 s e8 o;go_wp2_with fail;go_roundw;(case rel=>exact⟨d+1,I,b2,oM,by go_num,by rw[<-F.out],by rw[<-F.out];exact g1,by rw[<-F.out];exact a5,f7⟩);case measure=>simp[intOf];omega
   ·obtain rfl:d=c.length:=oM
    have e0:c.take c.length=c:=dM;rw[e0]at i a4|-;clear e0;obtain⟨b5,f3⟩:=c8.out c.length;rw[dM]at b5 f3;have c7:=zH b5;clear b5;have d0:=zH (d2.out.below G.out);obtain⟨f,c2⟩:=eX (c.foldl jh j);rw[<-c2]at i a4 c7 c9 f3|-;have g0:=zH c2;clear c2;go_wp2_with fail;go_loopw [54,11] (λA j6 R=>∃(d:Nat) (U:Option Addr) (b4:Nat),d<=f.length/\A=jI d/\Hid (Qp w R S p h4 b1 g7 d6 d8 a9 a8 b3 c U b4 ((f.take d).foldl iV x))/\Hid (Sps R (SN S w) J f)/\w.heap.size<=R.heap.size) (λA _ _=>f.length -(intOf A).toNat);(case atStart=>exact⟨0,d7,d9,oM,rfl,d0,i,h1⟩);case round=>
     clear d0 i G a4;obtain⟨e,U,b4,r,rfl,u,i,j1⟩:=hrel;by_cases z:e<f.length
     ·obtain⟨b0,c6,rfl,g8,a0,a1⟩:=Sps.at_ i.out (aj _ _) z
      have Q:=c7.out.words oM _ (aN z);(have O:(f.take (e+1)).foldl iV x=iV ((f.take e).foldl iV x) f[e]:=by rw[bB z,iA];rfl);obtain⟨K,b6⟩:=c9.out e;have a7:=zH O;generalize f[e]=a2 at*
      obtain⟨E,D⟩:=a2;simp only at a0 a1;have t:=zH (λ(d5 g:World) (a:Sps d5 (SN S w) U ((f.take e).foldl iV x)) (M:bW d5 g)=>sH (SN S w) U b4 ((f.take e).foldl iV x) ⟨E,D⟩ g (aD a M) oM u.out.EK (K.words oM) Q);clear O K b6 Q;rw[<-a7.out]at t;obtain⟨h3,c4⟩:=eX ((f.take (e+1)).foldl iV x);rw[<-c4]at t;have F:=zH c4;clear c4;generalize(f.take e).foldl iV x=j4 at*
      go_wp2_with fail;obtain⟨H,X⟩:=eX (wr.alloc (.cells #[uI E,uI D] 272));rw[<-X];(have Y:bW wr H:=by rw[X];exact BEL);(have Z:Blk H wr.heap.size 272 #[uI E,uI D]:=by rw[X];exact Wx _ _ _);have a:=u.out.below Y;have e9:=aD i.out Y;have j0:=Y.size;clear X u i Y a0 a1;have u:=zH a;have i:=zH (show Sps H (SN S w) (some ⟨b0,c6,none⟩) f from e9);have h6:=Z.Wu 0;have h7:=Z.Wu 1;have g5:=a.hblk.Wu 5;have i7:=a.hblk.lt;have j2:=Z.lt;clear a Z e9;refine gN kR ?_;refine dR 0 (v:=?_) rfl kR (λ_ _ _ h=>h) (Or.inl ⟨by rfl,?_⟩) ?_;rotate_left
      (·exact λw=>gS);(try simp only[Act.put,Array.setIfInBounds]);(try go_simp);refine eQ 1 6 kR (λg=>∃n,g=H.drewN n) ⟨1,rfl⟩ ?_;refine mA ?_;rintro _ ⟨j3,rfl⟩;refine dA rfl rfl ?_;go_wp2_with fail;refine(t.out _ _ u.out.Cn (aA (aj _ _) _)).mono ?_;rintro B k ⟨I,b2,rfl,o,s,l⟩;have m:bW H k:=bD (aA (aj _ _) _) l;have c5:=u.out.below m;have e7:=aD i.out m;have i8:=m.size;have N:Sps k (SN S w) I h3:=aF s (λe r=>.inr (by have:=r.1;first|omega|(simp at this;omega)));obtain⟨j5,i3⟩:=c5.hblk.cz 5;have d1:=zH c5;have g2:=zH (show Sps k (SN S w) (some ⟨b0,c6,none⟩) f from e7);have a6:=zH N;have a5:=zH o;clear l m c5 s N o e7 g5 h6 h7;go_wp2_with fail;refine dR 7 (v:=?_) rfl kR (λ_ _ _ h=>h) (Or.inl ⟨by rfl,?_⟩) ?_;rotate_left
      (·exact λw=>gS);refine dR 8 (v:=?_) rfl kR (λ_ _ _ h=>h) (Or.inl ⟨by rfl,?_⟩) ?_;rotate_left
      (·exact λw=>gS);refine dR 9 (v:=?_) rfl kR (λ_ _ _ h=>h) (Or.inl ⟨by rfl,?_⟩) ?_;rotate_left
      (·exact λw=>gS);(try simp only[Act.put,Array.setIfInBounds]);(try go_simp);refine eQ 10 12 kR (λg=>∃_:Unit,g=_) ⟨(),rfl⟩ ?_;refine mA ?_;rintro R ⟨_,f2⟩;rw[f2];clear f2 R;refine dA rfl rfl ?_;go_simp;refine jY 13 kR kR ?_;refine mC ?_;go_wp2_with fail;go_roundw;(case rel=>exact⟨e+1,I,b2,oM,by go_num,by rw[<-F.out];exact d1.out.owed_ e6 a6.out a5.out,aG g2.out (d1.out.yX 5 _) sM,by simp[World.setCell];omega⟩);case measure=>simp[intOf];omega
     ·obtain rfl:e=f.length:=oM
      go_wp2_with fail;go_ret;have a:=u.out;rw[dM]at a;rw[<-g0.out];exact⟨⟨_,rfl⟩,a.quAt e6,a.hmod⟩
 ·have e3:nk b n q.fresh=false:=by simpa using L
  (have P:pF q b n=q:=by unfold pF;rw[aB (by simp[e3])]);rw[P];rw[e3]at T;clear h y b7 b8 b9 c0 c1 a P;go_enter Tryz.func144,Tryz.ntmps144;go_wp2_with fail;refine(T.out _).mono ?_;rintro B k ⟨rfl,rfl⟩;go_wp2_with fail;go_ret;exact⟨⟨_,rfl⟩,f4.out.za (λe r=>.inl r),aV _ _ _⟩
structure DOk (d:Da):Prop where
 pn0:0<=d.pn
 pn1:d.pn<=4611686018427387903
 zM:0<=d.bn
 Gt:d.bn<=d.pn
 vz:0<=d.off
 off1:d.off<=4611686018427387903 -d.body.length
 bX:Word d.bX
 CW:1<=d.body.length
 xE:d.body.length<=1500
 bok:dP d.body
 ecn:tF d.ecn=true
theorem DOk.may {d:Da} (h:DOk d):sS d=true:=by
 have a:=h.pn1;have b:=h.Gt;have c:=h.ecn;have e:=h.CW;have f:=h.xE;have g:=h.off1;simp only[sS,Bool.and_eq_true,decide_eq_true_eq];exact⟨⟨⟨⟨⟨a,b⟩,c⟩,e⟩,f⟩,g⟩
theorem dDt_ok {a bn d e f n:Int} {b:List Int} (hb:dP b) (q:0<=a) (r:a<=4611686018427387903) (m:0<=bn) (o:bn<=a) (p:0<=d) (t:d<=4611686018427387903 -n) (k:Word e) (n0:1<=n) (n1:n<=1500) (i:tF f=true)
  (h:(dDt a bn d e f n b).err=0):DOk (dDt a bn d e f n b).val:=by
 unfold dDt at h|-;split at h
 ·next c=>exact Wy h c
 ·next c=>
  rw[Ww c];split at h
  ·cases h
  ·next c2=>
   rw[Ww c2];have g:(fQ n.toNat b).val=b.take n.toNat/\n.toNat<=b.length:=by
    unfold fQ at c|-;split
    ·next c3=>rw[aB c3]at c;exact Wy c sM
    ·next c3=>exact⟨rfl,oM⟩
   (have j:(fQ n.toNat b).val.length=n.toNat:=by rw[g.1,aT];omega);exact⟨q,r,m,o,p,by simp only;rw[j];omega,k,by simp only;omega,by simp only;omega,by simp only;rw[g.1];exact λs l=>hb s (bf l),i⟩
theorem dDn_ok {a bn f d e:Int} {b:List Int} (hb:dP b) (m:0<=a) (n:a<=4611686018427387903) (j:0<=bn) (k:bn<=a) (l:0<=f) (i:Word d) (g:tF e=true)
  (h:(dDn a bn f d e b).err=0):DOk (dDn a bn f d e b).val:=by
 unfold dDn at h|-;split at h
 ·next c=>exact Wy h c
 ·next c=>
  rw[Ww c];split at h
  ·cases h
  ·next c2=>
   rw[Ww c2];exact dDt_ok (lz hb).2.2.2.2.1 m n j k l oM i oM oM g h
theorem dDx_ok {a bn e d:Int} {b:List Int} (hb:dP b) (k:0<=a) (l:a<=4611686018427387903) (g:0<=bn) (i:bn<=a) (j:0<=e) (f:tF d=true)
  (h:(dDx a bn e d b).err=0):DOk (dDx a bn e d b).val:=by
 unfold dDx at h|-;split at h
 ·next c=>exact Wy h c
 ·next c=>rw[Ww c];exact dDn_ok (sD hb).2.2.2.2.1 k l g i j ⟨(sD hb).1,(sD hb).2.1⟩ f h
theorem dDo_ok {a bn d:Int} {b:List Int} (hb:dP b) (i:0<=a) (j:a<=4611686018427387903) (f:0<=bn) (g:bn<=a) (e:tF d=true)
  (h:(dDo a bn d b).err=0):DOk (dDo a bn d b).val:=by
 unfold dDo at h|-;split at h
 ·next c=>exact Wy h c
 ·next c=>rw[Ww c];exact dDx_ok (lz hb).2.2.2.2.1 i j f g (lz hb).1 e h
theorem dDl_ok {a d:Int} {b:List Int} (hb:dP b) (f:0<=a) (g:a<=4611686018427387903) (e:tF d=true)
  (h:(dDl a d b).err=0):DOk (dDl a d b).val:=by
 unfold dDl at h|-;split at h
 ·next c=>exact Wy h c
 ·next c=>
  rw[Ww c];split at h
  ·cases h
  ·next c2=>rw[Ww c2];exact dDo_ok (lz hb).2.2.2.2.1 f g (lz hb).1 oM e h
theorem dDp_ok {a:Int} {b:List Int} (hb:dP b) (d:tF a=true) (h:(dDp a b).err=0):DOk (dDp a b).val:=by
 unfold dDp at h|-;split at h
 ·next c=>exact Wy h c
 ·next c=>rw[Ww c];exact dDl_ok (lz hb).2.2.2.2.1 (lz hb).1 (lz hb).2.1 d h
theorem zm {l:List Int} (hb:dP l) (h:(ky l).err=0):DOk (ky l).val:=by
 rcases l with _|⟨e,a⟩
 ·rw[JM]at h;cases h
 ·rcases a with _|⟨f,a⟩
  ·rw[Xm]at h;split at h<;>cases h
  ·rw[zl]at h|-
   split at h
   ·cases h
   ·next c=>
    rw[Ww c];split at h
    ·cases h
    ·next c2=>rw[Ww c2];exact dDp_ok (λd b=>hb d (by simp[b])) (by simpa using c2) h
theorem DOk.aO {d:Da} (h:DOk d):DOk {d with ecn:=3}:=⟨h.1,h.2,h.3,h.4,h.5,h.6,h.7,h.8,h.9,h.10,rfl⟩
theorem Qi (E:Nat->Prop) (a:Option Addr) (c:Nat) (l:List Int) (w:World) (h:Bys w E a l) (V:l.length<=100000) (K:dP l):
  Calls Tryz.prog 100 #[.slice a l.length c] w λs k=>∃n r,s=.returned (.tuple #[.slice n ((qp l).getD []).length r,bV (qp l).isSome])/\Bys k (λg=>w.heap.size<=g/\g<k.heap.size) n ((qp l).getD [])/\bW w k:=by
 have m:=zH (yY E a c l w h V K);have b:=λh=>zm (l:=l) K h;have M:qp l=if(ky l).err≠0 then none else some (rY {(ky l).val with ecn:=3}):=rfl;rw[M];generalize ky l=X at m b|-;clear M h;obtain⟨T,F⟩:=X;simp only at b m|-;by_cases z:F=0
 ·subst z
  rw[Ww sM];have u:=(b rfl).aO;clear b;obtain⟨j,e,i,d,Z,f⟩:=T;simp only at u m|-;have v:=zH (λ(D:Nat->Prop) (n:Option Addr) (r:Nat) (k:World) (U:zy k D n r ⟨j,e,i,d,3,f⟩)=>QA D n r ⟨j,e,i,d,3,f⟩ k U u.may);simp only at v;have P:=zH u;clear u;obtain⟨Q,A⟩:=eX (rY ⟨j,e,i,d,3,f⟩);(have G:(some (rY ⟨j,e,i,d,3,f⟩):Option (List Int)).getD []=Q:=by rw[A];rfl);have H:(some (rY ⟨j,e,i,d,3,f⟩):Option (List Int)).isSome=true:=rfl;rw[G,H];rw[<-A]at v;clear A G H;go_enter Tryz.func100,Tryz.ntmps100;go_wp2_with fail;refine(m.out).mono ?_;rintro s p ⟨x,y,rfl,L,t,o⟩;have b:=P.out;have O:=zH (show zy p (λg=>w.heap.size<=g/\g<p.heap.size) x y ⟨j,e,i,d,3,f⟩from
   ⟨t,L,⟨b.pn0,by have:=b.pn1;simp only at*;omega⟩,⟨b.zM,by have:=b.pn1;have:=b.Gt;simp only at*;omega⟩,⟨b.vz,by have:=b.off1;simp only at*;omega⟩,b.bX,by have:=b.xE;simp only at*;omega,b.bok⟩)
  have q:=zH o;clear o t b;go_wp2_with fail;refine(v.out _ x y _ (O.out.below (by have B:=aj p.heap.size p;exact BEL))).mono ?_;rintro s a2 ⟨R,S,rfl,a0,I,J⟩;have C:=zH J;have N:=zH I;clear J I;go_wp2_with fail;go_ret2;have W:=q.out.size;have a1:=C.out.size;refine⟨R,S,rfl,aF N.out (λg b=>⟨by have:=b.1;simp at this;omega,b.2⟩),?_⟩;have B:=q.out;exact bD (show bW w _ from BEL) (C.out.mono sO)
 ·have Y:(F !=0)=true:=by simp[z]
  rw[aB z];go_enter Tryz.func100,Tryz.ntmps100;go_wp2_with fail;refine(m.out).mono ?_;rintro s p ⟨x,y,rfl,L,t,o⟩;have q:=zH o;clear o t;go_wp2_with fail;go_ret2;exact⟨none,0,rfl,Row.WH,by have B:=q.out;have W:=B.size;exact BEL⟩
theorem MR (b:Int) (a:List Int):fQ 1 (b::a)=⟨[b],0,a⟩:=by unfold fQ;rw[Ww sM];rfl
end Go.Proofs.YtiflndepmgnojaaGreat
