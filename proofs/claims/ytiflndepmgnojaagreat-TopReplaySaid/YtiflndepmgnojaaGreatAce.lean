import Derived.Test.YtiflndepmgnojaaGreatLa4
namespace Go.Proofs.YtiflndepmgnojaaGreat
open Go.RowKit
set_option linter.unusedSimpArgs false
set_option linter.unusedVariables false
set_option maxHeartbeats 8000000
set_option maxRecDepth 100000
attribute[local go_sem] BW.cell BW.frozen
theorem Mr (e:Int) (w:World):Calls Tryz.prog 96 #[jI e] w λg i=>g=.returned (bV (tF e))/\w=i:=by
 by_cases a:e=1
 ·subst a
  go_enter Tryz.func96,Tryz.ntmps96;go_wp2_with fail;go_ret;exact⟨eF dC,rfl⟩
 ·have b:(e==1)=false:=by simp[a]
  by_cases d:e=2
  ·subst d
   go_enter Tryz.func96,Tryz.ntmps96;go_wp2_with fail;go_ret;exact⟨eF dC,rfl⟩
  ·have f:(e==2)=false:=by simp[d]
   cases c:(e==3)with
   |true=>
    go_enter Tryz.func96,Tryz.ntmps96;go_wp2_with fail;go_ret;exact⟨eF (by simp[tF,b,f,c]),rfl⟩
   |false=>
    go_enter Tryz.func96,Tryz.ntmps96;go_wp2_with fail;go_ret;exact⟨eF (by simp[tF,b,f,c]),rfl⟩
theorem EZ (b:Bool) (w:World):Calls Tryz.prog 173 #[bV b] w λa c=>a=.returned (jI (xA b))/\w=c:=by
 cases b with
 |true=>
  go_enter Tryz.func173,Tryz.ntmps173;go_wp2_with fail;go_ret;exact⟨rfl,rfl⟩
 |false=>
  go_enter Tryz.func173,Tryz.ntmps173;go_wp2_with fail;go_ret;exact⟨rfl,rfl⟩
theorem NR (e:Int) (w:World):Calls Tryz.prog 159 #[jI e] w λi j=>i=.returned (.tuple #[bV (uM e),bV (jB e)])/\w=j:=by
 by_cases a:e=1
 ·subst a
  go_enter Tryz.func159,Tryz.ntmps159;go_wp2_with fail;go_ret2;exact⟨rfl,rfl⟩
 ·have b:(e==1)=false:=by simp[a]
  by_cases c:e=2
  ·subst c
   go_enter Tryz.func159,Tryz.ntmps159;go_wp2_with fail;go_ret2;exact⟨rfl,rfl⟩
  ·have d:(e==2)=false:=by simp[c]
   (have f:uM e=false:=by simp[uM,b]);(have g:jB e=false:=by simp[jB,b,d]);rw[f,g];go_enter Tryz.func159,Tryz.ntmps159;go_wp2_with fail;go_ret2;exact⟨rfl,rfl⟩
structure zy (w:World) (S:Nat->Prop) (a:Option Addr) (c:Nat) (d:Da):Prop where
 body:Bys w S a d.body
 bcap:d.body.length<=c
 pn:Word d.pn
 bn:Word d.bn
 off:Word d.off
 bX:Word d.bX
 blen:d.body.length<=1000000000
 bok:dP d.body
theorem zy.below {w w':World} {S:Nat->Prop} {a:Option Addr} {c:Nat} {d:Da} (h:zy w S a c d) (hb:bW w w'):zy w' S a c d:=
 ⟨aD h.body hb,h.bcap,h.pn,h.bn,h.off,h.bX,h.blen,h.bok⟩
theorem zy.keep {w w':World} {S:Nat->Prop} {a:Option Addr} {c:Nat} {d:Da} {ts:List (Option TypeId)} (h:zy w S a c d) (b:bQ S ts w w') (e:some 5∈ts):zy w' S a c d:=
 ⟨aG h.body b e,h.bcap,h.pn,h.bn,h.off,h.bX,h.blen,h.bok⟩
theorem zy.mono {w:World} {S S':Nat->Prop} {a:Option Addr} {c:Nat} {d:Da} (h:zy w S a c d) (e:∀b,S b->S' b):zy w S' a c d:=
 ⟨aF h.body e,h.bcap,h.pn,h.bn,h.off,h.bX,h.blen,h.bok⟩
theorem Jn (d bn g o k:Int) (a:Option Addr) (n c:Nat) (b:List Int) (w:World) (y:b.length=n) (A:n<=1000000000):
  Calls Tryz.prog 218 #[.agg #[uI d,uI bn,uI g,uI o,jI k,.slice a n c]] w λj z=>j=.returned (bV (sS ⟨d,bn,g,o,k,b⟩))/\bW w z:=by
 (have r:sS ⟨d,bn,g,o,k,b⟩=(decide (d<=4611686018427387903)&&decide (bn<=d)&&tF k&&decide (1<=n)&&decide (n<=1500)&&decide (g<=4611686018427387903 -(n:Int))):=by unfold sS;simp only[y]);rw[r];clear r;have e:=zH (Mr k);have B:(n:Int)<18446744073709551616:=oM;by_cases f:d<=4611686018427387903
 ·have s:decide (d<=4611686018427387903)=true:=by simp;omega
  by_cases i:bn<=d
  ·have t:decide (bn<=d)=true:=by simp;omega
   cases hE:tF k with
   |true=>
    rw[hE]at e;clear hE;by_cases l:1<=n
    ·have u:decide ((1:Int)<=(n:Int))=true:=by simp;omega
     by_cases p:n<=1500
     ·have v:decide ((n:Int)<=1500)=true:=by simp;omega
      have C:0<=4611686018427387903 -(n:Int):=oM;by_cases q:g<=4611686018427387903 -(n:Int)
      ·have x:decide (g<=4611686018427387903 -(n:Int))=true:=by simp;omega
       go_enter Tryz.func218,Tryz.ntmps218;go_wp2_with fail;refine(e.out _).mono ?_;rintro j m ⟨rfl,rfl⟩;go_wp2_with fail;go_ret;exact⟨eF (by simp[f,i,l,p,q]),BEL⟩
      ·have x:decide (g<=4611686018427387903 -(n:Int))=false:=by simp;omega
       go_enter Tryz.func218,Tryz.ntmps218;go_wp2_with fail;refine(e.out _).mono ?_;rintro j m ⟨rfl,rfl⟩;go_wp2_with fail;go_ret;exact⟨eF (by simp[f,i,l,p,q]),BEL⟩
     ·have v:decide ((n:Int)<=1500)=false:=by simp;omega
      go_enter Tryz.func218,Tryz.ntmps218;go_wp2_with fail;refine(e.out _).mono ?_;rintro j m ⟨rfl,rfl⟩;go_wp2_with fail;go_ret;exact⟨eF (by simp[f,i,l,p]),BEL⟩
    ·have u:decide ((1:Int)<=(n:Int))=false:=by simp;omega
     go_enter Tryz.func218,Tryz.ntmps218;go_wp2_with fail;refine(e.out _).mono ?_;rintro j m ⟨rfl,rfl⟩;go_wp2_with fail;go_ret;exact⟨eF (by simp[f,i,l]),BEL⟩
   |false=>
    rw[hE]at e;clear hE;go_enter Tryz.func218,Tryz.ntmps218;go_wp2_with fail;refine(e.out _).mono ?_;rintro j m ⟨rfl,rfl⟩;go_wp2_with fail;go_ret;exact⟨eF (by simp[f,i]),BEL⟩
  ·have t:decide (bn<=d)=false:=by simp;omega
   go_enter Tryz.func218,Tryz.ntmps218;go_wp2_with fail;go_ret;exact⟨eF (by simp[f,i]),BEL⟩
 ·have s:decide (d<=4611686018427387903)=false:=by simp;omega
  go_enter Tryz.func218,Tryz.ntmps218;go_wp2_with fail;go_ret;exact⟨eF (by simp[f]),BEL⟩
theorem NI {d:Da} (h:sS d=true):d.pn<=4611686018427387903/\d.bn<=d.pn/\tF d.ecn=true/\1<=d.body.length/\d.body.length<=1500/\d.off<=4611686018427387903 -d.body.length:=by
 simp only[sS,Bool.and_eq_true,decide_eq_true_eq]at h;exact⟨h.1.1.1.1.1,h.1.1.1.1.2,h.1.1.1.2,h.1.1.2,h.1.2,h.2⟩
theorem Oi {e:Int} (h:tF e=true):1<=e/\e<=3:=by
 simp only[tF,Bool.or_eq_true,beq_iff_eq]at h;omega
theorem henc_f (S:Nat->Prop) (a:Option Addr) (c:Nat) (d:Da) (w:World) (h:zy w S a c d) (f:sS d=false):
  Calls Tryz.prog 172 #[.agg #[uI d.pn,uI d.bn,uI d.off,uI d.bX,jI d.ecn,.slice a d.body.length c]] w λe k=>e=.returned (.tuple #[.slice none 0 0,jI 1])/\bW w k:=by
 have b:=zH (Jn d.pn d.bn d.off d.bX d.ecn a d.body.length c d.body · rfl h.blen);have g:sS ⟨d.pn,d.bn,d.off,d.bX,d.ecn,d.body⟩=false:=f;rw[g]at b;clear h f g;obtain⟨r,n,q,m,p,o⟩:=d;simp only at*
 go_enter Tryz.func172,Tryz.ntmps172;go_wp2_with fail;refine(b.out _).mono ?_;rintro e l ⟨rfl,i⟩;have j:bW w l:=(show bW w _ from BEL).trans (i.mono sM);go_wp2_with fail;go_ret2;exact⟨rfl,j⟩
theorem QA (S:Nat->Prop) (a:Option Addr) (c:Nat) (d:Da) (w:World) (h:zy w S a c d) (b5:sS d=true):
  Calls Tryz.prog 172 #[.agg #[uI d.pn,uI d.bn,uI d.off,uI d.bX,jI d.ecn,.slice a d.body.length c]] w λt K=>∃e9 f0,t=.returned (.tuple #[.slice e9 (rY d).length f0,jI 0])/\(rY d).length<=f0/\Bys K (λb=>w.heap.size<=b/\b<K.heap.size) e9 (rY d)/\bW w K:=by
 obtain⟨o2,w7,i0,w8,w9,x0⟩:=NI b5;obtain⟨x1,x2⟩:=Oi i0;have d1:=zH (Jn d.pn d.bn d.off d.bX d.ecn a d.body.length c d.body · rfl h.blen);have g6:sS ⟨d.pn,d.bn,d.off,d.bX,d.ecn,d.body⟩=true:=b5;rw[g6]at d1;have i5:=zH (Xa d.pn h.pn.1 o2);have i6:=zH (Xa d.bn h.bn.1 (by have:=h.bn.1;omega));have i7:=zH (Xa d.off h.off.1 oM);have i3:=zH (zQ d.bX h.bX);have i8:=zH (Xa d.body.length oM oM);have t1:=oL d.pn;have t2:=oL d.bn;have t3:=oL d.off;have t4:=oL d.body.length;(have m:(lu d.bX).length=8:=by unfold lu;simp[kM]);have i1:=zH h.body;obtain⟨j1,a0⟩:=eX (rY d);rw[<-a0];have g5:rY d=[1,d.ecn]++kY d.pn++kY d.bn++kY d.off++lu d.bX++kY d.body.length++d.body:=rfl;rw[g5]at a0;have b1:=zH a0;clear a0 g5 h b5 g6 i0;obtain⟨r,o,q,Z,e,k⟩:=d;simp only at*
 generalize kY r=f at*
 generalize kY o=i at*
 generalize kY q=j at*
 generalize lu Z=l at*
 generalize kY (k.length:Int)=s at*
 have s5:e%256=e:=oM;go_enter Tryz.func172,Tryz.ntmps172;go_wp2_with fail;refine(d1.out _).mono ?_;rintro t y ⟨rfl,b4⟩;have F:bW w y:=pY b4;have a3:Blk y (w.heap.size) 115 #[uI r,uI o,uI q,uI Z,jI e,.slice a k.length c]:=iK b4;obtain⟨l3,l9,l4,m0,l5,m1,l6,m2,l7,m3,l8,m4⟩:=a3.c6;have v7:w.heap.size<y.heap.size:=a3.lt;have e6:=zH a3;clear a3;have a9:=zH F;clear b4 F;(have s8:∀w:World,(Instr.index 352 (.agg #[uI r,uI o,uI q]) (jI 0)).run Tryz.prog w=.ok (uI r) w:=λ_=>by kernel_rfl);(have s9:∀w:World,(Instr.index 352 (.agg #[uI r,uI o,uI q]) (jI 1)).run Tryz.prog w=.ok (uI o) w:=λ_=>by kernel_rfl);(have t0:∀w:World,(Instr.index 352 (.agg #[uI r,uI o,uI q]) (jI 2)).run Tryz.prog w=.ok (uI q) w:=λ_=>by kernel_rfl);go_wp2_with fail;refine wp_loop_rounds 4 ?_;rw[rounds_succ];go_wp2_with fail;have j0:=e6.out;refine(i5.out _).mono ?_;rintro t M ⟨j3,j8,rfl,h1,a2⟩;have d9:=zH h1;have F:bW y M:=pY a2;have a4:Blk M (w.heap.size) 115 #[uI r,uI o,uI q,uI Z,jI e,.slice a k.length c]:=iK a2;have a5:Blk M (y.heap.size) 5 #[.int .u8 1,.int .u8 e]:=iK a2;obtain⟨m6,n2,m7,n3,m8,n4,m9,n5,n0,n6,n1,n7⟩:=a4.c6;have v8:w.heap.size<M.heap.size:=a4.lt;have e7:=zH a4;clear a4;obtain⟨n8,o0,n9,o1⟩:=a5.c2;have w2:y.heap.size<M.heap.size:=a5.lt;have e8:=zH a5;clear a5;have b0:=zH F;clear a2 F;have e5:=zH (e8.out.own (xs:=[Value.int .u8 1,Value.int .u8 e]) (size:=1) (n:=2) rfl rfl sM);clear h1 j0 n8 n9 o0 o1 l3 l9 l4 m0 l5 m1 l6 m2 l7 m3 l8 m4;have l2:=a9.out.size;have t8:=b0.out.size;go_wp2_with (at_builtin;refine fe.jO rfl (.tmp 33) (.tmp 34) rfl (some ⟨y.heap.size,0,none⟩) 2 [1,e] (by simp[Act.eval]) e5.out j3 j8 f (by simp[Act.eval]) d9.out sO dC ?_;intro c4 f3 b9 G u k3;have R:=zH G;have d2:=zH u;clear G u k3);have u:=d2.out;have t9:=u.size;have f8:bW w b9:=(a9.out.trans (b0.out.mono l2)).trans (u.cZ oM (λb g h=>by omega));have z:=e7.out.mod u dC;have G:OwnAt b9 (λb=>w.heap.size<=b/\b<b9.heap.size) 5 1 c4 ([1,e]++f).length f3 (([1,e]++f).flatMap byV):=R.out.mono (λb g=>by rcases g with h|h<;>omega);have N:=zH f8;have W:=zH z;have R:=zH G;clear u f8 z G d2 a9 b0 d9 e6 e7 e8 e5 m6 m7 m8 m9 n0 n1 n2 n3 n4 n5 n6 n7;have z:=W.out;obtain⟨o6,p2,o7,p3,o8,p4,o9,p5,p0,p6,p1,p7⟩:=z.c6;have v9:=z.lt;clear z;rw[rounds_succ];go_wp2_with fail;refine(i6.out _).mono ?_;rintro t o3 ⟨j4,j9,rfl,h2,C⟩;have v4:=C.size;have g7:=R.out.below C;have h6:=W.out.below C W.out.lt;have g2:bW w o3:=N.out.trans (C.mono N.out.size);have w3:=N.out.size;have d6:=zH g7;have e3:=zH h6;have c8:=zH g2;have e0:=zH h2;clear g7 h6 g2 h2 C R W N o6 p2 o7 p3 o8 p4 o9 p5 p0 p6 p1 p7;go_wp2_with (at_builtin;refine fe.jO rfl (.tmp 33) (.tmp 34) rfl c4 f3 ([1,e]++f) (by simp[Act.eval,m]) d6.out j4 j9 i (by simp[Act.eval,m]) e0.out sO dC ?_;intro c5 f4 c0 H v k4;have T:=zH H;have d3:=zH v;clear H v k4);have v:=d3.out;have v0:=v.size;have f9:bW w c0:=c8.out.trans (v.cZ oM (λb g h=>by omega));have A:=e3.out.mod v dC;have H:OwnAt c0 (λb=>w.heap.size<=b/\b<c0.heap.size) 5 1 c5 ([1,e]++f++i).length f4 (([1,e]++f++i).flatMap byV):=T.out.mono (λb g=>by rcases g with h|h<;>omega);have O:=zH f9;have X:=zH A;have T:=zH H;clear v f9 A H d3 d6 e3 c8 e0;have A:=X.out;obtain⟨p8,q4,p9,q5,q0,q6,q1,q7,q2,q8,q3,q9⟩:=A.c6;have w0:=A.lt;clear A;rw[rounds_succ];go_wp2_with fail;refine(i7.out _).mono ?_;rintro t o4 ⟨j5,k0,rfl,h3,D⟩;have v5:=D.size;have g8:=T.out.below D;have h7:=X.out.below D X.out.lt;have g3:bW w o4:=O.out.trans (D.mono O.out.size);have w4:=O.out.size;have d7:=zH g8;have e4:=zH h7;have c9:=zH g3;have e1:=zH h3;clear g8 h7 g3 h3 D T X O p8 q4 p9 q5 q0 q6 q1 q7 q2 q8 q3 q9;go_wp2_with (at_builtin;refine fe.jO rfl (.tmp 33) (.tmp 34) rfl c5 f4 ([1,e]++f++i) (by simp[Act.eval,m]) d7.out j5 k0 j (by simp[Act.eval,m]) e1.out sO dC ?_;intro c6 f5 c1 I x k5;have U:=zH I;have d4:=zH x;clear I x k5);have x:=d4.out;have v1:=x.size;have g0:bW w c1:=c9.out.trans (x.cZ oM (λb g h=>by omega));have B:=e4.out.mod x dC;have I:OwnAt c1 (λb=>w.heap.size<=b/\b<c1.heap.size) 5 1 c6 ([1,e]++f++i++j).length f5 (([1,e]++f++i++j).flatMap byV):=U.out.mono (λb g=>by rcases g with h|h<;>omega)
 have P:=zH g0;have Y:=zH B;have U:=zH I;clear x g0 B I d4 d7 e4 c9 e1;have B:=Y.out;obtain⟨r0,r6,r1,r7,r2,r8,r3,r9,r4,s0,r5,s1⟩:=B.c6;have w1:=B.lt;clear B;rw[rounds_succ];go_wp2_with fail;refine(i3.out _).mono ?_;rintro t o5 ⟨j6,k1,rfl,h4,E⟩;have v6:=E.size;have g9:=U.out.below E;have h8:=Y.out.below E Y.out.lt;have g4:bW w o5:=P.out.trans (E.mono P.out.size);have w5:=P.out.size;have d8:=zH g9;have b2:=zH h8;have d0:=zH g4;have e2:=zH h4;clear g9 h8 g4 h4 E U Y P r0 r6 r1 r7 r2 r8 r3 r9 r4 s0 r5 s1;go_wp2_with (at_builtin;refine fe.jO rfl (.tmp 37) (.tmp 40) rfl c6 f5 ([1,e]++f++i++j) (by simp[Act.eval,m]) d8.out j6 k1 l (by simp[Act.eval,m]) e2.out sO dC ?_;intro c7 f6 a8 J p k6;have V:=zH J;have d5:=zH p;have s2:a8.cell? ⟨w.heap.size,5,none⟩=some (.slice a k.length c):=(b2.out.mod p dC).cell 5;clear J p k6);have p:=d5.out;have v2:=p.size;have g1:bW w a8:=d0.out.trans (p.cZ oM (λb g h=>by omega));have h9:=b2.out.mod p dC;have J:OwnAt a8 (λb=>w.heap.size<=b/\b<a8.heap.size) 5 1 c7 ([1,e]++f++i++j++l).length f6 (([1,e]++f++i++j++l).flatMap byV):=V.out.mono (λb g=>by rcases g with h|h<;>omega);have Q:=zH g1;have b3:=zH h9;have V:=zH J;clear p g1 h9 J d5 d8 b2 d0 e2;refine(i8.out _).mono ?_;rintro t a6 ⟨j2,j7,rfl,h0,a1⟩;have v3:=a1.size;have s4:bW w a6:=Q.out.trans (a1.mono Q.out.size);have w6:=Q.out.size;have k7:=V.out.below a1;have m5:=b3.out.below a1 b3.out.lt;have x3:=m5.Wu 5;have i9:=zH h0;clear h0 s2 V b3 Q;go_wp2_with fail;go_region_held3 (λK=>K.cell? ⟨w.heap.size,5,none⟩=some (.slice a k.length c)) (first|assumption|simp[go_sem, *]) (first
  |(refine fe.Br rfl (.tmp 52) (.tmp 54) rfl c2 f1 ([1,e]++f++i++j++l++s) (by simp[Act.eval,m]) k8 a c k (by simp[Act.eval]) (aD i1.out f7) (by first|omega|(simp;omega)) dC ?_;intro c3 f2 a7 l1 b7 s7;have t7:=b7.size;have x5:a7.cell? ⟨w.heap.size,5,none⟩=some (.slice a k.length c):=(h5.mod b7 dC).cell 5;have k2:bW w a7:=f7.trans (b7.cZ oM (λb g h=>by omega));have k9:OwnAt a7 (λb=>w.heap.size<=b/\b<a7.heap.size) 5 1 c3 ([1,e]++f++i++j++l++s++k).length f2 (([1,e]++f++i++j++l++s++k).flatMap byV):=l1.mono (λb g=>by rcases g with h|h<;>omega))
  |(refine fe.Br rfl (.tmp 50) (.tmp 51) rfl c7 f6 ([1,e]++f++i++j++l) (by simp[Act.eval,m]) (k7.below (BEL)) j2 j7 s (by simp[Act.eval]) (aD i9.out (BEL)) (by first|omega|(simp;omega)) dC ?_;intro c2 f1 L l0 b6 s6;have t6:a6.heap.size<=L.heap.size:=b6.size;have h5:Blk L w.heap.size 115 #[uI r,uI o,uI q,uI Z,jI e,.slice a k.length c]:=Blk.mod (h:=by(repeat (first|with_reducible assumption|with_reducible apply Blk.drewN|with_reducible apply Blk.drew))) b6 dC;have x4:=h5.Wu 5;have f7:bW w L:=(show bW w _ from BEL).trans (b6.cZ (show w.heap.size<=a6.heap.size by omega) (λb g h=>by omega));have k8:OwnAt L (λb=>w.heap.size<=b/\b<L.heap.size) 5 1 c2 ([1,e]++f++i++j++l++s).length f1 (([1,e]++f++i++j++l++s).flatMap byV):=l0.mono (λb g=>by rcases g with h|h;omega;have s3:a6.heap.size<=b:=h.1;omega)))
 have i4:=zH k9;have i2:=zH k2;go_wp2_with fail;go_ret2;have b8:=i4.out;rw[<-b1.out]at b8;(have t5:j1.length=2+f.length+i.length+j.length+8+s.length+k.length:=by rw[b1.out];simp;omega);refine⟨c3,f2,by rw[b1.out];simp[m],b8.cap_,b8.row,i2.out⟩
def dDt (e bn d a c n:Int) (b:List Int):Rda:=
 if(fQ n.toNat b).err≠0 then⟨daZ,(fQ n.toNat b).err⟩else if 0<(fQ n.toNat b).left.length then⟨daZ,3⟩else⟨⟨e,bn,d,a,c,(fQ n.toNat b).val⟩,0⟩
def dDn (e bn a c d:Int) (b:List Int):Rda:=
 if(eZ b).err≠0 then⟨daZ,(eZ b).err⟩else if(eZ b).val<1\/1500<(eZ b).val\/4611686018427387903 -(eZ b).val<a then⟨daZ,5⟩else dDt e bn a c d (eZ b).val (eZ b).left
def dDx (d bn c a:Int) (b:List Int):Rda:=if(jU b).err≠0 then⟨daZ,(jU b).err⟩else dDn d bn c (jU b).val a (jU b).left
def dDo (c bn a:Int) (b:List Int):Rda:=if(eZ b).err≠0 then⟨daZ,(eZ b).err⟩else dDx c bn (eZ b).val a (eZ b).left
def dDl (a c:Int) (b:List Int):Rda:=if(eZ b).err≠0 then⟨daZ,(eZ b).err⟩else if a<(eZ b).val then⟨daZ,5⟩else dDo a (eZ b).val c (eZ b).left
def dDp (a:Int) (b:List Int):Rda:=if(eZ b).err≠0 then⟨daZ,(eZ b).err⟩else dDl (eZ b).val a (eZ b).left
theorem take_one (a:Int) (t:List Int):fQ 1 (a::t)=⟨[a],0,t⟩:=by unfold fQ;rw[Ww sM];rfl
theorem JM:ky []=⟨daZ,2⟩:=rfl
theorem Xm (a:Int):ky [a]=if a≠1 then⟨daZ,4⟩else⟨daZ,2⟩:=by unfold ky;rw[take_one];rfl
theorem zl (b a:Int) (t:List Int):ky (b::a::t)=if b≠1 then⟨daZ,4⟩else if(!tF a)=true then⟨daZ,5⟩else dDp a t:=by
 unfold ky;rw[take_one];simp only[ne_eq,not_true_eq_false,if_false,List.getD_cons_zero,take_one];rfl
theorem Sr {a:Int} {t:List Int} (h:¬a=1):ky (a::t)=⟨daZ,4⟩:=by
 cases t with
 |nil=>rw[Xm,aB h]
 |cons b1 t=>rw[zl,aB h]
theorem yY (x4:Nat->Prop) (a:Option Addr) (c:Nat) (l:List Int) (w:World) (h:Bys w x4 a l) (y3:l.length<=100000) (g9:dP l):
  Calls Tryz.prog 38 #[.slice a l.length c] w λo w0=>∃x6 x8,o=.returned (.tuple #[.agg #[uI (ky l).val.pn,uI (ky l).val.bn,uI (ky l).val.off,uI (ky l).val.bX,jI (ky l).val.ecn,.slice x6 (ky l).val.body.length x8],jI (ky l).err])/\(ky l).val.body.length<=x8/\Bys w0 (λm=>w.heap.size<=m/\m<w0.heap.size) x6 (ky l).val.body/\bW w w0:=by
 obtain⟨I0,g7⟩:=eX (ky l);rw[<-g7];have x2:=zH h;have b3:=zH g7;clear g7 h;go_enter Tryz.func38,Tryz.ntmps38;go_wp2_with fail;refine(BL x4 a c l _ (aD x2.out (BEL)) oM).mono ?_;rintro o a0 ⟨R,rfl,y5,f,g8⟩;(have K6:w.heap.size<R:=by simp at y5;omega);have g:bW w a0:=pY g8;have a4:Blk a0 (w.heap.size) 115 #[uI 0,uI 0,uI 0,uI 0,jI 0,.slice none 0 0]:=iK g8;obtain⟨z8,A4,z9,A5,A0,A6,A1,A7,A2,A8,A3,A9⟩:=a4.c6;have L0:w.heap.size<a0.heap.size:=a4.lt;have f2:=zH a4;clear a4;have a5:=zH g;clear g8 g;have K5:=f.lt;have e8:=zH (f.mono (S':=λ_=>True) (λ_ _=>trivial));clear f y5 x2;rcases l with _|⟨b8,W⟩
 ·have n4:fQ 1 []=⟨[],2,[]⟩:=rfl
  have n:=nR (λ_=>True) R [] 1 a0 e8.out sM dC;rw[n4]at n;go_wp2_with fail;refine n.mono ?_;rintro o e ⟨x5,x7,rfl,r,F6,d⟩;have y0:bW w e:=a5.out.trans (d.cZ (by have:=a5.out.size;omega) (λm i h=>by omega));have a1:=zH y0;have t:=f2.out.mod d dC;obtain⟨d3,d9,d4,e0,d5,e1,d6,e2,d7,e3,d8,e4⟩:=t.c6;clear r F6 d y0 t e8 a5;refine mV ?_;have b:=b3.out;rw[JM]at b;rw[b];refine⟨none,0,rfl,av _,Row.WH,?_⟩;have z:=a1.out;exact BEL
 ·have n:=nR (λ_=>True) R (b8::W) 1 a0 e8.out oM dC
  rw[take_one]at n;have J5:=g9 b8 sM;have a8:dP W:=λw1 n5=>g9 w1 (by simp[n5]);(have y4:W.length<=100000:=by simp only[aY]at y3;omega);clear g9 y3;by_cases b4:b8=1
  ·have C9:(b8 !=1)=false:=by simp[b4]
   go_wp2_with fail;refine n.mono ?_;rintro o e ⟨x5,x7,rfl,r,f,d⟩;obtain⟨C0,C1,rfl,D7,e5⟩:=Bys.at_ r (aj _ _) (j:=0) sM;simp only[Nat.add_zero,List.getElem_cons_zero]at e5;have a4:=f2.out;have g:bW w e:=by
    refine(a5.out.trans (show Below w.heap.size a0 (a0)from BEL)).trans (d.cZ ?_ ?_)
    ·have A:=a5.out.size;first|omega|(simp;omega)
    ·intro m i h;omega
   have t:Blk e (w.heap.size) 115 #[uI 0,uI 0,uI 0,uI 0,jI 0,.slice none 0 0]:=jw d;obtain⟨d3,d9,d4,e0,d5,e1,d6,e2,d7,e3,d8,e4⟩:=t.c6;have F7:w.heap.size<e.heap.size:=t.lt;have f3:=zH t;clear t;have a1:=zH g;clear d g;clear a4 z8 A4 z9 A5 A0 A6 A1 A7 A2 A8 A3 A9;have e9:=zH f;clear f;clear r n;go_wp2_with fail;rcases W with _|⟨p,W⟩
   ·have n4:fQ 1 []=⟨[],2,[]⟩:=rfl
    have n:=nR (λ_=>True) R [] 1 (e.alloc (.cells #[uI 0,uI 0,uI 0,uI 0,jI 0,.slice none 0 0] 115)) (e9.out.below (BEL)) sM dC;rw[n4]at n;refine n.mono ?_;rintro o D ⟨B9,C2,rfl,r,f,d⟩;have t:=f3.out;have g:bW w D:=by
     refine(a1.out.trans (show Below w.heap.size e (e.alloc (.cells #[uI 0,uI 0,uI 0,uI 0,jI 0,.slice none 0 0] 115))from BEL)).trans (d.cZ ?_ ?_)
     ·have A:=a1.out.size;first|omega|(simp;omega)
     ·intro m i h;omega
    have K:Blk D (w.heap.size) 115 #[uI 0,uI 0,uI 0,uI 0,jI 0,.slice none 0 0]:=jw d;obtain⟨n6,o2,n7,o3,n8,o4,n9,o5,o0,o6,o1,o7⟩:=K.c6;have F8:w.heap.size<D.heap.size:=K.lt;have f4:=zH K;clear K;have a6:=zH g;clear d g;clear t d3 d9 d4 e0 d5 e1 d6 e2 d7 e3 d8 e4;have w5:=zH f;clear f;clear r n;refine mV ?_;have b:=b3.out;rw[Xm,Ww (by simp[b4])]at b;rw[b];refine⟨none,0,rfl,av _,Row.WH,?_⟩;have z:=a6.out;exact BEL
   ·have n:=nR (λ_=>True) R (p::W) 1 (e.alloc (.cells #[uI 0,uI 0,uI 0,uI 0,jI 0,.slice none 0 0] 115)) (e9.out.below (BEL)) oM dC
    rw[take_one]at n;have J6:=a8 p sM;have y2:dP W:=λw1 n5=>a8 w1 (by simp[n5]);(have K3:W.length<=100000:=by simp only[aY]at y4;omega);clear a8 y4;have a8:=y2;clear y2;have B7:=zH (Mr p);refine n.mono ?_;rintro o D ⟨B9,C2,rfl,r,f,d⟩;obtain⟨I1,I2,rfl,J4,B0⟩:=Bys.at_ r (aj _ _) (j:=0) sM;simp only[Nat.add_zero,List.getElem_cons_zero]at B0;have t:=f3.out;have g:bW w D:=by
     refine(a1.out.trans (show Below w.heap.size e (e.alloc (.cells #[uI 0,uI 0,uI 0,uI 0,jI 0,.slice none 0 0] 115))from BEL)).trans (d.cZ ?_ ?_)
     ·have A:=a1.out.size;first|omega|(simp;omega)
     ·intro m i h;omega
    have K:Blk D (w.heap.size) 115 #[uI 0,uI 0,uI 0,uI 0,jI 0,.slice none 0 0]:=jw d;have a3:Blk D (e.heap.size) 115 #[uI 0,uI 0,uI 0,uI 0,jI 0,.slice none 0 0]:=jw d;obtain⟨n6,o2,n7,o3,n8,o4,n9,o5,o0,o6,o1,o7⟩:=K.c6;have F8:w.heap.size<D.heap.size:=K.lt;have f4:=zH K;clear K;obtain⟨y6,z2,y7,z3,y8,z4,y9,z5,z0,z6,z1,z7⟩:=a3.c6;have K7:e.heap.size<D.heap.size:=a3.lt;have f0:=zH a3;clear a3;have a6:=zH g;clear d g;clear t d3 d9 d4 e0 d5 e1 d6 e2 d7 e3 d8 e4;have w5:=zH f;clear f;clear r n e5;have nq:¬(w.heap.size=e.heap.size):=oM;have L6:¬(e.heap.size=w.heap.size):=oM;go_wp2_with fail;refine(B7.out _).mono ?_;rintro o s ⟨rfl,rfl⟩;cases d2:tF p with
    |false=>
     refine mV ?_;have b:=b3.out;rw[zl,Ww (by simp[b4]),aB (by simp[d2])]at b;rw[b];refine⟨none,0,rfl,av _,Row.WH,?_⟩;have z:=a6.out;exact BEL
    |true=>
     have b:=b3.out;rw[zl,Ww (by simp[b4]),Ww (by simp[d2])]at b;have e7:=zH b;clear b b3 B0;have b:=e7.out;unfold dDp at b;have k:=wG (λ_=>True) R W (D.setCell ⟨e.heap.size,4,none⟩ (jI p)) (w5.out.far f0.out dC dC) oM a8;have i:=lz a8;generalize eZ W=T at k i b;obtain⟨u,g1,B1⟩:=T;simp only at k i b;obtain⟨L8,L9,I3,I8,h0,J8,_⟩:=i;clear a8;by_cases c6:g1=0
     ·have C3:(g1 !=0)=false:=by simp[c6]
      rw[Ww (by simp[c6])]at b;have b5:=zH b;clear b e7;go_wp2_with fail;refine k.mono ?_;rintro o s ⟨rfl,f,d⟩;have K:=f4.out;have a3:=f0.out;have g:bW w s:=by
       refine(a6.out.trans (show Below w.heap.size D (D.setCell ⟨e.heap.size,4,none⟩ (jI p))from BEL)).trans (d.cZ ?_ ?_)
       ·have A:=a6.out.size;first|omega|(simp;omega)
       ·intro m i h;omega
      have L:Blk s (w.heap.size) 115 #[uI 0,uI 0,uI 0,uI 0,jI 0,.slice none 0 0]:=jw d;have F:Blk s (e.heap.size) 115 #[uI 0,uI 0,uI 0,uI 0,jI p,.slice none 0 0]:=jw d;obtain⟨o8,p4,o9,p5,p0,p6,p1,p7,p2,p8,p3,p9⟩:=L.c6;have F9:w.heap.size<s.heap.size:=L.lt;have f5:=zH L;clear L;obtain⟨h4,i0,h5,i1,h6,i2,h7,i3,h8,i4,h9,i5⟩:=F.c6;have D8:e.heap.size<s.heap.size:=F.lt;have c1:=zH F;clear F;have b0:=zH g;clear d g;clear K n6 o2 n7 o3 n8 o4 n9 o5 o0 o6 o1 o7 y6 z2 y7 z3 y8 z4 y9 z5 z0 z6 z1 z7 a3;have w6:=zH f;clear f;clear k;have b:=b5.out;unfold dDl at b;have k:=wG (λ_=>True) R B1 (s.setCell ⟨e.heap.size,0,none⟩ (uI u)) (w6.out.far c1.out dC dC) oM h0;have i:=lz h0;generalize eZ B1=T at k i b;obtain⟨C,g2,B2⟩:=T;simp only at k i b;obtain⟨L1,L2,I4,I9,h1,J9,_⟩:=i;clear h0;by_cases c7:g2=0
      ·have C4:(g2 !=0)=false:=by simp[c7]
       rw[Ww (by simp[c7])]at b;have U:=zH b;clear b b5;go_wp2_with fail;refine k.mono ?_;rintro o v ⟨rfl,f,d⟩;have L:=f5.out;have F:=c1.out;have g:bW w v:=by
        refine(b0.out.trans (show Below w.heap.size s (s.setCell ⟨e.heap.size,0,none⟩ (uI u))from BEL)).trans (d.cZ ?_ ?_)
        ·have A:=b0.out.size;first|omega|(simp;omega)
        ·intro m i h;omega
       have M:Blk v (w.heap.size) 115 #[uI 0,uI 0,uI 0,uI 0,jI 0,.slice none 0 0]:=jw d;have G:Blk v (e.heap.size) 115 #[uI u,uI 0,uI 0,uI 0,jI p,.slice none 0 0]:=jw d;obtain⟨q0,q6,q1,q7,q2,q8,q3,q9,q4,r0,q5,r1⟩:=M.c6;have G0:w.heap.size<v.heap.size:=M.lt;have f6:=zH M;clear M;obtain⟨i6,j2,i7,j3,i8,j4,i9,j5,j0,j6,j1,j7⟩:=G.c6;have D9:e.heap.size<v.heap.size:=G.lt;have c2:=zH G;clear G;have a7:=zH g;clear d g;clear L o8 p4 o9 p5 p0 p6 p1 p7 p2 p8 p3 p9 h4 i0 h5 i1 h6 i2 h7 i3 h8 i4 h9 i5 F;have w7:=zH f;clear f;clear k;by_cases x9:u<C
       ·have D0:decide (u<C)=true:=by simp;omega
        have b:=U.out;rw[aB x9]at b;have U:=zH b;clear b;refine mV ?_;rw[U.out];refine⟨none,0,rfl,av _,Row.WH,?_⟩;have z:=a7.out;exact BEL
       ·have D0:decide (u<C)=false:=by simp;omega
        have b:=U.out;rw[Ww x9]at b;have U:=zH b;clear b;have b:=U.out;unfold dDo at b;have k:=wG (λ_=>True) R B2 (v.setCell ⟨e.heap.size,1,none⟩ (uI C)) (w7.out.far c2.out dC dC) oM h1;have i:=lz h1;generalize eZ B2=T at k i b;obtain⟨Q,g3,B3⟩:=T;simp only at k i b;obtain⟨M0,L7,I5,J0,h2,K0,_⟩:=i;clear h1;by_cases c8:g3=0
        ·have C5:(g3 !=0)=false:=by simp[c8]
         rw[Ww (by simp[c8])]at b;have b6:=zH b;clear b U;go_wp2_with fail;refine k.mono ?_;rintro o x ⟨rfl,f,d⟩;have M:=f6.out;have G:=c2.out;have g:bW w x:=by
          refine(a7.out.trans (show Below w.heap.size v (v.setCell ⟨e.heap.size,1,none⟩ (uI C))from BEL)).trans (d.cZ ?_ ?_)
          ·have A:=a7.out.size;first|omega|(simp;omega)
          ·intro m i h;omega
         have N:Blk x (w.heap.size) 115 #[uI 0,uI 0,uI 0,uI 0,jI 0,.slice none 0 0]:=jw d;have H:Blk x (e.heap.size) 115 #[uI u,uI C,uI 0,uI 0,jI p,.slice none 0 0]:=jw d;obtain⟨r2,r8,r3,r9,r4,s0,r5,s1,r6,s2,r7,s3⟩:=N.c6;have G1:w.heap.size<x.heap.size:=N.lt;have f7:=zH N;clear N;obtain⟨j8,k4,j9,k5,k0,k6,k1,k7,k2,k8,k3,k9⟩:=H.c6;have E0:e.heap.size<x.heap.size:=H.lt;have c3:=zH H;clear H;have b1:=zH g;clear d g;clear M q0 q6 q1 q7 q2 q8 q3 q9 q4 r0 q5 r1 i6 j2 i7 j3 i8 j4 i9 j5 j0 j6 j1 j7 G;have w8:=zH f;clear f;clear k;have b:=b6.out;unfold dDx at b;have k:=Ba (λ_=>True) R B3 (x.setCell ⟨e.heap.size,2,none⟩ (uI Q)) (w8.out.far c3.out dC dC) oM h2;have i:=sD h2;generalize jU B3=T at k i b;obtain⟨a9,g4,B4⟩:=T;simp only at k i b;obtain⟨L4,L5,I6,J1,h3,K1⟩:=i;clear h2;by_cases c9:g4=0
         ·have C6:(g4 !=0)=false:=by simp[c9]
          rw[Ww (by simp[c9])]at b;have b7:=zH b;clear b b6;go_wp2_with fail;refine k.mono ?_;rintro o y ⟨rfl,f,d⟩;have N:=f7.out;have H:=c3.out;have g:bW w y:=by
           refine(b1.out.trans (show Below w.heap.size x (x.setCell ⟨e.heap.size,2,none⟩ (uI Q))from BEL)).trans (d.cZ ?_ ?_)
           ·have A:=b1.out.size;first|omega|(simp;omega)
           ·intro m i h;omega
          have O:Blk y (w.heap.size) 115 #[uI 0,uI 0,uI 0,uI 0,jI 0,.slice none 0 0]:=jw d;have I:Blk y (e.heap.size) 115 #[uI u,uI C,uI Q,uI 0,jI p,.slice none 0 0]:=jw d;obtain⟨s4,t0,s5,t1,s6,t2,s7,t3,s8,t4,s9,t5⟩:=O.c6;have G2:w.heap.size<y.heap.size:=O.lt;have f8:=zH O;clear O;obtain⟨l0,l6,l1,l7,l2,l8,l3,l9,l4,m0,l5,m1⟩:=I.c6;have E1:e.heap.size<y.heap.size:=I.lt;have c4:=zH I;clear I;have b2:=zH g;clear d g;clear N r2 r8 r3 r9 r4 s0 r5 s1 r6 s2 r7 s3 j8 k4 j9 k5 k0 k6 k1 k7 k2 k8 k3 k9 H;have w9:=zH f;clear f;clear k;have b:=b7.out;unfold dDn at b;have k:=wG (λ_=>True) R B4 (y.setCell ⟨e.heap.size,3,none⟩ (uI a9)) (w9.out.far c4.out dC dC) oM h3;have i:=lz h3;generalize eZ B4=T at k i b;obtain⟨V,g5,B5⟩:=T;simp only at k i b;obtain⟨H7,L3,I7,J2,J7,K2,_⟩:=i;clear h3;by_cases d0:g5=0
          ·have C7:(g5 !=0)=false:=by simp[d0]
           rw[Ww (by simp[d0])]at b;have B:=zH b;clear b b7;go_wp2_with fail;refine k.mono ?_;rintro o q ⟨rfl,f,d⟩;have O:=f8.out;have I:=c4.out;have g:bW w q:=by
            refine(b2.out.trans (show Below w.heap.size y (y.setCell ⟨e.heap.size,3,none⟩ (uI a9))from BEL)).trans (d.cZ ?_ ?_)
            ·have A:=b2.out.size;first|omega|(simp;omega)
            ·intro m i h;omega
           have P:Blk q (w.heap.size) 115 #[uI 0,uI 0,uI 0,uI 0,jI 0,.slice none 0 0]:=jw d;have J:Blk q (e.heap.size) 115 #[uI u,uI C,uI Q,uI a9,jI p,.slice none 0 0]:=jw d;obtain⟨t6,v2,t7,v3,t8,v4,t9,v5,v0,v6,v1,v7⟩:=P.c6;have G3:w.heap.size<q.heap.size:=P.lt;have f9:=zH P;clear P;obtain⟨m2,m8,m3,m9,m4,n0,m5,n1,m6,n2,m7,n3⟩:=J.c6;have E2:e.heap.size<q.heap.size:=J.lt;have f1:=zH J;clear J;have X:=zH g;clear d g;clear O s4 t0 s5 t1 s6 t2 s7 t3 s8 t4 s9 t5 l0 l6 l1 l7 l2 l8 l3 l9 l4 m0 l5 m1 I;have x0:=zH f;clear f;clear k;by_cases D1:V<1
           ·have D2:decide (V<1)=true:=by simp;omega
            have b:=B.out;rw[aB (.inl D1)]at b;have B:=zH b;clear b;refine mV ?_;rw[B.out];refine⟨none,0,rfl,av _,Row.WH,?_⟩;have z:=X.out;exact BEL
           (have D2:decide (V<1)=false:=by simp;omega);by_cases D3:1500<V
           ·have D4:decide (1500<V)=true:=by simp;omega
            have b:=B.out;rw[aB (.inr (.inl D3))]at b;have B:=zH b;clear b;refine mV ?_;rw[B.out];refine⟨none,0,rfl,av _,Row.WH,?_⟩;have z:=X.out;exact BEL
           (have D4:decide (1500<V)=false:=by simp;omega);have K9:0<=4611686018427387903 -V:=oM;by_cases D5:4611686018427387903 -V<Q
           ·have D6:decide (4611686018427387903 -V<Q)=true:=by simp;omega
            have b:=B.out;rw[aB (.inr (.inr D5))]at b;have B:=zH b;clear b;refine mV ?_;rw[B.out];refine⟨none,0,rfl,av _,Row.WH,?_⟩;have z:=X.out;exact BEL
           (have D6:decide (4611686018427387903 -V<Q)=false:=by simp;omega);have b:=B.out;rw[Ww oM]at b;obtain⟨v8,rfl⟩:=bH H7;unfold dDt at b;rw[Int.toNat_natCast]at b;have K4:v8<=1500:=oM;have n:=yB (λ_=>True) R B5 v8 q x0.out oM oM;generalize fQ v8 B5=T at n b;obtain⟨v9,g6,e6⟩:=T;simp only at n b;by_cases d1:g6=0
           ·have C8:(g6 !=0)=false:=by simp[d1]
            rw[Ww (by simp[d1])]at b;have a2:=zH b;clear b B;go_wp2_with fail;refine n.mono ?_;rintro o E ⟨c5,g0,rfl,r,f,d,b9⟩;have w2:=zH r;have w3:=zH b9;clear r b9;have P:=f9.out;have J:=f1.out;have g:bW w E:=by
             refine(X.out.trans (show Below w.heap.size q (q)from BEL)).trans (d.cZ ?_ ?_)
             ·have A:=X.out.size;first|omega|(simp;omega)
             ·intro m i h;omega
            have Z:Blk E (w.heap.size) 115 #[uI 0,uI 0,uI 0,uI 0,jI 0,.slice none 0 0]:=jw d;have Y:Blk E (e.heap.size) 115 #[uI u,uI C,uI Q,uI a9,jI p,.slice none 0 0]:=jw d;obtain⟨G4,H0,G5,H1,G6,H2,G7,H3,G8,H4,G9,H5⟩:=Z.c6;have H6:w.heap.size<E.heap.size:=Z.lt;have B8:=zH Z;clear Z;obtain⟨E3,E9,E4,F0,E5,F1,E6,F2,E7,F3,E8,F4⟩:=Y.c6;have F5:e.heap.size<E.heap.size:=Y.lt;have x3:=zH Y;clear Y;have c0:=zH g;clear d g;clear P t6 v2 t7 v3 t8 v4 t9 v5 v0 v6 v1 v7 m2 m8 m3 m9 m4 n0 m5 n1 m6 n2 m7 n3 J;have x1:=zH f;clear f;clear n;have w4:=zH (Jd (λ_=>True) R e6 (E.setCell ⟨e.heap.size,5,none⟩ (.slice c5 v9.length g0)) (x1.out.far x3.out dC dC));by_cases B6:0<e6.length
            ·have H9:decide ((0:Int)<(e6.length:Int))=true:=by simp;omega
             have b:=a2.out;rw[aB B6]at b;have a2:=zH b;clear b;go_wp2_with fail;refine(w4.out).mono ?_;rintro o H8 ⟨rfl,rfl⟩;refine mV ?_;rw[a2.out];refine⟨none,0,rfl,av _,Row.WH,?_⟩;have z:=c0.out;exact BEL
            ·have H9:decide ((0:Int)<(e6.length:Int))=false:=bJ oM
             have b:=a2.out;rw[Ww B6]at b;have a2:=zH b;clear b;go_wp2_with fail;refine(w4.out).mono ?_;rintro o H8 ⟨rfl,rfl⟩;refine mV ?_;rw[a2.out];have z:=c0.out;have y1:=w2.out;refine⟨c5,g0,rfl,w3.out,?_,BEL⟩;have K8:Row _ (λm=>q.heap.size<=m/\m<E.heap.size) 5 1 c5 v9.length (v9.flatMap byV):=y1;refine aF (S:=λm=>q.heap.size<=m/\m<E.heap.size) ?_ (λm i=>?_)
             ·repeat (refine Row.far_ ?_ (λm i h=>by have J3:q.heap.size<=m:=i.1;omega))
              exact y1
             ·simp;omega
           ·have C8:(g6 !=0)=true:=by simp[d1]
            rw[aB (by simp[d1])]at b;have a2:=zH b;clear b B;go_wp2_with fail;refine n.mono ?_;rintro o E ⟨c5,g0,rfl,r,f,d,b9⟩;have w2:=zH r;have w3:=zH b9;clear r b9;have P:=f9.out;have J:=f1.out;have g:bW w E:=by
             refine(X.out.trans (show Below w.heap.size q (q)from BEL)).trans (d.cZ ?_ ?_)
             ·have A:=X.out.size;first|omega|(simp;omega)
             ·intro m i h;omega
            have Z:Blk E (w.heap.size) 115 #[uI 0,uI 0,uI 0,uI 0,jI 0,.slice none 0 0]:=jw d;have Y:Blk E (e.heap.size) 115 #[uI u,uI C,uI Q,uI a9,jI p,.slice none 0 0]:=jw d;obtain⟨G4,H0,G5,H1,G6,H2,G7,H3,G8,H4,G9,H5⟩:=Z.c6;have H6:w.heap.size<E.heap.size:=Z.lt;have B8:=zH Z;clear Z;obtain⟨E3,E9,E4,F0,E5,F1,E6,F2,E7,F3,E8,F4⟩:=Y.c6;have F5:e.heap.size<E.heap.size:=Y.lt;have x3:=zH Y;clear Y;have c0:=zH g;clear d g;clear P t6 v2 t7 v3 t8 v4 t9 v5 v0 v6 v1 v7 m2 m8 m3 m9 m4 n0 m5 n1 m6 n2 m7 n3 J;have x1:=zH f;clear f;clear n;refine mV ?_;rw[a2.out];refine⟨none,0,rfl,av _,Row.WH,?_⟩;have z:=c0.out;exact BEL
          ·have C7:(g5 !=0)=true:=by simp[d0]
           rw[aB (by simp[d0])]at b;have B:=zH b;clear b b7;go_wp2_with fail;refine k.mono ?_;rintro o q ⟨rfl,f,d⟩;have O:=f8.out;have I:=c4.out;have g:bW w q:=by
            refine(b2.out.trans (show Below w.heap.size y (y.setCell ⟨e.heap.size,3,none⟩ (uI a9))from BEL)).trans (d.cZ ?_ ?_)
            ·have A:=b2.out.size;first|omega|(simp;omega)
            ·intro m i h;omega
           have P:Blk q (w.heap.size) 115 #[uI 0,uI 0,uI 0,uI 0,jI 0,.slice none 0 0]:=jw d;have J:Blk q (e.heap.size) 115 #[uI u,uI C,uI Q,uI a9,jI p,.slice none 0 0]:=jw d;obtain⟨t6,v2,t7,v3,t8,v4,t9,v5,v0,v6,v1,v7⟩:=P.c6;have G3:w.heap.size<q.heap.size:=P.lt;have f9:=zH P;clear P;obtain⟨m2,m8,m3,m9,m4,n0,m5,n1,m6,n2,m7,n3⟩:=J.c6;have E2:e.heap.size<q.heap.size:=J.lt;have f1:=zH J;clear J;have X:=zH g;clear d g;clear O s4 t0 s5 t1 s6 t2 s7 t3 s8 t4 s9 t5 l0 l6 l1 l7 l2 l8 l3 l9 l4 m0 l5 m1 I;have x0:=zH f;clear f;clear k;refine mV ?_;rw[B.out];refine⟨none,0,rfl,av _,Row.WH,?_⟩;have z:=X.out;exact BEL
         ·have C6:(g4 !=0)=true:=by simp[c9]
          rw[aB (by simp[c9])]at b;have b7:=zH b;clear b b6;go_wp2_with fail;refine k.mono ?_;rintro o y ⟨rfl,f,d⟩;have N:=f7.out;have H:=c3.out;have g:bW w y:=by
           refine(b1.out.trans (show Below w.heap.size x (x.setCell ⟨e.heap.size,2,none⟩ (uI Q))from BEL)).trans (d.cZ ?_ ?_)
           ·have A:=b1.out.size;first|omega|(simp;omega)
           ·intro m i h;omega
          have O:Blk y (w.heap.size) 115 #[uI 0,uI 0,uI 0,uI 0,jI 0,.slice none 0 0]:=jw d;have I:Blk y (e.heap.size) 115 #[uI u,uI C,uI Q,uI 0,jI p,.slice none 0 0]:=jw d;obtain⟨s4,t0,s5,t1,s6,t2,s7,t3,s8,t4,s9,t5⟩:=O.c6;have G2:w.heap.size<y.heap.size:=O.lt;have f8:=zH O;clear O;obtain⟨l0,l6,l1,l7,l2,l8,l3,l9,l4,m0,l5,m1⟩:=I.c6;have E1:e.heap.size<y.heap.size:=I.lt;have c4:=zH I;clear I;have b2:=zH g;clear d g;clear N r2 r8 r3 r9 r4 s0 r5 s1 r6 s2 r7 s3 j8 k4 j9 k5 k0 k6 k1 k7 k2 k8 k3 k9 H;have w9:=zH f;clear f;clear k;refine mV ?_;rw[b7.out];refine⟨none,0,rfl,av _,Row.WH,?_⟩;have z:=b2.out;exact BEL
        ·have C5:(g3 !=0)=true:=by simp[c8]
         rw[aB (by simp[c8])]at b;have b6:=zH b;clear b U;go_wp2_with fail;refine k.mono ?_;rintro o x ⟨rfl,f,d⟩;have M:=f6.out;have G:=c2.out;have g:bW w x:=by
          refine(a7.out.trans (show Below w.heap.size v (v.setCell ⟨e.heap.size,1,none⟩ (uI C))from BEL)).trans (d.cZ ?_ ?_)
          ·have A:=a7.out.size;first|omega|(simp;omega)
          ·intro m i h;omega
         have N:Blk x (w.heap.size) 115 #[uI 0,uI 0,uI 0,uI 0,jI 0,.slice none 0 0]:=jw d;have H:Blk x (e.heap.size) 115 #[uI u,uI C,uI 0,uI 0,jI p,.slice none 0 0]:=jw d;obtain⟨r2,r8,r3,r9,r4,s0,r5,s1,r6,s2,r7,s3⟩:=N.c6;have G1:w.heap.size<x.heap.size:=N.lt;have f7:=zH N;clear N;obtain⟨j8,k4,j9,k5,k0,k6,k1,k7,k2,k8,k3,k9⟩:=H.c6;have E0:e.heap.size<x.heap.size:=H.lt;have c3:=zH H;clear H;have b1:=zH g;clear d g;clear M q0 q6 q1 q7 q2 q8 q3 q9 q4 r0 q5 r1 i6 j2 i7 j3 i8 j4 i9 j5 j0 j6 j1 j7 G;have w8:=zH f;clear f;clear k;refine mV ?_;rw[b6.out];refine⟨none,0,rfl,av _,Row.WH,?_⟩;have z:=b1.out;exact BEL
      ·have C4:(g2 !=0)=true:=by simp[c7]
       rw[aB (by simp[c7])]at b;have U:=zH b;clear b b5;go_wp2_with fail;refine k.mono ?_;rintro o v ⟨rfl,f,d⟩;have L:=f5.out;have F:=c1.out;have g:bW w v:=by
        refine(b0.out.trans (show Below w.heap.size s (s.setCell ⟨e.heap.size,0,none⟩ (uI u))from BEL)).trans (d.cZ ?_ ?_)
        ·have A:=b0.out.size;first|omega|(simp;omega)
        ·intro m i h;omega
       have M:Blk v (w.heap.size) 115 #[uI 0,uI 0,uI 0,uI 0,jI 0,.slice none 0 0]:=jw d;have G:Blk v (e.heap.size) 115 #[uI u,uI 0,uI 0,uI 0,jI p,.slice none 0 0]:=jw d;obtain⟨q0,q6,q1,q7,q2,q8,q3,q9,q4,r0,q5,r1⟩:=M.c6;have G0:w.heap.size<v.heap.size:=M.lt;have f6:=zH M;clear M;obtain⟨i6,j2,i7,j3,i8,j4,i9,j5,j0,j6,j1,j7⟩:=G.c6;have D9:e.heap.size<v.heap.size:=G.lt;have c2:=zH G;clear G;have a7:=zH g;clear d g;clear L o8 p4 o9 p5 p0 p6 p1 p7 p2 p8 p3 p9 h4 i0 h5 i1 h6 i2 h7 i3 h8 i4 h9 i5 F;have w7:=zH f;clear f;clear k;refine mV ?_;rw[U.out];refine⟨none,0,rfl,av _,Row.WH,?_⟩;have z:=a7.out;exact BEL
     ·have C3:(g1 !=0)=true:=by simp[c6]
      rw[aB (by simp[c6])]at b;have b5:=zH b;clear b e7;go_wp2_with fail;refine k.mono ?_;rintro o s ⟨rfl,f,d⟩;have K:=f4.out;have a3:=f0.out;have g:bW w s:=by
       refine(a6.out.trans (show Below w.heap.size D (D.setCell ⟨e.heap.size,4,none⟩ (jI p))from BEL)).trans (d.cZ ?_ ?_)
       ·have A:=a6.out.size;first|omega|(simp;omega)
       ·intro m i h;omega
      have L:Blk s (w.heap.size) 115 #[uI 0,uI 0,uI 0,uI 0,jI 0,.slice none 0 0]:=jw d;have F:Blk s (e.heap.size) 115 #[uI 0,uI 0,uI 0,uI 0,jI p,.slice none 0 0]:=jw d;obtain⟨o8,p4,o9,p5,p0,p6,p1,p7,p2,p8,p3,p9⟩:=L.c6;have F9:w.heap.size<s.heap.size:=L.lt;have f5:=zH L;clear L;obtain⟨h4,i0,h5,i1,h6,i2,h7,i3,h8,i4,h9,i5⟩:=F.c6;have D8:e.heap.size<s.heap.size:=F.lt;have c1:=zH F;clear F;have b0:=zH g;clear d g;clear K n6 o2 n7 o3 n8 o4 n9 o5 o0 o6 o1 o7 y6 z2 y7 z3 y8 z4 y9 z5 z0 z6 z1 z7 a3;have w6:=zH f;clear f;clear k;refine mV ?_;rw[b5.out];refine⟨none,0,rfl,av _,Row.WH,?_⟩;have z:=b0.out;exact BEL
  ·have C9:(b8 !=1)=true:=by simp[b4]
   go_wp2_with fail;refine n.mono ?_;rintro o e ⟨x5,x7,rfl,r,f,d⟩;obtain⟨C0,C1,rfl,D7,e5⟩:=Bys.at_ r (aj _ _) (j:=0) sM;simp only[Nat.add_zero,List.getElem_cons_zero]at e5;have a4:=f2.out;have g:bW w e:=by
    refine(a5.out.trans (show Below w.heap.size a0 (a0)from BEL)).trans (d.cZ ?_ ?_)
    ·have A:=a5.out.size;first|omega|(simp;omega)
    ·intro m i h;omega
   have t:Blk e (w.heap.size) 115 #[uI 0,uI 0,uI 0,uI 0,jI 0,.slice none 0 0]:=jw d;obtain⟨d3,d9,d4,e0,d5,e1,d6,e2,d7,e3,d8,e4⟩:=t.c6;have F7:w.heap.size<e.heap.size:=t.lt;have f3:=zH t;clear t;have a1:=zH g;clear d g;clear a4 z8 A4 z9 A5 A0 A6 A1 A7 A2 A8 A3 A9;have e9:=zH f;clear f;clear r n;refine mV ?_;have b:=b3.out;rw[Sr b4]at b;rw[b];refine⟨none,0,rfl,av _,Row.WH,?_⟩;have z:=a1.out;exact BEL
theorem EB {k:Ak} (h:qA k=true):k.cu.length<=32/\k.aO.length<=32/\iR k.cu=true/\iR k.aO=true:=by
 simp only[qA,jA,Bool.and_eq_true,decide_eq_true_eq]at h;exact⟨h.1.1.1.2,h.1.1.2,h.1.2.1.1,h.2.1.1⟩
theorem SH (S:Nat->Prop) (a1:Option Addr) (c1:Nat) (a2:Option Addr) (c2:Nat) (k:Ak) (w:World) (h:nu w S a1 c1 a2 c2 k) (j:qA k=true) (i0:Word k.dw) (l:Word k.xor):
  Calls Tryz.prog 215 #[.agg #[.slice a1 k.cu.length c1,.slice a2 k.aO.length c2,uI k.dw,uI k.xor,bV k.kZ]] w λx d=>∃f3 f4,x=.returned (.tuple #[.slice f3 (zP k).length f4,jI 0])/\(zP k).length<=f4/\Bys d (λk=>w.heap.size<=k/\k<d.heap.size) f3 (zP k)/\bW w d:=by
 obtain⟨m4,m5,i1,i2⟩:=EB j;have b4:=zH (λd (H:bW w d)=>wU S a1 c1 a2 c2 k d (h.below H));have e3:=zH (λd (H:bW w d)=>LY S a1 c1 k.cu d (aD h.cu H) m4 (BG i1 (λd3 d0=>(h.sok d3 d0).1.1)));have i6:=zH (λd (H:bW w d)=>LY S a2 c2 k.aO d (aD h.aO H) m5 (BG i2 (λd3 d0=>(h.mok d3 d0).1.1)));have m9:=BH k.cu;have n0:=BH k.aO;have i3:=zH (zQ k.dw i0);have i4:=zH (zQ k.xor l);have g5:zP k=[2]++xL k.cu++xL k.aO++lu k.dw++lu k.xor++[if k.kZ then 1 else 0]:=rfl;(have o:(lu k.dw).length=8:=by unfold lu;simp[kM]);(have p:(lu k.xor).length=8:=by unfold lu;simp[kM]);rw[j]at b4;obtain⟨U,W⟩:=eX (zP k);rw[<-W];rw[g5]at W;clear g5 h j i1 i2 i0 l;obtain⟨c4,V,a6,a7,d2⟩:=k;simp only at*
 generalize xL c4=g at*
 generalize xL V=b at*
 generalize lu a6=e at*
 generalize lu a7=i at*
 have d8:=zH W;clear W;go_enter Tryz.func215,Tryz.ntmps215;go_wp2_with fail;refine(b4.out _ (BEL)).mono ?_;rintro x v ⟨rfl,c6⟩;have I:bW w v:=pY c6;have l:Blk v (w.heap.size) 92 #[.slice a1 c4.length c1,.slice a2 V.length c2,uI a6,uI a7,bV d2]:=iK c6;obtain⟨k3,k8,k4,k9,k5,l0,k6,l1,k7,l2⟩:=l.c5;have n5:w.heap.size<v.heap.size:=l.lt;have f0:=zH l;clear l;have T:=zH I;clear c6 I;go_wp2_with fail;refine(e3.out _ (T.out.trans (BEL))).mono ?_;rintro x Q ⟨i9,j2,rfl,j5,h8,Y⟩;have e4:=zH h8;have l:=f0.out;have I:bW v Q:=pY Y;have a4:Blk Q (w.heap.size) 92 #[.slice a1 c4.length c1,.slice a2 V.length c2,uI a6,uI a7,bV d2]:=iK Y;have a5:Blk Q (v.heap.size) 5 #[.int .u8 2]:=iK Y;obtain⟨l3,l8,l4,l9,l5,m0,l6,m1,l7,m2⟩:=a4.c5;have n6:w.heap.size<Q.heap.size:=a4.lt;have f1:=zH a4;clear a4;obtain⟨m3,o4⟩:=a5.c1;have o5:v.heap.size<Q.heap.size:=a5.lt;have f2:=zH a5;clear a5;have b3:=zH I;clear Y I;have g6:=(f2.out.own (xs:=[Value.int .u8 2]) (size:=1) (n:=1) rfl rfl sM);have e9:=zH g6;clear h8 l g6 j5 m3;go_wp2_with (at_builtin;refine fe.jO rfl (.tmp 8) (.tmp 11) rfl (some ⟨v.heap.size,0,none⟩) 1 [2] (by simp[Act.eval]) e9.out i9 j2 g (by simp[Act.eval]) e4.out sO dC ?_;intro b1 c0 E q r j8;have e1:=zH q;have d9:=zH r;clear q r j8);have k1:=T.out.size;have n3:=b3.out.size;have r:=d9.out;have n4:=r.size;have y:bW w E:=(T.out.trans (b3.out.mono k1)).trans (r.cZ oM (λk c h=>by omega));have m:=f1.out.mod r dC;have q:OwnAt E (λk=>w.heap.size<=k/\k<E.heap.size) 5 1 b1 ([2]++g).length c0 (([2]++g).flatMap byV):=e1.out.mono (λk c=>by rcases c with h|h<;>omega);(have k0:([2]++g).length<=1000:=by simp;omega);have d7:=zH y;have e8:=zH m;have G:=zH q;clear r y m q e1 d9 f0 e4 f2 e9 T b3 f1 k3 k4 k5 k6 k7 k8 k9 l0 l1 l2 l3 l4 l5 l6 l7 l8 l9 m0 m1 m2 b4 e3;have z:([2]++g).length=g.length+1:=sM;obtain⟨a,X⟩:∃a,a=[2]++g:=⟨_,rfl⟩;rw[<-X]at z k0;have c8:=G.out;rw[<-X]at c8;have i5:=zH X;clear X G;have G:=zH c8;clear c8;have y:=d7.out;have m:=e8.out;have q:=G.out;have o1:=y.size;have q2:=m.Wu 1;have q3:=m.Wu 2;have q4:=m.Wu 3;clear d7 e8 G;go_region_held3 (λd=>d.cell? ⟨w.heap.size,1,none⟩=some (.slice a2 V.length c2)/\d.cell? ⟨w.heap.size,2,none⟩=some (uI a6)/\d.cell? ⟨w.heap.size,3,none⟩=some (uI a7)) (first|assumption|simp[go_sem, *]) (first
  |(refine fe.Br rfl (.tmp 21) (.tmp 24) rfl a8 b7 (a++b++e) (by simp[Act.eval,z,o,p]) g9 i8 j1 i (by simp[Act.eval,o,p]) e6.out (by first|omega|(simp;omega)) dC ?_;intro a9 b8 f h4 a0 j7;have o0:=a0.size;have P:=B.mod a0 dC;have f9:bW w f:=f8.trans (a0.cZ oM (λk c h=>by omega));have p8:=P.Wu 1;have p9:=P.Wu 2;have q0:=P.Wu 3;have q1:=P.Wu 4;have h0:OwnAt f (λk=>w.heap.size<=k/\k<f.heap.size) 5 1 a9 (a++b++e++i).length b8 ((a++b++e++i).flatMap byV):=h4.mono (λk c=>by rcases c with h|h<;>omega);clear h4 a0 j7)
  |(refine fe.Br rfl (.tmp 17) (.tmp 20) rfl b2 c3 (a++b) (by simp[Act.eval,z,o,p]) g7 i7 f5 e (by simp[Act.eval,o,p]) e5.out (by first|omega|(simp;omega)) dC ?_;intro a8 b7 D h3 Z j6;have n8:=Z.size;have t:=A.mod Z dC;have f7:bW w D:=f6.trans (Z.cZ oM (λk c h=>by omega));have p0:=t.Wu 1;have p1:=t.Wu 2;have p2:=t.Wu 3;have p3:=t.Wu 4;have g8:OwnAt D (λk=>w.heap.size<=k/\k<D.heap.size) 5 1 a8 (a++b++e).length b7 ((a++b++e).flatMap byV):=h3.mono (λk c=>by rcases c with h|h<;>omega);clear h3 Z j6)
  |(refine fe.Br rfl (.tmp 13) (.tmp 16) rfl b1 c0 (a) (by simp[Act.eval,z,o,p]) h1 j0 j3 b (by simp[Act.eval,o,p]) e7.out (by first|omega|(simp;omega)) dC ?_;intro b2 c3 F h5 a3 j9;have o3:=a3.size;have u:=C.mod a3 dC;have g1:bW w F:=g0.trans (a3.cZ oM (λk c h=>by omega));have q9:=u.Wu 1;have r0:=u.Wu 2;have r1:=u.Wu 3;have r2:=u.Wu 4;have h2:OwnAt F (λk=>w.heap.size<=k/\k<F.heap.size) 5 1 b2 (a++b).length c3 ((a++b).flatMap byV):=h5.mono (λk c=>by rcases c with h|h<;>omega);clear h5 a3 j9)
  |(have m7:=f5;go_simp;go_at_call 219;refine(i4.out _).mono ?_;rintro x d5 ⟨i8,j1,rfl,h7,g3⟩;have K:bW D d5:=(show bW D _ from BEL).trans (g3.mono sM);have n9:=K.size;have f8:bW w d5:=f7.trans (K.mono oM);have B:=t.below K t.lt;have p4:=B.Wu 1;have p5:=B.Wu 2;have p6:=B.Wu 3;have p7:=B.Wu 4;have g9:OwnAt d5 (λk=>w.heap.size<=k/\k<D.heap.size) 5 1 a8 (a++b++e).length b7 ((a++b++e).flatMap byV):=g8.below K;have e6:=zH h7;clear h7 g3)
  |(go_simp;go_at_call 219;refine(i3.out _).mono ?_;rintro x d4 ⟨i7,f5,rfl,h6,g2⟩;have J:bW F d4:=(show bW F _ from BEL).trans (g2.mono sM);have n7:=J.size;have f6:bW w d4:=g1.trans (J.mono oM);have A:=u.below J u.lt;have o6:=A.Wu 1;have o7:=A.Wu 2;have o8:=A.Wu 3;have o9:=A.Wu 4;have g7:OwnAt d4 (λk=>w.heap.size<=k/\k<F.heap.size) 5 1 b2 (a++b).length c3 ((a++b).flatMap byV):=h2.below J;have e5:=zH h6;clear h6 g2)
  |(go_simp;go_at_call 245;refine(i6.out _ (BEL)).mono ?_;rintro x d6 ⟨j0,j3,rfl,m8,h9,g4⟩;have L:bW E d6:=(show bW E _ from BEL).trans (g4.mono sM);have o2:=L.size;have g0:bW w d6:=y.trans (L.mono oM);have C:=m.below L m.lt;have q5:=C.Wu 1;have q6:=C.Wu 2;have q7:=C.Wu 3;have q8:=C.Wu 4;have h1:OwnAt d6 (λk=>w.heap.size<=k/\k<E.heap.size) 5 1 b1 (a).length c0 ((a).flatMap byV):=q.below L;have e7:=zH h9;clear h9 g4))
 have e0:=zH h0;have R:=zH f9;(have n1:(a++b++e++i).length<=3000:=by simp;omega);(have n2:(a++b++e++i).length=g.length+1+b.length+8+8:=by simp;omega);have e2:=zH i5.out;clear q m h1 h2 g7 g8 g9 h0 y g0 g1 f6 f7 f8 f9 C u A t B P e7 e5 e6 L J K;cases d2 with
 |true=>
  go_wp2_with (at_builtin;refine fe.jO rfl (.tmp 28) (.tmp 29) rfl a9 b8 (a++b++e++i) (by simp[Act.eval,z,o,p]) (e0.out.below (BEL)) (some ⟨f.heap.size,0,none⟩) 1 [1] (by simp[Act.eval]) (((Wx f 5 #[.int .u8 1]).own (xs:=[Value.int .u8 1]) rfl rfl sM).row) sO dC ?_;intro b0 b9 m6 N M c7;have b6:=zH N;have b5:=zH M;clear N M c7);go_ret2;have j:=b5.out;have d1:=j.size;have k2:=R.out.size;simp at d1;(have O:U=a++b++e++i++[1]:=by rw[d8.out,e2.out];rfl);(have c9:U.length=g.length+1+(b.length+17):=by rw[O];simp;omega);have s:=b6.out;rw[<-O]at s;refine⟨b0,b9,by rw[c9];rfl,s.cap_,s.row.mono λk c=>?_,?_⟩
  ·rcases c with h|⟨c5,j4⟩
   ·omega
   ·simp at c5;omega
  ·exact R.out.trans ((show Below w.heap.size f (f.alloc (.cells #[.int .u8 1] 5))from BEL).trans (j.cZ sO (λk c h=>by omega)))
 |false=>
  go_wp2_with (at_builtin;refine fe.jO rfl (.tmp 31) (.tmp 32) rfl a9 b8 (a++b++e++i) (by simp[Act.eval,z,o,p]) (e0.out.below (BEL)) (some ⟨f.heap.size,0,none⟩) 1 [0] (by simp[Act.eval]) (((Wx f 5 #[.int .u8 0]).own (xs:=[Value.int .u8 0]) rfl rfl sM).row) sO dC ?_;intro b0 b9 m6 N M c7;have b6:=zH N;have b5:=zH M;clear N M c7);go_ret2;have j:=b5.out;have d1:=j.size;have k2:=R.out.size;simp at d1;(have O:U=a++b++e++i++[0]:=by rw[d8.out,e2.out];rfl);(have c9:U.length=g.length+1+(b.length+17):=by rw[O];simp;omega);have s:=b6.out;rw[<-O]at s;refine⟨b0,b9,by rw[c9];rfl,s.cap_,s.row.mono λk c=>?_,?_⟩
  ·rcases c with h|⟨c5,j4⟩
   ·omega
   ·simp at c5;omega
  ·exact R.out.trans ((show Below w.heap.size f (f.alloc (.cells #[.int .u8 0] 5))from BEL).trans (j.cZ sO (λk c h=>by omega)))
theorem SI (S:Nat->Prop) (a1:Option Addr) (c1:Nat) (a2:Option Addr) (c2:Nat) (k:Ak) (w:World) (h:nu w S a1 c1 a2 c2 k) (d:qA k=false):
  Calls Tryz.prog 215 #[.agg #[.slice a1 k.cu.length c1,.slice a2 k.aO.length c2,uI k.dw,uI k.xor,bV k.kZ]] w λc a=>c=.returned (.tuple #[.slice none 0 0,jI 1])/\bW w a:=by
 have b:=zH (λa (e:bW w a)=>wU S a1 c1 a2 c2 k a (h.below e));rw[d]at b;clear h d;obtain⟨l,j,n,o,m⟩:=k;simp only at*
 go_enter Tryz.func215,Tryz.ntmps215;go_wp2_with fail;refine(b.out _ (BEL)).mono ?_;rintro c i ⟨rfl,f⟩;have g:bW w i:=(show bW w _ from BEL).trans (f.mono sM);go_wp2_with fail;go_ret2;exact⟨rfl,g⟩
theorem OI (S:Nat->Prop) (a1:Option Addr) (c1:Nat) (a2:Option Addr) (c2:Nat) (k:Ak) (w:World) (h:nu w S a1 c1 a2 c2 k) (f:Word k.dw) (g:Word k.xor):
  Calls Tryz.prog 215 #[.agg #[.slice a1 k.cu.length c1,.slice a2 k.aO.length c2,uI k.dw,uI k.xor,bV k.kZ]] w λd a=>∃b c,d=.returned (.tuple #[.slice b (if qA k then zP k else[]).length c,jI (if qA k then 0 else 1)])/\(if qA k then zP k else[]).length<=c/\Bys a (λk=>w.heap.size<=k/\k<a.heap.size) b (if qA k then zP k else[])/\bW w a:=by
 cases hm:qA k with
 |true=>exact SH S a1 c1 a2 c2 k w h hm f g
 |false=>
  refine(SI S a1 c1 a2 c2 k w h hm).mono ?_;rintro d a ⟨rfl,e⟩;exact⟨none,0,rfl,av _,Row.WH,e⟩
end Go.Proofs.YtiflndepmgnojaaGreat
