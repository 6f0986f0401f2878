import Derived.Test.YtiflndepmgnojaaGreatNumC
import Derived.Test.YtiflndepmgnojaaGreatInv
namespace Go.Proofs.YtiflndepmgnojaaGreat
open Go.RowKit
set_option linter.unusedSimpArgs false
set_option linter.unusedVariables false
set_option maxHeartbeats 4000000
set_option maxRecDepth 100000
theorem Qy {n1 n0 u u1 q c Q y:Int} (hy:y=n1*4294967296+n0) (d:q*n1+c=u) (i:4294967296*c+u1<q*n0) (g:Q*y<=u*4294967296+u1) (e:0<y):Q<q:=by
 (have f:q*y=(u -c)*4294967296+q*n0:=by rw[hy,<-d];grind);rcases Int.lt_or_le Q q with b|b
 ·exact b
 ·have:=bC b (Int.le_of_lt e)
  omega
theorem Qx {n1 n0 u u1 q b Q y:Int} (hy:y=n1*4294967296+n0) (d:q*n1+b=u) (i:q*n0<=4294967296*b+u1) (g:u*4294967296+u1<(Q+1)*y) (e:0<y):q<=Q:=by
 (have f:q*y=(u -b)*4294967296+q*n0:=by rw[hy,<-d];grind);rcases Int.lt_or_le Q q with c|c
 ·have:=bC (show Q+1<=q by omega) (Int.le_of_lt e)
  omega
 ·exact c
theorem and_low32 {x:Int} (b:0<=x) (d:x<18446744073709551616):bits BinOp.and IntKind.u64 x 4294967295=x%4294967296:=by
 obtain⟨c,rfl⟩:=bH b;have:=bits_and_u64_nat c 4294967295 oM oM;rw[show((4294967295:Nat):Int)=4294967295 from rfl]at this;rw[this,show(4294967295:Nat)=2^32 -1 by decide,Nat.and_two_pow_sub_one_eq_mod];omega
theorem P6 {a v:Int} {s:Nat} (d:0<=a) (c:a*2^s<18446744073709551616) (f:0<=v) (g:v<2^s) (i:v<18446744073709551616):bits BinOp.or IntKind.u64 (a*2^s) v=a*2^s+v:=by
 obtain⟨a,rfl⟩:=bH d;obtain⟨v,rfl⟩:=bH f;(have b:((a:Int)*2^s)=((2^s*a:Nat):Int):=by rw[Int.natCast_mul,Int.natCast_pow,Int.mul_comm];rfl);have e:v<2^s:=by
  (have h:((2:Int)^s)=((2^s:Nat):Int):=by rw[Int.natCast_pow];rfl);rw[h]at g;omega
 rw[b]at c|-;rw[bits_or_u64_nat _ v oM oM,<-Nat.two_pow_add_eq_or_of_lt e];omega
theorem Dz {a b c d:Int} (h:a+b -c=d) (e:0<=d) (f:d<18446744073709551616):IntKind.u64.wrap (IntKind.u64.wrap (IntKind.u64.wrap a+b) -IntKind.u64.wrap c)=d:=by
 simp only[IntKind.wrap_u64];omega
structure Dg (n1 n0 y u a Q:Int):Prop where
 hy:y=n1*4294967296+n0
 hn1:2147483648<=n1
 hn10:0<=n0
 hn01:n0<4294967296
 hn11:n1<4294967296
 hu0:0<=u
 hu1:u<y
 ha0:0<=a
 ha1:a<4294967296
 hq0:Q*y<=u*4294967296+a
 hq1:u*4294967296+a<(Q+1)*y
section
variable {n1 n0 y u a Q:Int}
theorem Dg.pos (h:Dg n1 n0 y u a Q):0<y:=by have:=h.hy;have:=h.hn1;have:=h.hn10;omega
theorem Dg.small (h:Dg n1 n0 y u a Q):Q<4294967296:=by
 rcases Int.lt_or_le Q 4294967296 with b|b
 ·exact b
 ·have c:=bC b (Int.le_of_lt h.pos)
  have:=h.hq0;have:=h.hu1;have:=h.ha1;omega
theorem Dg.Gg (h:Dg n1 n0 y u a Q):0<=Q:=by
 rcases Int.lt_or_le Q 0 with b|b
 ·have c:=bC (show Q+1<=0 by omega) (Int.le_of_lt h.pos)
  have:=h.hq1;have:=h.hu0;have:=h.ha0;omega
 ·exact b
theorem Dg.start (h:Dg n1 n0 y u a Q):u.tdiv n1=u/n1/\0<=u/n1/\u/n1<18446744073709551616/\0<=u/n1*n1/\u/n1*n1<=u/\u -u/n1*n1<n1/\Q<=u/n1:=by
 have l:=h.hn1;have c:=Int.ediv_mul_le u (show n1≠0 by omega);have f:=Int.lt_ediv_add_one_mul_self u (show 0<n1 by omega);have b:=Int.ediv_nonneg h.hu0 (show 0<=n1 by omega);have d:=dK b (show 0<=n1 by omega);(have g:(u/n1+1)*n1=u/n1*n1+n1:=by rw[Int.add_mul,Int.one_mul]);have i:u/n1<=u:=Int.ediv_le_self _ h.hu0;have e:=h.hy;have:=h.hu1;have:=h.hn11;have:=h.hn01;refine⟨Int.tdiv_eq_ediv_of_nonneg h.hu0,b,oM,d,c,oM,?_⟩;refine Int.le_ediv_of_mul_le oM ?_;(have j:Q*y=Q*n1*4294967296+Q*n0:=by rw[e];grind);have k:=dK h.Gg h.hn10;have:=h.hq0;have:=h.ha1;omega
theorem Dg.down (h:Dg n1 n0 y u a Q) {q b:Int} (d:q*n1+b=u) (c:4294967296*b+a<q*n0):Q<=q -1:=by
 have:=Qy h.hy d c h.hq0 h.pos;omega
theorem Dg.here (h:Dg n1 n0 y u a Q) {q b:Int} (d:q*n1+b=u) (e:Q<=q) (c:q*n0<=4294967296*b+a):q=Q:=by
 have:=Qx h.hy d c h.hq1 h.pos;omega
theorem Dg.over (h:Dg n1 n0 y u a Q) {q c:Int} (e:q*n1+c=u) (d:Q<=q) (l:4294967296<=c):q=Q:=by
 refine h.here e d ?_;have j:=h.hn1;have m:=h.hy;have:=h.hu1;have:=h.hn01;have k:=h.Gg;have:=h.ha0;have i:q<4294967296:=by
  rcases Int.lt_or_le q 4294967296 with b|b
  ·exact b
  ·have f:=bC b (show 0<=n1 by omega)
   omega
 have g:=bC (show q<=4294967296 by omega) h.hn10;omega
theorem Dg.next (h:Dg n1 n0 y u a Q) {q b:Int} (c:q*n1+b=u):(q -1)*n1+(b+n1)=u:=by
 rw[Int.sub_mul,Int.one_mul];omega
theorem Dg.rest (h:Dg n1 n0 y u a Q):0<=u*4294967296+a -Q*y/\u*4294967296+a -Q*y<y:=by
 have c:=h.hq0;have b:=h.hq1;rw[Int.add_mul,Int.one_mul]at b;omega
end
theorem Dg.mk' {n1 n0 y u a:Int} (hy:y=n1*4294967296+n0) (b:2147483648<=n1) (c:0<=n0) (d:n0<4294967296) (e:n1<4294967296) (f:0<=u) (g:u<y) (i:0<=a) (j:a<4294967296):Dg n1 n0 y u a ((u*4294967296+a)/y):=
 ⟨hy,b,c,d,e,f,g,i,j,Int.ediv_mul_le _ oM,Int.lt_ediv_add_one_mul_self _ oM⟩
theorem Oj {X d p u a1 a0 Q Q0 R1 R0:Int} (b:0<p) (m:0<d) (n:X*p=u*18446744073709551616+a1*4294967296+a0) (o:u*4294967296+a1=Q*(d*p)+R1) (q:R1*4294967296+a0=Q0*(d*p)+R0) (e:0<=R0) (f:R0<d*p):
  X/d=Q*4294967296+Q0/\X%d=R0/p:=by
 have c:X*p=R0+(Q*4294967296+Q0)*(d*p):=by
  have:u*18446744073709551616=(u*4294967296)*4294967296:=oM;(have l:(Q*4294967296+Q0)*(d*p)=Q*(d*p)*4294967296+Q0*(d*p):=by grind);rw[l];omega
 have g:X*p/(d*p)=X/d:=Int.mul_ediv_mul_of_pos_left _ _ b;(have i:X*p%(d*p)=X%d*p:=by rw[Int.mul_comm X p,Int.mul_comm d p,Int.mul_emod_mul_of_pos _ _ b,Int.mul_comm]);have r:=Int.mul_pos m b;have j:X*p/(d*p)=Q*4294967296+Q0:=by
  rw[c,Int.add_mul_ediv_right _ _ oM,Int.ediv_eq_zero_of_lt e f,Int.zero_add]
 have k:X*p%(d*p)=R0:=by
  rw[c,Int.add_mul_emod_self_right,Int.emod_eq_of_lt e f]
 refine⟨by rw[<-g,j],?_⟩;rw[<-k,i,Int.mul_ediv_cancel _ oM]
theorem Om (i lo d:Int) (b6:Word i) (b7:Word lo) (g7:Word d) (h:i<d) (w:World):
  Calls Tryz.prog 251 #[uI i,uI lo,uI d] w λd0 f4=>d0=.returned (.tuple #[uI (xX i lo d),uI (divR i lo d)])/\∃h4,f4=w.drewN h4:=by
 have e4:¬d<=i:=oM;(have d1:xX i lo d=(i*18446744073709551616+lo)/d:=by unfold xX;rw[Ww e4]);(have d2:divR i lo d=(i*18446744073709551616+lo)%d:=by unfold divR;rw[Ww e4]);rw[d1,d2];clear d1 d2;obtain⟨d3,j1⟩:=b6;obtain⟨V,h3⟩:=b7;obtain⟨c9,i8⟩:=g7;(have j0:(d==0)=false:=by simp;omega);(have i9:decide (d<=i)=false:=by simp;omega);by_cases e9:i=0
 ·subst e9
  have f9:d≠0:=oM;have c7:lo.tdiv d=lo/d:=Int.tdiv_eq_ediv_of_nonneg V;have l2:lo.tmod d=lo%d:=Int.tmod_eq_emod_of_nonneg V;have l3:=Int.ediv_nonneg V c9;have l4:=iQ lo f9;have l5:lo/d<=lo:=Int.ediv_le_self _ V;have l6:=iN lo (show 0<d by omega);have l7:lo/d<18446744073709551616:=oM;have l8:lo%d<18446744073709551616:=oM;go_enter Tryz.func251,Tryz.ntmps251;go_wp2_with fail;refine bN kR kR ?_;(repeat (first|go_big_quiet_step (fail)|quiet_step (fail)));refine aK ?_;rintro _ ⟨nq,rfl⟩;go_wp2_with fail;go_ret2;exact⟨sM,_,rfl⟩
 ·have j7:(i==0)=false:=by simp[e9]
  have b8:=λw=>Tryz.bits_LeadingZeros64 d w oM oM;have b7:=Lib.bitLen_le d.toNat 64 oM oM;obtain⟨g6,d7⟩:=WX d.toNat oM oM;(have g5:Lib.bitLen d.toNat≠0:=by intro b6;rw[b6]at d7;omega);generalize g4:Lib.bitLen d.toNat=c8 at*
  obtain⟨e,rfl⟩:∃e,c8=64 -e:=⟨64 -c8,oM⟩;have j6:e<=63:=oM;have e5:(64:Int) -((64 -e:Nat):Int)=(e:Int):=oM;rw[e5]at b8;have f6:=zH b8;clear b8 g5 b7 g4 e5;(have Y:(2:Int)^e*2^(64 -e)=18446744073709551616:=by rw[<-Int.pow_add,show e+(64 -e)=64 by omega];decide);(have b1:((2^(64 -e):Nat):Int)=(2:Int)^(64 -e):=by rw[Int.natCast_pow];rfl);have g:((d.toNat:Nat):Int)=d:=Int.toNat_of_nonneg c9;(have d9:(2:Int)^(64 -e)<=2*d:=by rw[<-b1];omega);(have d8:d<(2:Int)^(64 -e):=by rw[<-b1];omega);have W:(0:Int)<2^e:=Int.pow_pos dC;have c4:(0:Int)<2^(64 -e):=Int.pow_pos dC;have f5:d*2^e<18446744073709551616:=by
   have:=Int.mul_lt_mul_of_pos_right d8 W;rw[<-Y,Int.mul_comm (2^e)];exact this
  have i1:9223372036854775808<=d*2^e:=by
   have:=bC d9 (Int.le_of_lt W);rw[Int.mul_comm (2^(64 -e)),Y,Int.mul_assoc]at this;omega
  have h9:=Int.ediv_nonneg V (Int.le_of_lt c4);have f3:lo/2^(64 -e)<2^e:=Int.ediv_lt_of_lt_mul c4 (by rw[Y];exact h3);have i0:lo/2^(64 -e)<=lo:=Int.ediv_le_self _ V;have m3:=dK d3 (Int.le_of_lt W);have J:i*2^e+2^e<=d*2^e:=by
   have:=bC (show i+1<=d by omega) (Int.le_of_lt W)
   rwa [Int.add_mul,Int.one_mul]at this
  have r:i*2^e<18446744073709551616:=oM;have g2:=P6 d3 r h9 f3 oM;have g1:=and_low32 (x:=d*2^e) oM f5;have g3:IntKind.u64.wrap (lo*2^e)=lo*2^e%18446744073709551616:=IntKind.wrap_u64 _;have f2:=iQ (lo*2^e) (show(18446744073709551616:Int)≠0 by decide);have c7:=iN (lo*2^e) (show(0:Int)<18446744073709551616 by decide);have e0:lo*2^e/18446744073709551616=lo/2^(64 -e):=by
   rw[<-Y,Int.mul_comm lo,Int.mul_ediv_mul_of_pos _ _ W]
  have b4:(i*18446744073709551616+lo)*2^e=(i*2^e+lo/2^(64 -e))*18446744073709551616+lo*2^e%18446744073709551616:=by
   rw[<-e0];(have g0:(i*18446744073709551616+lo)*2^e=i*2^e*18446744073709551616+lo*2^e:=by grind);rw[g0];omega
  have e8:0<=i*2^e+lo/2^(64 -e):=oM;have a7:i*2^e+lo/2^(64 -e)<d*2^e:=oM;have g8:0<d:=oM;have d6:0<(2:Int)^e:=W;clear Y b1 g d9 d8 f3 i0 J e0 g6 d7 c4;obtain⟨E,Z⟩:∃E,d*2^e=E:=⟨_,rfl⟩;obtain⟨u,e7⟩:∃u,i*2^e+lo/2^(64 -e)=u:=⟨_,rfl⟩;obtain⟨a8,e6⟩:∃a8,lo*2^e%18446744073709551616=a8:=⟨_,rfl⟩;rw[e7]at g2 b4 e8 a7;rw[Z]at g1 i1 a7;rw[e6]at g3 f2 c7 b4;(have m4:E<18446744073709551616:=by rw[<-Z];exact f5);have l9:=and_low32 f2 c7;obtain⟨n1,j5⟩:∃n1,E/4294967296=n1:=⟨_,rfl⟩;obtain⟨n0,j4⟩:∃n0,E%4294967296=n0:=⟨_,rfl⟩;obtain⟨G,j3⟩:∃G,a8/4294967296=G:=⟨_,rfl⟩;obtain⟨m,j2⟩:∃m,a8%4294967296=m:=⟨_,rfl⟩;have C:=Dg.mk' (n1:=n1) (n0:=n0) (y:=E) (u:=u) (a:=G) oM oM oM oM oM e8 a7 oM oM;obtain⟨a5,a6⟩:=C.rest;obtain⟨U,d5⟩:∃U,(u*4294967296+G)/E=U:=⟨_,rfl⟩;rw[d5]at C a5 a6;obtain⟨n,b3⟩:∃n,u*4294967296+G -U*E=n:=⟨_,rfl⟩;rw[b3]at a5 a6;have I:=Dg.mk' (n1:=n1) (n0:=n0) (y:=E) (u:=n) (a:=m) oM oM oM oM oM a5 a6 oM oM;obtain⟨a3,a4⟩:=I.rest;obtain⟨F,d4⟩:∃F,(n*4294967296+m)/E=F:=⟨_,rfl⟩;rw[d4]at I a3 a4;obtain⟨a2,b2⟩:∃a2,n*4294967296+m -F*E=a2:=⟨_,rfl⟩;rw[b2]at a3 a4;have e1:=Oj (X:=i*18446744073709551616+lo) (d:=d) (p:=2^e) (u:=u) (a1:=G) (a0:=m) (Q:=U) (Q0:=F) (R1:=n) (R0:=a2) d6 g8 oM (by rw[Z];omega) (by rw[Z];omega) a3 (by rw[Z];exact a4);have m1:=Dz b3 a5 oM;have m0:=Dz b2 a3 oM;have m2:(2:Int)^e≠0:=oM;have k7:=C.Gg;have k8:=C.small;have k5:=I.Gg;have k6:=I.small;have k2:=C.hn1;have k3:=C.hn11;(have k4:(n1=0)=False:=by simp;omega);have i6:=C.ha0;have i7:=C.ha1;have i4:=I.ha0;have i5:=I.ha1;have L:=C.hn10;have k1:=C.hn01;obtain⟨h5,h6,h7,h8,f1,c5,c6⟩:=C.start;obtain⟨g9,h0,h1,h2,f0,b9,c0⟩:=I.start;obtain⟨K,e3⟩:∃K,u/n1=K:=⟨_,rfl⟩;obtain⟨D,e2⟩:∃D,n/n1=D:=⟨_,rfl⟩;rw[e3]at h5 h6 h7 h8 f1 c5 c6;rw[e2]at g9 h0 h1 h2 f0 b9 c0;have l0:K*n1<18446744073709551616:=oM;have j9:D*n1<18446744073709551616:=oM;have l1:0<=u -K*n1:=oM;have k0:0<=n -D*n1:=oM;have k9:u -K*n1<18446744073709551616:=oM;have j8:n -D*n1<18446744073709551616:=oM;have u64:u<18446744073709551616:=oM;have i3:n<18446744073709551616:=oM;have T:=zH C;have l:=zH I;have H:=zH e1;have f7:=zH (show u -K*n1<n1 from c5);have f8:=zH c6;have a9:=zH (show n -D*n1<n1 from b9);have b0:=zH c0;have i2:=zH (show a2<18446744073709551616 by omega);clear C I e1 b4 b3 b2 d5 d4 e3 e2 f1 f0 c5 c6 b9 c0 e7 e6 d6 a6 a4 a7;go_enter Tryz.func251,Tryz.ntmps251;go_wp2_with (first|(go_at_call 255;refine(f6.out _).mono ?_;rintro d0 f4 ⟨rfl,rfl⟩));go_loop [15,16] (λJ r=>∃(b c:Int),J=uI b/\r=uI c/\b*n1+c=u/\U<=b/\0<=c/\c<4294967296/\b<18446744073709551616) (λ_ r=>4294967296 -(intOf r).toNat);(case atStart=>exact⟨K,u -K*n1,rfl,rfl,oM,f8.out,oM,by have:=f7.out;omega,oM⟩);case round=>
   obtain⟨b,c,rfl,rfl,f,k,A,B,z⟩:=hrel;have P:0<=b:=oM;by_cases b5:4294967296<=b
   ·have M:decide (4294967296<=b)=true:=by simp;omega
    have g:U<=b -1:=oM;have j:=T.out.next f;have S:c+n1<18446744073709551616:=oM;by_cases t:4294967296<=c+n1
    ·have v:decide (4294967296<=c+n1)=true:=by simp;omega
     have s:=T.out.over j g t;clear f k A B z;go_wp2_with fail;go_loop [18,16] (λJ r=>∃(b c:Int),J=uI b/\r=uI c/\b*n1+c=n/\F<=b/\0<=c/\c<4294967296/\b<18446744073709551616) (λ_ r=>4294967296 -(intOf r).toNat);(case atStart=>exact⟨D,n -D*n1,rfl,rfl,oM,b0.out,oM,by have:=a9.out;omega,oM⟩);case round=>
      obtain⟨b,c,rfl,rfl,f,k,A,B,z⟩:=hrel;have P:0<=b:=oM;by_cases b5:4294967296<=b
      ·have M:decide (4294967296<=b)=true:=by simp;omega
       have g:F<=b -1:=oM;have j:=l.out.next f;have S:c+n1<18446744073709551616:=oM;by_cases t:4294967296<=c+n1
       ·have v:decide (4294967296<=c+n1)=true:=by simp;omega
        have s:=l.out.over j g t;clear f k A B z;go_wp2_with fail;go_ret2;obtain⟨o,q⟩:=H.out;rw[o,q];exact⟨rfl,0,rfl⟩
       ·have v:decide (4294967296<=c+n1)=false:=by simp;omega
        go_wp2_with fail;go_round;(case rel=>exact⟨b -1,c+n1,rfl,rfl,j,g,oM,oM,oM⟩);case measure=>simp[intOf];omega
      ·have M:decide (4294967296<=b)=false:=by simp;omega
       have c1:=dK P L;have c2:b*n0<18446744073709551616:=by
        have:=bC (show b<=4294967295 by omega) L;omega
       have c3:4294967296*c+m<18446744073709551616:=oM;by_cases O:4294967296*c+m<b*n0
       ·have N:decide (4294967296*c+m<b*n0)=true:=by simp;omega
        have g:=l.out.down f O;have j:=l.out.next f;have S:c+n1<18446744073709551616:=oM;by_cases t:4294967296<=c+n1
        ·have v:decide (4294967296<=c+n1)=true:=by simp;omega
         have s:=l.out.over j g t;have R:0<=b -1:=oM;clear f k A B z;go_wp2_with fail;go_ret2;obtain⟨o,q⟩:=H.out;rw[o,q];exact⟨rfl,0,rfl⟩
        ·have v:decide (4294967296<=c+n1)=false:=by simp;omega
         have R:0<=b -1:=oM;go_wp2_with fail;go_round;(case rel=>exact⟨b -1,c+n1,rfl,rfl,j,g,oM,oM,oM⟩);case measure=>simp[intOf];omega
       ·have N:decide (4294967296*c+m<b*n0)=false:=by simp;omega
        have s:=l.out.here f k oM;subst s;clear f k A B z;go_wp2_with fail;go_ret2;obtain⟨o,q⟩:=H.out;rw[o,q];exact⟨rfl,0,rfl⟩
    ·have v:decide (4294967296<=c+n1)=false:=by simp;omega
     go_wp2_with fail;go_round;(case rel=>exact⟨b -1,c+n1,rfl,rfl,j,g,oM,oM,oM⟩);case measure=>simp[intOf];omega
   ·have M:decide (4294967296<=b)=false:=by simp;omega
    have c1:=dK P L;have c2:b*n0<18446744073709551616:=by
     have:=bC (show b<=4294967295 by omega) L;omega
    have c3:4294967296*c+G<18446744073709551616:=oM;by_cases O:4294967296*c+G<b*n0
    ·have N:decide (4294967296*c+G<b*n0)=true:=by simp;omega
     have g:=T.out.down f O;have j:=T.out.next f;have S:c+n1<18446744073709551616:=oM;by_cases t:4294967296<=c+n1
     ·have v:decide (4294967296<=c+n1)=true:=by simp;omega
      have s:=T.out.over j g t;have R:0<=b -1:=oM;clear f k A B z;go_wp2_with fail;go_loop [18,16] (λJ r=>∃(b c:Int),J=uI b/\r=uI c/\b*n1+c=n/\F<=b/\0<=c/\c<4294967296/\b<18446744073709551616) (λ_ r=>4294967296 -(intOf r).toNat);(case atStart=>exact⟨D,n -D*n1,rfl,rfl,oM,b0.out,oM,by have:=a9.out;omega,oM⟩);case round=>
       obtain⟨b,c,rfl,rfl,f,k,A,B,z⟩:=hrel;have P:0<=b:=oM;by_cases b5:4294967296<=b
       ·have M:decide (4294967296<=b)=true:=by simp;omega
        have g:F<=b -1:=oM;have j:=l.out.next f;have S:c+n1<18446744073709551616:=oM;by_cases t:4294967296<=c+n1
        ·have v:decide (4294967296<=c+n1)=true:=by simp;omega
         have s:=l.out.over j g t;clear f k A B z;go_wp2_with fail;go_ret2;obtain⟨o,q⟩:=H.out;rw[o,q];exact⟨rfl,0,rfl⟩
        ·have v:decide (4294967296<=c+n1)=false:=by simp;omega
         go_wp2_with fail;go_round;(case rel=>exact⟨b -1,c+n1,rfl,rfl,j,g,oM,oM,oM⟩);case measure=>simp[intOf];omega
       ·have M:decide (4294967296<=b)=false:=by simp;omega
        have c1:=dK P L;have c2:b*n0<18446744073709551616:=by
         have:=bC (show b<=4294967295 by omega) L;omega
        have c3:4294967296*c+m<18446744073709551616:=oM;by_cases O:4294967296*c+m<b*n0
        ·have N:decide (4294967296*c+m<b*n0)=true:=by simp;omega
         have g:=l.out.down f O;have j:=l.out.next f;have S:c+n1<18446744073709551616:=oM;by_cases t:4294967296<=c+n1
         ·have v:decide (4294967296<=c+n1)=true:=by simp;omega
          have s:=l.out.over j g t;have R:0<=b -1:=oM;clear f k A B z;go_wp2_with fail;go_ret2;obtain⟨o,q⟩:=H.out;rw[o,q];exact⟨rfl,0,rfl⟩
         ·have v:decide (4294967296<=c+n1)=false:=by simp;omega
          have R:0<=b -1:=oM;go_wp2_with fail;go_round;(case rel=>exact⟨b -1,c+n1,rfl,rfl,j,g,oM,oM,oM⟩);case measure=>simp[intOf];omega
        ·have N:decide (4294967296*c+m<b*n0)=false:=by simp;omega
         have s:=l.out.here f k oM;subst s;clear f k A B z;go_wp2_with fail;go_ret2;obtain⟨o,q⟩:=H.out;rw[o,q];exact⟨rfl,0,rfl⟩
     ·have v:decide (4294967296<=c+n1)=false:=by simp;omega
      have R:0<=b -1:=oM;go_wp2_with fail;go_round;(case rel=>exact⟨b -1,c+n1,rfl,rfl,j,g,oM,oM,oM⟩);case measure=>simp[intOf];omega
    ·have N:decide (4294967296*c+G<b*n0)=false:=by simp;omega
     have s:=T.out.here f k oM;subst s;clear f k A B z;go_wp2_with fail;go_loop [18,16] (λJ r=>∃(b c:Int),J=uI b/\r=uI c/\b*n1+c=n/\F<=b/\0<=c/\c<4294967296/\b<18446744073709551616) (λ_ r=>4294967296 -(intOf r).toNat);(case atStart=>exact⟨D,n -D*n1,rfl,rfl,oM,b0.out,oM,by have:=a9.out;omega,oM⟩);case round=>
      obtain⟨b,c,rfl,rfl,f,k,A,B,z⟩:=hrel;have P:0<=b:=oM;by_cases b5:4294967296<=b
      ·have M:decide (4294967296<=b)=true:=by simp;omega
       have g:F<=b -1:=oM;have j:=l.out.next f;have S:c+n1<18446744073709551616:=oM;by_cases t:4294967296<=c+n1
       ·have v:decide (4294967296<=c+n1)=true:=by simp;omega
        have s:=l.out.over j g t;clear f k A B z;go_wp2_with fail;go_ret2;obtain⟨o,q⟩:=H.out;rw[o,q];exact⟨rfl,0,rfl⟩
       ·have v:decide (4294967296<=c+n1)=false:=by simp;omega
        go_wp2_with fail;go_round;(case rel=>exact⟨b -1,c+n1,rfl,rfl,j,g,oM,oM,oM⟩);case measure=>simp[intOf];omega
      ·have M:decide (4294967296<=b)=false:=by simp;omega
       have c1:=dK P L;have c2:b*n0<18446744073709551616:=by
        have:=bC (show b<=4294967295 by omega) L;omega
       have c3:4294967296*c+m<18446744073709551616:=oM;by_cases O:4294967296*c+m<b*n0
       ·have N:decide (4294967296*c+m<b*n0)=true:=by simp;omega
        have g:=l.out.down f O;have j:=l.out.next f;have S:c+n1<18446744073709551616:=oM;by_cases t:4294967296<=c+n1
        ·have v:decide (4294967296<=c+n1)=true:=by simp;omega
         have s:=l.out.over j g t;have R:0<=b -1:=oM;clear f k A B z;go_wp2_with fail;go_ret2;obtain⟨o,q⟩:=H.out;rw[o,q];exact⟨rfl,0,rfl⟩
        ·have v:decide (4294967296<=c+n1)=false:=by simp;omega
         have R:0<=b -1:=oM;go_wp2_with fail;go_round;(case rel=>exact⟨b -1,c+n1,rfl,rfl,j,g,oM,oM,oM⟩);case measure=>simp[intOf];omega
       ·have N:decide (4294967296*c+m<b*n0)=false:=by simp;omega
        have s:=l.out.here f k oM;subst s;clear f k A B z;go_wp2_with fail;go_ret2;obtain⟨o,q⟩:=H.out;rw[o,q];exact⟨rfl,0,rfl⟩
theorem GK (a lo d:Int) (l:Word a) (m:Word lo) (k:Word d) (w:World):
  Calls Tryz.prog 231 #[uI a,uI lo,uI d] w λe i=>e=.returned (.tuple #[uI (xX a lo d),uI (divR a lo d),bV (xB a d)])/\∃c,i=w.drewN c:=by
 by_cases h:d<=a
 ·have f:xX a lo d=0:=by unfold xX;rw[aB h]
  (have g:divR a lo d=0:=by unfold divR;rw[aB h]);(have b:xB a d=false:=by unfold xB;simp[h]);rw[f,g,b];clear f g b;go_enter Tryz.func231,Tryz.ntmps231;go_wp2_with fail;go_ret3;exact⟨rfl,0,rfl⟩
 ·have n:decide (d<=a)=false:=by simp;omega
  have b:xB a d=true:=Li oM;rw[b];clear b;have j:=zH (Om a lo d l m k oM);go_enter Tryz.func231,Tryz.ntmps231;go_wp2_with fail;refine(j.out _).mono ?_;rintro e i ⟨rfl,c,rfl⟩;go_wp2_with fail;go_ret3;exact⟨rfl,c,rfl⟩
theorem QO {a b d:Int} (e:Word a) (hb:Word b) (f:Word d):
  jv a b d=if xB (a*b/18446744073709551616) d then xX (a*b/18446744073709551616) (a*b%18446744073709551616) d else 18446744073709551615:=by
 unfold jv xB xX;have c:a*b/18446744073709551616*18446744073709551616+a*b%18446744073709551616=a*b:=oM;rw[c];by_cases h:d<=a*b/18446744073709551616<;>simp[h]
theorem gK {a b d:Int} (f:Word a) (hb:Word b) (g:Word d):Word (jv a b d):=by
 unfold jv;split
 ·exact⟨dC,dC⟩
 ·rename_i h
  have c:=dK f.1 hb.1;(have i:0<d:=by have:=g.1;omega);have e:a*b<18446744073709551616*d:=oM;exact⟨Int.ediv_nonneg c oM,Int.ediv_lt_of_lt_mul i e⟩
theorem NH (a b:Int) (k:Word a) (hb:Word b) (w:World):
  Calls Tryz.prog 230 #[uI a,uI b] w λc e=>c=.returned (.tuple #[uI (a*b/18446744073709551616),uI (a*b%18446744073709551616)])/\w=e:=by
 obtain⟨f,l⟩:=k;obtain⟨g,m⟩:=hb;obtain⟨a,rfl⟩:=bH f;obtain⟨b,rfl⟩:=bH g;have d:=Tryz.bits_Mul64 a b oM oM w;have i:((a*b/18446744073709551616:Nat):Int)=(a:Int)*b/18446744073709551616:=sM;have j:((a*b%18446744073709551616:Nat):Int)=(a:Int)*b%18446744073709551616:=sM;rw[i,j]at d;exact d.mono λc e h=>⟨h.1,h.2.symm⟩
theorem lS (a b d:Int) (i:Word a) (hb:Word b) (n:Word d) (w:World):
  Calls Tryz.prog 179 #[uI a,uI b,uI d] w λc f=>c=.returned (uI (jv a b d))/\∃e,f=w.drewN e:=by
 obtain⟨p,q⟩:=zJ i hb;have c:=QO i hb n;have m:=zH (NH a b i hb);have l:=zH (GK _ _ _ p q n);have k:=zH c;clear c;generalize a*b/18446744073709551616=j at*
 generalize a*b%18446744073709551616=o at*
 by_cases h:xB j d=true
 ·have g:Hid (jv a b d=xX j o d):=zH (by rw[k.out,aB h])
  go_enter Tryz.func179,Tryz.ntmps179;go_wp2_with fail;refine(m.out _).mono ?_;rintro c f ⟨rfl,rfl⟩;go_wp2_with fail;refine(l.out _).mono ?_;rintro c f ⟨rfl,e,rfl⟩;go_wp2_with fail;go_ret;exact⟨jk g.out.symm,e,rfl⟩
 ·have r:xB j d=false:=by simpa using h
  have g:Hid (jv a b d=18446744073709551615):=zH (by rw[k.out,Ww h]);clear h;go_enter Tryz.func179,Tryz.ntmps179;go_wp2_with fail;refine(m.out _).mono ?_;rintro c f ⟨rfl,rfl⟩;go_wp2_with fail;refine(l.out _).mono ?_;rintro c f ⟨rfl,e,rfl⟩;go_wp2_with fail;go_ret;exact⟨jk g.out.symm,e,rfl⟩
theorem Aj {k a b:Int} (c:0<=k) (d:Word a) (hb:Word b):Word (xP k a b):=by
 unfold xP;have f:=dK c d.1;have g:k*a<=k*18446744073709551615:=Int.mul_le_mul_of_nonneg_left (by have:=d.2;omega) c;have e:(k+1)*18446744073709551616=k*18446744073709551615+k+18446744073709551616:=oM;refine⟨Int.ediv_nonneg (by have:=hb.1;omega) oM,Int.ediv_lt_of_lt_mul oM (by rw[Int.mul_comm 18446744073709551616,e];have:=hb.2;omega)⟩
theorem IX {k a b:Int} (g:0<=k) (r:k<=1000) (l:Word a) (hb:Word b):
  ∃d f c:Int,k*a/18446744073709551616=d/\(k*a%18446744073709551616+b)%18446744073709551616=f/\(k*a%18446744073709551616+b)/18446744073709551616=c/\0<=c/\c<=1/\0<=d/\d+c<=k/\Word (d+c)/\Word f/\xX (d+c) f (k+1)=xP k a b:=by
 obtain⟨i,m⟩:=l;obtain⟨n,o⟩:=hb;have p:=dK g i;have q:k*a<=k*18446744073709551615:=Int.mul_le_mul_of_nonneg_left oM g;refine⟨_,_,_,rfl,rfl,rfl,?_⟩;unfold xX xP;generalize k*a=e at*
 have j:(e/18446744073709551616+(e%18446744073709551616+b)/18446744073709551616)*18446744073709551616+(e%18446744073709551616+b)%18446744073709551616=e+b:=oM;refine⟨oM,oM,oM,oM,⟨oM,oM⟩,⟨oM,oM⟩,?_⟩;rw[j,Ww oM]
theorem Ey (k a b:Int) (o:0<=k) (v:k<=1000) (d:Word a) (hb:Word b) (w:World):
  Calls Tryz.prog 191 #[uI k,uI a,uI b] w λc i=>c=.returned (uI (xP k a b))/\∃g,i=w.drewN g:=by
 obtain⟨u,z,t,j,l,m,C,D,F,E,A,B,n⟩:=IX o v d hb;have p:Word k:=⟨o,oM⟩;have x:Word (k+1):=⟨oM,oM⟩;have e:=λw=>uW k a p d w;have q:=(zJ p d).2;have y:=λw=>ME (k*a%18446744073709551616) b q.1 hb.1 w;have f:=λw=>GK (u+t) z (k+1) A B x w;rw[j]at e;rw[l,m]at y;rw[n]at f;generalize k*a%18446744073709551616=G at*
 have r:=zH e;have s:=zH f;clear e f j l m n q;go_enter Tryz.func191,Tryz.ntmps191;go_wp2_with fail;refine(r.out _).mono ?_;rintro c i ⟨rfl,rfl⟩;go_wp2_with fail;refine(s.out _).mono ?_;rintro c i ⟨rfl,g,rfl⟩;go_wp2_with fail;go_ret;exact⟨rfl,g,rfl⟩
theorem Kg (a:Rt) (first e:Int) (d:Word a.bK) (i:Word a.mJ) (l:Word first) (o:Word e) (w:World):
  Calls Tryz.prog 137 #[.agg #[bV a.has,uI a.mJ,uI a.bK,uI a.var,uI a.bn],uI first,uI e] w λc g=>c=.returned (uI (lJ a first e))/\bW w g:=by
 obtain⟨k,m,j,p,n⟩:=a;simp only at d i;cases k
 ·have b:=zH (lS first 9 8 l ⟨dC,dC⟩ ⟨dC,dC⟩)
  go_enter Tryz.func137,Tryz.ntmps137;go_wp2_with fail;refine(b.out _).mono ?_;rintro c g ⟨rfl,f,rfl⟩;go_wp2_with fail;go_ret;exact⟨rfl,aA ((aj _ _).alloc (av _) _) f⟩
 ·have b:=zH (lS (max j m) 9 8 ⟨by have:=d.1;omega,by have:=d.2;have:=i.2;omega⟩ ⟨dC,dC⟩ ⟨dC,dC⟩)
  go_enter Tryz.func137,Tryz.ntmps137;go_wp2_with fail;refine(b.out _).mono ?_;rintro c g ⟨rfl,f,rfl⟩;go_wp2_with fail;go_ret;exact⟨rfl,aA ((aj _ _).alloc (av _) _) f⟩
theorem Hq (c:Rt) (first e:Int) (l:Word c.bK) (i:Word c.var) (g:Word first) (k:Word e) (w:World):
  Calls Tryz.prog 141 #[.agg #[bV c.has,uI c.mJ,uI c.bK,uI c.var,uI c.bn],uI first,uI e] w λd f=>d=.returned (uI (qP c first e))/\bW w f:=by
 obtain⟨p,t,o,j,s⟩:=c;simp only at l i;have m:=kN (a:=2) (b:=first) ⟨dC,dC⟩ g;have n:=kN (a:=4) (b:=j) ⟨dC,dC⟩ i;have q:Word (max (wW 2 first) e):=⟨by have:=m.1;omega,by have:=m.2;have:=k.2;omega⟩;have r:Word (max (wW 4 j) e):=⟨by have:=n.1;omega,by have:=n.2;have:=k.2;omega⟩;cases p
 ·go_enter Tryz.func141,Tryz.ntmps141
  go_wp2_with fail;refine(wH 2 first ⟨dC,dC⟩ g _).mono ?_;rintro d f ⟨rfl,rfl⟩;go_wp2_with fail;refine(nY _ _ g q _).mono ?_;rintro d f ⟨rfl,rfl⟩;go_wp2_with fail;go_ret;exact⟨rfl,(aj _ _).alloc (av _) _⟩
 ·go_enter Tryz.func141,Tryz.ntmps141
  go_wp2_with fail;go_quiet (first|((go_at_call 178;exact aJ ((wH 4 j ⟨dC,dC⟩ i _).mono λd f h=>⟨h.1,h.2.symm⟩)))|((go_at_call 146;exact aJ ((nY o _ l r _).mono λd f h=>⟨h.1,h.2.symm⟩))));go_wp2_with fail;go_ret;exact⟨rfl,aA ((aj _ _).alloc (av _) _) _⟩
attribute[local go_sem] BW.cell BW.frozen
theorem Kt (a:Rt) (x:Int) (c:Word a.bK) (g:Word a.var) (b:Word x) (w:World):
  Calls Tryz.prog 121 #[.agg #[bV a.has,uI a.mJ,uI a.bK,uI a.var,uI a.bn],uI x] w λd e=>d=.returned (.agg #[bV (mY a x).has,uI (mY a x).mJ,uI (mY a x).bK,uI (mY a x).var,uI (mY a x).bn])/\bW w e:=by
 obtain⟨l,o,f,m,n⟩:=a;simp only at c g;have r:=b.1;have s:=b.2;cases l
 ·go_enter Tryz.func121,Tryz.ntmps121
  go_wp2_with fail;go_returns;exact⟨rfl,by go_grown⟩
 ·have k:=uK c b
  have i:=zH (Ey 3 m _ dC dC g k);have j:=zH (Ey 7 f x dC dC c b);go_enter Tryz.func121,Tryz.ntmps121;go_wp2_with fail;refine bP 8 kR kR ?_;refine mD ?_;(repeat (quiet_step ((first|(go_at_call 192;exact aJ ((JK f x c b _).mono λd e h=>⟨h.1,h.2.symm⟩))|(go_at_call 191;exact dn (i.out _))))));refine aK ?_;rintro _ ⟨q,rfl⟩;refine dA rfl rfl ?_;go_simp;refine aK ?_;go_wp2_with fail;refine(j.out _).mono ?_;rintro d e ⟨rfl,p,rfl⟩;go_wp2_with fail;go_returns;exact⟨rfl,BEL⟩
end Go.Proofs.YtiflndepmgnojaaGreat
