import Derived.Deep.LoopGhost
import Derived.Deep.DeepCutAuto
import Derived.Deep.CutBlock
import Derived.Test.YtiflndepmgnojaaGreatLa3
import Derived.Test.YtiflndepmgnojaaGreatLa4
namespace Go.Proofs.YtiflndepmgnojaaGreat
open Go.RowKit
set_option linter.unusedSimpArgs false
set_option linter.unusedVariables false
set_option maxHeartbeats 4000000
set_option maxRecDepth 100000
theorem Ng (n:Int) (w:World):Calls Tryz.prog 206 #[uI n] w λj l=>(∃b:Nat,j=.returned (jI b)/\b=eU n/\b<=8)/\w=l:=by
 (have c:∀b:Nat,(b=eU n->b<=8):=λb k=>by rw[k];unfold eU;(repeat' split)<;>omega);go_enter Tryz.func206,Tryz.ntmps206;go_upto_if 4 with fail;by_cases e:4611686018427387903<n
 ·rw[bM e]
  go_wp2_with fail;go_ret;(have h:0=eU n:=by unfold eU;(repeat' split)<;>omega);exact⟨⟨0,rfl,h,c _ h⟩,rfl⟩
 rw[bJ e];go_upto_if 6 with fail;by_cases f:1073741824<=n
 ·rw[bM f]
  go_wp2_with fail;go_ret;(have h:8=eU n:=by unfold eU;(repeat' split)<;>omega);exact⟨⟨8,rfl,h,c _ h⟩,rfl⟩
 rw[bJ f];go_upto_if 8 with fail;by_cases i:16384<=n
 ·rw[bM i]
  go_wp2_with fail;go_ret;(have h:4=eU n:=by unfold eU;(repeat' split)<;>omega);exact⟨⟨4,rfl,h,c _ h⟩,rfl⟩
 rw[bJ i];go_upto_if 10 with fail;by_cases d:64<=n
 ·rw[bM d]
  go_wp2_with fail;go_ret;(have h:2=eU n:=by unfold eU;(repeat' split)<;>omega);exact⟨⟨2,rfl,h,c _ h⟩,rfl⟩
 rw[bJ d];go_wp2_with fail;go_ret;(have h:1=eU n:=by unfold eU;(repeat' split)<;>omega);exact⟨⟨1,rfl,h,c _ h⟩,rfl⟩
structure Mine (w:World) (base:Nat) (v:Value) (n:Nat):Prop where
 ex:∃a c l,v=.slice a l.length c/\OwnAt w (λk=>base<=k) 5 1 a l.length c (l.flatMap byV)/\dP l/\l.length<=n
theorem Mine.mono {w:World} {base n m:Nat} {v:Value} (h:Mine w base v n) (j:n<=m):Mine w base v m:=by
 obtain⟨a,b,f,c,d,e,i⟩:=h.ex;exact⟨a,b,f,c,d,e,oM⟩
theorem Mine.below {w w':World} {base n:Nat} {v:Value} (h:Mine w base v n) (hb:bW w w'):Mine w' base v n:=by
 obtain⟨a,b,i,c,d,e,f⟩:=h.ex;exact⟨a,b,i,c,d.below hb,e,f⟩
theorem Mine.low {w:World} {base b n:Nat} {v:Value} (h:Mine w base v n) (hb:b<=base):Mine w b v n:=by
 obtain⟨a,c,k,d,e,f,i⟩:=h.ex;exact⟨a,c,k,d,e.mono (λl j=>ay hb j),f,i⟩
theorem JY {l:List Int} {y:Int} (h:dP l) (hy:0<=y/\y<256):dP (l++[y]):=λc b=>by
 rcases WB.1 b with b|b
 ·exact h c b
 ·rw[dZ.1 b];exact hy
theorem Mine.one {w:World} {base g:Nat} {y:Int} (h:Blk w g 5 #[.int .u8 y]) (hy:0<=y/\y<256) (hb:base<=g):Mine w base (.slice (some ⟨g,0,none⟩) 1 1) 1:=
 ⟨_,_,[y],rfl,(h.own (xs:=[Value.int .u8 y]) rfl rfl sM).mono (λd b=>by rw[b];exact hb),JY (l:=[]) (λe c=>by cases c) hy,av _⟩
section
variable {base n g:Nat} {v:Value} {y:Int} {w:World} {ops:Array Oper} {rest:List Oper} {o:Oper} {a:Act} {K:Act->World->Prop} {Q:Exit->Act->World->Prop}
theorem sQ (q:o.guard=none) (s x:Operand) (u:o.op=.call {callee:=.builtin .append,args:= #[s,x],argTypes:= #[47,47]})
  (A:a.eval s=v) (r:Mine w base v n) (B:a.eval x=.slice (some ⟨g,0,none⟩) 1 1) (p:Blk w g 5 #[.int .u8 y]) (hy:0<=y/\y<256) (F:n<=1000000) (hb:base<=w.heap.size)
  (h:∀e c,Mine c base e (n+1)->Below base w c->Go.wpList Tryz.prog ops Q rest (a.put o.dst e) c):Go.wpList Tryz.prog ops Q (o::rest) a w:=by
 obtain⟨f,j,d,rfl,l,m,D⟩:=r.ex;refine fe.jO q s x u f j d A l (some ⟨g,0,none⟩) 1 [y] B (fe.single y p rfl) sO dC (λi k c z t _=>h _ c ⟨i,k,d++[y],rfl,z.mono ?_,JY m hy,by simp;omega⟩ (t.cZ hb (λC b E=>by omega)));intro C b;rcases b with b|b
 ·exact b
 ·exact ay hb b.1
end
theorem u8_in (x:Int):0<=IntKind.u8.wrap x/\IntKind.u8.wrap x<256:=by simp[IntKind.wrap,IntKind.bits,IntKind.signed];omega
theorem ny (x:Int):Word (IntKind.u64.wrap x):=by simp[Word,IntKind.wrap,IntKind.bits,IntKind.signed];omega
theorem SE (o:BinOp) (a b:Int):0<=bits o .u8 a b/\bits o .u8 a b<256:=u8_in _
theorem zq (o:BinOp) (a b:Int):Word (bits o .u64 a b):=by
 show Word (IntKind.u64.wrap _);simp[Word,IntKind.wrap,IntKind.bits,IntKind.signed];omega
theorem Il (base:Nat) (v:Value) (m:Nat) (n:Int) (S:Word n) (w:World) (h:Mine w base v m) (R:m<=100000) (hb:base<=w.heap.size):
  Calls Tryz.prog 196 #[v,uI n] w λs k=>∃j,s=.returned j/\Mine k base j (m+8)/\Below base w k:=by
 have z:=zH h;clear h;go_enter Tryz.func196,Tryz.ntmps196;go_wp2_with fail;refine(Ng n _).mono ?_;rintro s V ⟨⟨i,rfl,-,P⟩,rfl⟩;go_wp2_with fail;go_loopg [6,7] i (λd F G wr=>∃b:Int,F=jI b/\G=jI d/\0<=b/\b+d<=8/\wr=w);(case atStart=>exact⟨0,rfl,rfl,dC,oM,rfl⟩);case round=>
  obtain⟨b,rfl,rfl,L,M,rfl⟩:=hrel;by_cases O:1<gk
  ·have C:decide ((1:Int)<(gk:Int))=true:=bM oM
   have I:IntKind.i64.wrap (b+1)=b+1:=eP _ ⟨oM,oM⟩;go_wp2_with fail;go_roundg (gk/2);(case measure=>omega);case rel=>exact⟨_,rfl,by congr 1,oM,oM,rfl⟩
  ·have C:decide ((1:Int)<(gk:Int))=false:=bJ oM
   go_wp2_with fail;go_loopg [0,8] i (λd E H wx=>H=jI ((d:Int) -1)/\d<=i/\Hid (Mine wx base E (m+(i -d)))/\Hid (Below base wr wx));(case atStart=>exact⟨rfl,av _,zH (z.out.mono oM),zH (aj _ _)⟩);case round=>
    obtain⟨rfl,N,r,c⟩:=hrel;by_cases U:0<gk
    ·have D:decide ((0:Int)<=(gk:Int) -1)=true:=bM oM
     have J:IntKind.i64.wrap (8*((gk:Int) -1))=8*((gk:Int) -1):=eP _ ⟨oM,oM⟩;go_upto_region 11 with fail;have u:=λl:Int=>(⟨iQ l dC,iN l dC⟩:0<=l%256/\l%256<256);generalize x:_%(256:Int)=y;(have t:0<=y/\y<256:=by rw[<-x];exact u _);clear x u;have A:=zH t;have T:=ay hb c.out.size;clear t;go_upto_if 35 with fail;generalize((gk:Int) -1==(i:Int) -1)=B;cases B with
     |false=>
      go_wp2_with (at_builtin;refine sQ rfl (.tmp 41) (.tmp 43) rfl (by rfl) (r.out.below BEL) (by rfl) (Wx _ _ _) A.out oM (by have:=c.out.size;simp;omega) ?_;intro j k f e;have q:=zH f;have p:=zH e;clear f e);go_roundg (gk -1);(case measure=>omega);case rel=>exact⟨by congr 1;omega,oM,zH (q.out.mono oM),zH (c.out.trans ((show Below base wr (wr.alloc (.cells #[.int .u8 y] 5))from BEL).trans p.out))⟩
     |true=>
      go_wp2_with (at_builtin;refine sQ rfl (.tmp 41) (.tmp 43) rfl (by rfl) (r.out.below BEL) (by rfl) (Wx _ _ _) (SE _ _ _) oM (by have:=c.out.size;simp;omega) ?_;intro j k f e;have q:=zH f;have p:=zH e;clear f e);go_roundg (gk -1);(case measure=>omega);case rel=>exact⟨by congr 1;omega,oM,zH (q.out.mono oM),zH (c.out.trans (bD BEL p.out))⟩
    ·have D:decide ((0:Int)<=(gk:Int) -1)=false:=bJ oM
     go_wp2_with fail;go_ret;exact⟨_,rfl,r.out.mono oM,c.out⟩
theorem BK (base:Nat) (v:Value) (m:Nat) (n:Int) (C:Word n) (w:World) (h:Mine w base v m) (B:m<=100000) (hb:base<=w.heap.size):
  Calls Tryz.prog 135 #[v,uI n] w λr f=>∃e,r=.returned e/\Mine f base e (m+8)/\Below base w f:=by
 have p:=zH h;clear h;go_enter Tryz.func135,Tryz.ntmps135;go_wp2_with fail;go_loopg [0,5] 8 (λd u x wx=>x=jI ((d:Int) -1)/\d<=8/\Hid (Mine wx base u (m+(8 -d)))/\Hid (Below base w wx));(case atStart=>exact⟨rfl,dC,zH (p.out.mono oM),zH (aj _ _)⟩);case round=>
  obtain⟨rfl,A,k,b⟩:=hrel;by_cases E:0<gk
  ·have s:decide ((0:Int)<=(gk:Int) -1)=true:=bM oM
   have z:IntKind.i64.wrap (8*((gk:Int) -1))=8*((gk:Int) -1):=eP _ ⟨oM,oM⟩;have t:=λc:Int=>(⟨iQ c dC,iN c dC⟩:0<=c%256/\c%256<256);have D:=ay hb b.out.size;go_wp2_with (at_builtin;refine sQ rfl (.tmp 10) (.tmp 18) rfl (by rfl) (k.out.below BEL) (by rfl) (Wx _ _ _) (t _) oM (by have:=b.out.size;simp;omega) ?_;intro e f j i;have q:=zH j;have l:=zH i;clear j i);go_roundg (gk -1);(case measure=>omega);case rel=>exact⟨by congr 1;omega,oM,zH (q.out.mono oM),zH (b.out.trans (bD BEL l.out))⟩
  ·have s:decide ((0:Int)<=(gk:Int) -1)=false:=bJ oM
   go_wp2_with fail;go_ret;exact⟨_,rfl,k.out.mono oM,b.out⟩
theorem Row.lowb {w w':World} {S:Nat->Prop} {t:TypeId} {size n base:Nat} {a:Option Addr} {xs:List Value} (h:Row w S t size a n xs) (c:∀b,S b->b<base) (hb:Below base w w'):Row w' S t size a n xs:=
 h.keep (ts:=[some t]) (λb o e d _=>(hb.block b (c b e)).trans d) sM
theorem RN {w:World} {S:Nat->Prop} {base j:Nat} {a:Option Addr} {l:List Sp} (h:Sps w S a l) (i:∀p,S p->p<base) (q:j<l.length):
  ∃b c,a=some ⟨b,c,none⟩/\∀d,Below base w d->d.cell? ⟨b,c+j*2,none⟩=some (uI l[j].lo)/\d.cell? ⟨b,c+j*2+1,none⟩=some (uI l[j].hi):=by
 obtain⟨b,c,e,m,x,u⟩:=Row.at_ h oM;obtain⟨t,z,f,-,r,s⟩:=h.at_ (aj _ _) q;rw[e]at f;cases f;exact⟨b,c,e,λd k=>⟨(k.cell (i _ m)).trans r,(k.cell (i _ m)).trans s⟩⟩
theorem Ae (base:Nat) (v:Value) (m:Nat) (S:Nat->Prop) (a:Option Addr) (c:Nat) (l:List Sp) (w:World) (h:Mine w base v m) (b0:m<=10000) (hb:base<=w.heap.size) (J:Sps w S a l) (a0:∀M,S M->M<base) (a8:l.length<=100) (L:∀f∈l,Word f.lo/\Word f.hi):
  Calls Tryz.prog 134 #[v,.slice a l.length c] w λj s=>∃r,j=.returned r/\Mine s base r (m+1+16*l.length)/\Below base w s:=by
 have R:=zH h;have X:=zH J;have Y:=zH L;clear h J L;have b8:(l.length:Int)%256=l.length:=oM;go_enter Tryz.func134,Tryz.ntmps134;go_wp2_with (at_builtin;refine sQ rfl (.tmp 7) (.tmp 11) rfl (by rfl) (R.out.below BEL) (by rfl) (Wx _ _ _) ⟨oM,oM⟩ oM sO ?_;intro r s F A;have T:=zH F;have P:=zH (bD (show Below base w _ from BEL) A);clear F A);go_loopg [0,5,6] l.length (λp a3 N a4 wx=>∃q,N=uI q/\a4=jI ((l.length:Int) -p)/\Word q/\p<=l.length/\Hid (Mine wx base a3 (m+1+16*(l.length -p)))/\Hid (Below base w wx));(case atStart=>exact⟨0,rfl,by congr 1;omega,⟨dC,dC⟩,av _,zH (T.out.mono oM),P⟩);case round=>
  obtain⟨q,rfl,rfl,a9,a6,I,b⟩:=hrel;by_cases b2:0<gk
  ·have Z:decide ((l.length:Int) -gk<l.length)=true:=bM oM
   have D:l.length -gk<l.length:=oM;have a1:(l.length:Int) -gk=((l.length -gk:Nat):Int):=oM;obtain⟨a5,b5,rfl,E⟩:=RN X.out a0 D;have b1:=Y.out _ (aN D);generalize l[l.length -gk]=f at*
   obtain⟨b3,a7⟩:=f;have a2:=ay hb b.out.size;rw[a1];have i:=zH E;clear E;obtain⟨d,e⟩:=i.out _ b.out;go_wp2_with fail;refine(Il base _ _ _ (ny _) wr I.out oM a2).mono ?_;rintro j O ⟨N,rfl,G,B⟩;have U:=zH G;have u:=zH (b.out.trans B);clear G B d e;obtain⟨d,e⟩:=i.out _ u.out;go_upto_region 7 with fail;refine bP 12 kR kR ?_;refine mD ?_;refine mR ?_;rintro t ⟨b4,k⟩;have x:=zH (u.out.trans (show Below base O t by rw[k];exact aA (aj _ _) _));have V:=zH (U.out.below (show bW O t by rw[k];exact aA (aj _ _) _));clear k d e;refine dA rfl rfl ?_;go_simp;go_at_call 196;refine(Il base _ _ _ (ny _) t V.out oM (ay hb x.out.size)).mono ?_;rintro j b7 ⟨b6,rfl,H,C⟩;have W:=zH H;have z:=zH (x.out.trans C);clear H C;go_simp;refine mR ?_;obtain⟨d,e⟩:=i.out _ z.out;go_wp2_with fail;go_roundg (gk -1);(case measure=>omega);case rel=>exact⟨_,rfl,by congr 1;omega,ny _,oM,zH (W.out.mono oM),z⟩
  ·have Z:decide ((l.length:Int) -gk<l.length)=false:=bJ oM
   go_wp2_with fail;go_ret;exact⟨_,rfl,I.out.mono oM,b.out⟩
theorem sG (w:World) (c1:Array Value) (b:TypeId) (c2:Array Value) (c:TypeId):
  Blk ((w.alloc (.cells c1 b)).alloc (.cells c2 c)) w.heap.size b c1/\Blk ((w.alloc (.cells c1 b)).alloc (.cells c2 c)) (w.heap.size+1) c c2:=by
 have d:=Wx (w.alloc (.cells c1 b)) c c2;have e:(w.alloc (.cells c1 b)).heap.size=w.heap.size+1:=sM;rw[e]at d;exact⟨(Wx w b c1).alloc _,d⟩
theorem ve (S:Nat->Prop) (a1 a2:Option Addr) (c1 c2:Nat) (l m:List Sp) (s x:Int) (r:Bool) (w:World) (L:Sps w S a1 l) (M:Sps w S a2 m) (b5:∀b,S b->b<w.heap.size) (b7:l.length<=100) (b8:m.length<=100) (W:∀j∈l,Word j.lo/\Word j.hi) (X:∀j∈m,Word j.lo/\Word j.hi) (b9:Word s) (c0:Word x):
  Calls Tryz.prog 56 #[.agg #[.slice a1 l.length c1,.slice a2 m.length c2,uI s,uI x,bV r]] w λd u=>∃t,d=.returned t/\Mine u w.heap.size t 4000/\bW w u:=by
 have a5:=zH L;have a6:=zH M;have b3:=zH W;have b4:=zH X;clear L M W X;go_enter Tryz.func56,Tryz.ntmps56;go_wp2_with fail;obtain⟨c,e⟩:=eX ((w.alloc (.cells #[.slice a1 l.length c1,.slice a2 m.length c2,uI s,uI x,bV r] 92)).alloc (.cells #[.int .u8 2] 5));obtain⟨G,H⟩:=sG w #[.slice a1 l.length c1,.slice a2 m.length c2,uI s,uI x,bV r] 92 #[.int .u8 2] 5;rw[<-e]at G H;(have q:bW w c:=by rw[e];exact BEL);(have d1:c.heap.size=w.heap.size+2:=by rw[e];simp);have p:=zH G;have b1:=zH (show Sps c S a1 l from aD a5.out q);have b2:=zH (show Sps c S a2 m from aD a6.out q);have c6:=zH (aj (w.heap.size+1) c);have a7:=zH (Mine.one H dC (av _));have I:=zH q;have E:∀b,S b->b<w.heap.size+1:=λb b6=>Nat.lt_succ_of_lt (b5 b b6);rw[<-e];clear e G H q;refine(Ae (w.heap.size+1) _ 1 S a1 c1 l c a7.out dC oM b1.out E b7 b3.out).mono ?_;rintro d c3 ⟨d3,rfl,R,F⟩;have a8:=zH R;have A:=zH F;have Y:=p.out.below F oM;have c7:=Y.Wu 1;clear R F Y;go_wp2_with fail;refine(Ae (w.heap.size+1) _ _ S a2 c2 m c3 a8.out oM (by have:=A.out.size;omega) (Row.lowb b2.out E A.out) E b8 b4.out).mono ?_;rintro d c4 ⟨d4,rfl,T,N⟩;have a9:=zH T;have B:=zH (A.out.trans N);have Z:=p.out.below B.out oM;have c8:=Z.Wu 2;clear T N Z;go_wp2_with fail;refine(BK (w.heap.size+1) _ _ _ b9 c4 a9.out oM (by have:=B.out.size;omega)).mono ?_;rintro d c5 ⟨d5,rfl,U,O⟩;have b0:=zH U;have C:=zH (B.out.trans O);have a0:=p.out.below C.out oM;have c9:=a0.Wu 3;clear U O a0;go_wp2_with fail;refine(BK (w.heap.size+1) _ _ _ c0 c5 b0.out oM (by have:=C.out.size;omega)).mono ?_;rintro d a4 ⟨d6,rfl,V,P⟩;have J:=zH V;have k:=zH (C.out.trans P);have a3:=p.out.below k.out oM;have d0:=a3.Wu 4;have d2:=k.out.size;clear V P a3;cases r with
 |true=>
  go_wp2_with (at_builtin;refine sQ rfl (.tmp 22) (.tmp 23) rfl (by rfl) (J.out.below BEL) (by rfl) (Wx _ _ _) dC oM sO ?_;intro t u i f;have D:=zH i;have z:=zH (bD (show Below (w.heap.size+1) a4 _ from BEL) f);clear i f);go_ret;exact⟨_,rfl,(D.out.mono oM).low (Nat.le_succ _),I.out.trans (((k.out.trans z.out)).mono (Nat.le_succ _))⟩
 |false=>
  go_wp2_with (at_builtin;refine sQ rfl (.tmp 25) (.tmp 26) rfl (by rfl) (J.out.below BEL) (by rfl) (Wx _ _ _) dC oM sO ?_;intro t u i f;have D:=zH i;have z:=zH (bD (show Below (w.heap.size+1) a4 _ from BEL) f);clear i f);go_ret;exact⟨_,rfl,(D.out.mono oM).low (Nat.le_succ _),I.out.trans (((k.out.trans z.out)).mono (Nat.le_succ _))⟩
theorem Ni (S:Nat->Prop) (p:Nat) (d l:Int) (a:List Se) (c:Int) (w:World) (h:Dw w S p d l a) (y:a.length<=1000000000) (D:0<=d) (E:d<=1000000) (C:Word c) (u:∀b∈a,Word b.bX):
  Calls Tryz.prog 129 #[pT p,uI c] w λm o=>(∃(b:Se) (k:Bool),m=.returned (.tuple #[.agg #[uI b.pn,uI b.off,uI b.len,uI b.bX,uI b.sat,bV b.rE,bV b.used,jI b.aS],bV k])/\Word b.bX)/\bW w o:=by
 have i:=zH (λo (e:bW w o)=>h.below e);have q:=zH u;obtain⟨W,P⟩:=C;clear h u;go_enter Tryz.func129,Tryz.ntmps129;go_wp2_with fail;refine(wE S p d l a _ (i.out _ BEL) y D E).mono ?_;rintro m Q ⟨rfl,N,rfl⟩;have j:=zH (i.out (((w.alloc (.cells #[uI 0,uI 0,uI 0,uI 0,uI 0,bV false,bV false,jI 0] 177))).drewN N) BEL);clear i;by_cases n:c<max 0 ((a.length:Int) -d)
 ·have v:decide (c<max 0 ((a.length:Int) -d))=true:=bM n
  go_wp2_with fail;refine mZ ?_;exact⟨⟨seZ,false,rfl,⟨dC,dC⟩⟩,BEL⟩
 ·have v:decide (c<max 0 ((a.length:Int) -d))=false:=bJ n
  go_wp2_with fail;refine(BI S p d l a _ j.out y).mono ?_;rintro m Q ⟨rfl,rfl⟩;by_cases e:(a.length:Int)<=c
  ·have x:decide ((a.length:Int)<=c)=true:=bM e
   go_wp2_with fail;refine mZ ?_;exact⟨⟨seZ,false,rfl,⟨dC,dC⟩⟩,BEL⟩
  ·have x:decide ((a.length:Int)<=c)=false:=bJ e
   go_upto_region 3 with fail;obtain⟨f,g⟩:∃f:Nat,c=f:=⟨c.toNat,oM⟩;subst g;have g:f<a.length:=oM;obtain⟨T,A,s,t,B⟩:=j.out.ex;obtain⟨k,O,rfl,V,F,G,H,I,J,K,L,M⟩:=Ses.at_ t (aj _ _) g;have z:=q.out _ (aN g);have U:World.cell? _ ⟨p,2,none⟩=some (.slice (some ⟨k,O,none⟩) a.length A):=s.cell 2;have r:=zH z;have X:(f:Int)<9223372036854775808:=oM;clear z s t q j n v e x P B;generalize a[f]=R at F G H I J K L M r;go_wp2_with fail;refine mZ ?_;exact⟨⟨R,true,rfl,r.out⟩,BEL⟩
theorem Ia {w:World} {S:Nat->Prop} {j:Nat} {a:Option Addr} {l:List Sp} (h:Sps w S a l) (n:j<l.length):
  ∃c d,a=some ⟨c,d,none⟩/\∀e,bW w e->(e.cell? ⟨c,d+j*2,none⟩=some (uI l[j].lo)/\e.cell? ⟨c,d+j*2+1,none⟩=some (uI l[j].hi))/\∀b (f:b<l.length),e.cell? ⟨c,d+b*2,none⟩=some (uI l[b].lo)/\e.cell? ⟨c,d+b*2+1,none⟩=some (uI l[b].hi):=by
 obtain⟨c,d,g,r,u,s⟩:=Row.at_ h oM;refine⟨c,d,g,λe m=>?_⟩;have k:∀b (f:b<l.length),e.cell? ⟨c,d+b*2,none⟩=some (uI l[b].lo)/\e.cell? ⟨c,d+b*2+1,none⟩=some (uI l[b].hi):=λb f=>by
  obtain⟨q,v,i,t,o,p⟩:=h.at_ m f;rw[g]at i;cases i;exact⟨o,p⟩
 exact⟨k j n,k⟩
theorem Ec (S:Nat->Prop) (a:Option Addr) (c:Nat) (l:List Sp) (w:World) (h:Sps w S a l) (U:l.length<=1000000000):
  Calls Tryz.prog 130 #[.slice a l.length c] w λF K=>(∃g,F=.returned (bV g))/\bW w K:=by
 have z:=zH h;clear h;go_enter Tryz.func130,Tryz.ntmps130;go_wp2_with fail;go_loopg [3] l.length (λb J wx=>J=jI ((l.length:Int) -b)/\b<=l.length/\Hid (bW w wx));(case atStart=>exact⟨by congr 1;omega,av _,zH (aj _ _)⟩);case round=>
  obtain⟨rfl,Q,e⟩:=hrel;by_cases V:0<gk
  ·have q:decide ((l.length:Int) -gk<l.length)=true:=bM oM
   have r:l.length -gk<l.length:=oM;have s:(l.length:Int) -gk=((l.length -gk:Nat):Int):=oM;obtain⟨g,W,rfl,t⟩:=Ia z.out r;obtain⟨⟨v,x⟩,u⟩:=t _ e.out;clear t;go_upto_region 4 with fail;rw[s];clear s q;have k:l.length -(l.length -gk)=gk:=oM;generalize l[l.length -gk]=I at*
   obtain⟨j,d⟩:=I;obtain⟨b,i⟩:=eX (l.length -gk);rw[<-i]at r v x k;rw[<-i];dsimp only at v x;have y:=zH u;have T:(b:Int)<l.length:=oM;have R:IntKind.i64.wrap ((b:Int)+1)=(b:Int)+1:=eP _ ⟨oM,oM⟩;have m:=zH i;have L:=zH k;clear u i k;by_cases n:d<j
   ·have B:decide (d<j)=true:=bM n
    refine mQ ?_;rintro _ ⟨nq,rfl⟩;go_wp2_with fail;go_ret;exact⟨by first|exact⟨_,rfl⟩|simp,aA e.out _⟩
   have B:decide (d<j)=false:=bJ n;by_cases o:4611686018427387903<d
   ·have C:decide (4611686018427387903<d)=true:=bM o
    refine mQ ?_;rintro _ ⟨nq,rfl⟩;go_wp2_with fail;go_ret;exact⟨by first|exact⟨_,rfl⟩|simp,aA e.out _⟩
   have C:decide (4611686018427387903<d)=false:=bJ o;by_cases p:0<b
   ·obtain⟨f,d⟩:=eX (b -1)
    have D:decide ((0:Int)<(b:Int))=true:=bM oM;have E:decide (0<b)=true:=bM oM;have M:(b:Int) -1=f:=oM;have N:(f:Int)<l.length:=oM;have O:f<l.length:=oM;obtain⟨H,X⟩:=y.out f oM;generalize l[f].hi=G at*
    clear H d p;obtain⟨A,P⟩:∃g,decide (j<=IntKind.u64.wrap (G+1))=g:=⟨_,rfl⟩;cases A with
    |true=>
     refine mQ ?_;rintro _ ⟨nq,rfl⟩;go_wp2_with fail;go_ret;exact⟨by first|exact⟨_,rfl⟩|simp,aA e.out _⟩
    |false=>
     refine mQ ?_;rintro _ ⟨nq,rfl⟩;go_wp2_with fail;go_roundg (gk -1);(case measure=>omega);case rel=>have:=m.out;exact⟨by congr 1;omega,oM,zH (aA e.out _)⟩
   ·have D:decide ((0:Int)<(b:Int))=false:=bJ oM
    have E:decide (0<b)=false:=bJ oM;clear p;refine mQ ?_;rintro _ ⟨nq,rfl⟩;go_wp2_with fail;go_roundg (gk -1);(case measure=>omega);case rel=>have:=m.out;exact⟨by congr 1;omega,oM,zH (aA e.out _)⟩
  ·have q:decide ((l.length:Int) -gk<l.length)=false:=bJ oM
   go_wp2_with fail;go_ret;exact⟨by first|exact⟨_,rfl⟩|simp,e.out⟩
theorem Pz (S e:Nat->Prop) (p:Nat) (f x:Int) (a:List Se) (a1 a2:Option Addr) (c1 c2:Nat) (l m:List Sp) (w:World) (h:Dw w S p f x a) (D:a.length<=1000000000) (Y:0<=f) (Z:f<=1000000) (N:∀I∈a,Word I.bX)
  (i:Sps w e a1 l) (j:Sps w e a2 m) (W:l.length<=1000000000) (X:m.length<=1000000000):
  Calls Tryz.prog 55 #[pT p,.slice a1 l.length c1,.slice a2 m.length c2] w λd b=>(∃(o:Int) (z c9:Bool),d=.returned (.tuple #[uI o,bV z,bV c9])/\Word o)/\bW w b:=by
 have r:=zH (λb (k:bW w b)=>h.below k);have s:=zH (λb (k:bW w b)=>(show Sps b e a1 l from aD i k));have J:=zH (λb (k:bW w b)=>(show Sps b e a2 m from aD j k));have b3:=zH N;clear h i j N;go_enter Tryz.func55,Tryz.ntmps55;go_wp2_with fail;refine(Ec e a1 c1 l w (s.out _ (aj _ _)) W).mono ?_;rintro d d6 ⟨⟨c5,rfl⟩,O⟩;have q:=zH O;clear O;cases c5 with
 |false=>
  go_wp2_with fail;go_ret3;exact⟨⟨0,_,_,rfl,⟨dC,dC⟩⟩,q.out⟩
 |true=>
  go_wp2_with fail;refine(Ec e a2 c2 m d6 (J.out _ q.out) X).mono ?_;rintro d d7 ⟨⟨c6,rfl⟩,P⟩;have t:=zH (q.out.trans (P.mono q.out.size));clear P q;cases c6 with
  |false=>
   go_wp2_with fail;go_ret3;exact⟨⟨0,_,_,rfl,⟨dC,dC⟩⟩,t.out⟩
  |true=>
   go_wp2_with fail;refine(wE S p f x a d7 (r.out _ t.out) D Y Z).mono ?_;rintro d b1 ⟨rfl,f3,a0⟩;have g:=zH (show bW w b1 by rw[a0];exact aA t.out _);clear a0 t;go_wp2_with fail;refine(Kv e a1 c1 l _ b1 (s.out _ g.out)).mono ?_;rintro d b ⟨rfl,rfl⟩;generalize(decide (0<l.length)&&decide ((l.getD 0 ⟨0,0⟩).lo<max 0 ((a.length:Int) -f)))=c7;cases c7 with
   |true=>
    go_wp2_with fail;go_ret3;exact⟨⟨0,_,_,rfl,⟨dC,dC⟩⟩,g.out⟩
   |false=>
    go_upto_region 4 with fail;have K:=zH (λb (k:bW w b)=>BI S p f x a b (r.out _ k) D);go_cut [42] (λd2 wx=>(∃B:Bool,d2=bV B)/\Hid (bW w wx));case first=>
     by_cases e3:l.length=0
     ·have c4:decide (0<l.length)=false:=bJ oM
      refine mQ ?_;rintro _ ⟨nq,rfl⟩;go_wp2_with fail;go_meet;exact⟨⟨_,rfl⟩,zH (aA g.out _)⟩
     ·have c4:decide (0<l.length)=true:=bM oM
      have c8:l.length -1<l.length:=oM;obtain⟨B,d0,rfl,V⟩:=Ia (s.out _ g.out) c8;obtain⟨⟨F,G⟩,-⟩:=V _ (aj _ _);clear V;have e2:(l.length:Int) -1=((l.length -1:Nat):Int):=oM;generalize l[l.length -1].hi=e4 at*
      refine bN kR kR ?_;(repeat (first|go_big_quiet_step ((go_at_call 132;exact aJ ((K.out _ (aA g.out _)).mono λd b h=>⟨h.1,h.2.symm⟩)))|quiet_step ((go_at_call 132;exact aJ ((K.out _ (aA g.out _)).mono λd b h=>⟨h.1,h.2.symm⟩)))));refine aK ?_;rintro _ ⟨nq,rfl⟩;go_wp2_with fail;go_meet;exact⟨⟨_,rfl⟩,zH (aA g.out _)⟩
    case rest=>
     obtain⟨⟨b8,rfl⟩,u⟩:=hcut;clear g;go_step;cases b8 with
     |true=>
      go_wp2_with fail;go_ret3;exact⟨⟨0,_,_,rfl,⟨dC,dC⟩⟩,u.out⟩
     |false=>
      go_wp2_with fail;refine(wE S p f x a wc (r.out _ u.out) D Y Z).mono ?_;rintro d d8 ⟨rfl,f4,a3⟩;have b2:=zH (show bW w d8 by rw[a3];exact aA u.out _);clear a3 u;obtain⟨E,U⟩:∃y:Nat,max 0 ((a.length:Int) -f)=y:=⟨(max 0 ((a.length:Int) -f)).toNat,oM⟩;have e7:E<=a.length:=oM;rw[U];have f8:(E:Int)<9223372036854775808:=oM;clear U;go_wp2_with fail;go_loopg [10,11,12] (a.length -E) (λy d3 d4 d5 wx=>∃(o:Int) (z:Bool),d3=uI o/\d4=bV z/\d5=jI ((a.length:Int) -y)/\Word o/\y<=a.length/\Hid (bW w wx));(case atStart=>exact⟨0,false,rfl,rfl,by congr 1;omega,⟨dC,dC⟩,oM,b2⟩);case round=>
       obtain⟨o,z,rfl,rfl,rfl,a4,e6,c⟩:=hrel;by_cases f0:0<gk
       ·have L:decide ((a.length:Int) -gk<a.length)=true:=bM oM
        obtain⟨b6,c0,i,j,M⟩:=(r.out _ c.out).ex;have c3:=i.Wu 2;have b5:=zH j;clear i j M;go_upto_region 10 with fail;obtain⟨n,Q⟩:=eX (a.length -gk);have C:(a.length:Int) -gk=(n:Int):=oM;have T:n<a.length:=oM;have R:a.length -n=gk:=oM;obtain⟨B,d0,rfl,e5,F,G,a5,a6,a7,a8,a9,b0⟩:=Ses.at_ b5.out (aj _ _) T;have b4:=zH (b3.out _ (aN T));generalize a[n]=I at F G a5 a6 a7 a8 a9 b0 b4;obtain⟨A,f6,f2,e1,f5,d1,f7,b7⟩:=I;dsimp only at F G a5 a6 a7 a8 a9 b0;rw[C];have v:=zH Q;have e0:=zH C;have d9:=zH R;have f1:(n:Int)<a.length:=oM;clear Q R C L;go_wp2_with fail;have e9:=c.out.size;have e8:IntKind.i64.wrap ((n:Int)+1)=(n:Int)+1:=eP _ ⟨oM,oM⟩;refine(Cq e a1 c1 l A _ (s.out _ (bD c.out BEL)) W).mono ?_;rintro d b ⟨rfl,rfl⟩;generalize dI l A=H;cases H with
        |false=>
         go_wp2_with fail;go_roundg (gk -1);(case measure=>omega);case rel=>have:=v.out;exact⟨_,_,rfl,rfl,by congr 1;omega,a4,oM,zH (bD c.out BEL)⟩
        |true=>
         go_upto_if 69 with fail;generalize(b7==(4:Int))=b9;cases b9 with
         |true=>
          go_wp2_with fail;go_ret3;exact⟨⟨0,_,_,rfl,⟨dC,dC⟩⟩,bD c.out BEL⟩
         |false=>
          cases d1 with
          |false=>
           go_wp2_with fail;go_roundg (gk -1);(case measure=>omega);case rel=>have:=v.out;exact⟨_,_,rfl,rfl,by congr 1;omega,zq _ _ _,oM,zH (bD c.out BEL)⟩
          |true=>
           go_wp2_with fail;refine(Cq e a2 c2 m A _ (J.out _ (bD c.out BEL)) X).mono ?_;rintro d b ⟨rfl,rfl⟩;generalize dI m A=H;cases H with
           |false=>
            go_wp2_with fail;go_roundg (gk -1);(case measure=>omega);case rel=>have:=v.out;exact⟨_,_,rfl,rfl,by congr 1;omega,zq _ _ _,oM,zH (bD c.out BEL)⟩
           |true=>
            go_wp2_with fail;go_roundg (gk -1);(case measure=>omega);case rel=>have:=v.out;exact⟨_,_,rfl,rfl,by congr 1;omega,zq _ _ _,oM,zH (bD c.out BEL)⟩
       ·have L:decide ((a.length:Int) -gk<a.length)=false:=bJ oM
        obtain⟨b6,c0,i,j,M⟩:=(r.out _ c.out).ex;have c3:=i.Wu 2;clear i j;go_wp2_with fail;go_ret3;exact⟨⟨_,_,_,rfl,a4⟩,c.out⟩
theorem Ki (w:World) (c1:Array Value) (a:TypeId) (c2:Array Value) (b:TypeId) (c:Array Value) (d:TypeId):
  Blk (((w.alloc (.cells c1 a)).alloc (.cells c2 b)).alloc (.cells c d)) w.heap.size a c1/\Blk (((w.alloc (.cells c1 a)).alloc (.cells c2 b)).alloc (.cells c d)) (w.heap.size+1) b c2/\Blk (((w.alloc (.cells c1 a)).alloc (.cells c2 b)).alloc (.cells c d)) (w.heap.size+1+1) d c:=by
 obtain⟨f,g⟩:=sG w c1 a c2 b;have e:=Wx ((w.alloc (.cells c1 a)).alloc (.cells c2 b)) d c;have i:((w.alloc (.cells c1 a)).alloc (.cells c2 b)).heap.size=w.heap.size+1+1:=sM;rw[i]at e;exact⟨f.alloc _,g.alloc _,e⟩
theorem WW {g b:Nat} (d:b≠g):∀(e:List Value) (a:Nat) (c:World),(c.setCells g a e).heap[b]?=c.heap[b]?
 |[],_,_=>rfl
 |v::r,a,c=>(WW d r (a+1) _).trans (Below.heap_setCell c ⟨g,a,none⟩ v b d)
theorem Row.S9 {w:World} {S:Nat->Prop} {t t':TypeId} {size n g:Nat} {a:Option Addr} {xs:List Value} {e:Array Value} (h:Row w S t size a n xs) (hb:Blk w g t' e) (q:t'≠t) (c:List Value) (o:Nat):Row (w.setCells g o c) S t size a n xs:=
 ⟨h.1,λp=>by
  obtain⟨d,r,f,j,i,k,b,m⟩:=h.2 p;refine⟨d,r,f,j,i,k,(WW (λl=>?_) c o w).trans b,m⟩;subst l;unfold Blk at hb;rw[hb]at b;cases b;exact q rfl⟩
structure AskI (W4 wx:World) (b8:Nat) (tr xo:Int):Prop where
 ex:∃a c,∃l:List Sp,Blk wx b8 92 #[.slice a l.length c,.slice none 0 0,uI tr,uI xo,bV false]/\l.length<=2/\Sps wx (λk=>W4.heap.size<=k/\k<wx.heap.size) a l/\∀s∈l,Word s.lo/\Word s.hi
 lo:bW W4 wx
 b8:W4.heap.size<=b8
theorem SG (S:Nat->Prop) (p:Nat) (u1:Value) (E b7:Int) (A:List Se) (x B j C D:Int) (w:World) (h:Dw w S p E b7 A) (e9:A.length<=1000000000) (f6:0<=E) (f7:E<=1000000) (e6:∀I∈A,Word I.bX)
  (t:Word x) (k7:0<=B/\B<65536) (k8:0<=j/\j<65536) (k9:0<=C/\C<65536) (l0:0<=D/\D<65536):
  Calls Tryz.prog 54 #[.agg #[u1,pT p],.agg #[.int .u16 B,.int .u16 j,.int .u16 C,.int .u16 D],uI x] w λe5 y=>(∃(e0:Option Addr) (i4:Nat) (a1:List Sp) (g7 g9:Int),e5=.returned (.agg #[.slice e0 a1.length i4,.slice none 0 0,uI g7,uI g9,bV false])/\a1.length<=2/\Sps y (λo=>w.heap.size<=o/\o<y.heap.size) e0 a1/\(∀I∈a1,Word I.lo/\Word I.hi)/\Word g7/\Word g9)/\bW w y:=by
 have d4:=zH (λy (b8:bW w y)=>h.below b8);have h3:=zH e6;clear h e6;go_enter Tryz.func54,Tryz.ntmps54;go_wp2_with fail;obtain⟨v,q,R⟩:=Ki w #[u1,pT p] 80 #[.int .u16 B,.int .u16 j,.int .u16 C,.int .u16 D] 51 jK 92;have e7:bW w (((w.alloc (.cells #[u1,pT p] 80)).alloc (.cells #[.int .u16 B,.int .u16 j,.int .u16 C,.int .u16 D] 51)).alloc (.cells jK 92)):=BEL;generalize(World.alloc _ _)=i2 at*
 obtain⟨b4,b9⟩:=eX w.heap.size;obtain⟨H,c0⟩:=eX (b4+1);obtain⟨d,c1⟩:=eX (H+1);rw[<-b9]at v q R;rw[<-c0]at q R;rw[<-c1]at R;rw[<-b9,<-c0,<-c1];have a4:=zH e7;have h9:=zH v;have i0:=zH q;have i1:=zH R;have e8:=And.intro (show w.heap.size<=b4 by omega) (And.intro (show b4<H by omega) (show H<d by omega));have a5:=zH e8;clear b9 c0 c1 e8 e7;have b5:=v.Wu 1;have b6:=q.Wu 0;clear v q R;have d0:=zH (λy (b8:bW w y)=>wE S p E b7 A y (d4.out _ b8) e9 f6 f7);refine bN kR kR ?_;(repeat (first|go_big_quiet_step ((go_at_call 128;exact dn (d0.out _ (aA a4.out _))))|quiet_step ((go_at_call 128;exact dn (d0.out _ (aA a4.out _))))));refine aK ?_;rintro _ ⟨nq,rfl⟩;have k:=zH (aA a4.out nq);have d9:=zH (h9.out.drewN nq);have r:=zH (i0.out.drewN nq);have b3:=zH (i1.out.drewN nq);clear b5 b6;generalize i2.drewN nq=i3 at*
 have b6:=r.out.Wu 0
 iterate 3 (first|go_values|go_skip|go_guarded|go_step|go_upon|go_back|go_simp)
 have f1:Word (max 0 ((A.length:Int) -E)+B%12):=⟨oM,oM⟩;generalize max 0 ((A.length:Int) -E)+B%12=j2 at*
 have c9:=zH f1;clear f1;go_cut [7] (λj5 wx=>(∃e,j5=uI e/\Word e)/\wx=i3);case first=>
  go_upto_if 27 with fail;(all_goals generalize decide (3<j2)=c6);(all_goals cases c6);(all_goals go_wp2_with fail);(all_goals go_meet);all_goals first|exact⟨⟨_,rfl,c9.out⟩,rfl⟩|exact⟨⟨_,rfl,ny _⟩,rfl⟩
 case rest=>
  obtain⟨⟨e,rfl,g1⟩,rfl⟩:=hcut;have d8:=zH g1;have e2:=r.out.Wu 1;clear g1 b6 c9;(repeat ((fail_if_success (with_reducible (change Code.wp _ (Code.seq (Code.region 5 _ _) _) _ _ _)));first|go_values|go_skip|go_guarded|go_step|go_upon|go_back|go_simp));obtain⟨v,q⟩:=sG wc #[uI e,uI (IntKind.u64.wrap (e+j%9))] 272 #[.slice (some ⟨wc.heap.size,0,none⟩) 1 1,.slice none 0 0,uI x,uI (x/128),bV false] 92;have X:bW wc ((wc.alloc (.cells #[uI e,uI (IntKind.u64.wrap (e+j%9))] 272)).alloc (.cells #[.slice (some ⟨wc.heap.size,0,none⟩) 1 1,.slice none 0 0,uI x,uI (x/128),bV false] 92)):=BEL;have f8:((wc.alloc (.cells #[uI e,uI (IntKind.u64.wrap (e+j%9))] 272)).alloc (.cells #[.slice (some ⟨wc.heap.size,0,none⟩) 1 1,.slice none 0 0,uI x,uI (x/128),bV false] 92)).heap.size=wc.heap.size+2:=sM;generalize i8:(World.alloc _ _)=F at*
  have a3:=zH (show AskI wc F (wc.heap.size+1) x (x/128)from⟨⟨_,_,[⟨e,IntKind.u64.wrap (e+j%9)⟩],q,sM,(kQ v).mono (λo g=>by rw[g];omega),λI Q=>by rw[dZ.1 Q];exact⟨d8.out,ny _⟩⟩,X,Nat.le_succ _⟩);have d2:=zH (show OwnAt F (λo=>o=wc.heap.size) 272 2 (some ⟨wc.heap.size,0,none⟩) 1 1 ([(⟨e,IntKind.u64.wrap (e+j%9)⟩:Sp)].flatMap spV)from v.own rfl rfl dC);have U:=zH q;clear i8 v q e2;obtain⟨s,Y⟩:=eX (wc.heap.size+1);rw[<-Y]at a3 U;rw[<-Y];have i5:F.cell? ⟨H,2,none⟩=some (.int .u16 C):=(r.out.below X r.out.lt).cell 2;have T:=zH X;have d5:=zH f8;have c8:=zH Y;clear X f8 Y;go_cut [] (λwx=>Hid (AskI wc wx s x (x/128)));case first=>
   go_upto_if 46 with fail;generalize decide (0<C%3)=j3;cases j3 with
   |false=>
    go_wp2_with fail;go_meet;exact a3
   |true=>
    have e2:F.cell? ⟨H,1,none⟩=some (.int .u16 j):=(r.out.below T.out r.out.lt).cell 1;have j9:=U.out.Wu 0;have j1:=T.out.size;go_wp2_with (at_builtin;refine iP.jO rfl (.tmp 60) (.tmp 69) rfl (some ⟨wc.heap.size,0,none⟩) 1 [⟨e,IntKind.u64.wrap (e+j%9)⟩] (by rfl) (d2.out.below BEL) (some ⟨F.heap.size,0,none⟩) 1 [⟨_,_⟩] (by rfl) (kQ (Wx _ _ _)) sM dC ?_;intro c7 e4 l1 f5 c4 j0;have a0:=(U.out.alloc _).mod c4 dC;obtain⟨k0,k1⟩:=a0.cz 0;have k2:=a0.lt;have d6:=zH a0;have d3:=zH f5;have h4:=zH c4;clear f5 c4 j0 a0);go_meet;have k4:=c8.out;have k3:=d5.out;have i9:=d3.out.far (i:=0) (u:=.slice c7 2 e4) (d3.out.pI d6.out dC);exact zH ⟨⟨c7,e4,_,d6.out.bF 0 _,sM,(Row.lt_ i9.row).mono (λo g=>⟨by rcases g.1 with h|h;exact Nat.le_of_eq h.symm;exact(by have i7:=h.1;simp only[World.size_alloc]at i7;omega),g.2⟩),λI Q=>by
     rcases bT.1 Q with rfl|Q
     ·exact⟨d8.out,ny _⟩
     ·rw[dZ.1 Q];exact⟨ny _,ny _⟩⟩,bG (bD (T.out.trans (show Below wc.heap.size F _ from BEL)) (h4.out.cZ sO (λo g h=>by omega))) (show wc.heap.size<=s by omega) _,oM⟩
  case rest=>
   have n:=hcut;clear a3 T U d2 d5 i5 c8;obtain⟨c5,k5⟩:=And.intro n.out.lo n.out.b8;have h8:=zH (d9.out.below c5 d9.out.lt);have b1:=zH (r.out.below c5 r.out.lt);have b5:=h8.out.cell 1;have e3:=b1.out.cell 3;have h0:=zH (k.out.trans (n.out.lo.mono k.out.size));clear c5;go_step;go_wp2_with fail;refine(Ni S p E b7 A _ wc (d4.out _ h0.out) e9 f6 f7 (ny _) h3.out).mono ?_;rintro e5 a2 ⟨⟨j6,j4,rfl,f4⟩,Z⟩;obtain⟨g3,g6,g2,m,g5,g4,g8,e1⟩:=j6;have h6:=zH f4;have d7:=zH Z;have j1:=Z.size;have b2:=zH (b1.out.below Z b1.out.lt);have i6:=b2.out.cell 3;clear b5 e3 Z f4;dsimp only;go_upto_region 9 with fail;obtain⟨G,V⟩:=eX (a2.alloc (.cells #[uI g3,uI g6,uI g2,uI m,uI g5,bV g4,bV g8,jI e1] 177));rw[<-V];(have c3:bW a2 G:=by rw[V];exact BEL);(have f2:Blk G a2.heap.size 177 #[uI g3,uI g6,uI g2,uI m,uI g5,bV g4,bV g8,jI e1]:=by rw[V];exact Wx _ _ _);have P:=d7.out.trans (c3.mono d7.out.size);obtain⟨a,c,b,c2,f0,f9,g0⟩:=n.out.ex;have J:=zH (c2.below P c2.lt);have z:=zH (b3.out.below (n.out.lo.trans (P.mono n.out.lo.size)) b3.out.lt);have a9:=zH (show Sps G _ a b from aD f9 P);have b0:=zH g0;have a8:=zH f0;have a6:=zH (n.out.lo.trans (P.mono n.out.lo.size));have d1:=zH f2;(have f3:¬(d=s):=by have:=n.out.b8;have:=b3.out.lt;omega);have h5:=zH f3;have e3:G.cell? ⟨H,3,none⟩=some (.int .u16 D):=(b2.out.below c3 b2.out.lt).cell 3;obtain⟨j8,W⟩:=eX a2.heap.size;rw[<-W]at d1;rw[<-W];have j7:=zH W;clear i6 c2 f9 g0 f0 c3 f2 P V f3 W;cases j4 with
   |false=>
    repeat ((fail_if_success (with_reducible apply eG));first|(refine kP 92 (.tmp 8) rfl rfl (some 94) rfl s kR #[.slice a b.length c,.slice none 0 0,uI x,uI (x/128),bV false] J.out _ Tryz.underlying92 kR kR ?_)|(refine iG 92 (.tmp 6) (.tmp 94) rfl rfl rfl d 0 #[.slice a b.length c,.slice none 0 0,uI x,uI (x/128),bV false] kR kR (z.out.there _ sM) kR (by simp[Value.oneCell']) ?_;intro l f;have M:=zH (show Blk l d 92 #[.slice a b.length c,.slice none 0 0,uI x,uI (x/128),bV false] by rw[f];exact Blk.gF z.out [.slice a b.length c,.slice none 0 0,uI x,uI (x/128),bV false] rfl);have K:=zH (show Below d G l by rw[f];exact Below.bZ (av _) _ _ _ (aj _ _));have L:=zH (show Sps l _ a b by rw[f];exact Row.S9 (t':=92) a9.out z.out dC _ _);clear f)|go_values|go_skip|go_guarded|go_step|go_upon|go_back|go_simp)
    (try simp only[Exit.inBlock,Exit.then])
    refine iZ 6 92 d #[.slice a b.length c,.slice none 0 0,uI x,uI (x/128),bV false] kR kR M.out _ Tryz.underlying92 kR kR rfl ?_;exact⟨⟨a,c,b,x,_,rfl,a8.out,(Row.lt_ L.out).mono (λo g=>⟨ay k.out.size g.1.1,g.2⟩),b0.out,t,⟨by have:=t.1;omega,by have:=t.2;omega⟩⟩,(k.out.trans (a6.out.mono k.out.size)).trans (K.out.mono (by have:=a5.out;omega))⟩
   |true=>
    go_upto_if 90 with fail;generalize decide (0<D%7)=c6;cases c6 with
    |false=>
     repeat ((fail_if_success (with_reducible apply eG));first|(refine kP 92 (.tmp 8) rfl rfl (some 94) rfl s kR #[.slice a b.length c,.slice none 0 0,uI x,uI (x/128),bV false] J.out _ Tryz.underlying92 kR kR ?_)|(refine iG 92 (.tmp 6) (.tmp 94) rfl rfl rfl d 0 #[.slice a b.length c,.slice none 0 0,uI x,uI (x/128),bV false] kR kR (z.out.there _ sM) kR (by simp[Value.oneCell']) ?_;intro l f;have M:=zH (show Blk l d 92 #[.slice a b.length c,.slice none 0 0,uI x,uI (x/128),bV false] by rw[f];exact Blk.gF z.out [.slice a b.length c,.slice none 0 0,uI x,uI (x/128),bV false] rfl);have K:=zH (show Below d G l by rw[f];exact Below.bZ (av _) _ _ _ (aj _ _));have L:=zH (show Sps l _ a b by rw[f];exact Row.S9 (t':=92) a9.out z.out dC _ _);clear f)|go_values|go_skip|go_guarded|go_step|go_upon|go_back|go_simp)
     (try simp only[Exit.inBlock,Exit.then])
     refine iZ 6 92 d #[.slice a b.length c,.slice none 0 0,uI x,uI (x/128),bV false] kR kR M.out _ Tryz.underlying92 kR kR rfl ?_;exact⟨⟨a,c,b,x,_,rfl,a8.out,(Row.lt_ L.out).mono (λo g=>⟨ay k.out.size g.1.1,g.2⟩),b0.out,t,⟨by have:=t.1;omega,by have:=t.2;omega⟩⟩,(k.out.trans (a6.out.mono k.out.size)).trans (K.out.mono (by have:=a5.out;omega))⟩
    |true=>
     have k6:=d1.out.Wu 3;repeat ((fail_if_success (with_reducible apply eG));first|(refine qR 30 (.tmp 93) (.tmp 92) rfl rfl rfl s 2 (uI m) kR kR rfl kR J.out sM ?_;intro N O;have h2:=zH (show Blk N s 92 #[.slice a b.length c,.slice none 0 0,uI m,uI (x/128),bV false] by rw[O];exact J.out.bF 2 _);have a7:=zH (show Blk N d 92 jK by rw[O];exact z.out.far h5.out _);have h7:=zH (show Sps N _ a b by rw[O];exact Row.S9 (t':=92) a9.out J.out dC [uI m] 2);have h1:=zH (show Below _ _ N by rw[O];exact bG a6.out n.out.b8 _);clear O)|(refine kP 92 (.tmp 8) rfl rfl (some 94) rfl s kR #[.slice a b.length c,.slice none 0 0,uI m,uI (x/128),bV false] h2.out _ Tryz.underlying92 kR kR ?_)|(refine iG 92 (.tmp 6) (.tmp 94) rfl rfl rfl d 0 #[.slice a b.length c,.slice none 0 0,uI m,uI (x/128),bV false] kR kR (a7.out.there _ sM) kR (by simp[Value.oneCell']) ?_;intro l f;have M:=zH (show Blk l d 92 #[.slice a b.length c,.slice none 0 0,uI m,uI (x/128),bV false] by rw[f];exact Blk.gF a7.out [.slice a b.length c,.slice none 0 0,uI m,uI (x/128),bV false] rfl);have K:=zH (show Below d N l by rw[f];exact Below.bZ (av _) _ _ _ (aj _ _));have L:=zH (show Sps l _ a b by rw[f];exact Row.S9 (t':=92) h7.out a7.out dC _ _);clear f)|go_values|go_skip|go_guarded|go_step|go_upon|go_back|go_simp)
     (try simp only[Exit.inBlock,Exit.then])
     refine iZ 6 92 d #[.slice a b.length c,.slice none 0 0,uI m,uI (x/128),bV false] kR kR M.out _ Tryz.underlying92 kR kR rfl ?_;exact⟨⟨a,c,b,m,_,rfl,a8.out,(Row.lt_ L.out).mono (λo g=>⟨ay k.out.size g.1.1,g.2⟩),b0.out,h6.out,⟨by have:=t.1;omega,by have:=t.2;omega⟩⟩,(k.out.trans (h1.out.mono k.out.size)).trans (K.out.mono (by have:=a5.out;omega))⟩
end Go.Proofs.YtiflndepmgnojaaGreat
