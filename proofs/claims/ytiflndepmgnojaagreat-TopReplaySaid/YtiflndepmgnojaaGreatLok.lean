import Derived.Test.YtiflndepmgnojaaGreatNumS
import Derived.Test.YtiflndepmgnojaaGreatLa3
import Derived.Test.YtiflndepmgnojaaGreatLa4
namespace Go.Proofs.YtiflndepmgnojaaGreat
open Go.RowKit
set_option linter.unusedSimpArgs false
set_option linter.unusedVariables false
set_option maxHeartbeats 4000000
set_option maxRecDepth 100000
attribute[local go_sem] BW.cell BW.frozen
theorem JA (a now b:Int) (c:List Int) (next:Int) (s:Se) (t:List Se):om a now b c next (s::t)=
 if a<=s.pn\/s.aS≠1 then om a now b c next t else
 if 3<=a -s.pn\/b<=WU now s.sat then om a now b (c++[s.pn]) next t else
 om a now b c (min next (WI s.sat b)) t:=rfl
theorem NV {a b:Int} (h:Word a):vL [a,b]=min a b:=by
 have:=h.2;simp only[vL,List.foldl_cons,List.foldl_nil];omega
theorem Xg {w:World} {g:Nat} {x:Int} (h:Blk w g 30 #[uI x]):Row w (λa=>a=g) 30 1 (some ⟨g,0,none⟩) [x].length ([x].flatMap woV):=qH.single _ h rfl
theorem Rz {w:World} {g:Nat} {x y:Int} (h:Blk w g 30 #[uI x,uI y]):Wos w (λa=>a=g) (some ⟨g,0,none⟩) [x,y]:=yG (size:=1) (n:=2) h rfl
theorem gM.pnw_ {l:Le} (h:gM l):∀a∈l.kept,Word a.pn:=λa b=>by
 have c:=h.mem b;have d:=h.KN;have e:=h.nI;have f:=h.mh;exact⟨oM,oM⟩
theorem QJ (S:Nat->Prop) (p:Nat) (l:Le) (dm now c:Int) (w:World) (h:iJ w S p l) (x:gM l) (d2:Word dm) (a8:Word now) (a9:Word c):
  Calls Tryz.prog 136 #[pT p,uI dm,uI now,uI c] w λv y=>∃Y a0,v=.returned (.tuple #[.slice Y (qE l dm now c).lost.length a0,uI (qE l dm now c).next])/\(qE l dm now c).lost.length<=a0/\
   Wos y (λd=>w.heap.size<=d/\d<y.heap.size) Y (qE l dm now c).lost/\bW w y:=by
 have Q:=zH (sU S p l w h x);have b2:=zH x.ok;have b4:=zH x.pnw_;(have e5:l.kept.length<=1000:=by have:=x.len;have:=x.lW;omega);have a6:qE l dm now c=om dm now c [] 18446744073709551615 l.kept:=rfl;rw[a6];generalize l.kept=s at*
 obtain⟨X,L⟩:=eX (om dm now c [] 18446744073709551615 s);rw[<-L];have V:=zH L;clear L a6 h x;go_enter Tryz.func136,Tryz.ntmps136;go_wp2_with fail;refine(Q.out).mono ?_;rintro v z ⟨d6,e0,rfl,e3,a3,a1⟩;have b5:=zH a3;have R:=zH a1;clear a3 a1 Q;go_wp2_with fail;go_loopw [17,10,11,13,19,20] (λO d4 d5 f7 f8 f9 wr=>∃(e:Nat) (f:List Int) (j:Option Addr) (k:Nat) (g:Int),e<=s.length/\O=jI e/\d4=.slice j f.length k/\d5=uI g/\f.length<=e/\Hid (Word g)/\
  Hid (OwnAt wr (λd=>z.heap.size<=d/\d<wr.heap.size) 30 1 j f.length k (f.flatMap woV))/\Hid (om dm now c f g (s.drop e)=X)/\Hid (bW z wr)) (λO _ _ _ _ _ _=>s.length -(intOf O).toNat)
 (case atStart=>exact⟨0,[],none,0,_,oM,rfl,rfl,rfl,av _,⟨dC,dC⟩,OwnAt.WH,V.out.symm,aj _ _⟩);case round=>
  obtain⟨e,f,j,k,g,e4,rfl,rfl,rfl,e1,u,q,U,o⟩:=hrel;clear V;have e7:=o.out.size;have a5:=R.out.size;by_cases E:e<s.length
  ·obtain⟨d7,f1,rfl,e2,c3,c4,c5,c6,c7,c8,c9,d0⟩:=b5.out.at_ o.out E
   have b:=U.out;rw[aR E,JA]at b;have a4:=b2.out _ (aN E);have a2:=b4.out _ (aN E);generalize s[e]=d1 at*
   have D:=a4.sat;clear a4;obtain⟨n,f5,f0,d8,t,f4,f6,Z⟩:=d1;simp only at c3 c4 c5 c6 c7 c8 c9 d0 b a2 D;obtain⟨f2,f3⟩:=a2;obtain⟨e8,e9⟩:=id d2;by_cases b6:dm<=n
   ·have b7:decide (n≥dm)=true:=by simp;omega
    rw[aB (.inl b6)]at b;have i:=zH b;clear b;go_wp2_with fail;go_roundw;(case rel=>exact⟨e+1,f,j,k,g,oM,by go_num,rfl,rfl,oM,u,zH ((q.out.below (by have m:=aj wr.heap.size wr;exact BEL)).mono (λd a=>⟨a.1,by simp;omega⟩)),i,zH (by have m:=o.out;exact BEL)⟩);case measure=>simp[intOf];omega
   (have b7:decide (dm<=n)=false:=by simp;omega);by_cases I:Z=1
   ·subst I
    rw[Ww oM]at b;have e6:0<=dm -n:=oM;by_cases b8:3<=dm -n
    ·have b9:decide (3<=dm -n)=true:=by simp;omega
     rw[aB (.inl b8)]at b;have i:=zH b;clear b;go_wp2_with ((at_builtin;refine qH.jO rfl (.tmp 43) (.tmp 46) rfl j k f (by simp[Act.eval]) (q.out.below (BEL)) (some ⟨wr.heap.size+1,0,none⟩) 1 [n] (by rfl) (by first|exact Xg (Wx _ _ _)|exact Xg (Blk.qN _ _ _ _)) sO dC ?_;intro F J d3 C r N;have H:=zH C;have A:=(show bW z _ from(by have m:=o.out;exact BEL)).trans (r.cZ (B:=z.heap.size) sO (λd a h=>by have:=h.1;omega));have G:=zH A;have M:=r.size;simp at M;clear C r N A));go_roundw;(case rel=>exact⟨e+1,_,F,J,g,oM,by go_num,sM,rfl,by simp;omega,u,zH (H.out.mono (λd a=>by rcases a with a|a;exact⟨a.1,oM⟩;exact⟨by have:=a.1;simp at this;omega,a.2⟩)),i,G⟩);case measure=>simp[intOf];omega
    ·have b9:decide (3<=dm -n)=false:=by simp;omega
     have W:=zH (sI now t a8 D);have c2:=nC a8 D;by_cases c0:c<=WU now t
     ·have c1:decide (c<=WU now t)=true:=by simp;omega
      rw[aB (.inr c0)]at b;have i:=zH b;clear b;go_wp2_with fail;refine(W.out _).mono ?_;rintro v P ⟨rfl,rfl⟩;go_wp2_with ((at_builtin;refine qH.jO rfl (.tmp 43) (.tmp 46) rfl j k f (by simp[Act.eval]) (q.out.below (BEL)) (some ⟨wr.heap.size+1,0,none⟩) 1 [n] (by rfl) (by first|exact Xg (Wx _ _ _)|exact Xg (Blk.qN _ _ _ _)) sO dC ?_;intro F J d3 C r N;have H:=zH C;have A:=(show bW z _ from(by have m:=o.out;exact BEL)).trans (r.cZ (B:=z.heap.size) sO (λd a h=>by have:=h.1;omega));have G:=zH A;have M:=r.size;simp at M;clear C r N A));go_roundw;(case rel=>exact⟨e+1,_,F,J,g,oM,by go_num,sM,rfl,by simp;omega,u,zH (H.out.mono (λd a=>by rcases a with a|a;exact⟨a.1,oM⟩;exact⟨by have:=a.1;simp at this;omega,a.2⟩)),i,G⟩);case measure=>simp[intOf];omega
     ·have c1:decide (c<=WU now t)=false:=by simp;omega
      rw[Ww oM]at b;have b0:=zH (lT t c D a9);have a7:=fB D a9;have T:=zH (λ(y:World) (K:Nat) (m:Blk y K 30 #[uI g,uI (WI t c)])=>ES (λd=>d=K) (some ⟨K,0,none⟩) 2 [g,WI t c] y (Rz m) sM);rw[NV u.out]at T;have b3:=zH (qo u.out a7);have i:=zH b;clear b c2 a7;go_wp2_with fail;refine(W.out _).mono ?_;rintro v P ⟨rfl,rfl⟩;go_wp2_with fail;refine(b0.out _).mono ?_;rintro v P ⟨rfl,rfl⟩;go_wp2_with fail;refine(T.out _ _ (by first|exact Wx _ _ _|exact Blk.qN _ _ _ _)).mono ?_;rintro v P ⟨rfl,rfl⟩;go_wp2_with fail;go_roundw;(case rel=>exact⟨e+1,f,j,k,_,oM,by go_num,rfl,rfl,oM,b3,zH ((q.out.below (by have m:=aj wr.heap.size wr;exact BEL)).mono (λd a=>⟨a.1,by simp;omega⟩)),i,zH (by have m:=o.out;exact BEL)⟩);case measure=>simp[intOf];omega
   ·have d9:(Z !=1)=true:=by simp[I]
    rw[aB (.inr I)]at b;have i:=zH b;clear b;go_wp2_with fail;go_roundw;(case rel=>exact⟨e+1,f,j,k,g,oM,by go_num,rfl,rfl,oM,u,zH ((q.out.below (by have m:=aj wr.heap.size wr;exact BEL)).mono (λd a=>⟨a.1,by simp;omega⟩)),i,zH (by have m:=o.out;exact BEL)⟩);case measure=>simp[intOf];omega
  ·obtain rfl:e=s.length:=oM
   have b:=U.out;rw[List.drop_length]at b;have b1:Hid (X=⟨f,g⟩):=zH b.symm;clear b;go_wp2_with fail;go_ret2;rw[b1.out];exact⟨j,k,rfl,q.out.cap_,aF q.out.row (λd a=>⟨ay a5 a.1,a.2⟩),R.out.trans (o.out.mono a5)⟩
theorem ig:Word 0:=⟨dC,dC⟩
theorem yw:Word 18446744073709551615:=⟨dC,dC⟩
theorem getD_at {a:Type} {l:List a} {i:Nat} {d:a} (h:i<l.length):l.getD i d=l[i]:=by rw[aW,aL h];rfl
theorem Ed {x:Wi} {a m:Int} (h:oz x) (b:Word a) (c:Word m):oz (qz x a m):=
 ⟨fB h.cr (qo b (kN sF c)),h.dL,h.acc,h.jF,h.gX,h.k,h.fair⟩
theorem Nn {x:Wi} {a m:Int} (h:oz x) (b:Word a) (c:Word m):oz (lK x a m):=by
 have d:=fB h.acc b;unfold lK;split
 ·exact Ed h b c
 ·split
  ·exact⟨fB h.cr c,h.dL,⟨by simp only;omega,by have:=d.2;have:=h.cr.1;simp only;omega⟩,h.jF,h.gX,h.k,h.fair⟩
  ·exact⟨h.cr,h.dL,d,h.jF,h.gX,h.k,h.fair⟩
theorem Oq {x:Wi} {a m now bK:Int} (h:oz x) (b:Word a) (d:Word m) (e:Word now) (f:Word bK):oz (xZ x a m now bK):=by
 unfold xZ;split
 ·exact h
 ·obtain⟨g,i⟩:=CR h d e f
  have c:=fB h.fair (AF h d b);exact⟨kX (fB h.cr (gK ⟨oM,by have:=g.2;have:=h.cr.1;omega⟩ b h.cr)) c,h.dL,h.acc,h.jF,h.gX,h.k,c⟩
theorem Ot {x:Wi} {a m now bK:Int} (h:oz x) (b:Word a) (c:Word m) (d:Word now) (e:Word bK):oz (mM x a m now bK):=by
 unfold mM;split
 ·exact Ed h b c
 ·exact Oq (CQ h d) b c d e
theorem Oz {x lo a:Int} (h:lo<=a):lo<=rF x lo a/\rF x lo a<=a:=by
 unfold rF;split
 ·omega
 ·split<;>omega
def Dx (c:Cf) (s:Cc):Prop:=c.bn<=s.win.cr/\s.win.cr<=c.most
theorem lV.lm {c:Cf} (h:lV c):c.bn<=c.most:=by have:=h.Mg;have:=h.Mf;omega
theorem lV.Gr {c:Cf} (h:lV c):2<=c.bn/\c.bn<=1073741824:=by have:=h.Mg;have:=h.Mf;have:=h.most;have:=h.zM;have:=h.Gj;omega
theorem Mh {c:Cf} {x:Wi} (a:lV c) (h:oz x):oz (held c x)/\c.bn<=(held c x).cr/\(held c x).cr<=c.most:=by
 have b:=Oz (x:=x.cr) a.lm;have d:=a.Gr;have e:=a.most;exact⟨⟨⟨by simp only[held];omega,by simp only[held];omega⟩,h.dL,h.acc,h.jF,h.gX,h.k,h.fair⟩,b.1,b.2⟩
theorem lV.mssw {c:Cf} (h:lV c):Word c.mss:=⟨by have:=h.Gj;omega,by have:=h.Ca;omega⟩
theorem Q9 {c:Cf} {s:Cc} {a now bK:Int} (b:lV c) (h:Xf s) (e:Word a) (g:Word now) (i:Word bK):Xf (vQ c s a now bK)/\Dx c (vQ c s a now bK):=by
 have f:oz (if c.pX=2 then mM s.win a c.mss now bK else lK s.win a c.mss):=by
  split
  ·exact Ot h.win e b.mssw g i
  ·exact Nn h.win e b.mssw
 have d:=Mh b f;exact⟨⟨d.1,h.qx,h.mX⟩,d.2⟩
theorem PG {x:Wi} {n d:Int} (h:oz x) (b:Word n) (a:Word d):oz (sJ x n d):=
 ⟨gK h.cr b a,gK h.cr b a,ig,h.jF,h.gX,h.k,h.fair⟩
theorem QV {x:Wi} {n d:Int} (h:oz x) (b:Word n) (a:Word d):oz (rD x n d):=
 ⟨gK h.cr b a,gK h.cr b a,ig,by unfold rD;simp only;split;exact gK h.cr ⟨dC,dC⟩ ⟨dC,dC⟩;exact h.cr,yw,ig,ig⟩
theorem Ms {c:Cf} {x:Wi} {n d cn cd:Int} (b:lV c) (h:oz x) (e:Word n) (f:Word d) (g:Word cn) (i:Word cd):oz (vM c x n d cn cd)/\c.bn<=(vM c x n d cn cd).cr/\(vM c x n d cn cd).cr<=c.most:=by
 have j:oz (if c.pX=2 then rD x cn cd else sJ x n d):=by
  split
  ·exact QV h g i
  ·exact PG h e f
 have a:=Mh b j;have k:=b.Gr;exact⟨⟨a.1.cr,kX a.1.dL ⟨oM,oM⟩,a.1.acc,a.1.jF,a.1.gX,a.1.k,a.1.fair⟩,a.2⟩
theorem EJ {x:Int} (h:Word x):Word (Gx x):=by
 obtain⟨a,b⟩:=h;unfold Gx;split<;>exact⟨oM,oM⟩
theorem La {p n:Int} (b:Word p) (a:Word n):Word (Az p n):=by
 unfold Az;split
 ·exact EJ b
 ·exact a
theorem CV {c:Cf} {s:Cc} {a next n d cn cd:Int} (j:lV c) (h:Xf s) (m:Dx c s) (k:Word a) (o:Word next) (e:Word n) (f:Word d) (g:Word cn) (i:Word cd):Xf (oV c s a next n d cn cd)/\Dx c (oV c s a next n d cn cd):=by
 unfold oV;split
 ·next c=>
  have b:=Ms j h.win e f g i;(have l:oH s.round a next=⟨Az a next,Gx s.round.mX⟩:=by unfold oH;rw[aB c]);rw[l];exact⟨⟨b.1,La k o,EJ h.mX⟩,b.2⟩
 ·exact⟨h,m⟩
theorem OD {c:Cf} {s:Cc} {a next:Int} (b:lV c) (h:Xf s) (e:Dx c s) (d:Word a) (f:Word next):Xf (uN c s a next)/\Dx c (uN c s a next):=
 CV b h e d f ⟨dC,dC⟩ ⟨dC,dC⟩ ⟨dC,dC⟩ ⟨dC,dC⟩
theorem OC {c:Cf} {s:Cc} {a next:Int} (b:lV c) (h:Xf s) (e:Dx c s) (d:Word a) (f:Word next):Xf (yg c s a next)/\Dx c (yg c s a next):=
 CV b h e d f ⟨dC,dC⟩ ⟨dC,dC⟩ ⟨dC,dC⟩ ⟨dC,dC⟩
theorem xC {c:Cf} {s:Cc} (b:lV c) (h:Xf s):Xf (kz c s)/\Dx c (kz c s):=by
 have a:=Ms (n:=1) (d:=2) (cn:=7) (cd:=10) b h.win ⟨dC,dC⟩ ⟨dC,dC⟩ ⟨dC,dC⟩ ⟨dC,dC⟩;have e:=b.Gr;exact⟨⟨⟨⟨by simp only[kz];omega,by simp only[kz];omega⟩,a.1.dL,a.1.acc,a.1.jF,a.1.gX,a.1.k,a.1.fair⟩,h.qx,h.mX⟩,⟨bY _,b.lm⟩⟩
theorem Xj {c:Cf} (a:lV c):Xf (mF c)/\Dx c (mF c):=by
 have f:=a.Gr;have b:=a.Mg;have d:=a.Mf;have e:=a.most;exact⟨⟨⟨⟨by simp only[mF];omega,by simp only[mF];omega⟩,yw,ig,ig,yw,ig,ig⟩,ig,ig⟩,⟨b,d⟩⟩
structure RtOk (r:Rt):Prop where
 mJ:Word r.mJ
 bK:Word r.bK
 var:Word r.var
 bn:Word r.bn
theorem Ad {b:Rt} {x:Int} (h:RtOk b) (a:Word x):RtOk (mY b x):=by
 unfold mY;split
 ·exact⟨a,Aj dC h.bK a,Aj dC h.var (uK h.bK a),qo h.bn a⟩
 ·exact⟨a,a,⟨by have:=a.1;simp only;omega,by have:=a.2;simp only;omega⟩,a⟩
structure PrOk (p:Pr):Prop where
 c0:0<=p.count
 c1:p.count<=60
 since:Word p.since
theorem BP (p:Pr) {now:Int} (a:Word now):PrOk (jR p now):=⟨by simp only[jR];omega,by simp only[jR];omega,a⟩
theorem Ej {now:Int} (a:Word now):PrOk (KD now):=⟨bY 0,(by decide:(0:Int)<=60),a⟩
theorem Nv {p:Pr} {now:Int} (h:PrOk p) (a:Word now):PrOk (xN p now):=⟨h.c0,h.c1,a⟩
structure LG (p:Pa):Prop where
 fC:Word p.fC
 pat:Word p.pat
 gP:Word p.gP
theorem Eu {p:Pa} {a now:Int} (h:LG p) (hb:Word a) (b:Word now):LG (lM p a now):=
 ⟨qo (fB h.fC (kN h.gP (nC b h.pat))) (pO hb),kX h.pat b,h.gP⟩
theorem BM {cr bK a:Int} (h:a<=4294967296):a<=xg cr bK a/\xg cr bK a<=4294967296:=by unfold xg;omega
theorem PZ {p:Pa} {a now b:Int} (h:LG p) (hb:Word a) (d:Word now) (e:0<=b):LG (xq p a now b):=by
 have c:=Eu h hb d;exact⟨c.fC,c.pat,⟨by simp only[xq];omega,by simp only[xq];omega⟩⟩
theorem wF {p:Pa} {a now size:Int} (h:LG p) (hb:Word a) (e:Word now) (f:Word size) (c:vw p a now size=true):LG (WR p a now size):=by
 have b:=Eu h hb e;have d:=pO f;(have g:xu size<=(lM p a now).fC:=by unfold vw at c;simp at c;omega);exact⟨⟨by simp only[WR];omega,by have:=b.fC.2;have:=d.1;simp only[WR];omega⟩,b.pat,b.gP⟩
theorem lV.uP {c:Cf} (h:lV c):Word c.gD:=⟨by have:=h.Rh;have:=h.Gj;omega,by have:=h.Rf;omega⟩
structure Kb (k:Nat) (b:Bu):Prop where
 most0:0<=b.most
 Qh:b.most<=64
 every:Word b.every
 now:Word b.now
 times:rG b.times
 len:b.times.length<=64
 gr0:0<=b.granted
 gr1:b.granted<=k
theorem Ri (c a:Int) (h:Word a):Kb 0 (xD c a):=
 ⟨by simp only[xD];omega,by simp only[xD];omega,h,ig,λd b=>by simp[xD]at b,by simp[xD],by simp[xD],by simp[xD]⟩
theorem Kb.mono {k k':Nat} {b:Bu} (h:Kb k b) (a:k<=k'):Kb k' b:=⟨h.1,h.2,h.3,h.4,h.5,h.6,h.7,by have:=h.8;omega⟩
theorem Km (b:Bu) (t:Int):(uY b t).length<=b.times.length:=List.length_filter_le _ _
theorem Rj {k:Nat} {b:Bu} {t:Int} (h:Kb k b) (i:Word t):Kb (k+1) (uU b t):=by
 have l:=Km b t;have f:rG (uY b t):=λd a=>h.times d (dx.1 a).1;have m:=h.len;have g:=h.gr0;have n:=h.gr1;have o:=h.Qh;have e:=kX h.now i;unfold uU;split
 ·next c=>
  (have j:((uY b t).length:Int)<b.most:=by unfold qy at c;simp at c;omega);refine⟨h.most0,h.Qh,h.every,e,?_,by simp only[aU,aY,List.length_nil];omega,by simp only;omega,by simp only;omega⟩;intro d a;rcases WB.1 a with a|a
  ·exact f d a
  ·obtain rfl:d=_:=by simpa using a
   exact e
 ·exact⟨h.most0,h.Qh,h.every,e,f,by simp only;omega,g,by simp only;omega⟩
structure CoOk (k:Nat) (n:Co):Prop where
 a0:0<=n.dB
 a1:n.dB<=k
 b0:0<=n.eT
 b1:n.eT<=k
 c0:0<=n.fI
 c1:n.fI<=k
 d0:0<=n.bE
 d1:n.bE<=k
 e0:0<=n.late
 e1:n.late<=k
structure AO (k:Nat) (g:Gu):Prop where
 bu:Kb k g.bu
 n:CoOk k g.n
theorem CoOk.mono {k k':Nat} {n:Co} (h:CoOk k n) (m:k<=k'):CoOk k' n:=by
 obtain⟨a,g,b,i,c,j,d,l,e,f⟩:=h;exact⟨a,oM,b,oM,c,oM,d,oM,e,oM⟩
theorem AO.mono {k k':Nat} {g:Gu} (h:AO k g) (a:k<=k'):AO k' g:=⟨h.bu.mono a,h.n.mono a⟩
theorem EN {k:Nat} {g:Gu} {l:Le} {b:List Int} {now:Int} (h:AO k g) (a:gM l) (e:Word now):AO (k+1) (dN g l b now).gu/\gM (dN g l b now).led:=by
 have c:=h.bu.mono (Nat.le_succ k);have d:=Rj h.bu e;obtain⟨f,j,m,n,o,p,q,r,s,i⟩:=h.n;unfold dN;split
 (·exact⟨⟨c,by constructor<;>simp only<;>omega⟩,a⟩);split
 (·exact⟨⟨c,by constructor<;>simp only<;>omega⟩,a⟩);split
 (·exact⟨⟨d,by constructor<;>simp only<;>first|omega|(split<;>omega)⟩,a⟩);dsimp only;split
 ·exact⟨⟨c,by constructor<;>simp only<;>omega⟩,yS a _⟩
 ·exact⟨⟨c,by constructor<;>simp only<;>omega⟩,yS a _⟩
structure dG (k:Nat) (e:En):Prop where
 cf:lV e.c
 now:Word e.now
 st0:1<=e.aS
 st1:e.aS<=4
 wl:e.words.l.length<=1000000
 wok:rG e.words.l
 wt:e.words.fI<=3*k
 qu:WV e.dH
 qb:dP e.dH.b
 qr:e.dH.room=e.c.room
 le:gM e.led
 lr:e.led.ring=e.c.ring
 ll:e.led.dO=e.c.dO
 lm:∀s∈e.led.kept,s.len<=e.c.mss
 gu:AO k e.gu
 rtt:RtOk e.rtt
 pr:PrOk e.dS
 cc:Xf e.cc
 cw:Dx e.c e.cc
 pa:LG e.fM
 ra0:e.c.WL<=e.fM.gP
 ra1:e.fM.gP<=4294967296
 gU:Word e.gU
 dm:Word e.dm
 Ho:0<=e.told
 DK:e.told<=k
 rO:0<=e.cO
 ni:e.cO<=k
theorem dG.mono {k k':Nat} {e:En} (h:dG k e) (a:k<=k'):dG k' e:=
 {h with wt:=by have:=h.wt;omega,gu:=h.gu.mono a,DK:=by have:=h.DK;omega,ni:=by have:=h.ni;omega}
theorem JI {c:Cf} {words:List Int} (a:lV c) (g:rG words) (e:words.length<=1000000):dG 0 (nK c words)where
 cf:=a
 now:=ig
 st0:=bY 1
 st1:=(by decide:(1:Int)<=4)
 wl:=e
 wok:=g
 wt:=av _
 qu:=PK _
 qb:=λk i=>by simp[nK,nS]at i
 qr:=by have:=a.Af;have:=a.qC;simp only[nK,nS];omega
 le:=Qr _ _ a.limit0
 lr:=by have:=a.wZ;have:=a.lW;simp only[nK,qZ];omega
 ll:=by have:=a.mh;simp only[nK,qZ];omega
 lm:=λj f=>by simp[nK,qZ]at f
 gu:=⟨Ri _ _ ⟨by have:=a.QM;omega,by have:=a.XB;omega⟩,⟨bY 0,bY 0,bY 0,bY 0,bY 0,bY 0,bY 0,bY 0,bY 0,bY 0⟩⟩
 rtt:=⟨ig,ig,ig,ig⟩
 pr:=⟨bY 0,(by decide:(0:Int)<=60),ig⟩
 cc:=(Xj a).1
 cw:=(Xj a).2
 pa:=by
  have b:=(BM (cr:=c.jD) (bK:=c.first) a.BA);have d:=a.Ie;exact⟨pO a.uP,ig,⟨by simp only[nK,qd];omega,by simp only[nK,qd];omega⟩⟩
 ra0:=by
  have b:=(BM (cr:=c.jD) (bK:=c.first) a.BA);have d:=a.BA;simp only[nK,qd];omega
 ra1:=by simp only[nK,qd];omega
 gU:=yw
 dm:=ig
 Ho:=bY 0
 DK:=bY 0
 rO:=bY 0
 ni:=bY 0
theorem qO {k:Nat} {e:En} {now:Int} (h:dG k e) (a:Word now):dG k (nO e now):={h with now:=kX h.now a}
theorem CE {k:Nat} {e:En} {b:List Int} (h:dG k e) (hb:dP b):dG k (fU e b).en:=by
 unfold fU;split
 ·exact h
 ·exact{h with
  qu:=KA h.qu b
  qb:=λc a=>(WB.1 a).elim (h.qb c) λa=>hb c (bf a)}
theorem Lg {k:Nat} {e:En} (h:dG k e):dG k (kF e).en:=by
 unfold kF;split
 ·exact h
 ·exact{h with st0:=by simp only;split<;>decide,st1:=by simp only;split<;>decide}
theorem rZ {k:Nat} {e:En} (h:dG k e):Word (iI e):=by
 unfold iI;split
 ·exact h.rtt.bK
 ·exact⟨by have:=h.cf.KY;omega,by have:=h.cf.Xv;omega⟩
theorem uH {k:Nat} {e:En} (h:dG k e):dG k (jm e):=by
 have a:=BM (cr:=e.cc.win.cr) (bK:=iI e) h.cf.BA;have b:=h.cf.Ie;exact{h with
  pa:=PZ h.pa h.cf.uP h.now (by show 0<=xg _ _ _;omega)
  ra0:=by show e.c.WL<=min (xg _ _ _) 4294967296;omega
  ra1:=by show min (xg _ _ _) 4294967296<=4294967296;omega}
theorem uz {l:Le} {d e m:Int} (h:∀b∈l.kept,b.len<=m):∀b∈(gH l d e).kept,b.len<=m:=by
 unfold gH;split
 ·exact h
 ·split
  ·intro b a
   next i _ _=>
   rcases List.mem_or_eq_of_mem_set a with a|rfl
   ·exact h b a
   ·simp only
    by_cases c:i<l.kept.length
    ·rw[getD_at c];exact h _ (aN c)
    ·rw[List.set_eq_of_length_le oM]at a
     exact h _ a|>λh=>by simpa using h
  ·exact h
theorem rV (l:Le) (a b:Int):(gH l a b).ring=l.ring/\(gH l a b).dO=l.dO/\(gH l a b).next=l.next:=by
 unfold gH;split
 ·exact⟨rfl,rfl,rfl⟩
 ·split<;>exact⟨rfl,rfl,rfl⟩
theorem EE {l:Le} {d m:Int} (h:∀b∈l.kept,b.len<=m):∀b∈(lX l d).kept,b.len<=m:=by
 unfold lX;split
 ·exact h
 ·split
  ·exact h
  ·intro b a
   next i _ _=>
   rcases List.mem_or_eq_of_mem_set a with a|rfl
   ·exact h b a
   ·simp only
    by_cases c:i<l.kept.length
    ·rw[getD_at c];exact h _ (aN c)
    ·rw[List.set_eq_of_length_le oM]at a
     exact h _ a|>λh=>by simpa using h
theorem Ci (l:Le) (a:Int):(lX l a).ring=l.ring/\(lX l a).dO=l.dO/\(lX l a).next=l.next:=by
 unfold lX;split
 ·exact⟨rfl,rfl,rfl⟩
 ·split<;>exact⟨rfl,rfl,rfl⟩
theorem yK (q:Qu) (a n:Int):(kS q a n).room=q.room:=by
 unfold kS oJ;split
 ·rfl
 ·split<;>rfl
theorem Ef {q:Qu} {b n:Int} (h:dP q.b):dP (kS q b n).b:=by
 unfold kS oJ;split
 ·exact h
 ·split
  ·exact λc a=>h c (dW a)
  ·exact h
theorem Iw (q:Qu) (a n:Int):(pF q a n).room=q.room/\(pF q a n).b=q.b:=by
 unfold pF;split<;>exact⟨rfl,rfl⟩
theorem Iu (q:Qu) (a n:Int):(ng q a n).room=q.room/\(ng q a n).b=q.b:=by
 unfold ng;split<;>exact⟨rfl,rfl⟩
theorem Jf {l:Le} (h:gM l) (b:Int):0<=(mH l b).off/\Word (mH l b).off/\Word (mH l b).len:=by
 unfold mH;split
 ·exact⟨dC,⟨dC,dC⟩,⟨dC,dC⟩⟩
 ·next i hf=>
  have d:=(pM h hf).1;rw[getD_at d];have a:=h.ok _ (aN d);have c:=a.vz;have f:=a.off1;have e:=a.yQ;have g:=a.Dr;exact⟨c,⟨c,oM⟩,⟨e,oM⟩⟩
theorem wP {k:Nat} {e:En} (h:dG k e) (a:Int):dG k (jT e a):=by
 have c:=rV e.led a 3;have b:=Iw e.dH (mH e.led a).off (mH e.led a).len;exact{h with
  le:=vC h.le a 3 (.inr rfl)
  lr:=c.1.trans h.lr
  ll:=c.2.1.trans h.ll
  lm:=uz h.lm
  qu:=Ns h.qu _ _ (Jf h.le a).1
  qr:=b.1.trans h.qr
  qb:=by show dP (pF _ _ _).b;rw[b.2];exact h.qb}
theorem AB {k:Nat}:∀(b:List Int) (a:En),dG k a->dG k (b.foldl jT a)
 |[],a,h=>h
 |x::t,a,h=>AB t _ (wP h x)
theorem wK (dm now d:Int):∀(e:List Se) (b:List Int) (next:Int),(∀a∈e,LD a)->(∀a∈e,Word a.pn)->rG b->Word next->Word d->rG (om dm now d b next e).lost/\Word (om dm now d b next e).next/\(om dm now d b next e).lost.length<=b.length+e.length
 |[],b,next,_,_,hl,hn,_=>⟨hl,hn,av _⟩
 |a::t,b,next,hk,hp,hl,hn,hw=>by
  have g:∀a∈t,LD a:=λf c=>hk f (by simp[c]);have i:∀a∈t,Word a.pn:=λf c=>hp f (by simp[c]);unfold om;split
  ·have:=wK dm now d t b next g i hl hn hw
   exact⟨this.1,this.2.1,by have:=this.2.2;simp only[aY];omega⟩
  ·split
   ·have:=wK dm now d t (b++[a.pn]) next g i (λf c=>by
     rcases WB.1 c with c|c
     ·exact hl f c
     ·obtain rfl:f=_:=by simpa using c
      exact hp a sM) hn hw
    exact⟨this.1,this.2.1,by have:=this.2.2;simp only[aY,aU,List.length_nil]at this|-;omega⟩
   ·have:=wK dm now d t b (min next (WI a.sat d)) g i hl (qo hn (fB (hk a sM).sat hw)) hw
    exact⟨this.1,this.2.1,by have:=this.2.2;simp only[aY];omega⟩
theorem gM.pnw {l:Le} (h:gM l):∀a∈l.kept,Word a.pn:=λa b=>by
 have c:=h.mem b;have d:=h.KN;have e:=h.nI;have f:=h.mh;exact⟨oM,oM⟩
theorem Jz {l:Le} {dm now a:Int} (h:gM l) (c:Word a):rG (qE l dm now a).lost/\Word (qE l dm now a).next/\(qE l dm now a).lost.length<=l.kept.length:=by
 have:=wK dm now a l.kept [] 18446744073709551615 h.ok h.pnw (λe d=>by cases d) ⟨dC,dC⟩ c;exact⟨this.1,this.2.1,by have b:=this.2.2;simp only[List.length_nil,Nat.zero_add]at b;exact b⟩
theorem wY {b:Rt} {first a:Int} (h:RtOk b) (c:Word first) (d:Word a):Word (lJ b first a):=by
 unfold lJ;refine kX (gK ?_ ⟨dC,dC⟩ ⟨dC,dC⟩) d;split
 ·exact kX h.bK h.mJ
 ·exact c
theorem BD {d:Rt} {first c:Int} (h:RtOk d) (a:Word first) (b:Word c):Word (qP d first c):=by
 unfold qP;split
 ·exact fB h.bK (kX (kN ⟨dC,dC⟩ h.var) b)
 ·exact fB a (kX (kN ⟨dC,dC⟩ a) b)
theorem lV.Cx {c:Cf} (h:lV c):Word c.first:=⟨by have:=h.KY;omega,by have:=h.Xv;omega⟩
theorem lV.Gz {c:Cf} (h:lV c):Word c.jc:=⟨by have:=h.KW;omega,by have:=h.QG;omega⟩
theorem lV.capw {c:Cf} (h:lV c):Word c.cap:=⟨by have:=h.KW;have:=h.cap0;omega,by have:=h.cap1;omega⟩
theorem tC {k:Nat} {e:En} (h:dG k e):dG k (iB e).en/\Word (iB e).lost:=by
 have a:=Jz (dm:=e.dm) (now:=e.now) h.le (wY h.rtt h.cf.Cx h.cf.Gz);refine⟨AB _ _ {h with gU:=a.2.1},?_⟩;show Word ((qE e.led e.dm e.now (lJ e.rtt e.c.first e.c.jc)).lost.getLastD 0);generalize(qE e.led e.dm e.now (lJ e.rtt e.c.first e.c.jc)).lost=b at a;cases b with
 |nil=>exact⟨dC,dC⟩
 |cons x t=>exact a.1 _ (by rw[List.getLastD_cons];exact List.getLastD_mem_cons)
structure wX (w:World) (S:Nat->Prop) (p:Nat) (b:Bu):Prop where
 ex:∃a c,Blk w p 314 #[jI b.most,uI b.every,uI b.now,.slice a b.times.length c,jI b.granted]/\OwnAt w S 30 1 a b.times.length c (b.times.flatMap woV)
 mem:S p
section
variable {w w':World} {S S':Nat->Prop} {p:Nat} {b:Bu} {ts:List (Option TypeId)}
theorem wX.lt (h:wX w S p b):p<w.heap.size:=by obtain⟨a,c,h,_⟩:=h.ex;exact h.lt
theorem wX.keep (h:wX w S p b) (a:bQ S ts w w') (e:some 314∈ts) (f:some 30∈ts):wX w' S p b:=by
 obtain⟨c,d,g,i⟩:=h.ex;exact⟨⟨c,d,g.keep a h.mem e,i.keep a f⟩,h.mem⟩
theorem wX.below (h:wX w S p b) (hb:bW w w'):wX w' S p b:=h.keep (ts:=[some 314,some 30]) (bQ.below hb) sM sM
theorem wX.mono (h:wX w S p b) (a:∀c,S c->S' c):wX w S' p b:=by
 obtain⟨d,e,f,g⟩:=h.ex;exact⟨⟨d,e,f,g.mono a⟩,a _ h.mem⟩
end
theorem Rl (c a:Int) (w:World):
  Calls Tryz.prog 106 #[jI c,uI a] w λg w'=>∃p,g=.returned ((pT p))/\w.heap.size<=p/\wX w' (λf=>w.heap.size<=f/\f<w'.heap.size) p (xD c a)/\bW w w':=by
 obtain⟨i,d⟩:=eX (max 0 (min c 64));(have e:xD c a=⟨i,a,0,[],0⟩:=by rw[d];rfl);rw[e];clear e;go_enter Tryz.func106,Tryz.ntmps106;go_wp2_with fail;go_ret;rw[<-d];exact⟨w.heap.size,rfl,av _,⟨⟨none,0,Wx _ _ _,OwnAt.WH⟩,⟨av _,sM⟩⟩,BEL⟩
theorem Rp (k:Nat) (c:k<=1000000000) (S:Nat->Prop) (p:Nat) (b:Bu) (t:Int) (w:World) (h:wX w S p b) (hb:Kb k b) (j1:Word t):
  Calls Tryz.prog 113 #[pT p,uI t] w λN w'=>N=.returned (bV (qy b t))/\wX w' (grow S w w') p (uU b t)/\Mod S [some 314,some 30] w w':=by
 have J:=h.mem;obtain⟨b7,e0,G,e2⟩:=h.ex;have i8:=G.lt;have g2:=G.Wu 2;have g3:=G.Wu 3;have i3:=G.frozen 2;have f9:=zH hb.times;have i7:=hb.len;have j5:=hb.gr0;have j6:=hb.gr1;have k1:=hb.every;have f2:Word (max b.now t):=kX hb.now j1;have Z:=zH G;have n:=zH e2;obtain⟨d,X⟩:=eX (max b.now t);have k4:max b.now t=d:=X.symm;rw[<-X]at f2;obtain⟨E,O⟩:=eX (b.times.filter (CZ b.every d));(have f4:qy b t= !decide (b.most<=(E.length:Int)):=by unfold qy uY;rw[<-X,<-O]);(have f5:uU b t=if qy b t then{b with now:=d,times:=E++[d],granted:=b.granted+1}else{b with now:=d,times:=E}:=by unfold uU uY;rw[<-X,<-O]);obtain⟨j4,a4⟩:=eX (uU b t);obtain⟨l6,W⟩:=eX (qy b t);rw[<-a4,<-W];rw[f5,<-W]at a4;rw[f4]at W;have d1:=zH a4;have c7:=zH W;have c5:=zH O;(have j8:E.length<=64:=by rw[O];exact ay (List.length_filter_le _ _) i7);clear f4 f5 X O a4 W h hb G e2;obtain⟨D,s,l4,l,y⟩:=b;simp only at*
 go_enter Tryz.func113,Tryz.ntmps113;go_wp2_with fail;obtain⟨o,Q⟩:=eX (w.setCell ⟨p,2,none⟩ (uI d));rw[<-Q];(have c2:Blk o p 314 #[jI D,uI s,uI d,.slice b7 l.length e0,jI y]:=by rw[Q];exact Z.out.bF 2 (uI d));(have e3:Mod S [some 314,some 30] w o:=by rw[Q];exact(aV S _ w).setCell Z.out (λ_=>J) sM 2 _);(have e8:OwnAt o S 30 1 b7 l.length e0 (l.flatMap woV):=by rw[Q];exact n.out.far (n.out.pI Z.out dC));have c8:=zH c2;have b0:=zH e3;have f8:=zH (show Wos o S b7 l from e8.row);have i9:=c2.lt;clear Q c2 e3 e8 g2 g3 i3 Z n i8;go_loopw [24,5,7,26,27] (λc4 j2 l9 l7 l8 wr=>∃(j:Nat) (a:List Int) (f:Option Addr) (g:Nat),j<=l.length/\c4=jI j/\j2=.slice f a.length g/\a.length<=j/\
  Hid (OwnAt wr (λk=>o.heap.size<=k/\k<wr.heap.size) 30 1 f a.length g (a.flatMap woV))/\Hid (a++(l.drop j).filter (CZ s d)=E)/\Hid (bW o wr)) (λc4 _ _ _ _ _=>l.length -(intOf c4).toNat)
 (case atStart=>exact⟨0,[],none,0,oM,rfl,rfl,av _,OwnAt.WH,c5.out.symm,aj _ _⟩);case round=>
  obtain⟨j,a,f,g,k3,rfl,rfl,j9,n,d0,z⟩:=hrel;clear c5;have l0:=z.out.size;have P:=c8.out.below z.out i9;obtain⟨d2,d5,g0,d6,g1,d7,d3,d8,d4,d9⟩:=P.c5;have k8:=P.lt;by_cases c1:j<l.length
  ·clear P d2 d3 d4 d5 d6 d7 d8 d9
   obtain⟨b,l5,rfl,k0,l3⟩:=f8.out.at_ z.out c1;have m:=d0.out;rw[aR c1,List.filter_cons]at m;have c3:=f9.out _ (aN c1);generalize l[j]=K at*
   have a3:=zH (sI d K f2 c3);cases r:CZ s d K with
   |true=>
    rw[r,aB rfl]at m;have a9:Hid ((a++[K])++(l.drop (j+1)).filter (CZ s d)=E):=zH (by simpa using m);have M:decide (WU d K<s)=true:=r;clear m r c3;go_wp2_with fail;refine bN kR kR ?_;(repeat (first|go_big_quiet_step ((go_at_call 122;exact aJ ((a3.out _).mono λN w' h=>⟨h.1,h.2.symm⟩)))|quiet_step ((go_at_call 122;exact aJ ((a3.out _).mono λN w' h=>⟨h.1,h.2.symm⟩)))));refine aK ?_;rintro _ ⟨nq,rfl⟩;have f3:OwnAt (wr.drewN nq) (λk=>o.heap.size<=k/\k<wr.heap.size) 30 1 f a.length g (a.flatMap woV):=n.out.below (by have hb:=aj wr.heap.size wr;exact BEL);have a0:=zH f3;clear f3;go_wp2_with (at_builtin;refine qH.jO rfl (.tmp 39) (.tmp 41) rfl f g a (by simp[Act.eval]) (a0.out.below (by have hb:=aj (wr.drewN nq).heap.size (wr.drewN nq);exact BEL)) (some ⟨wr.heap.size,0,none⟩) 1 [K] (by rfl) (Xg (Wx (wr.drewN nq) _ _)) sO dC ?_;intro v x Y V C c0;have L:=zH V;have f1:=(show bW o _ from(by have hb:=z.out;exact BEL)).trans (C.cZ (B:=o.heap.size) sO (λk c h=>by have:=h.1;omega));have f6:=zH f1;have i5:=C.size;simp at i5;clear V C c0 f1);go_roundw;(case rel=>exact⟨j+1,_,v,x,oM,by go_num,sM,by simp;omega,zH (L.out.mono (λk c=>by rcases c with c|c;exact⟨c.1,oM⟩;exact⟨by have:=c.1;simp at this;omega,c.2⟩)),a9,f6⟩);case measure=>simp[intOf];omega
   |false=>
    rw[r,Ww sM]at m;have a9:=zH m;have M:decide (WU d K<s)=false:=r;clear m r c3;go_wp2_with fail;refine bN kR kR ?_;(repeat (first|go_big_quiet_step ((go_at_call 122;exact aJ ((a3.out _).mono λN w' h=>⟨h.1,h.2.symm⟩)))|quiet_step ((go_at_call 122;exact aJ ((a3.out _).mono λN w' h=>⟨h.1,h.2.symm⟩)))));refine aK ?_;rintro _ ⟨nq,rfl⟩;go_wp2_with fail;go_roundw;(case rel=>exact⟨j+1,a,f,g,oM,by go_num,rfl,oM,zH ((n.out.below (by have hb:=aj wr.heap.size wr;exact BEL)).mono (λk c=>⟨c.1,by simp;omega⟩)),a9,zH (by have hb:=z.out;exact BEL)⟩);case measure=>simp[intOf];omega
  ·obtain rfl:j=l.length:=oM
   have m:=d0.out;rw[List.drop_length,List.filter_nil,List.append_nil]at m;subst m;have a2:=zH P;clear P;go_wp2_with fail;obtain⟨e,H⟩:=eX (wr.setCell ⟨p,3,none⟩ (.slice f a.length g));rw[<-H];(have a5:Blk e p 314 #[jI D,uI s,uI d,.slice f a.length g,jI y]:=by rw[H];exact a2.out.bF 3 (.slice f a.length g));(have j0:e.heap.size=wr.heap.size:=by rw[H];simp[World.setCell]);have e7:Mod S [some 314,some 30] w wr:=Mod.then b0.out (aH (S:=S) z.out) (λ_ _ h=>h);(have e4:Mod S [some 314,some 30] w e:=by rw[H];exact e7.setCell a2.out (λ_=>J) sM 3 _);have e9:OwnAt e (grow S w e) 30 1 f a.length g (a.flatMap woV):=by
    have h:=n.out.far (q:=p) (i:=3) (u:=.slice f a.length g) (n.out.pI a2.out dC);rw[<-H]at h;exact h.mono λk c=>.inr ⟨ay b0.out.size c.1,by rw[j0];exact c.2⟩
   obtain⟨g4,g9,g5,h0,g6,h1,g7,h2,g8,h3⟩:=a5.c5;have k5:=a5.lt;have b5:=zH a5;have b1:=zH e4;have b4:=zH e9;clear H a5 e4 e9 e7 a2 n z b0 c8 d2 g0 g1 d3 d4 d5 d6 d7 d8 d9;by_cases r:D<=(a.length:Int)
   ·have M:decide (D<=(a.length:Int))=true:=by simpa using r
    refine mQ ?_;rintro _ ⟨nq,rfl⟩;go_wp2_with fail;go_ret;have U:=c7.out;rw[M]at U;subst U;rw[d1.out,Ww sM];refine⟨rfl,?_,?_⟩
    ·exact⟨⟨f,g,b5.out.drewN _,(b4.out.below (by have hb:=aj e.heap.size e;exact BEL)).mono (λk c=>c)⟩,.inl J⟩
    ·exact b1.out.drewN _
   ·have M:decide (D<=(a.length:Int))=false:=by simpa using r
    refine mQ ?_;rintro _ ⟨nq,rfl⟩;have b8:OwnAt (e.drewN nq) (grow S w e) 30 1 f a.length g (a.flatMap woV):=b4.out.below (by have hb:=aj e.heap.size e;exact BEL);obtain⟨A,R⟩:=eX (e.drewN nq);rw[<-R]at b8|-;(have a6:Blk A p 314 #[jI D,uI s,uI d,.slice f a.length g,jI y]:=by rw[R];exact b5.out.drewN _);(have e5:Mod S [some 314,some 30] w A:=by rw[R];exact b1.out.drewN _);(have l1:A.heap.size=e.heap.size:=by rw[R];rfl);obtain⟨h4,h8,h5,h9,h6,i0,e1,i1,h7,i2⟩:=a6.c5;have k6:=a6.lt;have c9:=zH a6;have b2:=zH e5;have a0:=zH b8;clear R a6 e5 b8 b5 b1 b4 g4 g5 g6 g7 g8 g9 h0 h1 h2 h3;have k2:y+1<9223372036854775808:=oM;go_wp2_with fail;go_region_law (refine qH.Br rfl (.tmp 62) (.tmp 67) rfl f g a (by simp[Act.eval]) (a0.out.below (BEL)) (some ⟨A.heap.size,0,none⟩) 1 [d] (by simp[Act.eval]) (Xg (Wx _ _ _)) sO dC ?_;intro v x Y V C c0;have a8:=Blk.mod (by have h:=c9.out;first|exact h.alloc _|exact(h.drew.alloc _)|exact((h.drewN _).alloc _)) C dC;have e1:=a8.cell 3;have j3:=a8.frozen 3;have a1:=zH a8;have L:=zH V;have b3:=zH C;clear a8 V C c0);all_goals (
     obtain⟨F,I⟩:=eX (Y.setCell ⟨p,3,none⟩ (.slice v (a.length+1) x));rw[<-I];(have a7:Blk F p 314 #[jI D,uI s,uI d,.slice v (a.length+1) x,jI y]:=by rw[I];exact a1.out.bF 3 (.slice v (a.length+1) x));(have l2:F.heap.size=Y.heap.size:=by rw[I];simp[World.setCell]);have b9:=L.out.far (q:=p) (i:=3) (u:=.slice v (a.length+1) x) (L.out.pI a1.out dC);rw[<-I]at b9;have e6:Mod S [some 314,some 30] w F:=by
      rw[I];refine Mod.setCell (Mod.then (S':=grow S w e) b2.out (Mod.mono (T:=[some 30]) ?_ (λ_ _ h=>h) sM:Mod (grow S w e) [some 314,some 30] A Y) (λk c i6=>i6.elim id λh=>by have:=h.1;omega)) a1.out (λ_=>J) sM 3 _;exact Mod.then (S':=grow S w e) (by have:=aV (grow S w e) [some 30] A;first|exact this.alloc _|exact(this.alloc _).drew|exact(this.drew).alloc _|exact(this.drewN _).alloc _) b3.out (λ_ _ h=>h)
     have i4:=b3.out.size;have k9:=b2.out.size;have f0:OwnAt F (grow S w F) 30 1 v (a++[d]).length x ((a++[d]).flatMap woV):=by
      refine b9.mono λk c=>?_;(have j7:A.heap.size<=Y.heap.size:=by first|(simp at i4;omega)|omega);rcases c with(c|c)|c
      ·exact .inl c
      ·exact .inr ⟨c.1,by have:=c.2;omega⟩
      ·exact .inr ⟨by have:=c.1;first|(simp at this;omega)|omega,by have:=c.2;omega⟩
     obtain⟨m0,m5,m1,m6,m2,m7,m3,m8,m4,m9⟩:=a7.c5;have k7:=a7.lt;have b6:=zH a7;have c6:=zH f0;have f7:=zH e6;clear I a7 b9 f0 e6 a1 L b3 a0 b2 c9 h4 h5 h6 e1 h7 h8 h9 i0 i1 i2 j3;go_wp2_with fail;go_ret;have U:=c7.out;rw[M]at U;subst U;rw[d1.out,aB (by rfl)];refine⟨rfl,⟨⟨v,x,?_,?_⟩,.inl J⟩,?_⟩
     ·have:=b6.out.bF 4 (jI (y+1))
      simpa using this
     ·have:=(c6.out.far (q:=p) (i:=4) (u:=jI (y+1)) (c6.out.pI b6.out dC)).mono (S':=grow S w (F.setCell ⟨p,4,none⟩ (jI (y+1)))) (λk c=>c.elim .inl λh=>.inr ⟨h.1,by simp;exact h.2⟩)
      exact this
     ·exact f7.out.setCell b6.out (λ_=>J) sM 4 _)
theorem Jb (a:Ak) (s:Se) (t:List Se):xQ a (s::t)=if s.aS≠4/\s.used=false/\s.bX=a.dw/\oQ a.cu s.pn=true then some s.pn else xQ a t:=rfl
theorem IY {a:Ak} (h:qA a=true):1<=a.cu.length/\a.cu.length<=32/\a.aO.length<=32:=by
 simp only[qA,Bool.and_eq_true,decide_eq_true_eq]at h;exact⟨h.1.1.1.1,h.1.1.1.2,h.1.1.2⟩
def lookO (o:Option Int):Rlo:=match o with|some p=>⟨p,0⟩|none=>⟨0,3⟩
theorem Ql {l:Le} {k:Ak} (a:qA k=true) (b:¬(k.cu.getD 0 ⟨0,0⟩).lo<gT l):jW l k=lookO (xQ k l.kept):=by
 unfold jW;rw[a,Ww sM,Ww b];rfl
theorem Ch (S X:Nat->Prop) (p:Nat) (l:Le) (a1:Option Addr) (c1:Nat) (a2:Option Addr) (c2:Nat) (k:Ak) (w:World) (h:iJ w S p l) (r:gM l) (y:nu w X a1 c1 a2 c2 k):
  Calls Tryz.prog 112 #[pT p,.agg #[.slice a1 k.cu.length c1,.slice a2 k.aO.length c2,uI k.dw,uI k.xor,bV k.kZ]] w λx e=>
   x=.returned (.tuple #[uI (jW l k).val,jI (jW l k).why])/\bW w e:=by
 have t:=zH (λe (a:bW w e)=>wU X a1 c1 a2 c2 k e (y.below a));have H:=zH (λe (a:bW w e)=>qY S p l e (h.below a) r);have V:=zH (λe (a:bW w e)=>sU S p l e (h.below a) r);(have h8:l.kept.length<=1000:=by have:=r.len;have:=r.lW;omega);have u:=zH y.cu;have M:=zH y.sok;have c6:=y.scap;cases hm:qA k with
 |false=>
  (have I:jW l k=⟨0,1⟩:=by unfold jW;rw[hm];rfl);rw[I];rw[hm]at t;clear I hm h r y H V u M;obtain⟨g,v,o,B,A⟩:=k;simp only at*
  go_enter Tryz.func112,Tryz.ntmps112;go_wp2_with fail;refine(t.out _ (BEL)).mono ?_;rintro x m ⟨rfl,a⟩;have c:bW w m:=pY a;have d:Blk m (w.heap.size) 92 #[.slice a1 g.length c1,.slice a2 v.length c2,uI o,uI B,bV A]:=iK a;obtain⟨a8,b3,a9,b4,b0,b5,b1,b6,b2,b7⟩:=d.c5;have c8:w.heap.size<m.heap.size:=d.lt;have N:=zH d;clear d;have f:=zH c;clear a c;go_wp2_with fail;go_ret2;exact⟨rfl,f.out⟩
 |true=>
  rw[hm]at t;obtain⟨c9,d0,d1⟩:=IY hm;have C:0<k.cu.length:=oM;have Q:=u.out;(have P:k.cu.getD 0 ⟨0,0⟩=k.cu[0]:=by rw[aW,aL oM];rfl);by_cases s:(k.cu.getD 0 ⟨0,0⟩).lo<gT l
  ·have I:jW l k=⟨0,2⟩:=by unfold jW;rw[hm,Ww sM,aB s]
   rw[I];rw[P]at s;clear I hm h r y V M Q P;obtain⟨g,v,o,B,A⟩:=k;simp only at c9 d0 d1 C s c6 t u|-;go_enter Tryz.func112,Tryz.ntmps112;go_wp2_with fail;refine(t.out _ (BEL)).mono ?_;rintro x m ⟨rfl,a⟩;have c:bW w m:=pY a;have d:Blk m (w.heap.size) 92 #[.slice a1 g.length c1,.slice a2 v.length c2,uI o,uI B,bV A]:=iK a;obtain⟨a8,b3,a9,b4,b0,b5,b1,b6,b2,b7⟩:=d.c5;have c8:w.heap.size<m.heap.size:=d.lt;have N:=zH d;clear d;have f:=zH c;clear a c;obtain⟨c4,d2,rfl,c,D,E⟩:=Sps.at_ u.out f.out (j:=0) C;simp only[Nat.zero_mul,Nat.add_zero]at D E;(have e2:decide (g[0].lo<gT l)=true:=by simpa using s);have Q:(0:Int)<(g.length:Int):=Int.ofNat_lt.2 C;go_wp2_with fail;refine bN kR kR ?_;(repeat (first|go_big_quiet_step (((go_at_call 70;exact dn (H.out _ (aA f.out _)))))|quiet_step (((go_at_call 70;exact dn (H.out _ (aA f.out _)))))));refine aK ?_;rintro _ ⟨nq,rfl⟩;go_wp2_with fail;go_ret2;exact⟨rfl,by have a:=f.out;exact BEL⟩
  ·rw[Ql hm s]
   rw[P]at s;obtain⟨c3,a5⟩:=eX (xQ k l.kept);rw[<-a5];have W:=zH a5;have d7:=zH r.pnw_;clear a5 hm h r y Q P;generalize l.kept=F at*
   have a4:=zH (λ(g1:Int) e (a:bW w e)=>yZ X a1 c1 k.cu g1 e (aD u.out a) oM M.out);obtain⟨g,v,o,B,A⟩:=k;simp only at c9 d0 d1 C s c6 t u W M a4|-;go_enter Tryz.func112,Tryz.ntmps112;go_wp2_with fail;refine(t.out _ (BEL)).mono ?_;rintro x m ⟨rfl,a⟩;have c:bW w m:=pY a;have d:Blk m (w.heap.size) 92 #[.slice a1 g.length c1,.slice a2 v.length c2,uI o,uI B,bV A]:=iK a;obtain⟨a8,b3,a9,b4,b0,b5,b1,b6,b2,b7⟩:=d.c5;have c8:w.heap.size<m.heap.size:=d.lt;have N:=zH d;clear d;have f:=zH c;clear a c;obtain⟨c4,d2,rfl,c,D,E⟩:=Sps.at_ u.out f.out (j:=0) C;simp only[Nat.zero_mul,Nat.add_zero]at D E;(have e2:decide (g[0].lo<gT l)=false:=by simpa using s);have Q:(0:Int)<(g.length:Int):=Int.ofNat_lt.2 C;go_wp2_with fail;refine bN kR kR ?_;(repeat (first|go_big_quiet_step (((go_at_call 70;exact dn (H.out _ (aA f.out _)))))|quiet_step (((go_at_call 70;exact dn (H.out _ (aA f.out _)))))));refine aK ?_;rintro _ ⟨nq,rfl⟩;go_wp2_with fail;refine(V.out _ (by have a:=f.out;exact BEL)).mono ?_;rintro x K ⟨h0,h2,rfl,h6,c7,a6⟩;have d8:=zH c7;have d:=N.out;have e0:=f.out;have c:bW w K:=pY a6;have T:Blk K (w.heap.size) 92 #[.slice (some ⟨c4,d2,none⟩) g.length c1,.slice a2 v.length c2,uI o,uI B,bV A]:=iK a6;obtain⟨e3,e8,e4,e9,e5,f0,e6,f1,e7,f2⟩:=T.c5;have f3:w.heap.size<K.heap.size:=T.lt;have d9:=zH T;clear T;have b9:=zH c;clear a6 c;clear c7 e0 d N a8 a9 b0 b1 b2 b3 b4 b5 b6 b7 D E e3 e4 e5 e6 e7 e8 e9 f0 f1 f2;go_wp2_with fail;go_loopw [26,7,28,29] (λb8 l1 k9 l0 wr=>∃(i:Nat),i<=F.length/\b8=jI i/\Hid (xQ ⟨g,v,o,B,A⟩ (F.drop i)=c3)/\Hid (bW K wr)) (λb8 _ _ _ _=>F.length -(intOf b8).toNat);(case atStart=>exact⟨0,oM,rfl,W.out.symm,aj _ _⟩);case round=>
    obtain⟨i,h7,rfl,c0,q⟩:=hrel;clear W;have j6:=q.out.size;have c5:=b9.out.trans (q.out.mono b9.out.size);have L:=zH c5;have O:=d9.out.below q.out f3;obtain⟨j9,k4,k0,k5,k1,k6,k2,k7,k3,k8⟩:=O.c5;have g8:=zH O;have j7:=O.lt;clear O c5;by_cases a7:i<F.length
    ·obtain⟨h1,j8,rfl,h5,D,E,f4,f5,f6,f7,f8,f9⟩:=d8.out.at_ q.out a7
     have b:=c0.out;rw[aR a7,Jb]at b;have e1:=d7.out _ (aN a7);generalize F[i]=g3 at*
     obtain⟨U,g5,g0,Z,g4,g2,g6,Y⟩:=g3;simp only at D E f4 f5 f6 f7 f8 f9 b e1;by_cases a0:Y=4
     ·subst a0
      rw[Ww (λh=>h.1 rfl)]at b;have n:=zH b;clear b;go_wp2_with fail;go_roundw;(case rel=>exact⟨i+1,oM,by go_num,n,zH (by have a:=q.out;exact BEL)⟩);case measure=>simp[intOf];omega
     (have h3:(Y !=4)=true:=by simp[a0]);cases g6 with
     |true=>
      rw[Ww (λh=>by cases h.2.1)]at b;have n:=zH b;clear b;go_wp2_with fail;go_roundw;(case rel=>exact⟨i+1,oM,by go_num,n,zH (by have a:=q.out;exact BEL)⟩);case measure=>simp[intOf];omega
     |false=>
      by_cases a3:Z=o
      ·subst a3
       cases d4:oQ g U with
       |false=>
        rw[Ww (λh=>by rw[d4]at h;cases h.2.2.2)]at b;have n:=zH b;have G:=zH (a4.out U);rw[d4]at G;clear b;go_wp2_with fail;refine(G.out _ (by have a:=L.out;exact BEL)).mono ?_;rintro x J ⟨rfl,z⟩;have d3:=zH z;clear z;go_wp2_with fail;go_roundw;(case rel=>exact⟨i+1,oM,by go_num,n,zH (bD (show bW K _ from by have a:=q.out;exact BEL) (d3.out.mono sO))⟩);case measure=>simp[intOf];omega
       |true=>
        rw[aB ⟨a0,rfl,rfl,d4⟩]at b;have n:=zH b;have G:=zH (a4.out U);rw[d4]at G;clear b;go_wp2_with fail;refine(G.out _ (by have a:=L.out;exact BEL)).mono ?_;rintro x J ⟨rfl,z⟩;have d5:=zH (show bW w J from bD (by have a:=L.out;exact BEL) (z.mono sO));have c:bW wr J:=pY z;have R:Blk J (wr.heap.size) 177 #[uI U,uI g5,uI g0,uI Z,uI g4,bV g2,bV false,jI Y]:=iK z;obtain⟨h9,i7,i0,i8,i1,i9,i2,j0,i3,j1,i4,j2,i5,j3,i6,j4⟩:=R.c8;have j5:wr.heap.size<J.heap.size:=R.lt;have g9:=zH R;clear R;have g7:=zH c;clear z c;go_wp2_with fail;go_ret2;rw[<-n.out];exact⟨rfl,d5.out⟩
      ·have h4:(Z==o)=false:=by simp[a3]
       rw[Ww (λh=>a3 h.2.2.1)]at b;have n:=zH b;clear b;go_wp2_with fail;go_roundw;(case rel=>exact⟨i+1,oM,by go_num,n,zH (by have a:=q.out;exact BEL)⟩);case measure=>simp[intOf];omega
    ·obtain rfl:i=F.length:=oM
     have b:=c0.out;rw[List.drop_length]at b;have d6:Hid (c3=none):=zH b.symm;clear b;go_wp2_with fail;go_ret2;rw[d6.out];exact⟨rfl,L.out⟩
end Go.Proofs.YtiflndepmgnojaaGreat
