import Derived.Deep.LoopGhost
import Derived.Deep.CutBlock
import Derived.Test.YtiflndepmgnojaaGreatLa3
namespace Go.Proofs.YtiflndepmgnojaaGreat
open Go.RowKit Tryz
set_option linter.unusedSimpArgs false
set_option linter.unusedVariables false
set_option maxHeartbeats 4000000
set_option maxRecDepth 100000
variable {k b:Nat} {x y:Int} {H:List Se} {l:List Int} {t:TypeId} {w w':World}
theorem ig:Word 0:=⟨dC,dC⟩
theorem yw:Word 18446744073709551615:=⟨dC,dC⟩
theorem getD_at {a:Type} {l:List a} {i:Nat} {d:a} (h:i<l.length):l.getD i d=l[i]:=by rw[aW,aL h];rfl
theorem Ed {x:Wi} {a m:Int} (h:oz x) (b:Word a) (c:Word m):oz (qz x a m):=
 ⟨fB h.cr (qo b (kN sF c)),h.dL,h.acc,h.jF,h.gX,h.k,h.fair⟩
theorem Nn {x:Wi} {a m:Int} (h:oz x) (b:Word a) (c:Word m):oz (lK x a m):=by
 have d:=fB h.acc b;unfold lK;split
 .exact Ed h b c
 .split
  .exact⟨fB h.cr c,h.dL,⟨by simp only;omega,by have:=d.2;have:=h.cr.1;simp only;omega⟩,h.jF,h.gX,h.k,h.fair⟩
  .exact⟨h.cr,h.dL,d,h.jF,h.gX,h.k,h.fair⟩
theorem Oq {x:Wi} {a m now bK:Int} (h:oz x) (b:Word a) (d:Word m) (e:Word now) (f:Word bK):oz (xZ x a m now bK):=by
 unfold xZ;split
 .exact h
 .obtain⟨g,i⟩:=CR h d e f
  have c:=fB h.fair (AF h d b);exact⟨kX (fB h.cr (gK ⟨oM,by have:=g.2;have:=h.cr.1;omega⟩ b h.cr)) c,h.dL,h.acc,h.jF,h.gX,h.k,c⟩
theorem Ot {x:Wi} {a m now bK:Int} (h:oz x) (b:Word a) (c:Word m) (d:Word now) (e:Word bK):oz (mM x a m now bK):=by
 unfold mM;split
 .exact Ed h b c
 .exact Oq (CQ h d) b c d e
theorem Oz {x lo a:Int} (h:lo<=a):lo<=rF x lo a/\rF x lo a<=a:=by
 unfold rF;split
 .omega
 .split<;>omega
def Dx (c:Cf) (s:Cc):Prop:=c.bn<=s.win.cr/\s.win.cr<=c.most
theorem lV.lm {c:Cf} (h:lV c):c.bn<=c.most:=by have:=h.Mg;have:=h.Mf;omega
theorem lV.Gr {c:Cf} (h:lV c):2<=c.bn/\c.bn<=1073741824:=by have:=h.Mg;have:=h.Mf;have:=h.most;have:=h.zM;have:=h.Gj;omega
theorem Mh {c:Cf} {x:Wi} (a:lV c) (h:oz x):oz (held c x)/\c.bn<=(held c x).cr/\(held c x).cr<=c.most:=by
 have b:=Oz (x:=x.cr) a.lm;have d:=a.Gr;have e:=a.most;exact⟨⟨⟨by simp only[held];omega,by simp only[held];omega⟩,h.dL,h.acc,h.jF,h.gX,h.k,h.fair⟩,b.1,b.2⟩
theorem lV.mssw {c:Cf} (h:lV c):Word c.mss:=⟨by have:=h.Gj;omega,by have:=h.Ca;omega⟩
theorem Q9 {c:Cf} {s:Cc} {a now bK:Int} (b:lV c) (h:Xf s) (e:Word a) (g:Word now) (i:Word bK):Xf (vQ c s a now bK)/\Dx c (vQ c s a now bK):=by
 have f:oz (if c.pX=2 then mM s.win a c.mss now bK else lK s.win a c.mss):=by
  split
  .exact Ot h.win e b.mssw g i
  .exact Nn h.win e b.mssw
 have d:=Mh b f;exact⟨⟨d.1,h.qx,h.mX⟩,d.2⟩
theorem PG {x:Wi} {n d:Int} (h:oz x) (b:Word n) (a:Word d):oz (sJ x n d):=
 ⟨gK h.cr b a,gK h.cr b a,ig,h.jF,h.gX,h.k,h.fair⟩
theorem QV {x:Wi} {n d:Int} (h:oz x) (b:Word n) (a:Word d):oz (rD x n d):=
 ⟨gK h.cr b a,gK h.cr b a,ig,by unfold rD;simp only;split;exact gK h.cr ⟨dC,dC⟩ ⟨dC,dC⟩;exact h.cr,yw,ig,ig⟩
theorem Ms {c:Cf} {x:Wi} {n d cn cd:Int} (b:lV c) (h:oz x) (e:Word n) (f:Word d) (g:Word cn) (i:Word cd):oz (vM c x n d cn cd)/\c.bn<=(vM c x n d cn cd).cr/\(vM c x n d cn cd).cr<=c.most:=by
 have j:oz (if c.pX=2 then rD x cn cd else sJ x n d):=by
  split
  .exact QV h g i
  .exact PG h e f
 have a:=Mh b j;have k:=b.Gr;exact⟨⟨a.1.cr,kX a.1.dL ⟨oM,oM⟩,a.1.acc,a.1.jF,a.1.gX,a.1.k,a.1.fair⟩,a.2⟩
theorem EJ (h:Word x):Word (Gx x):=by
 obtain⟨a,b⟩:=h;unfold Gx;split<;>exact⟨oM,oM⟩
theorem La {p n:Int} (b:Word p) (a:Word n):Word (Az p n):=by
 unfold Az;split
 .exact EJ b
 .exact a
theorem CV {c:Cf} {s:Cc} {a next n d cn cd:Int} (j:lV c) (h:Xf s) (m:Dx c s) (k:Word a) (o:Word next) (e:Word n) (f:Word d) (g:Word cn) (i:Word cd):Xf (oV c s a next n d cn cd)/\Dx c (oV c s a next n d cn cd):=by
 unfold oV;split
 .next c=>
  have b:=Ms j h.win e f g i;(have l:oH s.round a next=⟨Az a next,Gx s.round.mX⟩:=by unfold oH;rw[aB c]);rw[l];exact⟨⟨b.1,La k o,EJ h.mX⟩,b.2⟩
 .exact⟨h,m⟩
theorem OD {c:Cf} {s:Cc} {a next:Int} (b:lV c) (h:Xf s) (e:Dx c s) (d:Word a) (f:Word next):Xf (uN c s a next)/\Dx c (uN c s a next):=
 CV b h e d f ⟨dC,dC⟩ ⟨dC,dC⟩ ⟨dC,dC⟩ ⟨dC,dC⟩
theorem OC {c:Cf} {s:Cc} {a next:Int} (b:lV c) (h:Xf s) (e:Dx c s) (d:Word a) (f:Word next):Xf (yg c s a next)/\Dx c (yg c s a next):=
 CV b h e d f ⟨dC,dC⟩ ⟨dC,dC⟩ ⟨dC,dC⟩ ⟨dC,dC⟩
theorem xC {c:Cf} {s:Cc} (b:lV c) (h:Xf s):Xf (kz c s)/\Dx c (kz c s):=by
 have a:=Ms (n:=1) (d:=2) (cn:=7) (cd:=10) b h.win ⟨dC,dC⟩ ⟨dC,dC⟩ ⟨dC,dC⟩ ⟨dC,dC⟩;have e:=b.Gr;exact⟨⟨⟨⟨by simp only[kz];omega,by simp only[kz];omega⟩,a.1.dL,a.1.acc,a.1.jF,a.1.gX,a.1.k,a.1.fair⟩,h.qx,h.mX⟩,⟨bY _,b.lm⟩⟩
theorem Xj {c:Cf} (a:lV c):Xf (mF c)/\Dx c (mF c):=by
 obtain⟨f,b,d,e⟩:=Hl a.Gr a.Mg a.Mf a.most;exact⟨⟨⟨⟨by simp only[mF];omega,by simp only[mF];omega⟩,yw,ig,ig,yw,ig,ig⟩,ig,ig⟩,⟨b,d⟩⟩
structure RtOk (r:Rt):Prop where
 mJ:Word r.mJ
 bK:Word r.bK
 var:Word r.var
 bn:Word r.bn
theorem Ad {b:Rt} (h:RtOk b) (a:Word x):RtOk (mY b x):=by
 unfold mY;split
 .exact⟨a,Aj dC h.bK a,Aj dC h.var (uK h.bK a),qo h.bn a⟩
 .exact⟨a,a,⟨by have:=a.1;simp only;omega,by have:=a.2;simp only;omega⟩,a⟩
structure PrOk (p:Pr):Prop where
 c0:0<=p.count
 c1:p.count<=60
 since:Word p.since
theorem BP (p:Pr) {now:Int} (a:Word now):PrOk (jR p now):=⟨by simp only[jR];omega,by simp only[jR];omega,a⟩
theorem Ej {now:Int} (a:Word now):PrOk (KD now):=⟨bY 0,(by decide:(0:Int)<=60),a⟩
theorem Nv {p:Pr} {now:Int} (h:PrOk p) (a:Word now):PrOk (xN p now):=⟨h.c0,h.c1,a⟩
structure LG (p:Pa):Prop where
 fC:Word p.fC
 pat:Word p.pat
 gP:Word p.gP
theorem Eu {p:Pa} {a now:Int} (h:LG p) (hb:Word a) (b:Word now):LG (lM p a now):=
 ⟨qo (fB h.fC (kN h.gP (nC b h.pat))) (pO hb),kX h.pat b,h.gP⟩
theorem BM {cr bK a:Int} (h:a<=4294967296):a<=xg cr bK a/\xg cr bK a<=4294967296:=by unfold xg;omega
theorem PZ {p:Pa} {a now b:Int} (h:LG p) (hb:Word a) (d:Word now) (e:0<=b):LG (xq p a now b):=by
 have c:=Eu h hb d;exact⟨c.fC,c.pat,⟨by simp only[xq];omega,by simp only[xq];omega⟩⟩
theorem Yr {p:Pa} {a now size:Int} (h:LG p) (hb:Word a) (e:Word now) (f:Word size) (c:vw p a now size=true):LG (WR p a now size):=by
 have b:=Eu h hb e;have d:=pO f;(have g:xu size<=(lM p a now).fC:=by unfold vw at c;simp at c;omega);exact⟨⟨by simp only[WR];omega,by have:=b.fC.2;have:=d.1;simp only[WR];omega⟩,b.pat,b.gP⟩
theorem lV.Ym {c:Cf} (h:lV c):Word c.gD:=⟨by have:=h.Rh;have:=h.Gj;omega,by have:=h.Rf;omega⟩
structure Kb (k:Nat) (b:Bu):Prop where
 most0:0<=b.most
 Qh:b.most<=64
 every:Word b.every
 now:Word b.now
 times:rG b.times
 len:b.times.length<=64
 gr0:0<=b.granted
 gr1:b.granted<=k
theorem Ri (c a:Int) (h:Word a):Kb 0 (xD c a):=
 ⟨by simp only[xD];omega,by simp only[xD];omega,h,ig,λd b=>by simp[xD]at b,by simp[xD],by simp[xD],by simp[xD]⟩
theorem Kb.mono {k k':Nat} {b:Bu} (h:Kb k b) (a:k<=k'):Kb k' b:=⟨h.1,h.2,h.3,h.4,h.5,h.6,h.7,by have:=h.8;omega⟩
theorem Km (b:Bu) (t:Int):(uY b t).length<=b.times.length:=List.length_filter_le _ _
theorem Rj {b:Bu} {t:Int} (h:Kb k b) (i:Word t):Kb (k+1) (uU b t):=by
 have l:=Km b t;have f:rG (uY b t):=λd a=>h.times d (dx.1 a).1;obtain⟨m,g,n,o,e⟩:=Ju h.len h.gr0 h.gr1 h.Qh (kX h.now i);unfold uU;split
 .next c=>
  (have j:((uY b t).length:Int)<b.most:=by unfold qy at c;simp at c;omega);refine⟨h.most0,h.Qh,h.every,e,?_,by simp only[aU,aY,List.length_nil];omega,by simp only;omega,by simp only;omega⟩;intro d a;rcases WB.1 a with a|a
  .exact f d a
  .obtain rfl:d=_:=by simpa using a
   exact e
 .exact⟨h.most0,h.Qh,h.every,e,f,by simp only;omega,g,by simp only;omega⟩
structure CoOk (k:Nat) (n:Co):Prop where
 a0:0<=n.dB
 a1:n.dB<=k
 b0:0<=n.eT
 b1:n.eT<=k
 c0:0<=n.fI
 c1:n.fI<=k
 d0:0<=n.bE
 d1:n.bE<=k
 e0:0<=n.late
 e1:n.late<=k
structure AO (k:Nat) (g:Gu):Prop where
 bu:Kb k g.bu
 n:CoOk k g.n
theorem CoOk.mono {k k':Nat} {n:Co} (h:CoOk k n) (m:k<=k'):CoOk k' n:=by
 obtain⟨a,g,b,i,c,j,d,l,e,f⟩:=h;exact⟨a,oM,b,oM,c,oM,d,oM,e,oM⟩
theorem AO.mono {k k':Nat} {g:Gu} (h:AO k g) (a:k<=k'):AO k' g:=⟨h.bu.mono a,h.n.mono a⟩
theorem EN {g:Gu} {l:Le} {b:List Int} {now:Int} (h:AO k g) (a:gM l) (e:Word now):AO (k+1) (dN g l b now).gu/\gM (dN g l b now).led:=by
 have c:=h.bu.mono (Nat.le_succ k);have d:=Rj h.bu e;obtain⟨f,j,m,n,o,p,q,r,s,i⟩:=h.n;unfold dN;split
 (.exact⟨⟨c,by constructor<;>simp only<;>omega⟩,a⟩);split
 (.exact⟨⟨c,by constructor<;>simp only<;>omega⟩,a⟩);split
 (.exact⟨⟨d,by constructor<;>simp only<;>first|omega|(split<;>omega)⟩,a⟩);dsimp only;split
 .exact⟨⟨c,by constructor<;>simp only<;>omega⟩,yS a _⟩
 .exact⟨⟨c,by constructor<;>simp only<;>omega⟩,yS a _⟩
structure dG (k:Nat) (e:En):Prop where
 cf:lV e.c
 now:Word e.now
 st0:1<=e.aS
 st1:e.aS<=4
 wl:e.words.l.length<=1000000
 wok:rG e.words.l
 wt:e.words.fI<=3*k
 qu:WV e.dH
 qb:dP e.dH.b
 qr:e.dH.room=e.c.room
 le:gM e.led
 lr:e.led.ring=e.c.ring
 ll:e.led.dO=e.c.dO
 lm:∀s∈e.led.kept,s.len<=e.c.mss
 gu:AO k e.gu
 rtt:RtOk e.rtt
 pr:PrOk e.dS
 cc:Xf e.cc
 cw:Dx e.c e.cc
 pa:LG e.fM
 ra0:e.c.WL<=e.fM.gP
 ra1:e.fM.gP<=4294967296
 gU:Word e.gU
 dm:Word e.dm
 Ho:0<=e.told
 DK:e.told<=k
 rO:0<=e.cO
 ni:e.cO<=k
theorem dG.mono {k k':Nat} {e:En} (h:dG k e) (a:k<=k'):dG k' e:=
 {h with wt:=by have:=h.wt;omega,gu:=h.gu.mono a,DK:=by have:=h.DK;omega,ni:=by have:=h.ni;omega}
theorem JI {c:Cf} {words:List Int} (a:lV c) (g:rG words) (e:words.length<=1000000):dG 0 (nK c words)where
 cf:=a
 now:=ig
 st0:=bY 1
 st1:=(by decide:(1:Int)<=4)
 wl:=e
 wok:=g
 wt:=av _
 qu:=PK _
 qb:=λk i=>by simp[nK,nS]at i
 qr:=by have:=a.Af;have:=a.qC;simp only[nK,nS];omega
 le:=Qr _ _ a.limit0
 lr:=by have:=a.wZ;have:=a.lW;simp only[nK,qZ];omega
 ll:=by have:=a.mh;simp only[nK,qZ];omega
 lm:=λj f=>by simp[nK,qZ]at f
 gu:=⟨Ri _ _ ⟨by have:=a.QM;omega,by have:=a.XB;omega⟩,⟨bY 0,bY 0,bY 0,bY 0,bY 0,bY 0,bY 0,bY 0,bY 0,bY 0⟩⟩
 rtt:=⟨ig,ig,ig,ig⟩
 pr:=⟨bY 0,(by decide:(0:Int)<=60),ig⟩
 cc:=(Xj a).1
 cw:=(Xj a).2
 pa:=by
  have b:=(BM (cr:=c.jD) (bK:=c.first) a.BA);have d:=a.Ie;exact⟨pO a.Ym,ig,⟨by simp only[nK,qd];omega,by simp only[nK,qd];omega⟩⟩
 ra0:=by
  have b:=(BM (cr:=c.jD) (bK:=c.first) a.BA);have d:=a.BA;simp only[nK,qd];omega
 ra1:=by simp only[nK,qd];omega
 gU:=yw
 dm:=ig
 Ho:=bY 0
 DK:=bY 0
 rO:=bY 0
 ni:=bY 0
theorem qO {e:En} {now:Int} (h:dG k e) (a:Word now):dG k (nO e now):={h with now:=kX h.now a}
theorem CE {e:En} {b:List Int} (h:dG k e) (hb:dP b):dG k (fU e b).en:=by
 unfold fU;split
 .exact h
 .exact{h with
  qu:=KA h.qu b
  qb:=λc a=>(WB.1 a).elim (h.qb c) λa=>hb c (bf a)}
theorem Lg {e:En} (h:dG k e):dG k (kF e).en:=by
 unfold kF;split
 .exact h
 .exact{h with st0:=by simp only;split<;>decide,st1:=by simp only;split<;>decide}
theorem rZ {e:En} (h:dG k e):Word (iI e):=by
 unfold iI;split
 .exact h.rtt.bK
 .exact⟨by have:=h.cf.KY;omega,by have:=h.cf.Xv;omega⟩
theorem uH {e:En} (h:dG k e):dG k (jm e):=by
 have a:=BM (cr:=e.cc.win.cr) (bK:=iI e) h.cf.BA;have b:=h.cf.Ie;exact{h with
  pa:=PZ h.pa h.cf.Ym h.now (by show 0<=xg _ _ _;omega)
  ra0:=by show e.c.WL<=min (xg _ _ _) 4294967296;omega
  ra1:=by show min (xg _ _ _) 4294967296<=4294967296;omega}
theorem uz {l:Le} {d e m:Int} (h:∀b∈l.kept,b.len<=m):∀b∈(gH l d e).kept,b.len<=m:=by
 unfold gH;split
 .exact h
 .split
  .intro b a
   next i _ _=>
   rcases List.mem_or_eq_of_mem_set a with a|rfl
   .exact h b a
   .simp only
    by_cases c:i<l.kept.length
    .rw[getD_at c];exact h _ (aN c)
    .rw[List.set_eq_of_length_le oM]at a
     exact h _ a|>λh=>by simpa using h
  .exact h
theorem rV (l:Le) (a b:Int):(gH l a b).ring=l.ring/\(gH l a b).dO=l.dO/\(gH l a b).next=l.next:=by
 unfold gH;split
 .exact⟨rfl,rfl,rfl⟩
 .split<;>exact⟨rfl,rfl,rfl⟩
theorem EE {l:Le} {d m:Int} (h:∀b∈l.kept,b.len<=m):∀b∈(lX l d).kept,b.len<=m:=by
 unfold lX;split
 .exact h
 .split
  .exact h
  .intro b a
   next i _ _=>
   rcases List.mem_or_eq_of_mem_set a with a|rfl
   .exact h b a
   .simp only
    by_cases c:i<l.kept.length
    .rw[getD_at c];exact h _ (aN c)
    .rw[List.set_eq_of_length_le oM]at a
     exact h _ a|>λh=>by simpa using h
theorem Ci (l:Le) (a:Int):(lX l a).ring=l.ring/\(lX l a).dO=l.dO/\(lX l a).next=l.next:=by
 unfold lX;split
 .exact⟨rfl,rfl,rfl⟩
 .split<;>exact⟨rfl,rfl,rfl⟩
theorem yK (q:Qu) (a n:Int):(kS q a n).room=q.room:=by
 unfold kS oJ;split
 .rfl
 .split<;>rfl
theorem Ef {q:Qu} {b n:Int} (h:dP q.b):dP (kS q b n).b:=by
 unfold kS oJ;split
 .exact h
 .split
  .exact λc a=>h c (dW a)
  .exact h
theorem Iw (q:Qu) (a n:Int):(pF q a n).room=q.room/\(pF q a n).b=q.b:=by
 unfold pF;split<;>exact⟨rfl,rfl⟩
theorem Iu (q:Qu) (a n:Int):(ng q a n).room=q.room/\(ng q a n).b=q.b:=by
 unfold ng;split<;>exact⟨rfl,rfl⟩
theorem Jf {l:Le} (h:gM l) (b:Int):0<=(mH l b).off/\Word (mH l b).off/\Word (mH l b).len:=by
 unfold mH;split
 .exact⟨dC,⟨dC,dC⟩,⟨dC,dC⟩⟩
 .next i hf=>
  have d:=(pM h hf).1;rw[getD_at d];have a:=h.ok _ (aN d);obtain⟨c,f,e,g⟩:=Hl a.vz a.off1 a.yQ a.Dr;exact⟨c,⟨c,oM⟩,⟨e,oM⟩⟩
theorem wP {e:En} (h:dG k e) (a:Int):dG k (jT e a):=by
 have c:=rV e.led a 3;have b:=Iw e.dH (mH e.led a).off (mH e.led a).len;exact{h with
  le:=vC h.le a 3 (.inr rfl)
  lr:=c.1.trans h.lr
  ll:=c.2.1.trans h.ll
  lm:=uz h.lm
  qu:=Ns h.qu _ _ (Jf h.le a).1
  qr:=b.1.trans h.qr
  qb:=by show dP (pF _ _ _).b;rw[b.2];exact h.qb}
theorem AB {k:Nat}:∀(b:List Int) (a:En),dG k a->dG k (b.foldl jT a)
 |[],a,h=>h
 |x::t,a,h=>AB t _ (wP h x)
theorem wK (dm now d:Int):∀(e:List Se) (b:List Int) (next:Int),(∀a∈e,LD a)->(∀a∈e,Word a.pn)->rG b->Word next->Word d->rG (om dm now d b next e).lost/\Word (om dm now d b next e).next/\(om dm now d b next e).lost.length<=b.length+e.length
 |[],b,next,_,_,hl,hn,_=>⟨hl,hn,av _⟩
 |a::t,b,next,hk,hp,hl,hn,hw=>by
  have g:∀a∈t,LD a:=λf c=>hk f (by simp[c]);have i:∀a∈t,Word a.pn:=λf c=>hp f (by simp[c]);unfold om;split
  .have:=wK dm now d t b next g i hl hn hw
   exact⟨this.1,this.2.1,by have:=this.2.2;simp only[aY];omega⟩
  .split
   .have:=wK dm now d t (b++[a.pn]) next g i (λf c=>by
     rcases WB.1 c with c|c
     .exact hl f c
     .obtain rfl:f=_:=by simpa using c
      exact hp a sM) hn hw
    exact⟨this.1,this.2.1,by have:=this.2.2;simp only[aY,aU,List.length_nil]at this|-;omega⟩
   .have:=wK dm now d t b (min next (WI a.sat d)) g i hl (qo hn (fB (hk a sM).sat hw)) hw
    exact⟨this.1,this.2.1,by have:=this.2.2;simp only[aY];omega⟩
theorem gM.pnw {l:Le} (h:gM l):∀a∈l.kept,Word a.pn:=λa b=>by
 obtain⟨c,d,e,f⟩:=Hl (h.mem b) h.KN h.nI h.mh;exact⟨oM,oM⟩
theorem Jz {l:Le} {dm now a:Int} (h:gM l) (c:Word a):rG (qE l dm now a).lost/\Word (qE l dm now a).next/\(qE l dm now a).lost.length<=l.kept.length:=by
 have:=wK dm now a l.kept [] 18446744073709551615 h.ok h.pnw (λe d=>by cases d) ⟨dC,dC⟩ c;exact⟨this.1,this.2.1,by have b:=this.2.2;simp only[List.length_nil,Nat.zero_add]at b;exact b⟩
theorem wY {b:Rt} {first a:Int} (h:RtOk b) (c:Word first) (d:Word a):Word (lJ b first a):=by
 unfold lJ;refine kX (gK ?_ ⟨dC,dC⟩ ⟨dC,dC⟩) d;split
 .exact kX h.bK h.mJ
 .exact c
theorem BD {d:Rt} {first c:Int} (h:RtOk d) (a:Word first) (b:Word c):Word (qP d first c):=by
 unfold qP;split
 .exact fB h.bK (kX (kN ⟨dC,dC⟩ h.var) b)
 .exact fB a (kX (kN ⟨dC,dC⟩ a) b)
theorem lV.Cx {c:Cf} (h:lV c):Word c.first:=⟨by have:=h.KY;omega,by have:=h.Xv;omega⟩
theorem lV.Gz {c:Cf} (h:lV c):Word c.jc:=⟨by have:=h.KW;omega,by have:=h.QG;omega⟩
theorem lV.capw {c:Cf} (h:lV c):Word c.cap:=⟨by have:=h.KW;have:=h.cap0;omega,by have:=h.cap1;omega⟩
theorem tC {e:En} (h:dG k e):dG k (iB e).en/\Word (iB e).lost:=by
 have a:=Jz (dm:=e.dm) (now:=e.now) h.le (wY h.rtt h.cf.Cx h.cf.Gz);refine⟨AB _ _ {h with gU:=a.2.1},?_⟩;show Word ((qE e.led e.dm e.now (lJ e.rtt e.c.first e.c.jc)).lost.getLastD 0);generalize(qE e.led e.dm e.now (lJ e.rtt e.c.first e.c.jc)).lost=b at a;cases b with
 |nil=>exact⟨dC,dC⟩
 |cons x t=>exact a.1 _ (by rw[List.getLastD_cons];exact List.getLastD_mem_cons)
attribute[local go_sem] BW.cell BW.frozen
structure wX (w:World) (S:X4) (p:Nat) (b:Bu):Prop where
 ex:∃a c,Blk w p 314 #[jI b.most,uI b.every,uI b.now,.slice a b.times.length c,jI b.granted]/\OwnAt w S 30 1 a b.times.length c (b.times.flatMap woV)
 mem:S p
section
variable {w w':World} {S S':X4} {p:Nat} {b:Bu} {ts:X8}
theorem wX.lt (h:wX w S p b):p<w.heap.size:=by obtain⟨a,c,h,_⟩:=h.ex;exact h.lt
theorem wX.keep (h:wX w S p b) (a:bQ S ts w w') (e:some 314∈ts) (f:some 30∈ts):wX w' S p b:=by
 obtain⟨c,d,g,i⟩:=h.ex;exact⟨⟨c,d,g.keep a h.mem e,i.keep a f⟩,h.mem⟩
theorem wX.below (h:wX w S p b) (hb:bW w w'):wX w' S p b:=h.keep (ts:=[some 314,some 30]) (bQ.below hb) sM sM
theorem wX.mono (h:wX w S p b) (a:∀c,S c->S' c):wX w S' p b:=by
 obtain⟨d,e,f,g⟩:=h.ex;exact⟨⟨d,e,f,g.mono a⟩,a _ h.mem⟩
end
theorem Rl (c a:Int) (w:World):
  Yk 106 #[jI c,uI a] w λg w'=>∃p,g=.returned ((pT p))/\w.heap.size<=p/\wX w' (λf=>w.heap.size<=f/\f<w'.heap.size) p (xD c a)/\bW w w':=by
 obtain⟨i,d⟩:=eX (max 0 (min c 64));(have e:xD c a=⟨i,a,0,[],0⟩:=by rw[d];rfl);rw[e];clear e;go_enter Tryz.func106,Tryz.ntmps106;go_wp2;go_ret;rw[<-d];exact⟨w.heap.size,rfl,av _,⟨⟨none,0,Wx _ _ _,OwnAt.WH⟩,⟨av _,sM⟩⟩,BEL⟩
theorem Rp (k:Nat) (c:k<=1000000000) (S:X4) (p:Nat) (b:Bu) (t:Int) (w:World) (h:wX w S p b) (hb:Kb k b) (j1:Word t):
  Yk 113 #[pT p,uI t] w λb6 w'=>b6=.returned (bV (qy b t))/\wX w' (grow S w w') p (uU b t)/\Mod S [some 314,some 30] w w':=by
 have J:=h.mem;obtain⟨b5,e0,G,e2⟩:=h.ex;obtain⟨i8,g2,g3,i3⟩:=Hl G.lt (G.Wu 2) (G.Wu 3) (G.frozen 2);have f9:=zH hb.times;obtain⟨i7,j5,j6,k1⟩:=Hl hb.len hb.gr0 hb.gr1 hb.every;have f2:Word (max b.now t):=kX hb.now j1;obtain⟨Y,n⟩:=yx G e2;obtain⟨d,W⟩:=eX (max b.now t);have k4:max b.now t=d:=W.symm;rw[<-W]at f2;obtain⟨E,N⟩:=eX (b.times.filter (CZ b.every d));(have f4:qy b t= !decide (b.most<=(E.length:Int)):=by unfold qy uY;rw[<-W,<-N]);(have f5:uU b t=if qy b t then{b with now:=d,times:=E++[d],granted:=b.granted+1}else{b with now:=d,times:=E}:=by unfold uU uY;rw[<-W,<-N]);obtain⟨j4,a2⟩:=eX (uU b t);obtain⟨l6,V⟩:=eX (qy b t);rw[<-a2,<-V];rw[f5,<-V]at a2;rw[f4]at V;obtain⟨d0,c6,c4⟩:=Av a2 V N;(have j8:E.length<=64:=by rw[N];exact ay (List.length_filter_le _ _) i7);clear f4 f5 W N a2 V h hb G e2;obtain⟨D,s,l4,l,y⟩:=b;simp only at*
 go_enter Tryz.func113,Tryz.ntmps113;go_wp2_with fail;obtain⟨o,P⟩:=eX (w.setCell ⟨p,2,none⟩ (uI d));rw[<-P];(have c1:Blk o p 314 #[jI D,uI s,uI d,.slice b5 l.length e0,jI y]:=by rw[P];exact Y.o.bF 2 (uI d));(have e3:Mod S [some 314,some 30] w o:=by rw[P];exact(aV S _ w).setCell Y.o (λ_=>J) sM 2 _);(have e8:OwnAt o S 30 1 b5 l.length e0 (l.flatMap woV):=by rw[P];exact n.o.far (n.o.pI Y.o dC));obtain⟨c7,a8,f8⟩:=Av c1 e3 (show Wos o S b5 l from e8.row);have i9:=c1.lt;clear P c1 e3 e8 g2 g3 i3 Y n i8;go_loopw [24,5,7,26,27] (λc3 j2 l9 l7 l8 wr=>∃(j:Nat) (a:List Int) (f:X5) (g:Nat),j<=l.length/\c3=jI j/\j2=.slice f a.length g/\a.length<=j/\
  X3 (OwnAt wr (λk=>o.heap.size<=k/\k<wr.heap.size) 30 1 f a.length g (a.flatMap woV))/\X3 (a++(l.drop j).filter (CZ s d)=E)/\X3 (bW o wr)) (λc3 _ _ _ _ _=>l.length -(intOf c3).toNat)
 (case atStart=>exact⟨0,[],none,0,oM,rfl,rfl,av _,OwnAt.WH,c4.o.symm,aj _ _⟩);case round=>
  obtain⟨j,a,f,g,k3,rfl,rfl,j9,n,c9,z⟩:=hrel;clear c4;have l0:=z.o.size;have O:=c7.o.below z.o i9;obtain⟨d2,d5,g0,d6,g1,d7,d3,d8,d4,d9⟩:=O.c5;have k8:=O.lt;by_cases c0:j<l.length
  .clear O d2 d3 d4 d5 d6 d7 d8 d9
   obtain⟨b,l5,rfl,k0,l3⟩:=f8.o.at_ z.o c0;have m:=c9.o;rw[aR c0,List.filter_cons]at m;have c2:=f9.o _ (aN c0);generalize l[j]=K at*
   have d1:=zH (sI d K f2 c2);cases r:CZ s d K with
   |true=>
    rw[r,aB rfl]at m;have a7:X3 ((a++[K])++(l.drop (j+1)).filter (CZ s d)=E):=zH (by simpa using m);have M:decide (WU d K<s)=true:=r;clear m r c2;go_wp2;refine bN kR kR ?_;(repeat (go_big_quiet_step ((go_at_call 122;exact aJ ((d1.o _).mono λb6 w' h=>⟨h.1,h.2.symm⟩)))));refine aK ?_;rintro _ ⟨nq,rfl⟩;have f3:OwnAt (wr.drewN nq) (λk=>o.heap.size<=k/\k<wr.heap.size) 30 1 f a.length g (a.flatMap woV):=n.o.below (by have hb:=aj wr.heap.size wr;exact BEL);have Z:=zH f3;clear f3;go_wp2_with (at_builtin;refine qH.jO rfl (.tmp 39) (.tmp 41) rfl f g a XG (Z.o.below (by have hb:=aj (wr.drewN nq).heap.size (wr.drewN nq);exact BEL)) (some ⟨wr.heap.size,0,none⟩) 1 [K] (by rfl) (Xg (Wx (wr.drewN nq) _ _)) sO dC ?_;intro v x X U C b9;have L:=zH U;have f1:=(show bW o _ from(by have hb:=z.o;exact BEL)).trans (C.cZ (B:=o.heap.size) sO (λk c h=>by have:=h.1;omega));have f6:=zH f1;have i5:=C.size;simp at i5;clear U C b9 f1);go_roundw;(case rel=>exact⟨j+1,_,v,x,oM,by go_num,sM,by simp;omega,zH (L.o.mono (λk c=>by rcases c with c|c;exact⟨c.1,oM⟩;exact⟨by have:=c.1;simp at this;omega,c.2⟩)),a7,f6⟩);case measure=>exact Yl
   |false=>
    rw[r,Ww sM]at m;have a7:=zH m;have M:decide (WU d K<s)=false:=r;clear m r c2;go_wp2;refine bN kR kR ?_;(repeat (go_big_quiet_step ((go_at_call 122;exact aJ ((d1.o _).mono λb6 w' h=>⟨h.1,h.2.symm⟩)))));refine aK ?_;rintro _ ⟨nq,rfl⟩;go_wp2;go_roundw;(case rel=>exact⟨j+1,a,f,g,oM,by go_num,rfl,oM,zH ((n.o.below (by have hb:=aj wr.heap.size wr;exact BEL)).mono (λk c=>⟨c.1,by simp;omega⟩)),a7,zH (by have hb:=z.o;exact BEL)⟩);case measure=>exact Yl
  .obtain rfl:j=l.length:=oM
   have m:=c9.o;rw[List.drop_length,List.filter_nil,List.append_nil]at m;subst m;have a1:=zH O;clear O;go_wp2_with fail;obtain⟨e,H⟩:=eX (wr.setCell ⟨p,3,none⟩ (.slice f a.length g));rw[<-H];(have a3:Blk e p 314 #[jI D,uI s,uI d,.slice f a.length g,jI y]:=by rw[H];exact a1.o.bF 3 (.slice f a.length g));(have j0:e.heap.size=wr.heap.size:=by rw[H];simp[World.setCell]);have e7:Mod S [some 314,some 30] w wr:=Mod.then a8.o (aH (S:=S) z.o) (λ_ _ h=>h);(have e4:Mod S [some 314,some 30] w e:=by rw[H];exact e7.setCell a1.o (λ_=>J) sM 3 _);have e9:OwnAt e (grow S w e) 30 1 f a.length g (a.flatMap woV):=by
    have h:=n.o.far (q:=p) (i:=3) (u:=.slice f a.length g) (n.o.pI a1.o dC);rw[<-H]at h;exact h.mono λk c=>.inr ⟨ay a8.o.size c.1,by rw[j0];exact c.2⟩
   obtain⟨g4,g9,g5,h0,g6,h1,g7,h2,g8,h3⟩:=a3.c5;have k5:=a3.lt;obtain⟨b3,a9,b2⟩:=Av a3 e4 e9;clear H a3 e4 e9 e7 a1 n z a8 c7 d2 g0 g1 d3 d4 d5 d6 d7 d8 d9;by_cases r:D<=(a.length:Int)
   .have M:=bM r
    refine mQ ?_;rintro _ ⟨nq,rfl⟩;go_wp2;go_ret;have R:=c6.o;rw[M]at R;subst R;rw[d0.o,Ww sM];refine⟨rfl,?_,?_⟩
    .exact⟨⟨f,g,b3.o.drewN _,(b2.o.below (by have hb:=aj e.heap.size e;exact BEL)).mono (λk c=>c)⟩,.inl J⟩
    .exact a9.o.drewN _
   .have M:=bJ r
    refine mQ ?_;rintro _ ⟨nq,rfl⟩;have b7:OwnAt (e.drewN nq) (grow S w e) 30 1 f a.length g (a.flatMap woV):=b2.o.below (by have hb:=aj e.heap.size e;exact BEL);obtain⟨A,Q⟩:=eX (e.drewN nq);rw[<-Q]at b7|-;(have a4:Blk A p 314 #[jI D,uI s,uI d,.slice f a.length g,jI y]:=by rw[Q];exact b3.o.drewN _);(have e5:Mod S [some 314,some 30] w A:=by rw[Q];exact a9.o.drewN _);(have l1:A.heap.size=e.heap.size:=by rw[Q];rfl);obtain⟨h4,h8,h5,h9,h6,i0,e1,i1,h7,i2⟩:=a4.c5;have k6:=a4.lt;obtain⟨c8,b0,Z⟩:=Av a4 e5 b7;clear Q a4 e5 b7 b3 a9 b2 g4 g5 g6 g7 g8 g9 h0 h1 h2 h3;have k2:y+1<9223372036854775808:=oM;go_wp2_with fail;go_region_law (refine qH.Br rfl (.tmp 62) (.tmp 67) rfl f g a XG (Z.o.below (BEL)) (some ⟨A.heap.size,0,none⟩) 1 [d] XG (Xg (Wx _ _ _)) sO dC ?_;intro v x X U C b9;have a6:=Blk.mod (by have h:=c8.o;first|exact h.alloc _|exact(h.drew.alloc _)|exact((h.drewN _).alloc _)) C dC;have e1:=a6.cell 3;have j3:=a6.frozen 3;have a0:=zH a6;have L:=zH U;have b1:=zH C;clear a6 U C b9);all_goals (
     obtain⟨F,I⟩:=eX (X.setCell ⟨p,3,none⟩ (.slice v (a.length+1) x));rw[<-I];(have a5:Blk F p 314 #[jI D,uI s,uI d,.slice v (a.length+1) x,jI y]:=by rw[I];exact a0.o.bF 3 (.slice v (a.length+1) x));(have l2:F.heap.size=X.heap.size:=by rw[I];simp[World.setCell]);have b8:=L.o.far (q:=p) (i:=3) (u:=.slice v (a.length+1) x) (L.o.pI a0.o dC);rw[<-I]at b8;have e6:Mod S [some 314,some 30] w F:=by
      rw[I];refine Mod.setCell (Mod.then (S':=grow S w e) b0.o (Mod.mono (T:=[some 30]) ?_ (λ_ _ h=>h) sM:Mod (grow S w e) [some 314,some 30] A X) (λk c i6=>i6.elim id λh=>by have:=h.1;omega)) a0.o (λ_=>J) sM 3 _;exact Mod.then (S':=grow S w e) (by have:=aV (grow S w e) [some 30] A;first|exact this.alloc _|exact(this.alloc _).drew|exact(this.drew).alloc _|exact(this.drewN _).alloc _) b1.o (λ_ _ h=>h)
     have i4:=b1.o.size;have k9:=b0.o.size;have f0:OwnAt F (grow S w F) 30 1 v (a++[d]).length x ((a++[d]).flatMap woV):=by
      refine b8.mono λk c=>?_;(have j7:A.heap.size<=X.heap.size:=by first|(simp at i4;omega)|omega);rcases c with(c|c)|c
      .exact .inl c
      .exact .inr ⟨c.1,by have:=c.2;omega⟩
      .exact .inr ⟨by have:=c.1;first|(simp at this;omega)|omega,by have:=c.2;omega⟩
     obtain⟨m0,m5,m1,m6,m2,m7,m3,m8,m4,m9⟩:=a5.c5;have k7:=a5.lt;obtain⟨b4,c5,f7⟩:=Av a5 f0 e6;clear I a5 b8 f0 e6 a0 L b1 Z b0 c8 h4 h5 h6 e1 h7 h8 h9 i0 i1 i2 j3;go_wp2;go_ret;have R:=c6.o;rw[M]at R;subst R;rw[d0.o,aB (by rfl)];refine⟨rfl,⟨⟨v,x,?_,?_⟩,.inl J⟩,?_⟩
     .have:=b4.o.bF 4 (jI (y+1))
      simpa using this
     .have:=(c5.o.far (q:=p) (i:=4) (u:=jI (y+1)) (c5.o.pI b4.o dC)).mono (S':=grow S w (F.setCell ⟨p,4,none⟩ (jI (y+1)))) (λk c=>c.elim .inl λh=>.inr ⟨h.1,by simp;exact h.2⟩)
      exact this
     .exact f7.o.setCell b4.o (λ_=>J) sM 4 _)
theorem zL {x n:Int} (h:Word x):Word (yP x n):=by
 unfold yP;split
 .exact⟨dC,dC⟩
 .split
  .exact h
  .have a:(0:Int)<2^n.toNat:=Int.pow_pos dC
   have b:=iQ x (Int.ne_of_gt a);have c:x%2^n.toNat<=x:=by
    have:=Int.emod_add_ediv_mul x (2^n.toNat);have d:0<=x/2^n.toNat*2^n.toNat:=dK (Int.ediv_nonneg h.1 (Int.le_of_lt a)) (Int.le_of_lt a);omega
   exact⟨b,by have:=h.2;omega⟩
theorem R3 (k:Nat):mixN k<18446744073709551616:=by
 have e:∀(c a:Nat),a<2^64->xsN c a<2^64:=λc a h=>Nat.xor_lt_two_pow h (Nat.lt_of_le_of_lt (by rw[Nat.shiftRight_eq_div_pow];exact Nat.div_le_self _ _) h);have d:∀(b a:Nat),mulN b a<2^64:=λb a=>Nat.mod_lt _ dC;unfold mixN;exact e _ _ (d _ _)
theorem pG (h:rG l) (k:Nat):Word (Ai l k):=by
 unfold Ai;split
 .next hk=>rw[getD_at hk];exact h _ (aN hk)
 .exact⟨Int.natCast_nonneg _,by have:=R3 k;omega⟩
theorem rP (l:Le) (s:Se):(gG l s).led.ring=l.ring/\(gG l s).led.dO=l.dO:=by
 unfold gG;split
 .exact⟨rfl,rfl⟩
 .split<;>exact⟨rfl,rfl⟩
theorem Cj {l:Le} {s:Se} {m:Int} (h:∀a∈l.kept,a.len<=m) (d:s.len<=m):∀a∈(gG l s).led.kept,a.len<=m:=by
 have c:∀a∈l.kept++[{s with pn:=l.next}],a.len<=m:=λa b=>by
  rcases WB.1 b with b|b
  .exact h a b
  .obtain rfl:a=_:=by simpa using b
   exact d
 unfold gG;split
 .exact h
 .split
  .exact h
  .simp only
   split
   .exact λa b=>c a (dW b)
   .exact c
theorem Je (l:Le) (s:Se):(jG l s).led.ring=l.ring/\(jG l s).led.dO=l.dO:=by
 unfold jG;split
 .exact⟨rfl,rfl⟩
 .exact rP _ _
theorem KP {l:Le} {s:Se} {m:Int} (h:∀a∈l.kept,a.len<=m) (b:s.len<=m):∀a∈(jG l s).led.kept,a.len<=m:=by
 unfold jG;split
 .exact h
 .exact Cj h b
theorem zk (k:Nat) {e:En} (h:dG k e) (n:Nat) (a:e.words.fI+n<=3*(k+1)):dG (k+1) {e with words:=⟨e.words.l,e.words.fI+n⟩}:=
 {h.mono (Nat.le_succ k)with wt:=a}
theorem zh (e:En):(eH e).c=e.c/\(eH e).dH=e.dH/\(eH e).now=e.now/\(eH e).words.l=e.words.l/\(eH e).words.fI=e.words.fI+1:=by
 unfold eH;split<;>exact⟨rfl,rfl,rfl,rfl,rfl⟩
theorem wM {e:En} (h:dG k e):dG (k+1) (eH e):=by
 have a:dG (k+1) (WG e):=zk k h 1 (by have:=h.wt;omega);unfold eH;split
 .have b:=rP e.led {seZ with aS:=4}
  exact{a with
   le:=NN h.le
   lr:=b.1.trans h.lr
   ll:=b.2.trans h.ll
   lm:=Cj h.lm (by have:=h.cf.Gj;show(0:Int)<=e.c.mss;omega)}
 .exact a
theorem Oe {e:En} {p:Pi} (h:dG k e) (g:iY e.dH e.c.mss=some p):dG (k+1) (jH e p).en:=by
 obtain⟨d,m,n,f,o,q⟩:=nD h.qu g;obtain⟨i,j,s,t,l⟩:=zh e;obtain⟨a,b,r,c⟩:=Hl (wM h) (Iu (eH e).dH p.off p.body.length) h.qu.base0 (Je (eH e).led ⟨0,p.off,p.body.length,yP (jg (eH e)) (eH e).c.bits,(eH e).now,zn (jg (WG (eH e))),false,0⟩);unfold jH wN;exact{a with
  wt:=by show(eH e).words.fI+1+1<=_;rw[l];have:=h.wt;omega
  le:=EF a.le _ (by show 0<=p.off;omega) (zL (pG a.wok _)) a.now
  lr:=c.1.trans a.lr
  ll:=c.2.trans a.ll
  lm:=KP a.lm (by show(p.body.length:Int)<=(eH e).c.mss;rw[i];exact f)
  qu:=Nq a.qu _ _ (by rw[j];exact d)
  qr:=b.1.trans a.qr
  qb:=by show dP (ng (eH e).dH _ _).b;rw[b.2];exact a.qb
  pr:=Nv a.pr a.now}
theorem Lf {e:En} (h:dG k e):dG (k+1) (WQ e).en:=by
 have a:=h.mono (Nat.le_succ k);unfold WQ;split
 (.exact a);split
 .obtain⟨b,c,d⟩:=FX h.Ho h.DK h.ni
  exact{a with Ho:=by simp only;omega,DK:=by simp only;omega,rO:=by simp only;omega,ni:=by simp only;omega}
 split
 .exact a
 next p hp=>
 split
 (.exact a);split
 (.exact{a with st0:=(by decide:(1:Int)<=3),st1:=(by decide:(3:Int)<=4)});split
 (.exact a);split
 .next ho=>
  obtain⟨b,c,d,g,i,j⟩:=nD h.qu hp;have f:Word (p.body.length:Int):=⟨oM,by have:=h.cf.Ca;omega⟩;have l:(WR e.fM e.c.gD e.now p.body.length).gP=e.fM.gP:=rfl;exact Oe (e:={e with fM:=WR e.fM e.c.gD e.now p.body.length}) {h with pa:=Yr h.pa h.cf.Ym h.now f ho,ra0:=h.ra0,ra1:=h.ra1} hp
 .exact a
theorem wO {e:En} {now:Int} (h:dG k e) (a:Word now):dG (k+1) (fD e now).en:=Lf (qO h a)
def vX (s:Se):Prop:=LD s/\Word s.pn
theorem FH {a:Rse} {s:Se} (h:dG k a.en) (c:vX s):dG k (fH a s).en:=by
 unfold fH;split
 .exact h
 .have b:=rV a.en.led s.pn 2
  exact{h with
   le:=vC h.le s.pn 2 (.inl rfl)
   lr:=b.1.trans h.lr
   ll:=b.2.1.trans h.ll
   lm:=uz h.lm
   qu:=xM h.qu _ _ c.1.vz
   qr:=(yK _ _ _).trans h.qr
   qb:=Ef h.qb}
theorem AM {c:Rse} {s:Se} (h:∀a∈c.fresh,vX a) (d:vX s):(∀a∈(fH c s).fresh,vX a)/\(fH c s).fresh.length<=c.fresh.length+1:=by
 unfold fH;split
 .exact⟨h,Nat.le_succ _⟩
 .simp only
  split
  .refine⟨λa b=>?_,sM⟩
   rcases WB.1 b with b|b
   .exact h a b
   .obtain rfl:a=_:=by simpa using b
    exact d
  .exact⟨h,Nat.le_succ _⟩
theorem Ab {k:Nat}:∀(c:List Se) (a:Rse),dG k a.en->(∀b∈a.fresh,vX b)->(∀b∈c,vX b)->dG k (c.foldl fH a).en/\(∀b∈(c.foldl fH a).fresh,vX b)/\(c.foldl fH a).fresh.length<=a.fresh.length+c.length
 |[],a,h,hf,_=>⟨h,hf,av _⟩
 |s::t,a,h,hf,hl=>by
  have f:=hl s sM;have e:=AM hf f;have d:=Ab t (fH a s) (FH h f) e.1 (λb g=>hl b (by simp[g]));exact⟨d.1,d.2.1,by have:=d.2.2;have:=e.2;simp only[List.foldl_cons,aY];omega⟩
theorem BV {c:Sp} {s:Se} (h:s∈partOf x H c):s∈H:=bf (dW h)
theorem KI (b:Int) (a:List Se) (c:Sp):(partOf b a c).length<=a.length:=by unfold partOf;simp;omega
theorem Et (b:Int) (a:List Se):∀(d:List Sp),(d.flatMap (partOf b a)).length<=d.length*a.length
 |[]=>by simp
 |c::t=>by
  have e:=KI b a c;have f:=Et b a t;rw[List.flatMap_cons,aU,aY,Nat.add_mul,Nat.one_mul];omega
theorem zi {e:En} {a:Ak} (h:dG k e):dG k (ed e a).en/\(∀b∈(ed e a).fresh,vX b)/\(ed e a).fresh.length<=a.cu.length*e.led.kept.length:=by
 have c:=Ab (k:=k) (a.cu.flatMap (partOf (gT e.led) e.led.kept)) ⟨[],false,e⟩ h (λb d=>by cases d) (λb d=>by
  obtain⟨g,_,f⟩:=List.mem_flatMap.1 d;exact⟨h.le.ok b (BV f),h.le.pnw b (BV f)⟩)
 refine⟨c.1,c.2.1,ay c.2.2 ?_⟩;have:=Et (gT e.led) e.led.kept a.cu;simpa using this
theorem vG (m:List Sp):∀(c:List Se) (a:Int),gJ m c=some a->∃b∈c,b.pn=a
 |[],a,h=>by cases h
 |b::t,a,h=>by
  unfold gJ at h;split at h
  .next q hq=>injection h with h;subst h;obtain⟨f,e,d⟩:=vG m t _ hq;exact⟨f,by simp[e],d⟩
  .split at h
   .injection h with h;exact⟨b,sM,h⟩
   .cases h
theorem rX (d:Ro):∀(c:List Se) (a:Int),0<=a->(∀b∈c,vX b)->0<=c.foldl (λa b=>if WM d b.pn then a+b.len else a) a/\c.foldl (λa b=>if WM d b.pn then a+b.len else a) a<=a+1500*c.length
 |[],a,h,_=>⟨h,sM⟩
 |b::t,a,h,hl=>by
  have f:=(hl b sM).1;have j:=f.yQ;have k:=f.Dr;have e:=rX d t (if WM d b.pn then a+b.len else a) (by split<;>omega) (λi g=>hl i (by simp[g]));simp only[List.foldl_cons,aY];refine⟨e.1,oK e.2 ?_⟩;split<;>omega
theorem GJ {e:En} {l:List Se} {top:Int} (h:dG k e) (b:∀a∈l,vX a):dG k (iF e l top):=by
 unfold iF;split
 .exact h
 .next a hs=>
  split
  .exact{h with rtt:=Ad h.rtt (nC h.now (b a (List.mem_of_getLast? hs)).1.sat)}
  .exact h
theorem Mq {e:En} (h:dG k e):Word e.led.next:=⟨h.le.pE,by have:=h.le.nI;have:=h.le.mh;omega⟩
theorem AA {e:En} {m:List Sp} {l:List Se} (h:dG k e) (c:∀a∈l,vX a):dG k (kv e m l):=by
 unfold kv;split
 .exact h
 .next p hp=>
  obtain⟨a,d,rfl⟩:=vG _ _ _ hp;have b:=OC h.cf h.cc h.cw (c a d).2 (Mq h);exact{h with cc:=b.1,cw:=b.2}
theorem uJ {e:En} {p:Int} {b:Bool} (h:dG k e) (c:Word p):dG k (kD e p b):=by
 unfold kD;split
 .have a:=OD h.cf h.cc h.cw c (Mq h)
  exact{h with cc:=a.1,cw:=a.2}
 .exact h
theorem CG {e:En} {l:List Se} (h:dG k e) (d:∀f∈l,vX f) (g:l.length<=1000000):dG k (kE e l):=by
 unfold kE;split
 .have c:=rX e.cc.round l 0 dC d
  have b:=Q9 (a:=ko e.cc.round l) (now:=e.now) (bK:=iI e) h.cf h.cc ⟨c.1,by show ko e.cc.round l<_;unfold ko;omega⟩ h.now (rZ h);exact{h with cc:=b.1,cw:=b.2}
 .exact h
theorem Og {e:En} {l:List Se} {b:Bool} (h:dG k e):dG k (lQ e l b):=by
 unfold lQ;split
 .exact{h with pr:=Ej h.now}
 .exact h
theorem Od {e:En} (h:dG k e):dG k (nN e):=by
 unfold nN;split
 .exact{h with st0:=(by decide:(1:Int)<=3),st1:=(by decide:(3:Int)<=4)}
 .exact h
theorem CF {e:En} {a:Ak} (h:dG k e) (i:a.cu.length<=1000) (l:Word (a.cu.getLastD ⟨0,0⟩).hi):dG k (qh e a):=by
 have b:=zi (a:=a) h;have j:(ed e a).fresh.length<=1000000:=by
  (have f:e.led.kept.length<=256:=by have:=h.le.len;have:=h.le.lW;omega);have m:=Nat.mul_le_mul i f;have:=b.2.2;omega
 have c:=GJ (top:=(a.cu.getLastD ⟨0,0⟩).hi) b.1 b.2.1;have g:dG k {iF (ed e a).en (ed e a).fresh (a.cu.getLastD ⟨0,0⟩).hi with dm:=max (iF (ed e a).en (ed e a).fresh (a.cu.getLastD ⟨0,0⟩).hi).dm (a.cu.getLastD ⟨0,0⟩).hi}:={c with dm:=kX c.dm l};have d:=tC g;exact Od (uH (Og (CG (uJ (AA d.1 b.2.1) d.2) b.2.1 j)))
theorem Cr (g:Gu) (l:Le) (b:List Int) (now:Int):(dN g l b now).led=l\/∃a,(dN g l b now).led=lX l a:=by
 unfold dN;split
 (.exact .inl rfl);split
 (.exact .inl rfl);split
 (.exact .inl rfl);dsimp only;split<;>exact .inr ⟨_,rfl⟩
theorem Ct (g:Gu) (l:Le) (b:List Int) (now:Int):(dN g l b now).ack=akZ\/(dN g l b now).ack=(jy b).val:=by
 unfold dN;split
 (.exact .inl rfl);split
 (.exact .inl rfl);split
 (.exact .inl rfl);dsimp only;split<;>exact .inr rfl
theorem xY (b:List Int) (hb:dP b):(jy b).val.cu.length<=32/\∀c∈(jy b).val.cu,SpW c:=by
 have a:akZ.cu.length<=32/\∀c∈akZ.cu,SpW c:=⟨dC,(λc h=>by cases h)⟩;rcases b with _|⟨j,g⟩
 .exact a
 .have e:dP g:=λi f=>hb i (by simp[f])
  have d:=Yv (bn:=1) e;rw[Fb];split
  (.exact a);unfold dAs;split
  (.exact a);unfold dAm;split
  (.exact a);unfold dAt;split
  (.exact a);unfold dAx;split
  (.exact a);unfold dAp;split
  (.exact a);unfold dAe;split
  (.exact a);split
  (.exact a);split
  .exact a
  .exact⟨d.2.1,d.1⟩
theorem Cu {l:List Sp} (h:∀a∈l,SpW a):Word (l.getLastD ⟨0,0⟩).hi:=by
 cases l with
 |nil=>exact⟨dC,dC⟩
 |cons x t=>exact(h _ (by rw[List.getLastD_cons];exact List.getLastD_mem_cons)).hi
theorem QN {e:En} {b:List Int} (h:dG k e) (hb:dP b):dG (k+1) (xw e b).en:=by
 have j:=h.mono (Nat.le_succ k);unfold xw;split
 .exact j
 .have i:=EN (b:=b) h.gu h.le h.now
  have g:(dN e.gu e.led b e.now).ack.cu.length<=1000/\Word ((dN e.gu e.led b e.now).ack.cu.getLastD ⟨0,0⟩).hi:=by
   rcases Ct e.gu e.led b e.now with d|d<;>rw[d]
   .exact⟨dC,⟨dC,dC⟩⟩
   .have:=xY b hb
    exact⟨oM,Cu this.2⟩
  have m:=h.rO;have p:=h.ni;have l:∀b:Bool,0<=(if b then e.cO+1 else e.cO)/\(if b then e.cO+1 else e.cO)<=((k+1:Nat):Int):=by
   intro b;cases b
   .exact⟨by simpa using m,by simp;omega⟩
   .exact⟨by simp;omega,by simp;omega⟩
  have c:(dN e.gu e.led b e.now).led.ring=e.c.ring/\(dN e.gu e.led b e.now).led.dO=e.c.dO/\∀o∈(dN e.gu e.led b e.now).led.kept,o.len<=e.c.mss:=by
   rcases Cr e.gu e.led b e.now with f|⟨n,f⟩<;>rw[f]
   .exact⟨h.lr,h.ll,h.lm⟩
   .have:=Ci e.led n
    exact⟨this.1.trans h.lr,this.2.1.trans h.ll,EE h.lm⟩
  have a:dG (k+1) {e with gu:=(dN e.gu e.led b e.now).gu,led:=(dN e.gu e.led b e.now).led,cO:=if(dN e.gu e.led b e.now).ver.dU then e.cO+1 else e.cO}:=
   {j with
    gu:=i.1
    le:=i.2
    lr:=c.1
    ll:=c.2.1
    lm:=c.2.2
    rO:=(l _).1
    ni:=(l _).2}
  simp only;split
  .exact{a with st0:=(by decide:(1:Int)<=4),st1:=(by decide:(4:Int)<=4)}
  .split
   .exact CF a g.1 g.2
   .exact a
theorem Mo {e:En} {b:List Int} {now:Int} (h:dG k e) (hb:dP b) (a:Word now):dG (k+1) (lU e b now).en:=QN (qO h a) hb
theorem Lb {e:En} (h:dG k e):dG k (jE e):=by
 unfold jE;split
 (.exact h);split
 .have a:=tC h
  exact uH (uJ a.1 a.2)
 split
 .have a:dG k {e with dS:=jR e.dS e.now}:={h with pr:=BP _ h.now}
  have d:=wP a (eY e.led);have b:dG k {jT {e with dS:=jR e.dS e.now} (eY e.led)with fP:=true}:={d with};simp only;refine uH ?_;split
  .have c:=xC b.cf b.cc
   exact{b with cc:=c.1,cw:=c.2}
  .exact b
 .exact h
theorem EV {e:En} {now:Int} (h:dG k e) (a:Word now):dG k (kr e now):=Lb (qO h a)
def sx (g:Gu) (q o:Int) (e:En):En:={e with gu:=g,told:=q,cO:=o}
def shG (g:Gu):Gu:=⟨⟨0,0,0,[],0⟩,⟨0,0,0,0,0⟩,g.over⟩
def sd (e:En):En:=sx (shG e.gu) 0 0 e
def shR (g:Gu) (q o:Int) (a:Rse):Rse:={a with en:=sx g q o a.en}
def shP (g:Gu) (q o:Int) (a:Rpo):Rpo:={a with en:=sx g q o a.en}
def qV (e:En) (top:Int):En:={e with dm:=max e.dm top}
def e1T (e:En):En:={jT {e with dS:=jR e.dS e.now} (eY e.led)with fP:=true}
def onE (v:Ve) (a:Ak) (e:En):En:=if v.kind=3 then{e with aS:=4}else if v.kind=2 then qh e a else e
section
variable (g:Gu) (q o:Int)
theorem Ta (e:En):Yn (sx g q o e)=Yn e:=rfl
theorem OY (e:En) (b:List Int):fU (sx g q o e) b=⟨(fU e b).n,(fU e b).err,sx g q o (fU e b).en⟩:=by
 show(if e.aS≠1 then(⟨0,9,sx g q o e⟩:Ren)else⟨kg e.dH b.length,if kg e.dH b.length<b.length then 7 else 0,(sx g q o) {e with dH:=oI e.dH b}⟩)=_;unfold fU;by_cases a:e.aS≠1
 .rw[aB a,aB a]
 .rw[Ww a,Ww a]
theorem Hz:∀(b:List Int) (a:En),b.foldl jT (sx g q o a)=sx g q o (b.foldl jT a)
 |[],_=>rfl
 |x::t,a=>Hz t (jT a x)
theorem Pj (e:En):(iB (sx g q o e)).lost=(iB e).lost:=rfl
theorem Ph (e:En):(iB (sx g q o e)).some_=(iB e).some_:=rfl
theorem Xp (e:En):(iB (sx g q o e)).en=sx g q o (iB e).en:=Hz g q o (qi e).lost {e with gU:=(qi e).next}
theorem Pb (e:En):jm (sx g q o e)=sx g q o (jm e):=rfl
theorem Hy (e:En) (l:Int) (b:Bool):kD (sx g q o e) l b=sx g q o (kD e l b):=by cases b<;>rfl
theorem Bi (e:En):jE e=(if Yn e=true then e else if tH e.now e.gU=true then jm (kD (iB e).en (iB e).lost (iB e).some_)else if tH e.now (jJ e)=true then jm (if 3<=(e1T e).dS.count then{e1T e with cc:=kz (e1T e).c (e1T e).cc}else e1T e)else e):=rfl
theorem Hr (e:En):jE (sx g q o e)=sx g q o (jE e):=by
 have f:jE (sx g q o e)=(if Yn e=true then(sx g q o) e else if tH e.now e.gU=true then jm (kD (iB (sx g q o e)).en (iB e).lost (iB e).some_)else if tH e.now (jJ e)=true then jm (if 3<=(e1T e).dS.count then(sx g q o) {e1T e with cc:=kz (e1T e).c (e1T e).cc}else(sx g q o) (e1T e))else(sx g q o) e):=rfl;rw[f,Bi,Xp,Hy];by_cases a:Yn e=true
 (.rw[aB a,aB a]);rw[Ww a,Ww a];by_cases b:tH e.now e.gU=true
 (.rw[aB b,aB b];rfl);rw[Ww b,Ww b];by_cases c:tH e.now (jJ e)=true
 .rw[aB c,aB c]
  by_cases d:3<=(e1T e).dS.count
  .rw[aB d,aB d];rfl
  .rw[Ww d,Ww d];rfl
 .rw[Ww c,Ww c]
theorem RE (e:En) (now:Int):kr (sx g q o e) now=sx g q o (kr e now):=Hr g q o (nO e now)
theorem MU (b:Rse) (s:Se):fH (shR g q o b) s=shR g q o (fH b s):=by
 unfold fH;by_cases a:s.aS≠1/\s.aS≠3
 .rw[aB a,aB a]
 .rw[Ww a,Ww a];rfl
theorem Bj:∀(b:List Se) (a:Rse),b.foldl fH (shR g q o a)=shR g q o (b.foldl fH a)
 |[],_=>rfl
 |s::t,a=>by
  rw[List.foldl_cons,List.foldl_cons,MU];exact Bj t _
theorem xH (e:En) (a:Ak):ed (sx g q o e) a=shR g q o (ed e a):=Bj g q o (a.cu.flatMap (partOf (gT e.led) e.led.kept)) ⟨[],false,e⟩
theorem Kj (e:En) (f:List Se) (top:Int):iF (sx g q o e) f top=sx g q o (iF e f top):=by
 unfold iF;cases f.getLast? with
 |none=>rfl
 |some s=>
  dsimp only;by_cases a:s.pn=top
  .rw[aB a,aB a];rfl
  .rw[Ww a,Ww a]
theorem Pf (e:En) (top:Int):qV (sx g q o e) top=sx g q o (qV e top):=rfl
theorem MV (e:En) (m:List Sp) (f:List Se):kv (sx g q o e) m f=sx g q o (kv e m f):=by
 unfold kv;cases gJ m f<;>rfl
theorem Pg (e:En) (f:List Se):kE (sx g q o e) f=sx g q o (kE e f):=by
 show(if 0<ko e.cc.round f then(sx g q o) {e with cc:=vQ e.c e.cc (ko e.cc.round f) e.now (iI e)}else(sx g q o) e)=_;unfold kE;by_cases a:0<ko e.cc.round f
 .rw[aB a,aB a]
 .rw[Ww a,Ww a]
theorem RI (e:En) (f:List Se) (l:Bool):lQ (sx g q o e) f l=sx g q o (lQ e f l):=by
 unfold lQ;by_cases a:0<f.length\/l=true
 .rw[aB a,aB a];rfl
 .rw[Ww a,Ww a]
theorem RG (e:En):nN (sx g q o e)=sx g q o (nN e):=by
 show(if e.aS=2/\rC e=true then(sx g q o) {e with aS:=3}else(sx g q o) e)=_;unfold nN;by_cases a:e.aS=2/\rC e=true
 .rw[aB a,aB a]
 .rw[Ww a,Ww a]
theorem yA (e:En) (a:Ak):qh e a=nN (jm (lQ (kE (kD (kv (iB (qV (iF (ed e a).en (ed e a).fresh (a.cu.getLastD ⟨0,0⟩).hi) (a.cu.getLastD ⟨0,0⟩).hi)).en a.aO (ed e a).fresh) (iB (qV (iF (ed e a).en (ed e a).fresh (a.cu.getLastD ⟨0,0⟩).hi) (a.cu.getLastD ⟨0,0⟩).hi)).lost (iB (qV (iF (ed e a).en (ed e a).fresh (a.cu.getLastD ⟨0,0⟩).hi) (a.cu.getLastD ⟨0,0⟩).hi)).some_) (ed e a).fresh) (ed e a).fresh (ed e a).late)):=rfl
theorem Hu (e:En) (a:Ak):(ed (sx g q o e) a).fresh=(ed e a).fresh:=by rw[xH];rfl
theorem Ht (e:En) (a:Ak):(ed (sx g q o e) a).late=(ed e a).late:=by rw[xH];rfl
theorem Hw (e:En) (a:Ak):(ed (sx g q o e) a).en=sx g q o (ed e a).en:=by rw[xH];rfl
theorem OZ (e:En) (a:Ak):qh (sx g q o e) a=sx g q o (qh e a):=by
 rw[yA,yA,Hu,Ht,Hw,Kj,Pf,Xp,Pj,Ph,MV,Hy,Pg,RI,Pb,RG]
theorem RF (e:En):eH (sx g q o e)=sx g q o (eH e):=by
 show(if rQ e=true then(sx g q o) {WG e with led:=(og e.led).led}else(sx g q o) (WG e))=_;unfold eH;by_cases a:rQ e=true
 .rw[aB a,aB a]
 .rw[Ww a,Ww a]
theorem RH (e:En) (p:Pi):jH (sx g q o e) p=shP g q o (jH e p):=by
 unfold jH;rw[RF];rfl
theorem Ti (v:Ve) (a:Ak) (e:En):onE v a (sx g q o e)=sx g q o (onE v a e):=by
 unfold onE;by_cases b:v.kind=3
 (.rw[aB b,aB b];rfl);rw[Ww b,Ww b];by_cases c:v.kind=2
 .rw[aB c,aB c,OZ]
 .rw[Ww c,Ww c]
def uS (e:En):Rpo:=
 match iY e.dH e.c.mss with
 |none=>⟨[],10,e⟩
 |some p=>
  if e.fP=false/\e.cc.win.cr<gq e.led+p.body.length then⟨[],7,e⟩else
  if e.c.dO<e.led.next then⟨[],8,{e with aS:=3}⟩else
  if eu e.led<1 then⟨[],7,e⟩else
  if vw e.fM e.c.gD e.now p.body.length then jH {e with fM:=WR e.fM e.c.gD e.now p.body.length} p else⟨[],7,e⟩
theorem vk (e:En):WQ e=(if Yn e=true then⟨[],9,e⟩else if 0<e.cO then⟨rR e.told,0,{e with cO:=e.cO -1,told:=e.told+1}⟩else uS e):=rfl
theorem XQ (e:En):uS (sx g q o e)=shP g q o (uS e):=by
 have f:uS (sx g q o e)=(match iY e.dH e.c.mss with
  |none=>⟨[],10,sx g q o e⟩
  |some p=>
   if e.fP=false/\e.cc.win.cr<gq e.led+p.body.length then⟨[],7,sx g q o e⟩else
   if e.c.dO<e.led.next then⟨[],8,(sx g q o) {e with aS:=3}⟩else
   if eu e.led<1 then⟨[],7,sx g q o e⟩else
   if vw e.fM e.c.gD e.now p.body.length=true then jH (sx g q o {e with fM:=WR e.fM e.c.gD e.now p.body.length}) p else⟨[],7,sx g q o e⟩):=rfl
 rw[f];unfold uS;cases iY e.dH e.c.mss with
 |none=>rfl
 |some p=>
  dsimp only;by_cases a:e.fP=false/\e.cc.win.cr<gq e.led+p.body.length
  (.rw[aB a,aB a];rfl);rw[Ww a,Ww a];by_cases b:e.c.dO<e.led.next
  (.rw[aB b,aB b];rfl);rw[Ww b,Ww b];by_cases c:eu e.led<1
  (.rw[aB c,aB c];rfl);rw[Ww c,Ww c];by_cases d:vw e.fM e.c.gD e.now p.body.length=true
  .rw[aB d,aB d,RH]
  .rw[Ww d,Ww d];rfl
theorem Y6 (e:En) (b:¬0<e.cO) (c:¬0<o):WQ (sx g q o e)=shP g q o (WQ e):=by
 rw[vk,vk,Ta];by_cases a:Yn e=true
 .rw[aB a,aB a];rfl
 .rw[Ww a,Ww a,Ww b,Ww (show¬0<(sx g q o e).cO from c),XQ]
end
theorem yC (e:En):e=sx e.gu e.told e.cO e:=rfl
theorem LM (e:En) (now:Int):(kr e now).gu=e.gu/\(kr e now).told=e.told/\(kr e now).cO=e.cO:=by
 have h:=RE e.gu e.told e.cO e now;rw[<-yC]at h;rw[h];exact⟨rfl,rfl,rfl⟩
theorem OO (e:En) (b:List Int):(fU e b).en.gu=e.gu/\(fU e b).en.told=e.told/\(fU e b).en.cO=e.cO:=by
 have h:=OY e.gu e.told e.cO e b;rw[<-yC]at h;rw[h];exact⟨rfl,rfl,rfl⟩
theorem PT (e:En):(uS e).en.gu=e.gu/\(uS e).en.told=e.told/\(uS e).en.cO=e.cO:=by
 have h:=XQ e.gu e.told e.cO e;rw[<-yC]at h;rw[h];exact⟨rfl,rfl,rfl⟩
theorem SS (e:En) (now:Int):sd (nO e now)=nO (sd e) now:=rfl
theorem Gc (e:En) (b:List Int):xw e b=(if Yn e=true then⟨⟨1,8,0,false⟩,e⟩else
 ⟨(dN e.gu e.led b e.now).ver,onE (dN e.gu e.led b e.now).ver (dN e.gu e.led b e.now).ack (sx (dN e.gu e.led b e.now).gu e.told (if(dN e.gu e.led b e.now).ver.dU=true then e.cO+1 else e.cO) {e with led:=(dN e.gu e.led b e.now).led})⟩):=rfl
theorem Qa (v:Ve) (a:Ak) (e:En):(onE v a e).gu=e.gu/\(onE v a e).told=e.told/\(onE v a e).cO=e.cO:=by
 have h:=Ti e.gu e.told e.cO v a e;rw[<-yC]at h;rw[h];exact⟨rfl,rfl,rfl⟩
def WK:Nat->En->Int->Rpo
 |0,e,_=>⟨[],10,e⟩
 |k+1,e,now=>if(fD e now).err≠0\/(fD e now).b.length=0\/(fD e now).b.getD 0 0≠3 then fD e now else WK k (fD e now).en now
theorem Xi:∀(d a:Nat) (c:En) (b:Int),dG a c->Word b->dG (a+d) (WK d c b).en
 |0,a,c,b,h,hn=>h
 |d+1,a,c,b,h,hn=>by
  have e:=wO h hn;unfold WK;split
  .exact e.mono oM
  .have f:=Xi d (a+1) _ b e hn
   exact f.mono oM
structure SQ (k:Nat) (m:Int) (a b:En):Prop where
 oka:dG k a
 okb:dG k b
 same:sd a=sd b
 Rk:b.cO=0
 bd:b.gu.n.eT=0
 bm:b.gu.n.dB=0
 Ru:a.cO<=m
structure Xw (now:Int) (k:Nat) (m:Int) (a b:En):Prop where
 oka:dG k a
 okb:dG k b
 same:sd (nO a now)=sd (nO b now)
 Rk:b.cO=0
 bd:b.gu.n.eT=0
 bm:b.gu.n.dB=0
 Ru:a.cO<=m
theorem SQ.late {m:Int} {a b:En} (h:SQ k m a b) (now:Int):Xw now k m a b:=⟨h.oka,h.okb,by rw[SS,SS,h.same],h.Rk,h.bd,h.bm,h.Ru⟩
theorem SQ.mono {k k':Nat} {m d:Int} {a b:En} (h:SQ k m a b) (c:k<=k') (e:m<=d):SQ k' d a b:=⟨h.oka.mono c,h.okb.mono c,h.same,h.Rk,h.bd,h.bm,by have:=h.Ru;omega⟩
def CN (e e':En):Prop:=e'.c=e.c/\e'.now=e.now
theorem CN.refl (e:En):CN e e:=⟨rfl,rfl⟩
theorem CN.trans {a b c:En} (h:CN a b) (d:CN b c):CN a c:=⟨d.1.trans h.1,d.2.trans h.2⟩
theorem JV:∀(b:List Int) (a:En),CN a (b.foldl jT a)
 |[],a=>CN.refl a
 |x::t,a=>JV t (jT a x)
theorem Mw (e:En):CN e (iB e).en:=JV (qi e).lost {e with gU:=(qi e).next}
theorem JU (e:En) (l:Int) (b:Bool):CN e (kD e l b):=by cases b<;>exact CN.refl e
theorem XC (e:En):CN e (jE e):=by
 rw[Bi];split
 (.exact CN.refl e);split
 (.exact(Mw e).trans (JU _ _ _));split
 .split<;>exact⟨rfl,rfl⟩
 .exact CN.refl e
theorem Ov (a:Rse) (s:Se):CN a.en (fH a s).en:=by
 unfold fH;split<;>exact⟨rfl,rfl⟩
theorem CU:∀(b:List Se) (a:Rse),CN a.en (b.foldl fH a).en
 |[],a=>CN.refl _
 |s::t,a=>(Ov a s).trans (CU t _)
theorem Ls (e:En) (a:Ak):CN e (ed e a).en:=CU _ ⟨[],false,e⟩
theorem Lt (e:En) (f:List Se) (top:Int):CN e (iF e f top):=by
 unfold iF;split
 .exact CN.refl e
 .split<;>exact⟨rfl,rfl⟩
theorem Ow (e:En) (m:List Sp) (f:List Se):CN e (kv e m f):=by
 unfold kv;split<;>exact⟨rfl,rfl⟩
theorem XE (e:En) (f:List Se):CN e (kE e f):=by
 unfold kE;split<;>exact⟨rfl,rfl⟩
theorem Sy (e:En) (f:List Se) (l:Bool):CN e (lQ e f l):=by
 unfold lQ;split<;>exact⟨rfl,rfl⟩
theorem Sv (e:En):CN e (nN e):=by
 unfold nN;split<;>exact⟨rfl,rfl⟩
theorem XD (e:En) (a:Ak):CN e (qh e a):=by
 rw[yA];refine CN.trans ?_ (Sv _);refine CN.trans (b:=lQ _ _ _) ?_ ⟨rfl,rfl⟩;refine CN.trans ?_ (Sy _ _ _);refine CN.trans ?_ (XE _ _);refine CN.trans ?_ (JU _ _ _);refine CN.trans ?_ (Ow _ _ _);refine CN.trans ?_ (Mw _);refine CN.trans (b:=iF _ _ _) ?_ ⟨rfl,rfl⟩;refine CN.trans ?_ (Lt _ _ _);exact Ls e a
theorem cn_on1 (e:En) (b:List Int):CN e (xw e b).en:=by
 rw[Gc];split
 .exact CN.refl e
 .dsimp only
  unfold onE;split
  .exact⟨rfl,rfl⟩
  .split
   .refine CN.trans ?_ (XD _ _)
    exact⟨rfl,rfl⟩
   .exact⟨rfl,rfl⟩
theorem Su (e:En):CN e (eH e):=by
 unfold eH;split<;>exact⟨rfl,rfl⟩
theorem Sw (e:En) (p:Pi):CN e (jH e p).en:=(Su e).trans ⟨rfl,rfl⟩
theorem JS (e:En):CN e (WQ e).en:=by
 rw[vk];split
 (.exact CN.refl e);split
 (.exact⟨rfl,rfl⟩);unfold uS;split
 (.exact CN.refl e);split
 (.exact CN.refl e);split
 (.exact⟨rfl,rfl⟩);split
 (.exact CN.refl e);split
 .refine CN.trans ?_ (Sw _ _)
  exact⟨rfl,rfl⟩
 .exact CN.refl e
theorem IP:∀(c:Nat) (a:En) (b:Int),(WK (c+1) a b).en.c=a.c/\(WK (c+1) a b).en.now=max a.now b
 |0,a,b=>by
  have h:=JS (nO a b);unfold WK;split
  .exact⟨h.1,h.2⟩
  .exact⟨h.1,h.2⟩
 |c+1,a,b=>by
  have h:(fD a b).en.c=a.c/\(fD a b).en.now=max a.now b:=JS (nO a b);unfold WK;split
  .exact h
  .have d:=IP c (fD a b).en b
   rw[h.1,h.2]at d;exact⟨d.1,by rw[d.2];omega⟩
theorem VQ (e:En) (b:List Int) (now:Int):(lU e b now).en.c=e.c/\(lU e b now).en.now=max e.now now:=cn_on1 (nO e now) b
theorem OV (e:En) (now:Int):(kr e now).c=e.c/\(kr e now).now=max e.now now:=XC (nO e now)
theorem Ng (n:Int) (w:World):Yk 206 #[uI n] w λj l=>(∃b:Nat,j=.returned (jI b)/\b=eU n/\b<=8)/\w=l:=by
 (have c:∀b:Nat,(b=eU n->b<=8):=λb k=>by rw[k];unfold eU;(repeat' split)<;>omega);go_enter Tryz.func206,Tryz.ntmps206;go_upto_if 4 with fail;by_cases e:4611686018427387903<n
 .rw[bM e]
  go_wp2;go_ret;(have h:0=eU n:=by unfold eU;(repeat' split)<;>omega);exact⟨⟨0,rfl,h,c _ h⟩,rfl⟩
 rw[bJ e];go_upto_if 6 with fail;by_cases f:1073741824<=n
 .rw[bM f]
  go_wp2;go_ret;(have h:8=eU n:=by unfold eU;(repeat' split)<;>omega);exact⟨⟨8,rfl,h,c _ h⟩,rfl⟩
 rw[bJ f];go_upto_if 8 with fail;by_cases i:16384<=n
 .rw[bM i]
  go_wp2;go_ret;(have h:4=eU n:=by unfold eU;(repeat' split)<;>omega);exact⟨⟨4,rfl,h,c _ h⟩,rfl⟩
 rw[bJ i];go_upto_if 10 with fail;by_cases d:64<=n
 .rw[bM d]
  go_wp2;go_ret;(have h:2=eU n:=by unfold eU;(repeat' split)<;>omega);exact⟨⟨2,rfl,h,c _ h⟩,rfl⟩
 rw[bJ d];go_wp2;go_ret;(have h:1=eU n:=by unfold eU;(repeat' split)<;>omega);exact⟨⟨1,rfl,h,c _ h⟩,rfl⟩
structure Mine (w:World) (base:Nat) (v:Value) (n:Nat):Prop where
 ex:∃a c l,v=.slice a l.length c/\OwnAt w (λk=>base<=k) 5 1 a l.length c (l.flatMap byV)/\dP l/\l.length<=n
theorem Mine.mono {base n m:Nat} {v:Value} (h:Mine w base v n) (j:n<=m):Mine w base v m:=by
 obtain⟨a,b,f,c,d,e,i⟩:=h.ex;exact⟨a,b,f,c,d,e,oM⟩
theorem Mine.below {base n:Nat} {v:Value} (h:Mine w base v n) (hb:bW w w'):Mine w' base v n:=by
 obtain⟨a,b,i,c,d,e,f⟩:=h.ex;exact⟨a,b,i,c,d.below hb,e,f⟩
theorem Mine.low {base b n:Nat} {v:Value} (h:Mine w base v n) (hb:b<=base):Mine w b v n:=by
 obtain⟨a,c,k,d,e,f,i⟩:=h.ex;exact⟨a,c,k,d,e.mono (λl j=>ay hb j),f,i⟩
theorem JY (h:dP l) (hy:0<=y/\y<256):dP (l++[y]):=λc b=>by
 rcases WB.1 b with b|b
 .exact h c b
 .rw[dZ.1 b];exact hy
theorem Mine.one {base g:Nat} (h:Blk w g 5 #[.int .u8 y]) (hy:0<=y/\y<256) (hb:base<=g):Mine w base (.slice (some ⟨g,0,none⟩) 1 1) 1:=
 ⟨_,_,[y],rfl,(h.own (xs:=[Value.int .u8 y]) rfl rfl sM).mono (λd b=>by rw[b];exact hb),JY (l:=[]) (λe c=>by cases c) hy,av _⟩
section
variable {base n g:Nat} {v:Value} {y:Int} {w:World} {ops:Array Oper} {rest:List Oper} {o:Oper} {a:Act} {K:Act->World->Prop} {Q:X7}
theorem sQ (q:o.guard=none) (s x:Operand) (u:o.op=.call {callee:=.builtin .append,args:= #[s,x],argTypes:= #[47,47]})
  (A:a.eval s=v) (r:Mine w base v n) (B:a.eval x=.slice (some ⟨g,0,none⟩) 1 1) (p:Blk w g 5 #[.int .u8 y]) (hy:0<=y/\y<256) (F:n<=1000000) (hb:base<=w.heap.size)
  (h:∀e c,Mine c base e (n+1)->Below base w c->Go.wpList prog ops Q rest (a.put o.dst e) c):Go.wpList prog ops Q (o::rest) a w:=by
 obtain⟨f,j,d,rfl,l,m,D⟩:=r.ex;refine fe.jO q s x u f j d A l (some ⟨g,0,none⟩) 1 [y] B (fe.single y p rfl) sO dC (λi k c z t _=>h _ c ⟨i,k,d++[y],rfl,z.mono ?_,JY m hy,by simp;omega⟩ (t.cZ hb (λC b E=>by omega)));intro C b;rcases b with b|b
 .exact b
 .exact ay hb b.1
end
theorem u8_in (x:Int):0<=IntKind.u8.wrap x/\IntKind.u8.wrap x<256:=by simp[IntKind.wrap,IntKind.bits,IntKind.signed];omega
theorem ny (x:Int):Word (IntKind.u64.wrap x):=by simp[Word,IntKind.wrap,IntKind.bits,IntKind.signed];omega
theorem SE (o:BinOp) (a b:Int):0<=bits o .u8 a b/\bits o .u8 a b<256:=u8_in _
theorem zq (o:BinOp) (a b:Int):Word (bits o .u64 a b):=by
 show Word (IntKind.u64.wrap _);simp[Word,IntKind.wrap,IntKind.bits,IntKind.signed];omega
theorem Il (base:Nat) (v:Value) (m:Nat) (n:Int) (S:Word n) (w:World) (h:Mine w base v m) (R:m<=100000) (hb:base<=w.heap.size):
  Yk 196 #[v,uI n] w λs k=>∃j,s=.returned j/\Mine k base j (m+8)/\Below base w k:=by
 have z:=zH h;clear h;go_enter Tryz.func196,Tryz.ntmps196;go_wp2_with fail;refine(Ng n _).mono ?_;rintro s V ⟨⟨i,rfl,-,P⟩,rfl⟩;go_wp2;go_loopg [6,7] i (λd F G wr=>∃b:Int,F=jI b/\G=jI d/\0<=b/\b+d<=8/\wr=w);(case atStart=>exact⟨0,rfl,rfl,dC,oM,rfl⟩);case round=>
  obtain⟨b,rfl,rfl,L,M,rfl⟩:=hrel;by_cases O:1<gk
  .have C:decide ((1:Int)<(gk:Int))=true:=bM oM
   have I:IntKind.i64.wrap (b+1)=b+1:=eP _ ⟨oM,oM⟩;go_wp2;go_roundg (gk/2);(case measure=>omega);case rel=>exact⟨_,rfl,by congr 1,oM,oM,rfl⟩
  .have C:decide ((1:Int)<(gk:Int))=false:=bJ oM
   go_wp2;go_loopg [0,8] i (λd E H wx=>H=jI ((d:Int) -1)/\d<=i/\X3 (Mine wx base E (m+(i -d)))/\X3 (Below base wr wx));(case atStart=>exact⟨rfl,av _,zH (z.o.mono oM),zH (aj _ _)⟩);case round=>
    obtain⟨rfl,N,r,c⟩:=hrel;by_cases U:0<gk
    .have D:decide ((0:Int)<=(gk:Int) -1)=true:=bM oM
     have J:IntKind.i64.wrap (8*((gk:Int) -1))=8*((gk:Int) -1):=eP _ ⟨oM,oM⟩;go_upto_region 11 with fail;have u:=λl:Int=>(⟨iQ l dC,iN l dC⟩:0<=l%256/\l%256<256);generalize x:_%(256:Int)=y;(have t:0<=y/\y<256:=by rw[<-x];exact u _);clear x u;have A:=zH t;have T:=ay hb c.o.size;clear t;go_upto_if 35 with fail;generalize((gk:Int) -1==(i:Int) -1)=B;cases B with
     |false=>
      go_wp2_with (at_builtin;refine sQ rfl (.tmp 41) (.tmp 43) rfl (by rfl) (r.o.below BEL) (by rfl) (Wx _ _ _) A.o oM (by have:=c.o.size;simp;omega) ?_;intro j k f e;have q:=zH f;have p:=zH e;clear f e);go_roundg (gk -1);(case measure=>omega);case rel=>exact⟨by congr 1;omega,oM,zH (q.o.mono oM),zH (c.o.trans ((show Below base wr (wr.alloc (.cells #[.int .u8 y] 5))from BEL).trans p.o))⟩
     |true=>
      go_wp2_with (at_builtin;refine sQ rfl (.tmp 41) (.tmp 43) rfl (by rfl) (r.o.below BEL) (by rfl) (Wx _ _ _) (SE _ _ _) oM (by have:=c.o.size;simp;omega) ?_;intro j k f e;have q:=zH f;have p:=zH e;clear f e);go_roundg (gk -1);(case measure=>omega);case rel=>exact⟨by congr 1;omega,oM,zH (q.o.mono oM),zH (c.o.trans (bD BEL p.o))⟩
    .have D:decide ((0:Int)<=(gk:Int) -1)=false:=bJ oM
     go_wp2;go_ret;exact⟨_,rfl,r.o.mono oM,c.o⟩
theorem BK (base:Nat) (v:Value) (m:Nat) (n:Int) (C:Word n) (w:World) (h:Mine w base v m) (B:m<=100000) (hb:base<=w.heap.size):
  Yk 135 #[v,uI n] w λr f=>∃e,r=.returned e/\Mine f base e (m+8)/\Below base w f:=by
 have p:=zH h;clear h;go_enter Tryz.func135,Tryz.ntmps135;go_wp2;go_loopg [0,5] 8 (λd u x wx=>x=jI ((d:Int) -1)/\d<=8/\X3 (Mine wx base u (m+(8 -d)))/\X3 (Below base w wx));(case atStart=>exact⟨rfl,dC,zH (p.o.mono oM),zH (aj _ _)⟩);case round=>
  obtain⟨rfl,A,k,b⟩:=hrel;by_cases E:0<gk
  .have s:decide ((0:Int)<=(gk:Int) -1)=true:=bM oM
   have z:IntKind.i64.wrap (8*((gk:Int) -1))=8*((gk:Int) -1):=eP _ ⟨oM,oM⟩;have t:=λc:Int=>(⟨iQ c dC,iN c dC⟩:0<=c%256/\c%256<256);have D:=ay hb b.o.size;go_wp2_with (at_builtin;refine sQ rfl (.tmp 10) (.tmp 18) rfl (by rfl) (k.o.below BEL) (by rfl) (Wx _ _ _) (t _) oM (by have:=b.o.size;simp;omega) ?_;intro e f j i;have q:=zH j;have l:=zH i;clear j i);go_roundg (gk -1);(case measure=>omega);case rel=>exact⟨by congr 1;omega,oM,zH (q.o.mono oM),zH (b.o.trans (bD BEL l.o))⟩
  .have s:decide ((0:Int)<=(gk:Int) -1)=false:=bJ oM
   go_wp2;go_ret;exact⟨_,rfl,k.o.mono oM,b.o⟩
theorem Row.lowb {S:X4} {size n base:Nat} {a:X5} {xs:List Value} (h:Row w S t size a n xs) (c:∀b,S b->b<base) (hb:Below base w w'):Row w' S t size a n xs:=
 h.keep (ts:=[some t]) (λb o e d _=>(hb.block b (c b e)).trans d) sM
theorem RN {S:X4} {base j:Nat} {a:X5} {l:List Sp} (h:Sps w S a l) (i:∀p,S p->p<base) (q:j<l.length):
  ∃b c,a=some ⟨b,c,none⟩/\∀d,Below base w d->d.cell? ⟨b,c+j*2,none⟩=some (uI l[j].lo)/\d.cell? ⟨b,c+j*2+1,none⟩=some (uI l[j].hi):=by
 obtain⟨b,c,e,m,x,u⟩:=Row.at_ h oM;obtain⟨t,z,f,-,r,s⟩:=h.at_ (aj _ _) q;rw[e]at f;cases f;exact⟨b,c,e,λd k=>⟨(k.cell (i _ m)).trans r,(k.cell (i _ m)).trans s⟩⟩
theorem Ae (base:Nat) (v:Value) (m:Nat) (S:X4) (a:X5) (c:Nat) (l:List Sp) (w:World) (h:Mine w base v m) (b0:m<=10000) (hb:base<=w.heap.size) (J:Sps w S a l) (a0:∀M,S M->M<base) (a8:l.length<=100) (L:∀f∈l,Word f.lo/\Word f.hi):
  Yk 134 #[v,.slice a l.length c] w λj s=>∃r,j=.returned r/\Mine s base r (m+1+16*l.length)/\Below base w s:=by
 obtain⟨R,X,Y⟩:=Av h J L;clear h J L;have b8:(l.length:Int)%256=l.length:=oM;go_enter Tryz.func134,Tryz.ntmps134;go_wp2_with (at_builtin;refine sQ rfl (.tmp 7) (.tmp 11) rfl (by rfl) (R.o.below BEL) (by rfl) (Wx _ _ _) ⟨oM,oM⟩ oM sO ?_;intro r s F A;have T:=zH F;have P:=zH (bD (show Below base w _ from BEL) A);clear F A);go_loopg [0,5,6] l.length (λp a3 N a4 wx=>∃q,N=uI q/\a4=jI ((l.length:Int) -p)/\Word q/\p<=l.length/\X3 (Mine wx base a3 (m+1+16*(l.length -p)))/\X3 (Below base w wx));(case atStart=>exact⟨0,rfl,by congr 1;omega,⟨dC,dC⟩,av _,zH (T.o.mono oM),P⟩);case round=>
  obtain⟨q,rfl,rfl,a9,a6,I,b⟩:=hrel;by_cases b2:0<gk
  .have Z:decide ((l.length:Int) -gk<l.length)=true:=bM oM
   have D:l.length -gk<l.length:=oM;have a1:(l.length:Int) -gk=((l.length -gk:Nat):Int):=oM;obtain⟨a5,b5,rfl,E⟩:=RN X.o a0 D;have b1:=Y.o _ (aN D);generalize l[l.length -gk]=f at*
   obtain⟨b3,a7⟩:=f;have a2:=ay hb b.o.size;rw[a1];have i:=zH E;clear E;obtain⟨d,e⟩:=i.o _ b.o;go_wp2_with fail;refine(Il base _ _ _ (ny _) wr I.o oM a2).mono ?_;rintro j O ⟨N,rfl,G,B⟩;obtain⟨U,u⟩:=yx G (b.o.trans B);clear G B d e;obtain⟨d,e⟩:=i.o _ u.o;go_upto_region 7 with fail;refine bP 12 kR kR ?_;refine mD ?_;refine mR ?_;rintro t ⟨b4,k⟩;obtain⟨x,V⟩:=yx (u.o.trans (show Below base O t by rw[k];exact aA (aj _ _) _)) (U.o.below (show bW O t by rw[k];exact aA (aj _ _) _));clear k d e;refine dA rfl rfl ?_;go_simp;go_at_call 196;refine(Il base _ _ _ (ny _) t V.o oM (ay hb x.o.size)).mono ?_;rintro j b7 ⟨b6,rfl,H,C⟩;obtain⟨W,z⟩:=yx H (x.o.trans C);clear H C;go_simp;refine mR ?_;obtain⟨d,e⟩:=i.o _ z.o;go_wp2;go_roundg (gk -1);(case measure=>omega);case rel=>exact⟨_,rfl,by congr 1;omega,ny _,oM,zH (W.o.mono oM),z⟩
  .have Z:decide ((l.length:Int) -gk<l.length)=false:=bJ oM
   go_wp2;go_ret;exact⟨_,rfl,I.o.mono oM,b.o⟩
theorem sG (w:World) (c1:Array Value) (b:TypeId) (c2:Array Value) (c:TypeId):
  Blk ((w.alloc (.cells c1 b)).alloc (.cells c2 c)) w.heap.size b c1/\Blk ((w.alloc (.cells c1 b)).alloc (.cells c2 c)) (w.heap.size+1) c c2:=by
 have d:=Wx (w.alloc (.cells c1 b)) c c2;have e:(w.alloc (.cells c1 b)).heap.size=w.heap.size+1:=sM;rw[e]at d;exact⟨(Wx w b c1).alloc _,d⟩
theorem ve (S:X4) (a1 a2:X5) (c1 c2:Nat) (l m:List Sp) (s x:Int) (r:Bool) (w:World) (L:Sps w S a1 l) (M:Sps w S a2 m) (b5:∀b,S b->b<w.heap.size) (b7:l.length<=100) (b8:m.length<=100) (W:∀j∈l,Word j.lo/\Word j.hi) (X:∀j∈m,Word j.lo/\Word j.hi) (b9:Word s) (c0:Word x):
  Yk 56 #[.agg #[.slice a1 l.length c1,.slice a2 m.length c2,uI s,uI x,bV r]] w λd u=>∃t,d=.returned t/\Mine u w.heap.size t 4000/\bW w u:=by
 obtain⟨a5,a6,b3,b4⟩:=Bq L M W X;clear L M W X;go_enter Tryz.func56,Tryz.ntmps56;go_wp2_with fail;obtain⟨c,e⟩:=eX ((w.alloc (.cells #[.slice a1 l.length c1,.slice a2 m.length c2,uI s,uI x,bV r] 92)).alloc (.cells #[.int .u8 2] 5));obtain⟨G,H⟩:=sG w #[.slice a1 l.length c1,.slice a2 m.length c2,uI s,uI x,bV r] 92 #[.int .u8 2] 5;rw[<-e]at G H;(have q:bW w c:=by rw[e];exact BEL);(have d1:c.heap.size=w.heap.size+2:=by rw[e];simp);obtain⟨p,b1,b2,c6,a7,I⟩:=Fy G (show Sps c S a1 l from aD a5.o q) (show Sps c S a2 m from aD a6.o q) (aj (w.heap.size+1) c) (Mine.one H dC (av _)) q;have E:∀b,S b->b<w.heap.size+1:=λb b6=>Nat.lt_succ_of_lt (b5 b b6);rw[<-e];clear e G H q;refine(Ae (w.heap.size+1) _ 1 S a1 c1 l c a7.o dC oM b1.o E b7 b3.o).mono ?_;rintro d c3 ⟨d3,rfl,R,F⟩;obtain⟨a8,A⟩:=yx R F;have Y:=p.o.below F oM;have c7:=Y.Wu 1;clear R F Y;go_wp2_with fail;refine(Ae (w.heap.size+1) _ _ S a2 c2 m c3 a8.o oM (by have:=A.o.size;omega) (Row.lowb b2.o E A.o) E b8 b4.o).mono ?_;rintro d c4 ⟨d4,rfl,T,N⟩;obtain⟨a9,B⟩:=yx T (A.o.trans N);have Z:=p.o.below B.o oM;have c8:=Z.Wu 2;clear T N Z;go_wp2_with fail;refine(BK (w.heap.size+1) _ _ _ b9 c4 a9.o oM (by have:=B.o.size;omega)).mono ?_;rintro d c5 ⟨d5,rfl,U,O⟩;obtain⟨b0,C⟩:=yx U (B.o.trans O);have a0:=p.o.below C.o oM;have c9:=a0.Wu 3;clear U O a0;go_wp2_with fail;refine(BK (w.heap.size+1) _ _ _ c0 c5 b0.o oM (by have:=C.o.size;omega)).mono ?_;rintro d a4 ⟨d6,rfl,V,P⟩;obtain⟨J,k⟩:=yx V (C.o.trans P);have a3:=p.o.below k.o oM;have d0:=a3.Wu 4;have d2:=k.o.size;clear V P a3;cases r with
 |true=>
  go_wp2_with (at_builtin;refine sQ rfl (.tmp 22) (.tmp 23) rfl (by rfl) (J.o.below BEL) (by rfl) (Wx _ _ _) dC oM sO ?_;intro t u i f;have D:=zH i;have z:=zH (bD (show Below (w.heap.size+1) a4 _ from BEL) f);clear i f);go_ret;exact⟨_,rfl,(D.o.mono oM).low (Nat.le_succ _),I.o.trans (((k.o.trans z.o)).mono (Nat.le_succ _))⟩
 |false=>
  go_wp2_with (at_builtin;refine sQ rfl (.tmp 25) (.tmp 26) rfl (by rfl) (J.o.below BEL) (by rfl) (Wx _ _ _) dC oM sO ?_;intro t u i f;have D:=zH i;have z:=zH (bD (show Below (w.heap.size+1) a4 _ from BEL) f);clear i f);go_ret;exact⟨_,rfl,(D.o.mono oM).low (Nat.le_succ _),I.o.trans (((k.o.trans z.o)).mono (Nat.le_succ _))⟩
theorem Ni (S:X4) (p:Nat) (d l:Int) (a:List Se) (c:Int) (w:World) (h:Dw w S p d l a) (x:a.length<=1000000000) (D:0<=d) (E:d<=1000000) (C:Word c) (t:∀b∈a,Word b.bX):
  Yk 129 #[pT p,uI c] w λA n=>(∃(b:Se) (k:Bool),A=.returned (.tuple #[.agg #[uI b.pn,uI b.off,uI b.len,uI b.bX,uI b.sat,bV b.rE,bV b.used,jI b.aS],bV k])/\Word b.bX)/\bW w n:=by
 obtain⟨i,o⟩:=yx (λn (e:bW w n)=>h.below e) t;obtain⟨V,P⟩:=C;clear h t;go_enter Tryz.func129,Tryz.ntmps129;go_wp2_with fail;refine Yd (Yu S p d l a _ (i.o _ BEL) x D E) ?_;rintro W ⟨N,rfl⟩;have j:=zH (i.o (((w.alloc (.cells #[uI 0,uI 0,uI 0,uI 0,uI 0,bV false,bV false,jI 0] 177))).drewN N) BEL);clear i;by_cases m:c<max 0 ((a.length:Int) -d)
 .have u:decide (c<max 0 ((a.length:Int) -d))=true:=bM m
  go_wp2;refine mZ ?_;exact⟨⟨seZ,false,rfl,⟨dC,dC⟩⟩,BEL⟩
 .have u:decide (c<max 0 ((a.length:Int) -d))=false:=bJ m
  go_wp2_with fail;refine Yg (BI S p d l a _ j.o x) ?_;by_cases e:(a.length:Int)<=c
  .have v:decide ((a.length:Int)<=c)=true:=bM e
   go_wp2;refine mZ ?_;exact⟨⟨seZ,false,rfl,⟨dC,dC⟩⟩,BEL⟩
  .have v:decide ((a.length:Int)<=c)=false:=bJ e
   go_upto_region 3 with fail;obtain⟨f,g⟩:∃f:Nat,c=f:=⟨c.toNat,oM⟩;subst g;have g:f<a.length:=oM;obtain⟨R,z,r,s,B⟩:=j.o.ex;obtain⟨k,O,rfl,U,F,G,H,I,J,K,L,M⟩:=Ses.at_ s (aj _ _) g;have y:=o.o _ (aN g);have T:World.cell? _ ⟨p,2,none⟩=some (.slice (some ⟨k,O,none⟩) a.length z):=r.cell 2;have q:=zH y;have X:(f:Int)<9223372036854775808:=oM;clear y r s o j m u e v P B;generalize a[f]=Q at F G H I J K L M q;go_wp2;refine mZ ?_;exact⟨⟨Q,true,rfl,q.o⟩,BEL⟩
theorem Ia {S:X4} {j:Nat} {a:X5} {l:List Sp} (h:Sps w S a l) (n:j<l.length):
  ∃c d,a=some ⟨c,d,none⟩/\∀e,bW w e->(e.cell? ⟨c,d+j*2,none⟩=some (uI l[j].lo)/\e.cell? ⟨c,d+j*2+1,none⟩=some (uI l[j].hi))/\∀b (f:b<l.length),e.cell? ⟨c,d+b*2,none⟩=some (uI l[b].lo)/\e.cell? ⟨c,d+b*2+1,none⟩=some (uI l[b].hi):=by
 obtain⟨c,d,g,r,u,s⟩:=Row.at_ h oM;refine⟨c,d,g,λe m=>?_⟩;have k:∀b (f:b<l.length),e.cell? ⟨c,d+b*2,none⟩=some (uI l[b].lo)/\e.cell? ⟨c,d+b*2+1,none⟩=some (uI l[b].hi):=λb f=>by
  obtain⟨q,v,i,t,o,p⟩:=h.at_ m f;rw[g]at i;cases i;exact⟨o,p⟩
 exact⟨k j n,k⟩
theorem Ec (S:X4) (a:X5) (c:Nat) (l:List Sp) (w:World) (h:Sps w S a l) (U:l.length<=1000000000):
  Yk 130 #[.slice a l.length c] w λF K=>(∃g,F=.returned (bV g))/\bW w K:=by
 have z:=zH h;clear h;go_enter Tryz.func130,Tryz.ntmps130;go_wp2;go_loopg [3] l.length (λb J wx=>J=jI ((l.length:Int) -b)/\b<=l.length/\X3 (bW w wx));(case atStart=>exact⟨by congr 1;omega,av _,zH (aj _ _)⟩);case round=>
  obtain⟨rfl,Q,e⟩:=hrel;by_cases V:0<gk
  .have q:decide ((l.length:Int) -gk<l.length)=true:=bM oM
   have r:l.length -gk<l.length:=oM;have s:(l.length:Int) -gk=((l.length -gk:Nat):Int):=oM;obtain⟨g,W,rfl,t⟩:=Ia z.o r;obtain⟨⟨v,x⟩,u⟩:=t _ e.o;clear t;go_upto_region 4 with fail;rw[s];clear s q;have k:l.length -(l.length -gk)=gk:=oM;generalize l[l.length -gk]=I at*
   obtain⟨j,d⟩:=I;obtain⟨b,i⟩:=eX (l.length -gk);rw[<-i]at r v x k;rw[<-i];dsimp only at v x;have y:=zH u;have T:(b:Int)<l.length:=oM;have R:IntKind.i64.wrap ((b:Int)+1)=(b:Int)+1:=eP _ ⟨oM,oM⟩;obtain⟨m,L⟩:=yx i k;clear u i k;by_cases n:d<j
   .have B:decide (d<j)=true:=bM n
    refine mQ ?_;rintro _ ⟨nq,rfl⟩;go_wp2;go_ret;exact⟨by first|exact⟨_,rfl⟩|simp,aA e.o _⟩
   have B:decide (d<j)=false:=bJ n;by_cases o:4611686018427387903<d
   .have C:decide (4611686018427387903<d)=true:=bM o
    refine mQ ?_;rintro _ ⟨nq,rfl⟩;go_wp2;go_ret;exact⟨by first|exact⟨_,rfl⟩|simp,aA e.o _⟩
   have C:decide (4611686018427387903<d)=false:=bJ o;by_cases p:0<b
   .obtain⟨f,d⟩:=eX (b -1)
    have D:decide ((0:Int)<(b:Int))=true:=bM oM;have E:decide (0<b)=true:=bM oM;have M:(b:Int) -1=f:=oM;have N:(f:Int)<l.length:=oM;have O:f<l.length:=oM;obtain⟨H,X⟩:=y.o f oM;generalize l[f].hi=G at*
    clear H d p;obtain⟨A,P⟩:∃g,decide (j<=IntKind.u64.wrap (G+1))=g:=⟨_,rfl⟩;cases A with
    |true=>
     refine mQ ?_;rintro _ ⟨nq,rfl⟩;go_wp2;go_ret;exact⟨by first|exact⟨_,rfl⟩|simp,aA e.o _⟩
    |false=>
     refine mQ ?_;rintro _ ⟨nq,rfl⟩;go_wp2;go_roundg (gk -1);(case measure=>omega);case rel=>have:=m.o;exact⟨by congr 1;omega,oM,zH (aA e.o _)⟩
   .have D:decide ((0:Int)<(b:Int))=false:=bJ oM
    have E:decide (0<b)=false:=bJ oM;clear p;refine mQ ?_;rintro _ ⟨nq,rfl⟩;go_wp2;go_roundg (gk -1);(case measure=>omega);case rel=>have:=m.o;exact⟨by congr 1;omega,oM,zH (aA e.o _)⟩
  .have q:decide ((l.length:Int) -gk<l.length)=false:=bJ oM
   go_wp2;go_ret;exact⟨by first|exact⟨_,rfl⟩|simp,e.o⟩
theorem Pz (S d:X4) (p:Nat) (e x:Int) (a:List Se) (a1 a2:X5) (c1 c2:Nat) (l m:List Sp) (w:World) (h:Dw w S p e x a) (D:a.length<=1000000000) (X:0<=e) (Y:e<=1000000) (M:∀I∈a,Word I.bX)
  (f:Sps w d a1 l) (i:Sps w d a2 m) (V:l.length<=1000000000) (W:m.length<=1000000000):
  Yk 55 #[pT p,.slice a1 l.length c1,.slice a2 m.length c2] w λr b=>(∃(n:Int) (z c9:Bool),r=.returned (.tuple #[uI n,bV z,bV c9])/\Word n)/\bW w b:=by
 obtain⟨q,s,J,b2⟩:=Bq (λb (j:bW w b)=>h.below j) (λb (j:bW w b)=>(show Sps b d a1 l from aD f j)) (λb (j:bW w b)=>(show Sps b d a2 m from aD i j)) M;clear h f i M;go_enter Tryz.func55,Tryz.ntmps55;go_wp2_with fail;refine(Ec d a1 c1 l w (s.o _ (aj _ _)) V).mono ?_;rintro r d6 ⟨⟨c5,rfl⟩,N⟩;have o:=zH N;clear N;cases c5 with
 |false=>
  go_wp2_with fail;go_ret3;exact⟨⟨0,_,_,rfl,⟨dC,dC⟩⟩,o.o⟩
 |true=>
  go_wp2_with fail;refine(Ec d a2 c2 m d6 (J.o _ o.o) W).mono ?_;rintro r d7 ⟨⟨c6,rfl⟩,O⟩;have t:=zH (o.o.trans (O.mono o.o.size));clear O o;cases c6 with
  |false=>
   go_wp2_with fail;go_ret3;exact⟨⟨0,_,_,rfl,⟨dC,dC⟩⟩,t.o⟩
  |true=>
   go_wp2_with fail;refine Yd (Yu S p e x a d7 (q.o _ t.o) D X Y) ?_;rintro b0 ⟨f3,Z⟩;have g:=zH (show bW w b0 by rw[Z];exact aA t.o _);clear Z t;go_wp2_with fail;refine Yd (Kv d a1 c1 l _ b0 (s.o _ g.o)) ?_;intro b rfl;generalize(decide (0<l.length)&&decide ((l.getD 0 ⟨0,0⟩).lo<max 0 ((a.length:Int) -e)))=c7;cases c7 with
   |true=>
    go_wp2_with fail;go_ret3;exact⟨⟨0,_,_,rfl,⟨dC,dC⟩⟩,g.o⟩
   |false=>
    go_upto_region 4 with fail;have b3:=zH (λb (j:bW w b)=>BI S p e x a b (q.o _ j) D);go_cut [42] (λd2 wx=>(∃B:Bool,d2=bV B)/\X3 (bW w wx));case first=>
     by_cases e3:l.length=0
     .have c4:decide (0<l.length)=false:=bJ oM
      refine mQ ?_;rintro _ ⟨nq,rfl⟩;go_wp2;go_meet;exact⟨⟨_,rfl⟩,zH (aA g.o _)⟩
     .have c4:decide (0<l.length)=true:=bM oM
      have c8:l.length -1<l.length:=oM;obtain⟨B,d0,rfl,U⟩:=Ia (s.o _ g.o) c8;obtain⟨⟨F,G⟩,-⟩:=U _ (aj _ _);clear U;have e2:(l.length:Int) -1=((l.length -1:Nat):Int):=oM;generalize l[l.length -1].hi=e4 at*
      refine bN kR kR ?_;(repeat (go_big_quiet_step ((go_at_call 132;exact aJ ((b3.o _ (aA g.o _)).mono λr b h=>⟨h.1,h.2.symm⟩)))));refine aK ?_;rintro _ ⟨nq,rfl⟩;go_wp2;go_meet;exact⟨⟨_,rfl⟩,zH (aA g.o _)⟩
    case rest=>
     obtain⟨⟨b8,rfl⟩,u⟩:=hcut;clear g;go_step;cases b8 with
     |true=>
      go_wp2_with fail;go_ret3;exact⟨⟨0,_,_,rfl,⟨dC,dC⟩⟩,u.o⟩
     |false=>
      go_wp2_with fail;refine Yd (Yu S p e x a wc (q.o _ u.o) D X Y) ?_;rintro d8 ⟨f4,a0⟩;have b1:=zH (show bW w d8 by rw[a0];exact aA u.o _);clear a0 u;obtain⟨E,T⟩:∃y:Nat,max 0 ((a.length:Int) -e)=y:=⟨(max 0 ((a.length:Int) -e)).toNat,oM⟩;have e7:E<=a.length:=oM;rw[T];have f8:(E:Int)<9223372036854775808:=oM;clear T;go_wp2;go_loopg [10,11,12] (a.length -E) (λy d3 d4 d5 wx=>∃(n:Int) (z:Bool),d3=uI n/\d4=bV z/\d5=jI ((a.length:Int) -y)/\Word n/\y<=a.length/\X3 (bW w wx));(case atStart=>exact⟨0,false,rfl,rfl,by congr 1;omega,⟨dC,dC⟩,oM,b1⟩);case round=>
       obtain⟨n,z,rfl,rfl,rfl,a3,e6,c⟩:=hrel;by_cases f0:0<gk
       .have K:decide ((a.length:Int) -gk<a.length)=true:=bM oM
        obtain⟨b6,c0,f,i,L⟩:=(q.o _ c.o).ex;have c3:=f.Wu 2;have b5:=zH i;clear f i L;go_upto_region 10 with fail;obtain⟨k,P⟩:=eX (a.length -gk);have C:(a.length:Int) -gk=(k:Int):=oM;have R:k<a.length:=oM;have Q:a.length -k=gk:=oM;obtain⟨B,d0,rfl,e5,F,G,a4,a5,a6,a7,a8,a9⟩:=Ses.at_ b5.o (aj _ _) R;have b4:=zH (b2.o _ (aN R));generalize a[k]=I at F G a4 a5 a6 a7 a8 a9 b4;obtain⟨A,f6,f2,e1,f5,d1,f7,b7⟩:=I;dsimp only at F G a4 a5 a6 a7 a8 a9;rw[C];obtain⟨v,e0,d9⟩:=Av P C Q;have f1:(k:Int)<a.length:=oM;clear P Q C K;go_wp2_with fail;have e9:=c.o.size;have e8:IntKind.i64.wrap ((k:Int)+1)=(k:Int)+1:=eP _ ⟨oM,oM⟩;refine(Cq d a1 c1 l A _ (s.o _ (bD c.o BEL)) V).mono ?_;rintro r b ⟨rfl,rfl⟩;generalize dI l A=H;cases H with
        |false=>
         go_wp2;go_roundg (gk -1);(case measure=>omega);case rel=>have:=v.o;exact⟨_,_,rfl,rfl,by congr 1;omega,a3,oM,zH (bD c.o BEL)⟩
        |true=>
         go_upto_if 69 with fail;generalize(b7==(4:Int))=b9;cases b9 with
         |true=>
          go_wp2_with fail;go_ret3;exact⟨⟨0,_,_,rfl,⟨dC,dC⟩⟩,bD c.o BEL⟩
         |false=>
          cases d1 with
          |false=>
           go_wp2;go_roundg (gk -1);(case measure=>omega);case rel=>have:=v.o;exact⟨_,_,rfl,rfl,by congr 1;omega,zq _ _ _,oM,zH (bD c.o BEL)⟩
          |true=>
           go_wp2_with fail;refine Yg (Cq d a2 c2 m A _ (J.o _ (bD c.o BEL)) W) ?_;generalize dI m A=H;cases H with
           |false=>
            go_wp2;go_roundg (gk -1);(case measure=>omega);case rel=>have:=v.o;exact⟨_,_,rfl,rfl,by congr 1;omega,zq _ _ _,oM,zH (bD c.o BEL)⟩
           |true=>
            go_wp2;go_roundg (gk -1);(case measure=>omega);case rel=>have:=v.o;exact⟨_,_,rfl,rfl,by congr 1;omega,zq _ _ _,oM,zH (bD c.o BEL)⟩
       .have K:decide ((a.length:Int) -gk<a.length)=false:=bJ oM
        obtain⟨b6,c0,f,i,L⟩:=(q.o _ c.o).ex;have c3:=f.Wu 2;clear f i;go_wp2_with fail;go_ret3;exact⟨⟨_,_,_,rfl,a3⟩,c.o⟩
theorem Byt.at_ {tb:TypeId} {S:X4} {a:X5} {j:Nat} (h:Byt tb w S a l) (hb:bW w w') (g:j<l.length):
  ∃b c,a=some ⟨b,c,none⟩/\b<w.heap.size/\w'.cell? ⟨b,c+j,none⟩=some (.int .u8 l[j]):=by
 obtain⟨b,c,e,i,d,f⟩:=Row.at_ h oM;refine⟨b,c,e,d,(hb.cell (p:=⟨b,c+j,none⟩) d).trans (f j _ ?_)⟩;rw[vT];simp[g]
theorem YP {tb:TypeId} (S:X4) (a:X5) (c:Nat) (l:List Int) (k:Nat) (w:World) (h:Byt tb w S a l) (j:l.length<=140737488355328) (y:dP l) (a7:k<=l.length):
  Yk 77 #[.slice a l.length c,jI k] w λf Z=>f=.returned (.tuple #[uI (jU (l.drop k)).val,jI ((l.length:Int) -(jU (l.drop k)).left.length),jI (jU (l.drop k)).err])/\Z=w:=by
 have z:(l.drop k).length=l.length -k:=bI;have a2:IntKind.i64.wrap ((l.length:Int) -(k:Int))=(l.length:Int) -(k:Int):=eP _ ⟨oM,oM⟩;by_cases m:l.length<k+8
 .have f:jU (l.drop k)=⟨0,2,l.drop k⟩:=by unfold jU;rw[aB oM]
  have g:(l.length:Int) -((l.drop k).length:Int)=(k:Int):=oM;rw[f];dsimp only;rw[g];clear g f z;have O:decide ((l.length:Int) -(k:Int)<8)=true:=bM oM;go_enter Tryz.func77,Tryz.ntmps77;go_wp2;go_returns;exact⟨rfl,rfl⟩
 .have f:jU (l.drop k)=⟨eD 0 ((l.drop k).take 8),0,(l.drop k).drop 8⟩:=by unfold jU;rw[Ww oM]
  (have g:(l.length:Int) -(((l.drop k).drop 8).length:Int)=(k:Int)+8:=by rw[bI];omega);rw[f];dsimp only;rw[g];(have p:((l.drop k).take 8).length=8:=by rw[aT];omega);(have F:∀b:Nat,b<8->((l.drop k).take 8)[b]?=l[k+b]?:=λb A=>by rw[List.getElem?_take,aB A,List.getElem?_drop]);have x:dP ((l.drop k).take 8):=λq e=>y q (dW (bf e));have O:decide ((l.length:Int) -(k:Int)<8)=false:=bJ oM;have a3:IntKind.i64.wrap ((k:Int)+8)=(k:Int)+8:=eP _ ⟨oM,oM⟩;obtain⟨H,M⟩:=yx h F;generalize(l.drop k).take 8=d at*
  obtain⟨t,s,J,I⟩:=Bq p x j m;clear F p x g f z h y j m;go_enter Tryz.func77,Tryz.ntmps77;go_wp2;go_loopg [7,8] 8 (λQ X Y wr=>∃b:Nat,b+Q=8/\X=uI (eD 0 (d.take b))/\Y=jI (b:Int)/\wr=w);(case atStart=>exact⟨0,rfl,rfl,rfl,rfl⟩);case round=>
   obtain⟨b,A,rfl,rfl,rfl⟩:=hrel;by_cases U:b<8
   .have R:decide ((b:Int)<8)=true:=bM oM
    have p:=t.o;have r:b<d.length:=oM;obtain⟨G,o⟩:=eX (k+b);have m:=I.o;have j:=J.o;have C:G<l.length:=oM;(have a4:IntKind.i64.wrap ((k:Int)+(b:Int))=(G:Int):=by rw[o];exact eP _ ⟨oM,oM⟩);have a5:IntKind.i64.wrap ((b:Int)+1)=(b:Int)+1:=eP _ ⟨oM,oM⟩;obtain⟨a1,a9,rfl,a6,W⟩:=H.o.at_ (aj _ _) C;obtain⟨N,u⟩:=vK (n:=0) (l:=d.take b) (λq e=>s.o q (bf e)) 0 dC dC;(have B:(d.take b).length=b:=by rw[aT];omega);rw[B,Nat.zero_add]at u;have P:eD 0 (d.take b)<72057594037927936:=by
     have:(256:Int)^b<=256^7:=by
      have T:256^b<=256^7:=Nat.pow_le_pow_right dC oM;have v:=Int.ofNat_le.2 T;rw[Int.natCast_pow,Int.natCast_pow]at v;exact v
     have f:(256:Int)^7=72057594037927936:=dC;omega
    have e:=s.o _ (aN r);(have E:eD 0 (d.take (b+1))=eD 0 (d.take b)*256+d[b]:=by rw[bB r,ru]);have i:=M.o b U;rw[<-o,aL r,aL C]at i;injection i with i;rw[<-i]at W;have D:=yN N P e.1 e.2;obtain⟨L,K⟩:=yx E D;have b0:=e.1;have b1:=e.2;have a0:=zH o;clear u B e E D i j m p o;generalize eD 0 (d.take b)=a8 at*
    generalize d[b]=q at*
    go_wp2;go_roundg (7 -b);(case rel=>exact⟨b+1,oM,by rw[L.o,<-K.o],by congr 1,rfl⟩);case measure=>omega
   .obtain rfl:b=8:=oM
    have R:decide (((8:Nat):Int)<8)=false:=bJ oM;have V:d.take 8=d:=List.take_of_length_le (by rw[t.o];omega);rw[V];go_wp2;go_returns;exact⟨rfl,rfl⟩
theorem Y9 {tb:TypeId} (S:X4) (a:X5) (c:Nat) (l:List Int) (k:Nat) (w:World) (h:Byt tb w S a l) (A:l.length<=140737488355328) (G:dP l) (c9:k<=l.length):
  Yk 149 #[.slice a l.length c,jI k] w λj d7=>j=.returned (.tuple #[uI (eZ (l.drop k)).val,jI ((l.length:Int) -(eZ (l.drop k)).left.length),jI (eZ (l.drop k)).err])/\d7=w:=by
 have e4:IntKind.i64.wrap ((l.length:Int) -(k:Int))=(l.length:Int) -(k:Int):=eP _ ⟨oM,oM⟩;by_cases z:k<l.length
 .obtain⟨e,f,o⟩:∃e f,l.drop k=e::f:=⟨l[k],l.drop (k+1),aR z⟩
  (have x:l[k]=e:=by have:=aR z;rw[o]at this;injection this with c1 f0;exact c1.symm);(have J:f.length+1+k=l.length:=by have:=lY List.length o;rw[bI]at this;simp only[aY]at this;omega);have I:∀d:Nat,f[d]?=l[k+1+d]?:=λd=>by
   have:=lY (λm=>m[d+1]?) o;simp only[List.getElem?_cons_succ,List.getElem?_drop]at this;rw[<-this];congr 1;omega
  have y:=G _ (aN z);rw[x]at y;have U:dP f:=λm i=>G m (dW (o▸jQ _ i));obtain⟨e2,f5,rfl,f3,a7⟩:=h.at_ (aj _ _) z;rw[x]at a7;rw[o,Ex];obtain⟨b,j,q,f1,f2⟩:∃b:Nat,nM e=b/\wrap64 (2^(e/64).toNat)=(b:Int)/\1<=b/\b<=8:=by
   have c2:(e/64).toNat=0\/(e/64).toNat=1\/(e/64).toNat=2\/(e/64).toNat=3:=oM;refine⟨_,rfl,?_⟩;unfold nM;rcases c2 with h|h|h|h<;>rw[h]<;>exact⟨by simp[wrap64,IntKind.wrap,IntKind.bits,IntKind.signed],dC,dC⟩
  rw[j];have C:=zH q;clear q;have d8:=y.1;have d9:=y.2;have e6:decide ((l.length:Int)<=(k:Int))=false:=bJ oM;have e7:decide (l.length<=k)=false:=bJ oM;by_cases T:f.length+1<b
  .have c4:decide ((l.length:Int) -(k:Int)<(b:Int))=true:=bM oM
   rw[aB (show(e::f).length<b from T)];dsimp only;(have d2:(l.length:Int) -((e::f).length:Int)=(k:Int):=by simp only[aY];omega);rw[d2];clear o I j x;have q:=C.o;go_enter Tryz.func149,Tryz.ntmps149;go_wp2;go_returns;exact⟨rfl,rfl⟩
  .have c5:b<=f.length+1:=oM
   have c4:decide ((l.length:Int) -(k:Int)<(b:Int))=false:=bJ oM;rw[Ww (show¬(e::f).length<b from by simp only[aY];omega)];(have a5:(f.take (b -1)).length=b -1:=by rw[aT];omega);(have a4:∀d:Nat,d<b -1->(f.take (b -1))[d]?=l[k+1+d]?:=λd W=>by rw[List.getElem?_take,aB W,I]);have a3:dP (f.take (b -1)):=λm i=>U m (bf i);(have a0:(l.length:Int) -(((e::f).drop b).length:Int)=(k:Int)+(b:Int):=by rw[bI,aY];omega);(have a1:(l.length:Int) -((e::f).length:Int)=(k:Int):=by rw[aY];omega);obtain⟨p,t⟩:=eX ((if eU (eD (e%64) (f.take (b -1)))≠b then(⟨0,5,e::f⟩:Rd)else⟨eD (e%64) (f.take (b -1)),0,(e::f).drop b⟩));rw[<-t];have V:(eU (eD (e%64) (f.take (b -1)))=b->p.val=eD (e%64) (f.take (b -1))/\(l.length:Int) -(p.left.length:Int)=(k:Int)+(b:Int)/\p.err=0)/\(eU (eD (e%64) (f.take (b -1)))≠b->p.val=0/\(l.length:Int) -(p.left.length:Int)=(k:Int)/\p.err=5):=by
    refine⟨λr=>?_,λr=>?_⟩
    .rw[t,Ww oM];exact⟨rfl,a0,rfl⟩
    .rw[t,aB r];exact⟨rfl,a1,rfl⟩
   obtain⟨D,b0,b5⟩:=Av V h a4;generalize f.take (b -1)=g at*
   obtain⟨P,O,b2,b1⟩:=Bq a5 a3 A (show k+b<=l.length by omega);have e5:IntKind.i64.wrap ((k:Int)+(b:Int))=(k:Int)+(b:Int):=eP _ ⟨oM,oM⟩;clear t V h a4 a5 a3 a0 a1 o I j x G J U y T c5 A c9;have q:=C.o;go_enter Tryz.func149,Tryz.ntmps149;go_wp2_with fail;clear C;generalize wrap64 (2^(e/64).toNat)=e1 at q|-;subst q;go_loopg [8,9] (b -1) (λb8 d5 d6 wr=>∃d:Nat,d+b8=b -1/\d5=uI (eD (e%64) (g.take d))/\d6=jI ((d:Int)+1)/\wr=w);(case atStart=>exact⟨0,oM,rfl,rfl,rfl⟩);case round=>
    obtain⟨d,W,rfl,rfl,rfl⟩:=hrel;by_cases c8:d<b -1
    .have b9:decide ((d:Int)+1<(b:Int))=true:=bM oM
     have J:=P.o;have H:d<g.length:=oM;obtain⟨a8,B⟩:=eX (k+1+d);have d1:=b1.o;have A:=b2.o;have Y:a8<l.length:=oM;(have e8:IntKind.i64.wrap ((k:Int)+((d:Int)+1))=(a8:Int):=by rw[B,show(k:Int)+((d:Int)+1)=((k+1+d:Nat):Int) by omega];exact eP _ ⟨oM,oM⟩);have e9:IntKind.i64.wrap ((d:Int)+1+1)=(d:Int)+1+1:=eP _ ⟨oM,oM⟩;obtain⟨e3,f6,F,f4,d4⟩:=b0.o.at_ (aj _ _) Y;injection F with F;injection F with c6 c7;subst c6 c7;obtain⟨b6,Q⟩:=vK (n:=e%64) (l:=g.take d) (λm i=>O.o m (bf i)) 1 oM sO;(have X:(g.take d).length=d:=by rw[aT];omega);rw[X]at Q;have b7:eD (e%64) (g.take d)<72057594037927936:=by
      have:(256:Int)^(1+d)<=256^7:=by
       have c3:256^(1+d)<=256^7:=Nat.pow_le_pow_right dC oM;have R:=Int.ofNat_le.2 c3;rw[Int.natCast_pow,Int.natCast_pow]at R;exact R
      have j:(256:Int)^7=72057594037927936:=dC;omega
     have i:=O.o _ (aN H);(have a2:eD (e%64) (g.take (d+1))=eD (e%64) (g.take d)*256+g[d]:=by rw[bB H,ru]);have s:=b5.o d c8;rw[<-B,aL H,aL Y]at s;injection s with s;rw[<-s]at d4;have Z:=yN b6 b7 i.1 i.2;obtain⟨b4,b3⟩:=yx a2 Z;have f8:=i.1;have f9:=i.2;have e0:=zH B;clear Q X i a2 Z s A d1 J B a7 d8 d9;generalize eD (e%64) (g.take d)=a9 at*
     generalize g[d]=m at*
     go_wp2;go_roundg (b -2 -d);(case rel=>exact⟨d+1,oM,by rw[b4.o,<-b3.o],by congr 1,rfl⟩);case measure=>omega
    .have b9:decide ((d:Int)+1<(b:Int))=false:=bJ oM
     have d3:g.take d=g:=List.take_of_length_le (by rw[P.o];omega);rw[d3];have D:=D;generalize eD (e%64) g=a9 at*
     go_wp2_with fail;refine(Ng a9 _).mono ?_;rintro j f7 ⟨⟨N,rfl,a6,-⟩,rfl⟩;obtain⟨u,v⟩:=D.o;rw[<-a6]at u v;clear a6;by_cases r:N=b
     .have E:=zH (u r)
      (have c0:((N:Int)!=(b:Int))=false:=by rw[r];simp);clear u v;go_wp2;go_returns;obtain⟨K,L,M⟩:=E.o;exact⟨by rw[K,L,M];rfl,rfl⟩
     .have E:=zH (v r)
      have c0:((N:Int)!=(b:Int))=true:=sO;clear u v;go_wp2;go_returns;obtain⟨K,L,M⟩:=E.o;exact⟨by rw[K,L,M];rfl,rfl⟩
 .have j:l.drop k=[]:=List.drop_of_length_le oM
  have d0:k=l.length:=oM;subst d0;rw[j,Qe];go_enter Tryz.func149,Tryz.ntmps149;go_wp2;go_returns;exact⟨sM,rfl⟩
def YD (s:Sp) (b:List Sp):Bool:=b.any λa=>decide (a.lo<=s.lo)&&decide (s.hi<=a.hi)
def YV (a b:List Sp):Bool:=a.all λc=>YD c b
theorem YN (s:Sp):∀b:List Sp,∀a∈qU s b,a∈b
 |[],a,h=>h
 |y::t,a,h=>by
  unfold qU at h;split at h
  .exact jQ _ (YN s t a h)
  .exact h
theorem YJ:∀(e c b:List Sp),(∀a∈c,a∈b)->lI e c=true->YV e b=true
 |[],_,_,_,_=>rfl
 |s::t,c,b,hc,h=>by
  rw[Dm]at h;have d:=YN s c;generalize qU s c=i at h d;cases i with
  |nil=>cases h
  |cons a r=>
   dsimp only at h;by_cases f:s.lo<a.lo\/a.hi<s.hi
   .rw[aB f]at h;cases h
   .rw[Ww f]at h
    have j:=YJ t (a::r) b (λg k=>hc g (d g k)) h;show(YD s b&&YV t b)=true;rw[j,Bool.and_true];refine List.any_eq_true.2 ⟨a,hc a (d a kT),?_⟩;rw[bM oM,bM oM];rfl
theorem YY (S S':X4) (a:X5) (c:Nat) (l:List Sp) (a2:X5) (c2:Nat) (m:List Sp) (w:World) (h:Sps w S a l) (a0:l.length<=1000) (F:Sps w S' a2 m) (a1:m.length<=1000):
  Yk 78 #[.slice a l.length c,.slice a2 m.length c2] w λN T=>N=.returned (bV (YV l m))/\bW w T:=by
 obtain⟨L,K⟩:=yx h F;clear h F;obtain⟨o,x⟩:=eX (YV l m);rw[<-x];have C:=zH x.symm;clear x;go_enter Tryz.func78,Tryz.ntmps78;go_wp2;go_loopg [5,6,7] l.length (λv R I J wr=>∃e:Nat,e+v=l.length/\R=jI (e:Int)/\X3 (YV (l.drop e) m=o)/\X3 (bW w wr));(case atStart=>exact⟨0,oM,rfl,C,zH (aj _ _)⟩);case round=>
  obtain⟨e,Z,rfl,r,A⟩:=hrel;clear C;by_cases G:e<l.length
  .have O:decide ((e:Int)<(l.length:Int))=true:=bM oM
   have d:=r.o;rw[aR G]at d;replace d:(YD l[e] m&&YV (l.drop (e+1)) m)=o:=d;have D:=zH (λp (Q:bW w p)=>Sps.at_ L.o Q G);obtain⟨f,y⟩:=eX (l[e]);rw[<-y]at d;have M:X3 (∀p,bW w p->∃g z,a=some ⟨g,z,none⟩/\g<w.heap.size/\p.cell? ⟨g,z+e*2,none⟩=some (uI f.lo)/\p.cell? ⟨g,z+e*2+1,none⟩=some (uI f.hi)):=zH (by rw[y];exact D.o);have B:=zH d;clear d y D r;go_wp2;go_loopg [6,7] m.length (λv I J wx=>∃(b:Nat) (g:Bool),b+v=m.length/\J=jI (b:Int)/\I=bV g/\X3 ((g||YD f (m.drop b))=YD f m)/\X3 (bW w wx));(case atStart=>exact⟨0,false,oM,rfl,rfl,zH rfl,A⟩);case round=>
    obtain⟨b,g,a3,rfl,rfl,q,j⟩:=hrel;by_cases H:b<m.length
    .have P:decide ((b:Int)<(m.length:Int))=true:=bM oM
     have W:IntKind.i64.wrap ((b:Int)+1)=(b:Int)+1:=eP _ ⟨oM,oM⟩;have i:=q.o;rw[aR H]at i;replace i:(g||((decide (m[b].lo<=f.lo)&&decide (f.hi<=m[b].hi))||YD f (m.drop (b+1))))=YD f m:=i;obtain⟨U,a8,rfl,X,a4,a5⟩:=M.o _ j.o;obtain⟨V,a9,rfl,Y,a6,a7⟩:=K.o.at_ j.o H;generalize m[b]=k at*
     have t:=zH i;clear i q;by_cases E:k.lo<=f.lo
     .have s:decide (k.lo<=f.lo)=true:=bM E
      by_cases c2:f.hi<=k.hi
      .have u:decide (f.hi<=k.hi)=true:=bM c2
       go_upto_region 8 with fail;refine mQ ?_;rintro _ ⟨nq,rfl⟩;go_wp2;go_roundg (m.length -(b+1));(case rel=>exact⟨b+1,true,oM,by go_num,rfl,zH (by have:=t.o;rw[s,u]at this;simpa using this),zH (by have:=j.o;exact BEL)⟩);case measure=>omega
      .have u:decide (f.hi<=k.hi)=false:=bJ c2
       go_upto_region 8 with fail;refine mQ ?_;rintro _ ⟨nq,rfl⟩;go_wp2;go_roundg (m.length -(b+1));(case rel=>exact⟨b+1,g,oM,by go_num,rfl,zH (by have:=t.o;rw[s,u]at this;simpa using this),zH (by have:=j.o;exact BEL)⟩);case measure=>omega
     .have s:decide (k.lo<=f.lo)=false:=bJ E
      go_upto_region 8 with fail;refine mQ ?_;rintro _ ⟨nq,rfl⟩;go_wp2;go_roundg (m.length -(b+1));(case rel=>exact⟨b+1,g,oM,by go_num,rfl,zH (by have:=t.o;rw[s]at this;simpa using this),zH (by have:=j.o;exact BEL)⟩);case measure=>omega
    .have P:decide ((b:Int)<(m.length:Int))=false:=bJ oM
     have i:=q.o;rw[List.drop_of_length_le oM]at i;replace i:(g||false)=YD f m:=i;rw[Bool.or_false]at i;have d:=B.o;rw[<-i]at d;clear i B q;cases g with
     |true=>
      have n:X3 (YV (l.drop (e+1)) m=o):=zH (by simpa using d);clear d;go_wp2;go_roundg (l.length -(e+1));(case rel=>exact⟨e+1,oM,by go_num,n,j⟩);case measure=>omega
     |false=>
      have n:X3 (o=false):=zH (by simpa using d.symm);clear d;go_wp2;go_ret;exact⟨eF n.o.symm,j.o⟩
  .have O:decide ((e:Int)<(l.length:Int))=false:=bJ oM
   have d:=r.o;rw[List.drop_of_length_le oM]at d;have n:X3 (true=o):=zH d;clear d r;go_wp2;go_ret;exact⟨eF n.o,A.o⟩
theorem YH (b:List Int):∃a,a<=b.length/\(eZ b).left=b.drop a:=by
 rcases b with _|⟨c,d⟩
 .exact⟨0,av _,rfl⟩
 .rw[Ex]
  split
  (.exact⟨0,jV _,rfl⟩);split
  .exact⟨0,jV _,rfl⟩
  .exact⟨nM c,oM,rfl⟩
theorem YX (b:List Int):∃a,a<=b.length/\(jU b).left=b.drop a:=by
 unfold jU;split
 .exact⟨0,jV _,rfl⟩
 .exact⟨8,oM,rfl⟩
theorem num_at (g:dP l) (n:k<=l.length):∃b e:Int,∃a:Nat,(eZ (l.drop k)).val=b/\(eZ (l.drop k)).err=e/\(eZ (l.drop k)).left=l.drop a/\a<=l.length/\(l.length:Int) -(eZ (l.drop k)).left.length=(a:Int)/\0<=b/\b<=4611686018427387903:=by
 obtain⟨j,f,c⟩:=YH (l.drop k);have d:=Yo (l:=l.drop k) (λm i=>g m (dW i));rw[bI]at f;refine⟨_,_,k+j,rfl,rfl,by rw[c,List.drop_drop],oM,?_,d.1,d.2.1⟩;rw[c,List.drop_drop,bI];omega
theorem Y0 (k:Nat) (e:k<=l.length):∃a:Nat,(jU (l.drop k)).left=l.drop a/\a<=l.length/\(l.length:Int) -(jU (l.drop k)).left.length=(a:Int):=by
 obtain⟨d,c,b⟩:=YX (l.drop k);rw[bI]at c;refine⟨k+d,by rw[b,List.drop_drop],oM,?_⟩;rw[b,List.drop_drop,bI];omega
def YL (w:World) (R:Rsp) (c:Nat) (e:Ending) (w':World):Prop:=
 ∃a:Option Addr,∃d:Nat,∃b:Int,e=.returned (.tuple #[.slice a R.val.length d,jI b,jI R.err])/\(R.err=0->b=(c:Int) -R.left.length)/\Sps w' (λf=>w.heap.size<=f) a R.val/\bW w w'
theorem YL.bad {R:Rsp} {p x:Int} (c:R.val=[]) (a:R.err=x) (d:x≠0) (hb:bW w w'):YL w R b (.returned (.tuple #[zzN,jI p,jI x])) w':=
 ⟨none,0,p,by rw[c,a];rfl,λh=>Wy (a.symm.trans h) d,by rw[c];exact Row.WH,hb⟩
theorem YT {tb:TypeId} (S:X4) (a:X5) (c:Nat) (l:List Int) (k:Nat) (bn:Int) (w:World) (h:Byt tb w S a l) (U:l.length<=140737488355328) (J:dP l) (z:k<=l.length) (e1:0<=bn/\bn<=1):
  Yk 76 #[.slice a l.length c,jI k,jI bn] w (YL w (kJ (l.drop k) bn) l.length):=by
 obtain⟨b5,g⟩:=eX (kJ (l.drop k) bn);rw[<-g];by_cases D:k<l.length
 .obtain⟨s,H⟩:=eX (l[k])
  rw[aR D,Aa,<-H]at g;have I:=J _ (aN D);rw[<-H]at I;obtain⟨b6,c6,rfl,e2,a9⟩:=h.at_ (aj _ _) D;rw[<-H]at a9;have d3:=I.1;have d4:=I.2;have b9:decide ((l.length:Int)<=(k:Int))=false:=bJ oM;have c0:decide (l.length<=k)=false:=bJ oM;have b8:IntKind.i64.wrap ((k:Int)+1)=(k:Int)+1:=eP _ ⟨oM,oM⟩;obtain⟨X,Y⟩:=yx (λi (e:World) (y:bW w e) (A:i<=l.length)=>Y9 S (some ⟨b6,c6,none⟩) c l i e (aD h y) U J A) (λi (A:i<=l.length)=>num_at J (k:=i) A);clear H I J h;by_cases G:s<bn
  .have a4:decide (s<bn)=true:=bM G
   rw[aB (.inl G)]at g;have j:=zH g;clear g;go_enter Tryz.func76,Tryz.ntmps76;go_wp2;go_returns;exact YL.bad (by rw[j.o]) (by rw[j.o]) dC (aj _ _)
  have a4:decide (s<bn)=false:=bJ G;by_cases x:32<s
  .have a5:decide (32<s)=true:=bM x
   rw[aB (.inr x)]at g;have j:=zH g;clear g;go_enter Tryz.func76,Tryz.ntmps76;go_wp2;go_returns;exact YL.bad (by rw[j.o]) (by rw[j.o]) dC (aj _ _)
  have a5:decide (32<s)=false:=bJ x;rw[Ww oM]at g;obtain⟨u,rfl⟩:∃u:Nat,s=u:=⟨s.toNat,oM⟩;rw[Int.toNat_natCast]at g;have j:=zH g;have f4:u<=32:=oM;clear g;obtain⟨e0,b2⟩:=yx U D;go_enter Tryz.func76,Tryz.ntmps76;go_wp2_with fail;clear a9 U D b9 c0 b8 a4 a5 G x d3 d4 z;go_loopg [1,10,11,12] u (λv c8 c9 d0 d1 wr=>∃(p i:Nat) (b:Int) (B:X5) (C:Nat) (r:List Sp),p+v=u/\X3 (r.length=p)/\i<=l.length/\c8=jI (i:Int)/\c9=.slice B r.length C/\d0=uI b/\d1=jI (p:Int)/\0<=b/\b<=4611686018427387905/\X3 (b5=Wq v b r (l.drop i))/\X3 (OwnAt wr (λk=>w.heap.size<=k) 272 2 B r.length C (r.flatMap spV))/\X3 (bW w wr));(case atStart=>exact⟨0,k+1,0,none,0,[],oM,zH rfl,b2.o,by congr 1,rfl,rfl,rfl,dC,dC,j,zH OwnAt.WH,zH (aj _ _)⟩);case round=>
   obtain⟨p,i,b,B,C,r,e4,a6,A,rfl,rfl,rfl,rfl,e6,e7,o,Z,n⟩:=hrel;clear j;by_cases e3:0<gk
   .have x:decide ((p:Int)<(u:Int))=true:=bM oM
    obtain⟨v,rfl⟩:∃v,gk=v+1:=⟨gk -1,oM⟩;have d:=o.o;rw[yE]at d;obtain⟨e,R,b0,P,Q,a2,a8,a3,f0,f1⟩:=Y.o i A;have t:=zH (X.o i wr n.o A);rw[P,Q,a3]at t;rw[P,Q,a2]at d;obtain⟨m,T,c7,N,O,a0,c5,a1,f2,f3⟩:=Y.o b0 a8;have F:=zH (X.o b0 wr n.o a8);rw[N,O,a1]at F;rw[N,O,a0]at d;clear P Q a2 a3 N O a0 a1;by_cases K:R=0
    .have d5:(R !=0)=false:=by simp[K]
     rw[Ww oM]at d;by_cases V:4611686018427387903<b
     .have d7:decide (4611686018427387903<b)=true:=bM V
      rw[aB (.inl V)]at d;have f:=zH d;clear d o;go_wp2_with fail;refine Yd t.o ?_;intro q rfl;go_wp2;go_returns;exact YL.bad (by rw[f.o]) (by rw[f.o]) dC n.o
     have d7:decide (4611686018427387903<b)=false:=bJ V;have f5:IntKind.u64.wrap (4611686018427387903 -b)=4611686018427387903 -b:=Wz _ ⟨oM,oM⟩;by_cases W:4611686018427387903 -b<e
     .have d8:decide (4611686018427387903 -b<e)=true:=bM W
      rw[aB (.inr W)]at d;have f:=zH d;clear d o;go_wp2_with fail;refine Yd t.o ?_;intro q rfl;go_wp2;go_returns;exact YL.bad (by rw[f.o]) (by rw[f.o]) dC n.o
     have d8:decide (4611686018427387903 -b<e)=false:=bJ W;have f6:IntKind.u64.wrap (b+e)=b+e:=Wz _ ⟨oM,oM⟩;rw[Ww oM]at d;by_cases L:T=0
     .have d6:(T !=0)=false:=by simp[L]
      rw[Ww oM]at d;have f7:IntKind.u64.wrap (4611686018427387903 -(b+e))=4611686018427387903 -(b+e):=Wz _ ⟨oM,oM⟩;by_cases M:4611686018427387903 -(b+e)<m
      .have d9:decide (4611686018427387903 -(b+e)<m)=true:=bM M
       rw[aB M]at d;have f:=zH d;clear d o;go_wp2_with fail;refine Yd t.o ?_;intro q rfl;go_wp2_with fail;refine Yd F.o ?_;intro q rfl;go_wp2;go_returns;exact YL.bad (by rw[f.o]) (by rw[f.o]) dC n.o
      .have d9:decide (4611686018427387903 -(b+e)<m)=false:=bJ M
       have f8:IntKind.u64.wrap (b+e+m)=b+e+m:=Wz _ ⟨oM,oM⟩;have f9:IntKind.u64.wrap (b+e+m+2)=b+e+m+2:=Wz _ ⟨oM,oM⟩;have g0:IntKind.i64.wrap ((p:Int)+1)=(p:Int)+1:=eP _ ⟨oM,oM⟩;rw[Ww M]at d;have f:=zH d;clear d o;go_wp2_with fail;refine Yd t.o ?_;intro q rfl;go_wp2_with fail;refine Yd F.o ?_;intro q rfl;go_wp2_with (at_builtin;refine iP.jO rfl (.tmp 86) (.tmp 92) rfl B C r (by rfl) (Z.o.below BEL) (some ⟨q.heap.size,0,none⟩) 1 [⟨b+e,b+e+m⟩] (by rfl) (kQ (Wx _ _ _)) (by have:=a6.o;simp;omega) dC ?_;intro b1 b7 d2 a7 E c2;have b4:=zH a7;have b3:=zH E;clear a7 E c2);go_roundg v;case rel=>
        have E:=b3.o;have e8:=E.size;have y:=n.o;have e9:=y.size;have c1:bW w d2:=y.trans ((show Below w.heap.size q _ from BEL).trans (E.cZ (by have:=y.size;simp;omega) (λk z h=>by omega)));refine⟨p+1,c7,b+e+m+2,b1,b7,r++[⟨b+e,b+e+m⟩],oM,zH (by have:=a6.o;simp[this]),c5,rfl,by rw[aU];rfl,rfl,by go_num,oM,oM,f,zH ?_,zH c1⟩;refine b4.o.mono λk z=>?_;rcases z with z|⟨c3,e5⟩
        .exact z
        .have:=y.size
         simp at c3;omega
       case measure=>omega
     .have d6:(T !=0)=true:=by simp[L]
      rw[aB L]at d;have f:=zH d;clear d o;go_wp2_with fail;refine Yd t.o ?_;intro q rfl;go_wp2_with fail;refine Yd F.o ?_;intro q rfl;go_wp2;go_returns;exact YL.bad (by rw[f.o]) (by rw[f.o]) L n.o
    .have d5:(R !=0)=true:=by simp[K]
     rw[aB K]at d;have f:=zH d;clear d o;go_wp2_with fail;refine Yg t.o ?_;go_wp2;go_returns;exact YL.bad (by rw[f.o]) (by rw[f.o]) K n.o
   .have x:decide ((p:Int)<(u:Int))=false:=bJ oM
    obtain rfl:gk=0:=oM;have d:=o.o;rw[yD]at d;have f:=zH d;clear d o;go_wp2;go_returns;exact⟨B,C,i,by rw[f.o];rfl,λ_=>by rw[f.o];dsimp only;rw[bI];omega,by rw[f.o];exact Z.o.row,n.o⟩
 .have c4:k=l.length:=oM
  subst c4;rw[List.drop_length,Bt]at g;have j:=zH g;clear g;go_enter Tryz.func76,Tryz.ntmps76;go_wp2;go_returns;exact YL.bad (by rw[j.o]) (by rw[j.o]) dC (aj _ _)
end Go.Proofs.YtiflndepmgnojaaGreat
