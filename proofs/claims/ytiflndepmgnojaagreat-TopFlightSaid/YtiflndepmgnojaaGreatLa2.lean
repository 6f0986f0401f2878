import Derived.Test.YtiflndepmgnojaaGreatRha
namespace Go.Proofs.YtiflndepmgnojaaGreat
open Go.RowKit Tryz
set_option linter.unusedSimpArgs false
set_option linter.unusedVariables false
set_option maxHeartbeats 8000000
set_option maxRecDepth 100000
variable {k p:Nat} {x:Int} {H:List Se} {l:List Int} {K:Act->World->Prop} {w:World} {t:TypeId}
theorem ig:Word 0:=⟨dC,dC⟩
theorem yw:Word 18446744073709551615:=⟨dC,dC⟩
theorem getD_at {a:Type} {l:List a} {i:Nat} {d:a} (h:i<l.length):l.getD i d=l[i]:=by rw[aW,aL h];rfl
theorem Ed {x:Wi} {a m:Int} (h:oz x) (b:Word a) (c:Word m):oz (qz x a m):=
 ⟨fB h.cr (qo b (kN sF c)),h.dL,h.acc,h.jF,h.gX,h.k,h.fair⟩
theorem Nn {x:Wi} {a m:Int} (h:oz x) (b:Word a) (c:Word m):oz (lK x a m):=by
 have d:=fB h.acc b;unfold lK;split
 .exact Ed h b c
 .split
  .exact⟨fB h.cr c,h.dL,⟨by simp only;omega,by have:=d.2;have:=h.cr.1;simp only;omega⟩,h.jF,h.gX,h.k,h.fair⟩
  .exact⟨h.cr,h.dL,d,h.jF,h.gX,h.k,h.fair⟩
theorem Oq {x:Wi} {a m now bK:Int} (h:oz x) (b:Word a) (d:Word m) (e:Word now) (f:Word bK):oz (xZ x a m now bK):=by
 unfold xZ;split
 .exact h
 .obtain⟨g,i⟩:=CR h d e f
  have c:=fB h.fair (AF h d b);exact⟨kX (fB h.cr (gK ⟨oM,by have:=g.2;have:=h.cr.1;omega⟩ b h.cr)) c,h.dL,h.acc,h.jF,h.gX,h.k,c⟩
theorem Ot {x:Wi} {a m now bK:Int} (h:oz x) (b:Word a) (c:Word m) (d:Word now) (e:Word bK):oz (mM x a m now bK):=by
 unfold mM;split
 .exact Ed h b c
 .exact Oq (CQ h d) b c d e
theorem Oz {x lo a:Int} (h:lo<=a):lo<=rF x lo a/\rF x lo a<=a:=by
 unfold rF;split
 .omega
 .split<;>omega
def Dx (c:Cf) (s:Cc):Prop:=c.bn<=s.win.cr/\s.win.cr<=c.most
theorem lV.lm {c:Cf} (h:lV c):c.bn<=c.most:=by have:=h.Mg;have:=h.Mf;omega
theorem lV.Gr {c:Cf} (h:lV c):2<=c.bn/\c.bn<=1073741824:=by have:=h.Mg;have:=h.Mf;have:=h.most;have:=h.zM;have:=h.Gj;omega
theorem Mh {c:Cf} {x:Wi} (a:lV c) (h:oz x):oz (held c x)/\c.bn<=(held c x).cr/\(held c x).cr<=c.most:=by
 have b:=Oz (x:=x.cr) a.lm;have d:=a.Gr;have e:=a.most;exact⟨⟨⟨by simp only[held];omega,by simp only[held];omega⟩,h.dL,h.acc,h.jF,h.gX,h.k,h.fair⟩,b.1,b.2⟩
theorem lV.mssw {c:Cf} (h:lV c):Word c.mss:=⟨by have:=h.Gj;omega,by have:=h.Ca;omega⟩
theorem Q9 {c:Cf} {s:Cc} {a now bK:Int} (b:lV c) (h:Xf s) (e:Word a) (g:Word now) (i:Word bK):Xf (vQ c s a now bK)/\Dx c (vQ c s a now bK):=by
 have f:oz (if c.pX=2 then mM s.win a c.mss now bK else lK s.win a c.mss):=by
  split
  .exact Ot h.win e b.mssw g i
  .exact Nn h.win e b.mssw
 have d:=Mh b f;exact⟨⟨d.1,h.qx,h.mX⟩,d.2⟩
theorem PG {x:Wi} {n d:Int} (h:oz x) (b:Word n) (a:Word d):oz (sJ x n d):=
 ⟨gK h.cr b a,gK h.cr b a,ig,h.jF,h.gX,h.k,h.fair⟩
theorem QV {x:Wi} {n d:Int} (h:oz x) (b:Word n) (a:Word d):oz (rD x n d):=
 ⟨gK h.cr b a,gK h.cr b a,ig,by unfold rD;simp only;split;exact gK h.cr ⟨dC,dC⟩ ⟨dC,dC⟩;exact h.cr,yw,ig,ig⟩
theorem Ms {c:Cf} {x:Wi} {n d cn cd:Int} (b:lV c) (h:oz x) (e:Word n) (f:Word d) (g:Word cn) (i:Word cd):oz (vM c x n d cn cd)/\c.bn<=(vM c x n d cn cd).cr/\(vM c x n d cn cd).cr<=c.most:=by
 have j:oz (if c.pX=2 then rD x cn cd else sJ x n d):=by
  split
  .exact QV h g i
  .exact PG h e f
 have a:=Mh b j;have k:=b.Gr;exact⟨⟨a.1.cr,kX a.1.dL ⟨oM,oM⟩,a.1.acc,a.1.jF,a.1.gX,a.1.k,a.1.fair⟩,a.2⟩
theorem EJ (h:Word x):Word (Gx x):=by
 obtain⟨a,b⟩:=h;unfold Gx;split<;>exact⟨oM,oM⟩
theorem La {p n:Int} (b:Word p) (a:Word n):Word (Az p n):=by
 unfold Az;split
 .exact EJ b
 .exact a
theorem CV {c:Cf} {s:Cc} {a next n d cn cd:Int} (j:lV c) (h:Xf s) (m:Dx c s) (k:Word a) (o:Word next) (e:Word n) (f:Word d) (g:Word cn) (i:Word cd):Xf (oV c s a next n d cn cd)/\Dx c (oV c s a next n d cn cd):=by
 unfold oV;split
 .next c=>
  have b:=Ms j h.win e f g i;(have l:oH s.round a next=⟨Az a next,Gx s.round.mX⟩:=by unfold oH;rw[aB c]);rw[l];exact⟨⟨b.1,La k o,EJ h.mX⟩,b.2⟩
 .exact⟨h,m⟩
theorem OD {c:Cf} {s:Cc} {a next:Int} (b:lV c) (h:Xf s) (e:Dx c s) (d:Word a) (f:Word next):Xf (uN c s a next)/\Dx c (uN c s a next):=
 CV b h e d f ⟨dC,dC⟩ ⟨dC,dC⟩ ⟨dC,dC⟩ ⟨dC,dC⟩
theorem OC {c:Cf} {s:Cc} {a next:Int} (b:lV c) (h:Xf s) (e:Dx c s) (d:Word a) (f:Word next):Xf (yg c s a next)/\Dx c (yg c s a next):=
 CV b h e d f ⟨dC,dC⟩ ⟨dC,dC⟩ ⟨dC,dC⟩ ⟨dC,dC⟩
theorem xC {c:Cf} {s:Cc} (b:lV c) (h:Xf s):Xf (kz c s)/\Dx c (kz c s):=by
 have a:=Ms (n:=1) (d:=2) (cn:=7) (cd:=10) b h.win ⟨dC,dC⟩ ⟨dC,dC⟩ ⟨dC,dC⟩ ⟨dC,dC⟩;have e:=b.Gr;exact⟨⟨⟨⟨by simp only[kz];omega,by simp only[kz];omega⟩,a.1.dL,a.1.acc,a.1.jF,a.1.gX,a.1.k,a.1.fair⟩,h.qx,h.mX⟩,⟨bY _,b.lm⟩⟩
theorem Xj {c:Cf} (a:lV c):Xf (mF c)/\Dx c (mF c):=by
 obtain⟨f,b,d,e⟩:=Ju a.Gr a.Mg a.Mf a.most;exact⟨⟨⟨⟨by simp only[mF];omega,by simp only[mF];omega⟩,yw,ig,ig,yw,ig,ig⟩,ig,ig⟩,⟨b,d⟩⟩
structure RtOk (r:Rt):Prop where
 mJ:Word r.mJ
 bK:Word r.bK
 var:Word r.var
 bn:Word r.bn
theorem Ad {b:Rt} (h:RtOk b) (a:Word x):RtOk (mY b x):=by
 unfold mY;split
 .exact⟨a,Aj dC h.bK a,Aj dC h.var (uK h.bK a),qo h.bn a⟩
 .exact⟨a,a,⟨by have:=a.1;simp only;omega,by have:=a.2;simp only;omega⟩,a⟩
structure PrOk (p:Pr):Prop where
 c0:0<=p.count
 c1:p.count<=60
 since:Word p.since
theorem BP (p:Pr) {now:Int} (a:Word now):PrOk (jR p now):=⟨by simp only[jR];omega,by simp only[jR];omega,a⟩
theorem Ej {now:Int} (a:Word now):PrOk (KD now):=⟨bY 0,(by decide:(0:Int)<=60),a⟩
theorem Nv {p:Pr} {now:Int} (h:PrOk p) (a:Word now):PrOk (xN p now):=⟨h.c0,h.c1,a⟩
structure LG (p:Pa):Prop where
 fC:Word p.fC
 pat:Word p.pat
 gP:Word p.gP
theorem Eu {p:Pa} {a now:Int} (h:LG p) (hb:Word a) (b:Word now):LG (lM p a now):=
 ⟨qo (fB h.fC (kN h.gP (nC b h.pat))) (pO hb),kX h.pat b,h.gP⟩
theorem BM {cr bK a:Int} (h:a<=4294967296):a<=xg cr bK a/\xg cr bK a<=4294967296:=by unfold xg;omega
theorem PZ {p:Pa} {a now b:Int} (h:LG p) (hb:Word a) (d:Word now) (e:0<=b):LG (xq p a now b):=by
 have c:=Eu h hb d;exact⟨c.fC,c.pat,⟨by simp only[xq];omega,by simp only[xq];omega⟩⟩
theorem Yr {p:Pa} {a now size:Int} (h:LG p) (hb:Word a) (e:Word now) (f:Word size) (c:vw p a now size=true):LG (WR p a now size):=by
 have b:=Eu h hb e;have d:=pO f;(have g:xu size<=(lM p a now).fC:=by unfold vw at c;simp at c;omega);exact⟨⟨by simp only[WR];omega,by have:=b.fC.2;have:=d.1;simp only[WR];omega⟩,b.pat,b.gP⟩
theorem lV.Ym {c:Cf} (h:lV c):Word c.gD:=⟨by have:=h.Rh;have:=h.Gj;omega,by have:=h.Rf;omega⟩
structure Kb (k:Nat) (b:Bu):Prop where
 most0:0<=b.most
 Qh:b.most<=64
 every:Word b.every
 now:Word b.now
 times:rG b.times
 len:b.times.length<=64
 gr0:0<=b.granted
 gr1:b.granted<=k
theorem Ri (c a:Int) (h:Word a):Kb 0 (xD c a):=
 ⟨by simp only[xD];omega,by simp only[xD];omega,h,ig,λd b=>by simp[xD]at b,by simp[xD],by simp[xD],by simp[xD]⟩
theorem Kb.mono {k k':Nat} {b:Bu} (h:Kb k b) (a:k<=k'):Kb k' b:=⟨h.1,h.2,h.3,h.4,h.5,h.6,h.7,by have:=h.8;omega⟩
theorem Km (b:Bu) (t:Int):(uY b t).length<=b.times.length:=List.length_filter_le _ _
theorem Rj {b:Bu} {t:Int} (h:Kb k b) (i:Word t):Kb (k+1) (uU b t):=by
 have l:=Km b t;have f:rG (uY b t):=λd a=>h.times d (dx.1 a).1;obtain⟨m,g,n,o,e⟩:=LX h.len h.gr0 h.gr1 h.Qh (kX h.now i);unfold uU;split
 .next c=>
  (have j:((uY b t).length:Int)<b.most:=by unfold qy at c;simp at c;omega);refine⟨h.most0,h.Qh,h.every,e,?_,by simp only[aU,aY,List.length_nil];omega,by simp only;omega,by simp only;omega⟩;intro d a;rcases WB.1 a with a|a
  .exact f d a
  .obtain rfl:d=_:=by simpa using a
   exact e
 .exact⟨h.most0,h.Qh,h.every,e,f,by simp only;omega,g,by simp only;omega⟩
structure CoOk (k:Nat) (n:Co):Prop where
 a0:0<=n.dB
 a1:n.dB<=k
 b0:0<=n.eT
 b1:n.eT<=k
 c0:0<=n.fI
 c1:n.fI<=k
 d0:0<=n.bE
 d1:n.bE<=k
 e0:0<=n.late
 e1:n.late<=k
structure AO (k:Nat) (g:Gu):Prop where
 bu:Kb k g.bu
 n:CoOk k g.n
theorem CoOk.mono {k k':Nat} {n:Co} (h:CoOk k n) (m:k<=k'):CoOk k' n:=by
 obtain⟨a,g,b,i,c,j,d,l,e,f⟩:=h;exact⟨a,oM,b,oM,c,oM,d,oM,e,oM⟩
theorem AO.mono {k k':Nat} {g:Gu} (h:AO k g) (a:k<=k'):AO k' g:=⟨h.bu.mono a,h.n.mono a⟩
theorem EN {g:Gu} {l:Le} {b:List Int} {now:Int} (h:AO k g) (a:gM l) (e:Word now):AO (k+1) (dN g l b now).gu/\gM (dN g l b now).led:=by
 have c:=h.bu.mono (Nat.le_succ k);have d:=Rj h.bu e;obtain⟨f,j,m,n,o,p,q,r,s,i⟩:=h.n;unfold dN;split
 (.exact⟨⟨c,by constructor<;>simp only<;>omega⟩,a⟩);split
 (.exact⟨⟨c,by constructor<;>simp only<;>omega⟩,a⟩);split
 (.exact⟨⟨d,by constructor<;>simp only<;>first|omega|(split<;>omega)⟩,a⟩);dsimp only;split
 .exact⟨⟨c,by constructor<;>simp only<;>omega⟩,yS a _⟩
 .exact⟨⟨c,by constructor<;>simp only<;>omega⟩,yS a _⟩
structure dG (k:Nat) (e:En):Prop where
 cf:lV e.c
 now:Word e.now
 st0:1<=e.aS
 st1:e.aS<=4
 wl:e.words.l.length<=1000000
 wok:rG e.words.l
 wt:e.words.fI<=3*k
 qu:WV e.dH
 qb:dP e.dH.b
 qr:e.dH.room=e.c.room
 le:gM e.led
 lr:e.led.ring=e.c.ring
 ll:e.led.dO=e.c.dO
 lm:∀s∈e.led.kept,s.len<=e.c.mss
 gu:AO k e.gu
 rtt:RtOk e.rtt
 pr:PrOk e.dS
 cc:Xf e.cc
 cw:Dx e.c e.cc
 pa:LG e.fM
 ra0:e.c.WL<=e.fM.gP
 ra1:e.fM.gP<=4294967296
 gU:Word e.gU
 dm:Word e.dm
 Ho:0<=e.told
 DK:e.told<=k
 rO:0<=e.cO
 ni:e.cO<=k
theorem dG.mono {k k':Nat} {e:En} (h:dG k e) (a:k<=k'):dG k' e:=
 {h with wt:=by have:=h.wt;omega,gu:=h.gu.mono a,DK:=by have:=h.DK;omega,ni:=by have:=h.ni;omega}
theorem JI {c:Cf} {words:List Int} (a:lV c) (g:rG words) (e:words.length<=1000000):dG 0 (nK c words)where
 cf:=a
 now:=ig
 st0:=bY 1
 st1:=(by decide:(1:Int)<=4)
 wl:=e
 wok:=g
 wt:=av _
 qu:=PK _
 qb:=λk i=>by simp[nK,nS]at i
 qr:=by have:=a.Af;have:=a.qC;simp only[nK,nS];omega
 le:=Qr _ _ a.limit0
 lr:=by have:=a.wZ;have:=a.lW;simp only[nK,qZ];omega
 ll:=by have:=a.mh;simp only[nK,qZ];omega
 lm:=λj f=>by simp[nK,qZ]at f
 gu:=⟨Ri _ _ ⟨by have:=a.QM;omega,by have:=a.XB;omega⟩,⟨bY 0,bY 0,bY 0,bY 0,bY 0,bY 0,bY 0,bY 0,bY 0,bY 0⟩⟩
 rtt:=⟨ig,ig,ig,ig⟩
 pr:=⟨bY 0,(by decide:(0:Int)<=60),ig⟩
 cc:=(Xj a).1
 cw:=(Xj a).2
 pa:=by
  have b:=(BM (cr:=c.jD) (bK:=c.first) a.BA);have d:=a.Ie;exact⟨pO a.Ym,ig,⟨by simp only[nK,qd];omega,by simp only[nK,qd];omega⟩⟩
 ra0:=by
  have b:=(BM (cr:=c.jD) (bK:=c.first) a.BA);have d:=a.BA;simp only[nK,qd];omega
 ra1:=by simp only[nK,qd];omega
 gU:=yw
 dm:=ig
 Ho:=bY 0
 DK:=bY 0
 rO:=bY 0
 ni:=bY 0
theorem qO {e:En} {now:Int} (h:dG k e) (a:Word now):dG k (nO e now):={h with now:=kX h.now a}
theorem CE {e:En} {b:List Int} (h:dG k e) (hb:dP b):dG k (fU e b).en:=by
 unfold fU;split
 .exact h
 .exact{h with
  qu:=KA h.qu b
  qb:=λc a=>(WB.1 a).elim (h.qb c) λa=>hb c (bf a)}
theorem Lg {e:En} (h:dG k e):dG k (kF e).en:=by
 unfold kF;split
 .exact h
 .exact{h with st0:=by simp only;split<;>decide,st1:=by simp only;split<;>decide}
theorem rZ {e:En} (h:dG k e):Word (iI e):=by
 unfold iI;split
 .exact h.rtt.bK
 .exact⟨by have:=h.cf.KY;omega,by have:=h.cf.Xv;omega⟩
theorem uH {e:En} (h:dG k e):dG k (jm e):=by
 have a:=BM (cr:=e.cc.win.cr) (bK:=iI e) h.cf.BA;have b:=h.cf.Ie;exact{h with
  pa:=PZ h.pa h.cf.Ym h.now (by show 0<=xg _ _ _;omega)
  ra0:=by show e.c.WL<=min (xg _ _ _) 4294967296;omega
  ra1:=by show min (xg _ _ _) 4294967296<=4294967296;omega}
theorem uz {l:Le} {d e m:Int} (h:∀b∈l.kept,b.len<=m):∀b∈(gH l d e).kept,b.len<=m:=by
 unfold gH;split
 .exact h
 .split
  .intro b a
   next i _ _=>
   rcases List.mem_or_eq_of_mem_set a with a|rfl
   .exact h b a
   .simp only
    by_cases c:i<l.kept.length
    .rw[getD_at c];exact h _ (aN c)
    .rw[List.set_eq_of_length_le oM]at a
     exact h _ a|>λh=>by simpa using h
  .exact h
theorem rV (l:Le) (a b:Int):(gH l a b).ring=l.ring/\(gH l a b).dO=l.dO/\(gH l a b).next=l.next:=by
 unfold gH;split
 .exact⟨rfl,rfl,rfl⟩
 .split<;>exact⟨rfl,rfl,rfl⟩
theorem EE {l:Le} {d m:Int} (h:∀b∈l.kept,b.len<=m):∀b∈(lX l d).kept,b.len<=m:=by
 unfold lX;split
 .exact h
 .split
  .exact h
  .intro b a
   next i _ _=>
   rcases List.mem_or_eq_of_mem_set a with a|rfl
   .exact h b a
   .simp only
    by_cases c:i<l.kept.length
    .rw[getD_at c];exact h _ (aN c)
    .rw[List.set_eq_of_length_le oM]at a
     exact h _ a|>λh=>by simpa using h
theorem Ci (l:Le) (a:Int):(lX l a).ring=l.ring/\(lX l a).dO=l.dO/\(lX l a).next=l.next:=by
 unfold lX;split
 .exact⟨rfl,rfl,rfl⟩
 .split<;>exact⟨rfl,rfl,rfl⟩
theorem yK (q:Qu) (a n:Int):(kS q a n).room=q.room:=by
 unfold kS oJ;split
 .rfl
 .split<;>rfl
theorem Ef {q:Qu} {b n:Int} (h:dP q.b):dP (kS q b n).b:=by
 unfold kS oJ;split
 .exact h
 .split
  .exact λc a=>h c (dW a)
  .exact h
theorem Iw (q:Qu) (a n:Int):(pF q a n).room=q.room/\(pF q a n).b=q.b:=by
 unfold pF;split<;>exact⟨rfl,rfl⟩
theorem Iu (q:Qu) (a n:Int):(ng q a n).room=q.room/\(ng q a n).b=q.b:=by
 unfold ng;split<;>exact⟨rfl,rfl⟩
theorem Jf {l:Le} (h:gM l) (b:Int):0<=(mH l b).off/\Word (mH l b).off/\Word (mH l b).len:=by
 unfold mH;split
 .exact⟨dC,⟨dC,dC⟩,⟨dC,dC⟩⟩
 .next i hf=>
  have d:=(pM h hf).1;rw[getD_at d];have a:=h.ok _ (aN d);obtain⟨c,f,e,g⟩:=Ju a.vz a.off1 a.yQ a.Dr;exact⟨c,⟨c,oM⟩,⟨e,oM⟩⟩
theorem wP {e:En} (h:dG k e) (a:Int):dG k (jT e a):=by
 have c:=rV e.led a 3;have b:=Iw e.dH (mH e.led a).off (mH e.led a).len;exact{h with
  le:=vC h.le a 3 (.inr rfl)
  lr:=c.1.trans h.lr
  ll:=c.2.1.trans h.ll
  lm:=uz h.lm
  qu:=Ns h.qu _ _ (Jf h.le a).1
  qr:=b.1.trans h.qr
  qb:=by show dP (pF _ _ _).b;rw[b.2];exact h.qb}
theorem AB {k:Nat}:∀(b:List Int) (a:En),dG k a->dG k (b.foldl jT a)
 |[],a,h=>h
 |x::t,a,h=>AB t _ (wP h x)
theorem wK (dm now d:Int):∀(e:List Se) (b:List Int) (next:Int),(∀a∈e,LD a)->(∀a∈e,Word a.pn)->rG b->Word next->Word d->rG (om dm now d b next e).lost/\Word (om dm now d b next e).next/\(om dm now d b next e).lost.length<=b.length+e.length
 |[],b,next,_,_,hl,hn,_=>⟨hl,hn,av _⟩
 |a::t,b,next,hk,hp,hl,hn,hw=>by
  have g:∀a∈t,LD a:=λf c=>hk f (by simp[c]);have i:∀a∈t,Word a.pn:=λf c=>hp f (by simp[c]);unfold om;split
  .have:=wK dm now d t b next g i hl hn hw
   exact⟨this.1,this.2.1,by have:=this.2.2;simp only[aY];omega⟩
  .split
   .have:=wK dm now d t (b++[a.pn]) next g i (λf c=>by
     rcases WB.1 c with c|c
     .exact hl f c
     .obtain rfl:f=_:=by simpa using c
      exact hp a sM) hn hw
    exact⟨this.1,this.2.1,by have:=this.2.2;simp only[aY,aU,List.length_nil]at this|-;omega⟩
   .have:=wK dm now d t b (min next (WI a.sat d)) g i hl (qo hn (fB (hk a sM).sat hw)) hw
    exact⟨this.1,this.2.1,by have:=this.2.2;simp only[aY];omega⟩
theorem gM.pnw {l:Le} (h:gM l):∀a∈l.kept,Word a.pn:=λa b=>by
 obtain⟨c,d,e,f⟩:=Ju (h.mem b) h.KN h.nI h.mh;exact⟨oM,oM⟩
theorem Jz {l:Le} {dm now a:Int} (h:gM l) (c:Word a):rG (qE l dm now a).lost/\Word (qE l dm now a).next/\(qE l dm now a).lost.length<=l.kept.length:=by
 have:=wK dm now a l.kept [] 18446744073709551615 h.ok h.pnw (λe d=>by cases d) ⟨dC,dC⟩ c;exact⟨this.1,this.2.1,by have b:=this.2.2;simp only[List.length_nil,Nat.zero_add]at b;exact b⟩
theorem wY {b:Rt} {first a:Int} (h:RtOk b) (c:Word first) (d:Word a):Word (lJ b first a):=by
 unfold lJ;refine kX (gK ?_ ⟨dC,dC⟩ ⟨dC,dC⟩) d;split
 .exact kX h.bK h.mJ
 .exact c
theorem BD {d:Rt} {first c:Int} (h:RtOk d) (a:Word first) (b:Word c):Word (qP d first c):=by
 unfold qP;split
 .exact fB h.bK (kX (kN ⟨dC,dC⟩ h.var) b)
 .exact fB a (kX (kN ⟨dC,dC⟩ a) b)
theorem lV.Cx {c:Cf} (h:lV c):Word c.first:=⟨by have:=h.KY;omega,by have:=h.Xv;omega⟩
theorem lV.Gz {c:Cf} (h:lV c):Word c.jc:=⟨by have:=h.KW;omega,by have:=h.QG;omega⟩
theorem lV.capw {c:Cf} (h:lV c):Word c.cap:=⟨by have:=h.KW;have:=h.cap0;omega,by have:=h.cap1;omega⟩
theorem tC {e:En} (h:dG k e):dG k (iB e).en/\Word (iB e).lost:=by
 have a:=Jz (dm:=e.dm) (now:=e.now) h.le (wY h.rtt h.cf.Cx h.cf.Gz);refine⟨AB _ _ {h with gU:=a.2.1},?_⟩;show Word ((qE e.led e.dm e.now (lJ e.rtt e.c.first e.c.jc)).lost.getLastD 0);generalize(qE e.led e.dm e.now (lJ e.rtt e.c.first e.c.jc)).lost=b at a;cases b with
 |nil=>exact⟨dC,dC⟩
 |cons x t=>exact a.1 _ (by rw[List.getLastD_cons];exact List.getLastD_mem_cons)
attribute[local go_sem] BW.cell BW.frozen
structure wX (w:World) (S:X4) (p:Nat) (b:Bu):Prop where
 ex:∃a c,Blk w p 314 #[jI b.most,uI b.every,uI b.now,.slice a b.times.length c,jI b.granted]/\OwnAt w S 30 1 a b.times.length c (b.times.flatMap woV)
 mem:S p
section
variable {w w':World} {S S':X4} {p:Nat} {b:Bu} {ts:X8}
theorem wX.lt (h:wX w S p b):p<w.heap.size:=by obtain⟨a,c,h,_⟩:=h.ex;exact h.lt
theorem wX.keep (h:wX w S p b) (a:bQ S ts w w') (e:some 314∈ts) (f:some 30∈ts):wX w' S p b:=by
 obtain⟨c,d,g,i⟩:=h.ex;exact⟨⟨c,d,g.keep a h.mem e,i.keep a f⟩,h.mem⟩
theorem wX.below (h:wX w S p b) (hb:bW w w'):wX w' S p b:=h.keep (ts:=[some 314,some 30]) (bQ.below hb) sM sM
theorem wX.mono (h:wX w S p b) (a:∀c,S c->S' c):wX w S' p b:=by
 obtain⟨d,e,f,g⟩:=h.ex;exact⟨⟨d,e,f,g.mono a⟩,a _ h.mem⟩
end
theorem Rl (c a:Int) (w:World):
  Yk 106 #[jI c,uI a] w λg w'=>∃p,g=.returned ((pT p))/\w.heap.size<=p/\wX w' (λf=>w.heap.size<=f/\f<w'.heap.size) p (xD c a)/\bW w w':=by
 obtain⟨i,d⟩:=eX (max 0 (min c 64));(have e:xD c a=⟨i,a,0,[],0⟩:=by rw[d];rfl);rw[e];clear e;go_enter Tryz.func106,Tryz.ntmps106;go_wp2;go_ret;rw[<-d];exact⟨w.heap.size,rfl,av _,⟨⟨none,0,Wx _ _ _,OwnAt.WH⟩,⟨av _,sM⟩⟩,BEL⟩
theorem Rp (k:Nat) (c:k<=1000000000) (S:X4) (p:Nat) (b:Bu) (t:Int) (w:World) (h:wX w S p b) (hb:Kb k b) (j1:Word t):
  Yk 113 #[pT p,uI t] w λb6 w'=>b6=.returned (bV (qy b t))/\wX w' (grow S w w') p (uU b t)/\Mod S [some 314,some 30] w w':=by
 have J:=h.mem;obtain⟨b5,e0,G,e2⟩:=h.ex;obtain⟨i8,g2,g3,i3⟩:=Ju G.lt (G.Wu 2) (G.Wu 3) (G.frozen 2);have f9:=zH hb.times;obtain⟨i7,j5,j6,k1⟩:=Ju hb.len hb.gr0 hb.gr1 hb.every;have f2:Word (max b.now t):=kX hb.now j1;obtain⟨Y,n⟩:=yx G e2;obtain⟨d,W⟩:=eX (max b.now t);have k4:max b.now t=d:=W.symm;rw[<-W]at f2;obtain⟨E,N⟩:=eX (b.times.filter (CZ b.every d));(have f4:qy b t= !decide (b.most<=(E.length:Int)):=by unfold qy uY;rw[<-W,<-N]);(have f5:uU b t=if qy b t then{b with now:=d,times:=E++[d],granted:=b.granted+1}else{b with now:=d,times:=E}:=by unfold uU uY;rw[<-W,<-N]);obtain⟨j4,a2⟩:=eX (uU b t);obtain⟨l6,V⟩:=eX (qy b t);rw[<-a2,<-V];rw[f5,<-V]at a2;rw[f4]at V;obtain⟨d0,c6,c4⟩:=Av a2 V N;(have j8:E.length<=64:=by rw[N];exact ay (List.length_filter_le _ _) i7);clear f4 f5 W N a2 V h hb G e2;obtain⟨D,s,l4,l,y⟩:=b;simp only at*
 go_enter Tryz.func113,Tryz.ntmps113;go_wp2_with fail;obtain⟨o,P⟩:=eX (w.setCell ⟨p,2,none⟩ (uI d));rw[<-P];(have c1:Blk o p 314 #[jI D,uI s,uI d,.slice b5 l.length e0,jI y]:=by rw[P];exact Y.o.bF 2 (uI d));(have e3:Mod S [some 314,some 30] w o:=by rw[P];exact(aV S _ w).setCell Y.o (λ_=>J) sM 2 _);(have e8:OwnAt o S 30 1 b5 l.length e0 (l.flatMap woV):=by rw[P];exact n.o.far (n.o.pI Y.o dC));obtain⟨c7,a8,f8⟩:=Av c1 e3 (show Wos o S b5 l from e8.row);have i9:=c1.lt;clear P c1 e3 e8 g2 g3 i3 Y n i8;go_loopw [24,5,7,26,27] (λc3 j2 l9 l7 l8 wr=>∃(j:Nat) (a:List Int) (f:X5) (g:Nat),j<=l.length/\c3=jI j/\j2=.slice f a.length g/\a.length<=j/\
  X3 (OwnAt wr (λk=>o.heap.size<=k/\k<wr.heap.size) 30 1 f a.length g (a.flatMap woV))/\X3 (a++(l.drop j).filter (CZ s d)=E)/\X3 (bW o wr)) (λc3 _ _ _ _ _=>l.length -(intOf c3).toNat)
 (case atStart=>exact⟨0,[],none,0,oM,rfl,rfl,av _,OwnAt.WH,c4.o.symm,aj _ _⟩);case round=>
  obtain⟨j,a,f,g,k3,rfl,rfl,j9,n,c9,z⟩:=hrel;clear c4;have l0:=z.o.size;have O:=c7.o.below z.o i9;obtain⟨d2,d5,g0,d6,g1,d7,d3,d8,d4,d9⟩:=O.c5;have k8:=O.lt;by_cases c0:j<l.length
  .clear O d2 d3 d4 d5 d6 d7 d8 d9
   obtain⟨b,l5,rfl,k0,l3⟩:=f8.o.at_ z.o c0;have m:=c9.o;rw[aR c0,List.filter_cons]at m;have c2:=f9.o _ (aN c0);generalize l[j]=K at*
   have d1:=zH (sI d K f2 c2);cases r:CZ s d K with
   |true=>
    rw[r,aB rfl]at m;have a7:X3 ((a++[K])++(l.drop (j+1)).filter (CZ s d)=E):=zH (by simpa using m);have M:decide (WU d K<s)=true:=r;clear m r c2;go_wp2;refine bN kR kR ?_;(repeat (go_big_quiet_step ((go_at_call 122;exact aJ ((d1.o _).mono λb6 w' h=>⟨h.1,h.2.symm⟩)))));refine aK ?_;rintro _ ⟨nq,rfl⟩;have f3:OwnAt (wr.drewN nq) (λk=>o.heap.size<=k/\k<wr.heap.size) 30 1 f a.length g (a.flatMap woV):=n.o.below (by have hb:=aj wr.heap.size wr;exact BEL);have Z:=zH f3;clear f3;go_wp2_with (at_builtin;refine qH.jO rfl (.tmp 39) (.tmp 41) rfl f g a XG (Z.o.below (by have hb:=aj (wr.drewN nq).heap.size (wr.drewN nq);exact BEL)) (some ⟨wr.heap.size,0,none⟩) 1 [K] (by rfl) (Xg (Wx (wr.drewN nq) _ _)) sO dC ?_;intro v x X U C b9;have L:=zH U;have f1:=(show bW o _ from(by have hb:=z.o;exact BEL)).trans (C.cZ (B:=o.heap.size) sO (λk c h=>by have:=h.1;omega));have f6:=zH f1;have i5:=C.size;simp at i5;clear U C b9 f1);go_roundw;(case rel=>exact⟨j+1,_,v,x,oM,by go_num,sM,by simp;omega,zH (L.o.mono (λk c=>by rcases c with c|c;exact⟨c.1,oM⟩;exact⟨by have:=c.1;simp at this;omega,c.2⟩)),a7,f6⟩);case measure=>exact Yl
   |false=>
    rw[r,Ww sM]at m;have a7:=zH m;have M:decide (WU d K<s)=false:=r;clear m r c2;go_wp2;refine bN kR kR ?_;(repeat (go_big_quiet_step ((go_at_call 122;exact aJ ((d1.o _).mono λb6 w' h=>⟨h.1,h.2.symm⟩)))));refine aK ?_;rintro _ ⟨nq,rfl⟩;go_wp2;go_roundw;(case rel=>exact⟨j+1,a,f,g,oM,by go_num,rfl,oM,zH ((n.o.below (by have hb:=aj wr.heap.size wr;exact BEL)).mono (λk c=>⟨c.1,by simp;omega⟩)),a7,zH (by have hb:=z.o;exact BEL)⟩);case measure=>exact Yl
  .obtain rfl:j=l.length:=oM
   have m:=c9.o;rw[List.drop_length,List.filter_nil,List.append_nil]at m;subst m;have a1:=zH O;clear O;go_wp2_with fail;obtain⟨e,H⟩:=eX (wr.setCell ⟨p,3,none⟩ (.slice f a.length g));rw[<-H];(have a3:Blk e p 314 #[jI D,uI s,uI d,.slice f a.length g,jI y]:=by rw[H];exact a1.o.bF 3 (.slice f a.length g));(have j0:e.heap.size=wr.heap.size:=by rw[H];simp[World.setCell]);have e7:Mod S [some 314,some 30] w wr:=Mod.then a8.o (aH (S:=S) z.o) (λ_ _ h=>h);(have e4:Mod S [some 314,some 30] w e:=by rw[H];exact e7.setCell a1.o (λ_=>J) sM 3 _);have e9:OwnAt e (grow S w e) 30 1 f a.length g (a.flatMap woV):=by
    have h:=n.o.far (q:=p) (i:=3) (u:=.slice f a.length g) (n.o.pI a1.o dC);rw[<-H]at h;exact h.mono λk c=>.inr ⟨ay a8.o.size c.1,by rw[j0];exact c.2⟩
   obtain⟨g4,g9,g5,h0,g6,h1,g7,h2,g8,h3⟩:=a3.c5;have k5:=a3.lt;obtain⟨b3,a9,b2⟩:=Av a3 e4 e9;clear H a3 e4 e9 e7 a1 n z a8 c7 d2 g0 g1 d3 d4 d5 d6 d7 d8 d9;by_cases r:D<=(a.length:Int)
   .have M:=bM r
    refine mQ ?_;rintro _ ⟨nq,rfl⟩;go_wp2;go_ret;have R:=c6.o;rw[M]at R;subst R;rw[d0.o,Ww sM];refine⟨rfl,?_,?_⟩
    .exact⟨⟨f,g,b3.o.drewN _,(b2.o.below (by have hb:=aj e.heap.size e;exact BEL)).mono (λk c=>c)⟩,.inl J⟩
    .exact a9.o.drewN _
   .have M:=bJ r
    refine mQ ?_;rintro _ ⟨nq,rfl⟩;have b7:OwnAt (e.drewN nq) (grow S w e) 30 1 f a.length g (a.flatMap woV):=b2.o.below (by have hb:=aj e.heap.size e;exact BEL);obtain⟨A,Q⟩:=eX (e.drewN nq);rw[<-Q]at b7|-;(have a4:Blk A p 314 #[jI D,uI s,uI d,.slice f a.length g,jI y]:=by rw[Q];exact b3.o.drewN _);(have e5:Mod S [some 314,some 30] w A:=by rw[Q];exact a9.o.drewN _);(have l1:A.heap.size=e.heap.size:=by rw[Q];rfl);obtain⟨h4,h8,h5,h9,h6,i0,e1,i1,h7,i2⟩:=a4.c5;have k6:=a4.lt;obtain⟨c8,b0,Z⟩:=Av a4 e5 b7;clear Q a4 e5 b7 b3 a9 b2 g4 g5 g6 g7 g8 g9 h0 h1 h2 h3;have k2:y+1<9223372036854775808:=oM;go_wp2_with fail;go_region_law (refine qH.Br rfl (.tmp 62) (.tmp 67) rfl f g a XG (Z.o.below (BEL)) (some ⟨A.heap.size,0,none⟩) 1 [d] XG (Xg (Wx _ _ _)) sO dC ?_;intro v x X U C b9;have a6:=Blk.mod (by have h:=c8.o;first|exact h.alloc _|exact(h.drew.alloc _)|exact((h.drewN _).alloc _)) C dC;have e1:=a6.cell 3;have j3:=a6.frozen 3;have a0:=zH a6;have L:=zH U;have b1:=zH C;clear a6 U C b9);all_goals (
     obtain⟨F,I⟩:=eX (X.setCell ⟨p,3,none⟩ (.slice v (a.length+1) x));rw[<-I];(have a5:Blk F p 314 #[jI D,uI s,uI d,.slice v (a.length+1) x,jI y]:=by rw[I];exact a0.o.bF 3 (.slice v (a.length+1) x));(have l2:F.heap.size=X.heap.size:=by rw[I];simp[World.setCell]);have b8:=L.o.far (q:=p) (i:=3) (u:=.slice v (a.length+1) x) (L.o.pI a0.o dC);rw[<-I]at b8;have e6:Mod S [some 314,some 30] w F:=by
      rw[I];refine Mod.setCell (Mod.then (S':=grow S w e) b0.o (Mod.mono (T:=[some 30]) ?_ (λ_ _ h=>h) sM:Mod (grow S w e) [some 314,some 30] A X) (λk c i6=>i6.elim id λh=>by have:=h.1;omega)) a0.o (λ_=>J) sM 3 _;exact Mod.then (S':=grow S w e) (by have:=aV (grow S w e) [some 30] A;first|exact this.alloc _|exact(this.alloc _).drew|exact(this.drew).alloc _|exact(this.drewN _).alloc _) b1.o (λ_ _ h=>h)
     have i4:=b1.o.size;have k9:=b0.o.size;have f0:OwnAt F (grow S w F) 30 1 v (a++[d]).length x ((a++[d]).flatMap woV):=by
      refine b8.mono λk c=>?_;(have j7:A.heap.size<=X.heap.size:=by first|(simp at i4;omega)|omega);rcases c with(c|c)|c
      .exact .inl c
      .exact .inr ⟨c.1,by have:=c.2;omega⟩
      .exact .inr ⟨by have:=c.1;first|(simp at this;omega)|omega,by have:=c.2;omega⟩
     obtain⟨m0,m5,m1,m6,m2,m7,m3,m8,m4,m9⟩:=a5.c5;have k7:=a5.lt;obtain⟨b4,c5,f7⟩:=Av a5 f0 e6;clear I a5 b8 f0 e6 a0 L b1 Z b0 c8 h4 h5 h6 e1 h7 h8 h9 i0 i1 i2 j3;go_wp2;go_ret;have R:=c6.o;rw[M]at R;subst R;rw[d0.o,aB (by rfl)];refine⟨rfl,⟨⟨v,x,?_,?_⟩,.inl J⟩,?_⟩
     .have:=b4.o.bF 4 (jI (y+1))
      simpa using this
     .have:=(c5.o.far (q:=p) (i:=4) (u:=jI (y+1)) (c5.o.pI b4.o dC)).mono (S':=grow S w (F.setCell ⟨p,4,none⟩ (jI (y+1)))) (λk c=>c.elim .inl λh=>.inr ⟨h.1,by simp;exact h.2⟩)
      exact this
     .exact f7.o.setCell b4.o (λ_=>J) sM 4 _)
theorem zL {x n:Int} (h:Word x):Word (yP x n):=by
 unfold yP;split
 .exact⟨dC,dC⟩
 .split
  .exact h
  .have a:(0:Int)<2^n.toNat:=Int.pow_pos dC
   have b:=iQ x (Int.ne_of_gt a);have c:x%2^n.toNat<=x:=by
    have:=Int.emod_add_ediv_mul x (2^n.toNat);have d:0<=x/2^n.toNat*2^n.toNat:=dK (Int.ediv_nonneg h.1 (Int.le_of_lt a)) (Int.le_of_lt a);omega
   exact⟨b,by have:=h.2;omega⟩
theorem R3 (k:Nat):mixN k<18446744073709551616:=by
 have e:∀(c a:Nat),a<2^64->xsN c a<2^64:=λc a h=>Nat.xor_lt_two_pow h (Nat.lt_of_le_of_lt (by rw[Nat.shiftRight_eq_div_pow];exact Nat.div_le_self _ _) h);have d:∀(b a:Nat),mulN b a<2^64:=λb a=>Nat.mod_lt _ dC;unfold mixN;exact e _ _ (d _ _)
theorem pG (h:rG l) (k:Nat):Word (Ai l k):=by
 unfold Ai;split
 .next hk=>rw[getD_at hk];exact h _ (aN hk)
 .exact⟨Int.natCast_nonneg _,by have:=R3 k;omega⟩
theorem rP (l:Le) (s:Se):(gG l s).led.ring=l.ring/\(gG l s).led.dO=l.dO:=by
 unfold gG;split
 .exact⟨rfl,rfl⟩
 .split<;>exact⟨rfl,rfl⟩
theorem Cj {l:Le} {s:Se} {m:Int} (h:∀a∈l.kept,a.len<=m) (d:s.len<=m):∀a∈(gG l s).led.kept,a.len<=m:=by
 have c:∀a∈l.kept++[{s with pn:=l.next}],a.len<=m:=λa b=>by
  rcases WB.1 b with b|b
  .exact h a b
  .obtain rfl:a=_:=by simpa using b
   exact d
 unfold gG;split
 .exact h
 .split
  .exact h
  .simp only
   split
   .exact λa b=>c a (dW b)
   .exact c
theorem Je (l:Le) (s:Se):(jG l s).led.ring=l.ring/\(jG l s).led.dO=l.dO:=by
 unfold jG;split
 .exact⟨rfl,rfl⟩
 .exact rP _ _
theorem KP {l:Le} {s:Se} {m:Int} (h:∀a∈l.kept,a.len<=m) (b:s.len<=m):∀a∈(jG l s).led.kept,a.len<=m:=by
 unfold jG;split
 .exact h
 .exact Cj h b
theorem zk (k:Nat) {e:En} (h:dG k e) (n:Nat) (a:e.words.fI+n<=3*(k+1)):dG (k+1) {e with words:=⟨e.words.l,e.words.fI+n⟩}:=
 {h.mono (Nat.le_succ k)with wt:=a}
theorem zh (e:En):(eH e).c=e.c/\(eH e).dH=e.dH/\(eH e).now=e.now/\(eH e).words.l=e.words.l/\(eH e).words.fI=e.words.fI+1:=by
 unfold eH;split<;>exact⟨rfl,rfl,rfl,rfl,rfl⟩
theorem wM {e:En} (h:dG k e):dG (k+1) (eH e):=by
 have a:dG (k+1) (WG e):=zk k h 1 (by have:=h.wt;omega);unfold eH;split
 .have b:=rP e.led {seZ with aS:=4}
  exact{a with
   le:=NN h.le
   lr:=b.1.trans h.lr
   ll:=b.2.trans h.ll
   lm:=Cj h.lm (by have:=h.cf.Gj;show(0:Int)<=e.c.mss;omega)}
 .exact a
theorem Oe {e:En} {p:Pi} (h:dG k e) (g:iY e.dH e.c.mss=some p):dG (k+1) (jH e p).en:=by
 obtain⟨d,m,n,f,o,q⟩:=nD h.qu g;obtain⟨i,j,s,t,l⟩:=zh e;obtain⟨a,b,r,c⟩:=Ju (wM h) (Iu (eH e).dH p.off p.body.length) h.qu.base0 (Je (eH e).led ⟨0,p.off,p.body.length,yP (jg (eH e)) (eH e).c.bits,(eH e).now,zn (jg (WG (eH e))),false,0⟩);unfold jH wN;exact{a with
  wt:=by show(eH e).words.fI+1+1<=_;rw[l];have:=h.wt;omega
  le:=EF a.le _ (by show 0<=p.off;omega) (zL (pG a.wok _)) a.now
  lr:=c.1.trans a.lr
  ll:=c.2.trans a.ll
  lm:=KP a.lm (by show(p.body.length:Int)<=(eH e).c.mss;rw[i];exact f)
  qu:=Nq a.qu _ _ (by rw[j];exact d)
  qr:=b.1.trans a.qr
  qb:=by show dP (ng (eH e).dH _ _).b;rw[b.2];exact a.qb
  pr:=Nv a.pr a.now}
theorem Lf {e:En} (h:dG k e):dG (k+1) (WQ e).en:=by
 have a:=h.mono (Nat.le_succ k);unfold WQ;split
 (.exact a);split
 .obtain⟨b,c,d⟩:=Hl h.Ho h.DK h.ni
  exact{a with Ho:=by simp only;omega,DK:=by simp only;omega,rO:=by simp only;omega,ni:=by simp only;omega}
 split
 .exact a
 next p hp=>
 split
 (.exact a);split
 (.exact{a with st0:=(by decide:(1:Int)<=3),st1:=(by decide:(3:Int)<=4)});split
 (.exact a);split
 .next ho=>
  obtain⟨b,c,d,g,i,j⟩:=nD h.qu hp;have f:Word (p.body.length:Int):=⟨oM,by have:=h.cf.Ca;omega⟩;have l:(WR e.fM e.c.gD e.now p.body.length).gP=e.fM.gP:=rfl;exact Oe (e:={e with fM:=WR e.fM e.c.gD e.now p.body.length}) {h with pa:=Yr h.pa h.cf.Ym h.now f ho,ra0:=h.ra0,ra1:=h.ra1} hp
 .exact a
theorem wO {e:En} {now:Int} (h:dG k e) (a:Word now):dG (k+1) (fD e now).en:=Lf (qO h a)
def vX (s:Se):Prop:=LD s/\Word s.pn
theorem FH {a:Rse} {s:Se} (h:dG k a.en) (c:vX s):dG k (fH a s).en:=by
 unfold fH;split
 .exact h
 .have b:=rV a.en.led s.pn 2
  exact{h with
   le:=vC h.le s.pn 2 (.inl rfl)
   lr:=b.1.trans h.lr
   ll:=b.2.1.trans h.ll
   lm:=uz h.lm
   qu:=xM h.qu _ _ c.1.vz
   qr:=(yK _ _ _).trans h.qr
   qb:=Ef h.qb}
theorem AM {c:Rse} {s:Se} (h:∀a∈c.fresh,vX a) (d:vX s):(∀a∈(fH c s).fresh,vX a)/\(fH c s).fresh.length<=c.fresh.length+1:=by
 unfold fH;split
 .exact⟨h,Nat.le_succ _⟩
 .simp only
  split
  .refine⟨λa b=>?_,sM⟩
   rcases WB.1 b with b|b
   .exact h a b
   .obtain rfl:a=_:=by simpa using b
    exact d
  .exact⟨h,Nat.le_succ _⟩
theorem Ab {k:Nat}:∀(c:List Se) (a:Rse),dG k a.en->(∀b∈a.fresh,vX b)->(∀b∈c,vX b)->dG k (c.foldl fH a).en/\(∀b∈(c.foldl fH a).fresh,vX b)/\(c.foldl fH a).fresh.length<=a.fresh.length+c.length
 |[],a,h,hf,_=>⟨h,hf,av _⟩
 |s::t,a,h,hf,hl=>by
  have f:=hl s sM;have e:=AM hf f;have d:=Ab t (fH a s) (FH h f) e.1 (λb g=>hl b (by simp[g]));exact⟨d.1,d.2.1,by have:=d.2.2;have:=e.2;simp only[List.foldl_cons,aY];omega⟩
theorem BV {c:Sp} {s:Se} (h:s∈partOf x H c):s∈H:=bf (dW h)
theorem KI (b:Int) (a:List Se) (c:Sp):(partOf b a c).length<=a.length:=by unfold partOf;simp;omega
theorem Et (b:Int) (a:List Se):∀(d:List Sp),(d.flatMap (partOf b a)).length<=d.length*a.length
 |[]=>by simp
 |c::t=>by
  have e:=KI b a c;have f:=Et b a t;rw[List.flatMap_cons,aU,aY,Nat.add_mul,Nat.one_mul];omega
theorem zi {e:En} {a:Ak} (h:dG k e):dG k (ed e a).en/\(∀b∈(ed e a).fresh,vX b)/\(ed e a).fresh.length<=a.cu.length*e.led.kept.length:=by
 have c:=Ab (k:=k) (a.cu.flatMap (partOf (gT e.led) e.led.kept)) ⟨[],false,e⟩ h (λb d=>by cases d) (λb d=>by
  obtain⟨g,_,f⟩:=List.mem_flatMap.1 d;exact⟨h.le.ok b (BV f),h.le.pnw b (BV f)⟩)
 refine⟨c.1,c.2.1,ay c.2.2 ?_⟩;have:=Et (gT e.led) e.led.kept a.cu;simpa using this
theorem vG (m:List Sp):∀(c:List Se) (a:Int),gJ m c=some a->∃b∈c,b.pn=a
 |[],a,h=>by cases h
 |b::t,a,h=>by
  unfold gJ at h;split at h
  .next q hq=>injection h with h;subst h;obtain⟨f,e,d⟩:=vG m t _ hq;exact⟨f,by simp[e],d⟩
  .split at h
   .injection h with h;exact⟨b,sM,h⟩
   .cases h
theorem rX (d:Ro):∀(c:List Se) (a:Int),0<=a->(∀b∈c,vX b)->0<=c.foldl (λa b=>if WM d b.pn then a+b.len else a) a/\c.foldl (λa b=>if WM d b.pn then a+b.len else a) a<=a+1500*c.length
 |[],a,h,_=>⟨h,sM⟩
 |b::t,a,h,hl=>by
  have f:=(hl b sM).1;have j:=f.yQ;have k:=f.Dr;have e:=rX d t (if WM d b.pn then a+b.len else a) (by split<;>omega) (λi g=>hl i (by simp[g]));simp only[List.foldl_cons,aY];refine⟨e.1,oK e.2 ?_⟩;split<;>omega
theorem GJ {e:En} {l:List Se} {top:Int} (h:dG k e) (b:∀a∈l,vX a):dG k (iF e l top):=by
 unfold iF;split
 .exact h
 .next a hs=>
  split
  .exact{h with rtt:=Ad h.rtt (nC h.now (b a (List.mem_of_getLast? hs)).1.sat)}
  .exact h
theorem Mq {e:En} (h:dG k e):Word e.led.next:=⟨h.le.pE,by have:=h.le.nI;have:=h.le.mh;omega⟩
theorem AA {e:En} {m:List Sp} {l:List Se} (h:dG k e) (c:∀a∈l,vX a):dG k (kv e m l):=by
 unfold kv;split
 .exact h
 .next p hp=>
  obtain⟨a,d,rfl⟩:=vG _ _ _ hp;have b:=OC h.cf h.cc h.cw (c a d).2 (Mq h);exact{h with cc:=b.1,cw:=b.2}
theorem uJ {e:En} {p:Int} {b:Bool} (h:dG k e) (c:Word p):dG k (kD e p b):=by
 unfold kD;split
 .have a:=OD h.cf h.cc h.cw c (Mq h)
  exact{h with cc:=a.1,cw:=a.2}
 .exact h
theorem CG {e:En} {l:List Se} (h:dG k e) (d:∀f∈l,vX f) (g:l.length<=1000000):dG k (kE e l):=by
 unfold kE;split
 .have c:=rX e.cc.round l 0 dC d
  have b:=Q9 (a:=ko e.cc.round l) (now:=e.now) (bK:=iI e) h.cf h.cc ⟨c.1,by show ko e.cc.round l<_;unfold ko;omega⟩ h.now (rZ h);exact{h with cc:=b.1,cw:=b.2}
 .exact h
theorem Og {e:En} {l:List Se} {b:Bool} (h:dG k e):dG k (lQ e l b):=by
 unfold lQ;split
 .exact{h with pr:=Ej h.now}
 .exact h
theorem Od {e:En} (h:dG k e):dG k (nN e):=by
 unfold nN;split
 .exact{h with st0:=(by decide:(1:Int)<=3),st1:=(by decide:(3:Int)<=4)}
 .exact h
theorem CF {e:En} {a:Ak} (h:dG k e) (i:a.cu.length<=1000) (l:Word (a.cu.getLastD ⟨0,0⟩).hi):dG k (qh e a):=by
 have b:=zi (a:=a) h;have j:(ed e a).fresh.length<=1000000:=by
  (have f:e.led.kept.length<=256:=by have:=h.le.len;have:=h.le.lW;omega);have m:=Nat.mul_le_mul i f;have:=b.2.2;omega
 have c:=GJ (top:=(a.cu.getLastD ⟨0,0⟩).hi) b.1 b.2.1;have g:dG k {iF (ed e a).en (ed e a).fresh (a.cu.getLastD ⟨0,0⟩).hi with dm:=max (iF (ed e a).en (ed e a).fresh (a.cu.getLastD ⟨0,0⟩).hi).dm (a.cu.getLastD ⟨0,0⟩).hi}:={c with dm:=kX c.dm l};have d:=tC g;exact Od (uH (Og (CG (uJ (AA d.1 b.2.1) d.2) b.2.1 j)))
theorem Cr (g:Gu) (l:Le) (b:List Int) (now:Int):(dN g l b now).led=l\/∃a,(dN g l b now).led=lX l a:=by
 unfold dN;split
 (.exact .inl rfl);split
 (.exact .inl rfl);split
 (.exact .inl rfl);dsimp only;split<;>exact .inr ⟨_,rfl⟩
theorem Ct (g:Gu) (l:Le) (b:List Int) (now:Int):(dN g l b now).ack=akZ\/(dN g l b now).ack=(jy b).val:=by
 unfold dN;split
 (.exact .inl rfl);split
 (.exact .inl rfl);split
 (.exact .inl rfl);dsimp only;split<;>exact .inr rfl
theorem xY (b:List Int) (hb:dP b):(jy b).val.cu.length<=32/\∀c∈(jy b).val.cu,SpW c:=by
 have a:akZ.cu.length<=32/\∀c∈akZ.cu,SpW c:=⟨dC,(λc h=>by cases h)⟩;rcases b with _|⟨j,g⟩
 .exact a
 .have e:dP g:=λi f=>hb i (by simp[f])
  have d:=Yv (bn:=1) e;rw[Fb];split
  (.exact a);unfold dAs;split
  (.exact a);unfold dAm;split
  (.exact a);unfold dAt;split
  (.exact a);unfold dAx;split
  (.exact a);unfold dAp;split
  (.exact a);unfold dAe;split
  (.exact a);split
  (.exact a);split
  .exact a
  .exact⟨d.2.1,d.1⟩
theorem Cu {l:List Sp} (h:∀a∈l,SpW a):Word (l.getLastD ⟨0,0⟩).hi:=by
 cases l with
 |nil=>exact⟨dC,dC⟩
 |cons x t=>exact(h _ (by rw[List.getLastD_cons];exact List.getLastD_mem_cons)).hi
theorem QN {e:En} {b:List Int} (h:dG k e) (hb:dP b):dG (k+1) (xw e b).en:=by
 have j:=h.mono (Nat.le_succ k);unfold xw;split
 .exact j
 .have i:=EN (b:=b) h.gu h.le h.now
  have g:(dN e.gu e.led b e.now).ack.cu.length<=1000/\Word ((dN e.gu e.led b e.now).ack.cu.getLastD ⟨0,0⟩).hi:=by
   rcases Ct e.gu e.led b e.now with d|d<;>rw[d]
   .exact⟨dC,⟨dC,dC⟩⟩
   .have:=xY b hb
    exact⟨oM,Cu this.2⟩
  have m:=h.rO;have p:=h.ni;have l:∀b:Bool,0<=(if b then e.cO+1 else e.cO)/\(if b then e.cO+1 else e.cO)<=((k+1:Nat):Int):=by
   intro b;cases b
   .exact⟨by simpa using m,by simp;omega⟩
   .exact⟨by simp;omega,by simp;omega⟩
  have c:(dN e.gu e.led b e.now).led.ring=e.c.ring/\(dN e.gu e.led b e.now).led.dO=e.c.dO/\∀o∈(dN e.gu e.led b e.now).led.kept,o.len<=e.c.mss:=by
   rcases Cr e.gu e.led b e.now with f|⟨n,f⟩<;>rw[f]
   .exact⟨h.lr,h.ll,h.lm⟩
   .have:=Ci e.led n
    exact⟨this.1.trans h.lr,this.2.1.trans h.ll,EE h.lm⟩
  have a:dG (k+1) {e with gu:=(dN e.gu e.led b e.now).gu,led:=(dN e.gu e.led b e.now).led,cO:=if(dN e.gu e.led b e.now).ver.dU then e.cO+1 else e.cO}:=
   {j with
    gu:=i.1
    le:=i.2
    lr:=c.1
    ll:=c.2.1
    lm:=c.2.2
    rO:=(l _).1
    ni:=(l _).2}
  simp only;split
  .exact{a with st0:=(by decide:(1:Int)<=4),st1:=(by decide:(4:Int)<=4)}
  .split
   .exact CF a g.1 g.2
   .exact a
theorem Mo {e:En} {b:List Int} {now:Int} (h:dG k e) (hb:dP b) (a:Word now):dG (k+1) (lU e b now).en:=QN (qO h a) hb
theorem Lb {e:En} (h:dG k e):dG k (jE e):=by
 unfold jE;split
 (.exact h);split
 .have a:=tC h
  exact uH (uJ a.1 a.2)
 split
 .have a:dG k {e with dS:=jR e.dS e.now}:={h with pr:=BP _ h.now}
  have d:=wP a (eY e.led);have b:dG k {jT {e with dS:=jR e.dS e.now} (eY e.led)with fP:=true}:={d with};simp only;refine uH ?_;split
  .have c:=xC b.cf b.cc
   exact{b with cc:=c.1,cw:=c.2}
  .exact b
 .exact h
theorem EV {e:En} {now:Int} (h:dG k e) (a:Word now):dG k (kr e now):=Lb (qO h a)
theorem wI {P:Program} {X:Prop} {ops:Array Oper} {o:Oper} {a:Act} {Q:X7}
  (y:o.guard=none) (l c:Operand) (t:TypeId) (B:o.op=Op.makeSlice t l c)
  (base:Nat) (e:TypeId) (i:TypeInfo) (z:Value) (size:Nat) (m:P.underlying t=some (.slice e)) (p:P.info? e=some i) (q:i.zero=some z) (r:i.size=size)
  (kl f:IntKind) (d C:Int) (n:Nat) (A:a.eval l=.int kl d) (x:a.eval c=.int f C) (v:d=(n:Int)) (s:C=(n:Int)) (g:i.bytes*n<=281474976710656) (j:n<=maxLen) (k:base<=w.heap.size)
  (u:∀b,b.ownsRow base e size (.slice (some ⟨w.heap.size,0,none⟩) n n) n (madeCells z.cells (n*size)).toList->w.grownBy b none->K (a.put o.dst (.slice (some ⟨w.heap.size,0,none⟩) n n)) b):
  if Region.wanted o (yielded ops a.tmps)=true then Oper.wp P o a w K Q else X:=by
 (have E:Region.wanted o (yielded ops a.tmps)=true:=by simp[Region.wanted,y]);rw[aB E];obtain⟨b,D,F,G⟩:=run_make_full (P:=P) w base t e i z size m p q r kl f n g j k;subst v;subst s;unfold Oper.wp;simp[execOp,B,A,x,D,Result.andThen];exact u b F G
def fil {a:Type} (z:a) (P:List a) (j:Nat):List a:=P.take j++List.replicate (P.length -j) z
theorem AR {a:Type} (z:a) (P:List a) (j:Nat) (b:j<=P.length):(fil z P j).length=P.length:=by simp[fil];omega
theorem zf {a:Type} (z:a) (P:List a):fil z P 0=List.replicate P.length z:=by simp[fil]
theorem Ml {a:Type} (z:a) (P:List a):fil z P P.length=P:=by simp[fil]
theorem Mk {a:Type} (z:a) (P:List a) (j:Nat) (b:j<P.length):(fil z P j).set j P[j]=fil z P (j+1):=by
 unfold fil;(have c:(P.take j).length=j:=by rw[aT];omega);rw[List.set_append_right _ _ oM,c,Nat.sub_self,show P.length -j=(P.length -(j+1))+1 by omega,List.replicate_succ,List.set_cons_zero,bB b,List.append_assoc];rfl
theorem zR (m:List Sp) (l:List Se):(oo m l).length=l.length:=by simp[oo]
def FN (w:World):Nat->Prop:=λa=>w.heap.size<=a
theorem OM (h:rG l):rG (kI l):=λb a=>by
 rcases bT.1 a with rfl|a
 .exact⟨dC,dC⟩
 .exact Fq l 0 ⟨dC,dC⟩ h b a
theorem Kk (a next:Int) (b:List Se) (p:List Int) (q:List Bool) (c:Sp) (t:List Sp) (x:Int) (o:Bool):DR a next b p q (c::t) x o=
 if c.lo<a\/next<=c.hi then⟨0,false,false⟩else
 if((b.take ((c.hi -a).toNat+1)).drop (c.lo -a).toNat).any (λd=>d.aS==4)then⟨0,false,false⟩else
 DR a next b p q t (WN x (WN (p.getD ((c.hi -a).toNat+1) 0) (p.getD (c.lo -a).toNat 0))) (o !=((q.getD ((c.hi -a).toNat+1) false)!=(q.getD (c.lo -a).toNat false))):=rfl
theorem Jr {a:Type} {l:List a} {i:Nat} {d:a} (h:i<l.length):l.getD i d=l[i]:=by rw[aW,aL h];rfl
theorem DN {F:X4} {d e n j:Nat} {b:List Bool} {c:Bool} (I:d≠e) (A:j<l.length) (z:j<b.length)
  (u:OwnAt w F 30 1 (some ⟨d,0,none⟩) n n ((fil 0 l j).flatMap woV)) (r:OwnAt w F 4 1 (some ⟨e,0,none⟩) n n ((fil false b j).flatMap boV))
  (m:(fil 0 l j).set j x=fil 0 l (j+1)) (o:(fil false b j).set j c=fil false b (j+1)):
  OwnAt ((w.setCell ⟨d,j,none⟩ (uI x)).setCell ⟨e,j,none⟩ (bV c)) F 30 1 (some ⟨d,0,none⟩) n n ((fil 0 l (j+1)).flatMap woV)/\
  OwnAt ((w.setCell ⟨d,j,none⟩ (uI x)).setCell ⟨e,j,none⟩ (bV c)) F 4 1 (some ⟨e,0,none⟩) n n ((fil false b (j+1)).flatMap boV)/\
  Mod F [some 30,some 4] w ((w.setCell ⟨d,j,none⟩ (uI x)).setCell ⟨e,j,none⟩ (bV c)):=by
 have E:(fil 0 l j).length=l.length:=AR _ _ _ oM;have D:(fil false b j).length=b.length:=AR _ _ _ oM;obtain⟨_,H,a,y,q,_,C⟩:=u.bF (i:=j) (by rw[oD,bR,E];exact A);injection a with a;injection a with a;subst a;have s:OwnAt (w.setCell ⟨d,j,none⟩ (uI x)) F 4 1 (some ⟨e,0,none⟩) n n ((fil false b j).flatMap boV):=r.far (λk a=>by injection a with a;injection a with a;omega);obtain⟨_,G,a,v,p,_,B⟩:=s.bF (i:=j) (by rw[oW,bR,D];exact z);injection a with a;injection a with a;subst a;have f:=C (uI x);rw[oD,<-List.map_set,m,<-oD]at f;have g:=B (bV c);rw[oW,<-List.map_set,o,<-oW]at g;refine⟨f.far (λk a=>by injection a with a;injection a with a;omega),g,?_⟩;exact((aV F [some 30,some 4] w).setCell (t:=30) q (λ_=>y) sM j _).setCell (t:=4) p (λ_=>v) sM j _
theorem FU {P:Program} {Q:X7} {a:Act} {l:List Oper} (F:Nat->Nat->Act) (C:Nat->Nat->World->Prop) (e:∀b c d,C b c d->Q .normal (F b c) d) (h:(∀b c d,C b c d->Q .normal (F b c) d)->(Code.region p l.toArray true).wp P Q a w):(Code.region p l.toArray true).wp P Q a w:=h e
theorem RJ (S q2 k2:X4) (p:Nat) (l:Le) (a1:X5) (c1:Nat) (u:List Sp) (a2:X5) (c2:Nat) (d:List Sp) (w:World) (h:iJ w S p l) (K:gM l)
  (h7:Sps w q2 a1 u) (C9:u.length<=c1) (D8:u.length<=1000) (m5:∀E∈u,SpW E) (k6:Sps w k2 a2 d) (D0:d.length<=c2) (D9:d.length<=1000) (m6:∀E∈d,SpW E):
  Yk 186 #[pT p,.slice a1 u.length c1,.slice a2 d.length c2] w λc0 f=>c0=.returned (.tuple #[uI (Bn l u d).val,bV (Bn l u d).odd,bV (Bn l u d).ok])/\bW w f:=by
 obtain⟨e6,l6⟩:=eX (Bn l u d);rw[<-l6];obtain⟨d0,e4,o9,Z,p2,w3⟩:=Fy (qw q2 a1 c1 u w h7 oM m5) (λf (c:bW w f)=>qw k2 a2 c2 d f (aD k6 c) oM m6) (λf (c:bW w f)=>qY S p l f (h.below c) K) (λf (c:bW w f)=>sU S p l f (h.below c) K) (λf (c:bW w f)=>pK S p l f (h.below c)) (λ(A3:Int) f (c:bW w f)=>yZ k2 a2 c2 d A3 f (aD k6 c) oM m6);obtain⟨w9,w5,d3⟩:=Av h7 m5 l6;clear l6 h7 k6 m5 m6;cases hg1:iR u with
 |false=>
  rw[hg1]at d0;have k1:X3 (e6=⟨0,false,false⟩):=zH (by rw[d3.o];unfold Bn;rw[hg1];rfl);clear hg1 d3 h K;go_enter Tryz.func186,Tryz.ntmps186;go_wp2_with fail;refine Yd d0.o ?_;intro v8 c;have V:=zH c;clear c;go_wp2_with fail;refine mV ?_;rw[k1.o];exact⟨rfl,V.o⟩
 |true=>
  rw[hg1]at d0;cases hg2:iR d with
  |false=>
   rw[hg2]at e4;have k1:X3 (e6=⟨0,false,false⟩):=zH (by rw[d3.o];unfold Bn;rw[hg1,hg2];rfl);clear hg1 hg2 d3 h K;go_enter Tryz.func186,Tryz.ntmps186;go_wp2_with fail;refine Yd d0.o ?_;intro v8 c;have V:=zH c;clear c;go_wp2_with fail;refine Yd (e4.o _ V.o) ?_;intro n8 c;have e3:=zH (V.o.trans (c.mono V.o.size));clear c;go_wp2_with fail;refine mV ?_;rw[k1.o];exact⟨rfl,e3.o⟩
  |true=>
   rw[hg2]at e4;have d2:X3 (DR (gT l) l.next l.kept (kI (l.kept.map (·.bX))) (kW (oo d l.kept)) u 0 false=e6):=zH (by rw[d3.o];unfold Bn;rw[hg1,hg2];rfl);have w2:=zH (GA hg1);(have D5:l.kept.length<=256:=by have:=K.len;have:=K.lW;omega);obtain⟨w4,C1⟩:=yx K.ok K.pnw_;have D6:=K.ut;have D7:=K.KN;(have E0:l.next<=4611686018427387904:=by have:=K.nI;have:=K.mh;omega);clear hg1 hg2 d3 h K;generalize gT l=s at*
   obtain⟨E8,C5,next,a⟩:=l;simp only at*
   go_enter Tryz.func186,Tryz.ntmps186;go_wp2_with fail;refine Yd d0.o ?_;intro v8 c;have V:=zH c;clear c;go_wp2_with fail;refine Yd (e4.o _ V.o) ?_;intro n8 c;have e3:=zH (V.o.trans (c.mono V.o.size));clear c V;go_wp2_with fail;refine Yd (o9.o _ e3.o) ?_;rintro F3 ⟨n5,rfl⟩;have g4:=zH (aA e3.o n5);go_wp2_with fail;refine(Z.o _ g4.o).mono ?_;rintro c0 D ⟨x6,C4,rfl,z0,s6,c⟩;obtain⟨W,p5⟩:=yx (g4.o.trans (c.mono g4.o.size)) s6;clear c g4 e3 s6 d0 e4 o9 Z;go_wp2_with fail;refine' FU (F:=_) (λx z N=>x≠z/\X3 (OwnAt N (FN w) 30 1 (some ⟨x,0,none⟩) a.length a.length ((fil 0 (a.map (·.bX)) 0).flatMap woV))/\X3 (OwnAt N (FN w) 4 1 (some ⟨z,0,none⟩) a.length a.length ((fil false (oo d a) 0).flatMap boV))/\(∃g3,X3 (Ses N g3 x6 a))/\X3 (bW w N)) ?tl (λq3=>?mn);case mn=>
    obtain⟨t6,s0,t3,t4,t5⟩:=info_parts Fv;obtain⟨t7,s1,t0,t1,t2⟩:=info_parts Mx;refine wp_region_any kR ?_;(try (change wpAny _ _ _ _ _ _ _ (World.drew _)));refine wpAny_take (i:=0) (v:=?_) rfl kR kR kR (λ_ _ _ h=>h) (Or.inl ⟨by rfl,?_⟩) ?_;rotate_left
    (.exact λw=>gS);refine wpAny_take (i:=1) (v:=?_) rfl kR kR kR (λ_ _ _ h=>h) (Or.inl ⟨by rfl,?_⟩) ?_;rotate_left
    (.exact λw=>gS);refine wpAny_take (i:=3) (v:=?_) rfl kR kR kR (λ_ _ _ h=>h) (Or.inl ⟨by rfl,?_⟩) ?_;rotate_left
    (.exact λw=>gS);refine wpAny_take (i:=4) (v:=?_) rfl kR kR kR (λ_ _ _ h=>h) (Or.inl ⟨by rfl,?_⟩) ?_;rotate_left
    (.exact λw=>gS);(try simp only[Act.put,Array.setIfInBounds]);(try go_simp);refine wpAny_ready (rs:=[2,5]) kR sM ?_;refine AllReady.cons (o:={dst:=some 47,op:=Op.makeSlice 23 (Operand.tmp 46) (Operand.tmp 46),type:=23,pos:= "proof.go:18",after:= #[{on:=1,ground:=Ground.data},{on:=1,ground:=Ground.data}],guard:=none}) rfl (λb7 T=>?_) ?_
    .refine wI rfl (.tmp 46) (.tmp 46) 23 rfl w.heap.size 30 t6 (uI 0) 1 Tryz.underlying23 s0 t3 t4 .i64 .i64 (a.length:Int) (a.length:Int) a.length XG XG rfl rfl (by rw[t5];omega) (by simp only[maxLen];omega) (by have k8:=W.o.size;simp;omega) ?_
     intro a4 f5 f3;have f1:=(aj _ _).grown f3 (av _) (λk5 t=>by cases t);obtain⟨Z,a7⟩:=yx f5 f1;clear f5 f3 f1;(try go_simp);refine T _ _ ?_;clear T b7;refine wpAny_take (i:=6) (v:=?_) rfl kR kR kR (λ_ _ _ h=>h) (Or.inl ⟨by rfl,?_⟩) ?_;rotate_left
     (.exact λw=>gS);(try simp only[Act.put,Array.setIfInBounds]);(try go_simp);refine wpAny_ready (rs:=[5]) kR sM ?_;refine AllReady.cons (o:={dst:=some 50,op:=Op.makeSlice 341 (Operand.tmp 49) (Operand.tmp 49),type:=341,pos:= "proof.go:18",after:= #[{on:=4,ground:=Ground.data},{on:=4,ground:=Ground.data}],guard:=none}) rfl (λb7 T=>?_) ?_
     .refine wI rfl (.tmp 49) (.tmp 49) 341 rfl w.heap.size 4 t7 (bV false) 1 Tryz.underlying341 s1 t0 t1 .i64 .i64 (a.length:Int) (a.length:Int) a.length XG XG rfl rfl (by rw[t2];omega) (by simp only[maxLen];omega) (by have k8:=W.o.size;have k7:=a7.o.size;simp at k7;simp;omega) ?_
      intro a5 f6 f4;have f2:=(aj _ _).grown f4 (av _) (λk5 t=>by cases t);obtain⟨L,I⟩:=yx f6 f2;clear f6 f4 f2;(try go_simp);refine T _ _ ?_;clear T b7;refine wpAny_take (i:=7) (v:=?_) rfl kR kR kR (λ_ _ _ h=>h) (Or.inl ⟨by rfl,?_⟩) ?_;rotate_left
      (.exact λw=>gS);(try simp only[Act.put,Array.setIfInBounds]);(try go_simp);refine wpAny_done kR ?_ _;have B:OwnAt a5 (FN w) 30 1 (some ⟨D.heap.size,0,none⟩) a.length a.length _:=((OwnAt.fresh Z.o).below I.o).mono (λn Y=>Y.1);have A:OwnAt a5 (FN w) 4 1 (some ⟨a4.heap.size,0,none⟩) a.length a.length _:=(OwnAt.fresh L.o).mono (λn Y=>Y.1);have C:=a7.o.trans (I.o.mono a7.o.size);have m4:D.heap.size<a4.heap.size:=(OwnAt.fresh Z.o).lt _ rfl;have c:=(W.o.trans ((bA (aj D.heap.size D)).mono W.o.size)).trans (C.mono W.o.size);have J:=p5.o.below (show bW D a5 from(bA (aj D.heap.size D)).trans (C.mono (av _)));have X:D.heap.size≠a4.heap.size:=oM;clear Z a7 L I C m4;generalize D.heap.size=x at B A c J X|-;generalize a4.heap.size=z at B A c J X|-;generalize a5=N at B A c J|-;generalize l2:(λn=>(n8.drewN n5).heap.size<=n/\n<_)=g3 at J;clear l2;rw[pJ (uI 0) rfl]at B;rw[pJ (bV false) rfl]at A;have P:=zR d a;(have f0:OwnAt N (FN w) 30 1 (some ⟨x,0,none⟩) a.length a.length ((fil 0 (a.map (·.bX)) 0).flatMap woV):=by rw[zf,oD,List.map_replicate,bR];exact B);(have e9:OwnAt N (FN w) 4 1 (some ⟨z,0,none⟩) a.length a.length ((fil false (oo d a) 0).flatMap boV):=by rw[zf,oW,List.map_replicate,P];exact A);obtain⟨d1,c9,b5,R⟩:=Bq f0 e9 J c;clear B A f0 e9 J c;exact q3 _ _ _ ⟨X,d1,c9,⟨_,b5⟩,R⟩
     .exact AllReady.nil
    refine AllReady.cons (o:={dst:=some 50,op:=Op.makeSlice 341 (Operand.tmp 49) (Operand.tmp 49),type:=341,pos:= "proof.go:18",after:= #[{on:=4,ground:=Ground.data},{on:=4,ground:=Ground.data}],guard:=none}) rfl (λb7 T=>?_) ?_
    .refine wI rfl (.tmp 49) (.tmp 49) 341 rfl w.heap.size 4 t7 (bV false) 1 Tryz.underlying341 s1 t0 t1 .i64 .i64 (a.length:Int) (a.length:Int) a.length XG XG rfl rfl (by rw[t2];omega) (by simp only[maxLen];omega) (by have k8:=W.o.size;simp;omega) ?_
     intro a5 f6 f4;have f2:=(aj _ _).grown f4 (av _) (λk5 t=>by cases t);obtain⟨L,I⟩:=yx f6 f2;clear f6 f4 f2;(try go_simp);refine T _ _ ?_;clear T b7;refine wpAny_ready (rs:=[2]) kR sM ?_;refine AllReady.cons (o:={dst:=some 47,op:=Op.makeSlice 23 (Operand.tmp 46) (Operand.tmp 46),type:=23,pos:= "proof.go:18",after:= #[{on:=1,ground:=Ground.data},{on:=1,ground:=Ground.data}],guard:=none}) rfl (λb7 T=>?_) ?_
     .refine wI rfl (.tmp 46) (.tmp 46) 23 rfl w.heap.size 30 t6 (uI 0) 1 Tryz.underlying23 s0 t3 t4 .i64 .i64 (a.length:Int) (a.length:Int) a.length XG XG rfl rfl (by rw[t5];omega) (by simp only[maxLen];omega) (by have k8:=W.o.size;have k7:=I.o.size;simp at k7;simp;omega) ?_
      intro a4 f5 f3;have f1:=(aj _ _).grown f3 (av _) (λk5 t=>by cases t);obtain⟨Z,a7⟩:=yx f5 f1;clear f5 f3 f1;(try go_simp);refine T _ _ ?_;clear T b7;refine wpAny_take (i:=6) (v:=?_) rfl kR kR kR (λ_ _ _ h=>h) (Or.inl ⟨by rfl,?_⟩) ?_;rotate_left
      (.exact λw=>gS);refine wpAny_take (i:=7) (v:=?_) rfl kR kR kR (λ_ _ _ h=>h) (Or.inl ⟨by rfl,?_⟩) ?_;rotate_left
      (.exact λw=>gS);(try simp only[Act.put,Array.setIfInBounds]);(try go_simp);refine wpAny_done kR ?_ _;have A:OwnAt a4 (FN w) 4 1 (some ⟨D.heap.size,0,none⟩) a.length a.length _:=((OwnAt.fresh L.o).below a7.o).mono (λn Y=>Y.1);have B:OwnAt a4 (FN w) 30 1 (some ⟨a5.heap.size,0,none⟩) a.length a.length _:=(OwnAt.fresh Z.o).mono (λn Y=>Y.1);have C:=I.o.trans (a7.o.mono I.o.size);have m4:D.heap.size<a5.heap.size:=(OwnAt.fresh L.o).lt _ rfl;have c:=(W.o.trans ((bA (aj D.heap.size D)).mono W.o.size)).trans (C.mono W.o.size);have J:=p5.o.below (show bW D a4 from(bA (aj D.heap.size D)).trans (C.mono (av _)));have X:a5.heap.size≠D.heap.size:=oM;clear Z a7 L I C m4;generalize a5.heap.size=x at B A c J X|-;generalize D.heap.size=z at B A c J X|-;generalize a4=N at B A c J|-;generalize l2:(λn=>(n8.drewN n5).heap.size<=n/\n<_)=g3 at J;clear l2;rw[pJ (uI 0) rfl]at B;rw[pJ (bV false) rfl]at A;have P:=zR d a;(have f0:OwnAt N (FN w) 30 1 (some ⟨x,0,none⟩) a.length a.length ((fil 0 (a.map (·.bX)) 0).flatMap woV):=by rw[zf,oD,List.map_replicate,bR];exact B);(have e9:OwnAt N (FN w) 4 1 (some ⟨z,0,none⟩) a.length a.length ((fil false (oo d a) 0).flatMap boV):=by rw[zf,oW,List.map_replicate,P];exact A);obtain⟨d1,c9,b5,R⟩:=Bq f0 e9 J c;clear B A f0 e9 J c;exact q3 _ _ _ ⟨X,d1,c9,⟨_,b5⟩,R⟩
     .exact AllReady.nil
    exact AllReady.nil
   case tl=>
    rintro x z N ⟨X,d1,c9,⟨g3,b5⟩,R⟩;have P:=zR d a;go_wp2;go_loopw [53,13,14,55,56,57] (λU F7 F8 G1 G2 G3 wr=>∃(b:Nat),b<=a.length/\U=jI b/\X3 (OwnAt wr (FN w) 30 1 (some ⟨x,0,none⟩) a.length a.length ((fil 0 (a.map (·.bX)) b).flatMap woV))/\X3 (OwnAt wr (FN w) 4 1 (some ⟨z,0,none⟩) a.length a.length ((fil false (oo d a) b).flatMap boV))/\X3 (Mod (FN w) [some 30,some 4] N wr)) (λU _ _ _ _ _ _=>a.length -(intOf U).toNat);(case atStart=>exact⟨0,oM,rfl,d1,c9,zH (aV _ _ _)⟩);case round=>
     clear d1 c9;obtain⟨b,z1,rfl,e5,L,b4⟩:=hrel;have j1:=zH (R.o.trans (b4.o.cZ R.o.size (λn Y h=>by have y8:w.heap.size<=n:=h;omega)));by_cases H:b<a.length
     .have p9:=aG b5.o (b4.o.aM (ts:=[some 177]) dC) sM
      obtain⟨x7,A6,rfl,r4,d7,d8,t8,t9,v0,v1,v2,v3⟩:=Ses.at_ p9 (aj _ _) H;clear p9;have s4:(a.map (·.bX))[b]'(by simpa using H)=a[b].bX:=sM;(have r7:(oo d a)[b]'oM=(a[b].rE&& !oQ d a[b].pn):=by simp[oo]);have l4:=Mk 0 (a.map (·.bX)) b (by simpa using H);have l1:=Mk false (oo d a) b oM;rw[s4]at l4;rw[r7]at l1;(have m1:(fil (0:Int) (a.map (·.bX)) b).length=a.length:=by rw[AR _ _ _ (by rw[bR];omega),bR]);(have m0:(fil false (oo d a) b).length=a.length:=by rw[AR _ _ _ oM,P]);obtain⟨_,y3,t,_,l0,r6,_⟩:=e5.o.bF (i:=b) (by rw[oD,bR,m1];exact H);injection t with t;injection t with t;subst t;obtain⟨_,y2,t,_,k9,r5,_⟩:=L.o.bF (i:=b) (by rw[oW,bR,m0];exact H);injection t with t;injection t with t;subst t;obtain⟨u1,s7⟩:∃n7,y3[b]?=some n7:=⟨_,r6 b _ (aL (by rw[oD,bR,m1];exact H))⟩;obtain⟨u2,s8⟩:∃n7,y2[b]?=some n7:=⟨_,r5 b _ (aL (by rw[oW,bR,m0];exact H))⟩;obtain⟨g6,I,j7,a0⟩:=Bq l0 k9 l4 l1;have f8:=l0.lt;have f7:=k9.lt;clear r6 r5 l0 k9 l4 l1 m1 m0 s4 r7;obtain⟨j5,q0,q1⟩:=Av (w3.o a[b].pn) s7 s8;clear s7 s8;generalize a[b]=E at*
      obtain⟨c6,i8,i5,b9,i7,i6,i9,d5⟩:=E;simp only at d7 d8 t8 t9 v0 v1 v2 v3 j5 j7 a0;go_wp2_with fail;obtain⟨G,h9⟩:=eX (wr.alloc (.cells #[uI c6,uI i8,uI i5,uI b9,uI i7,bV i6,bV i9,jI d5] 177));rw[<-h9];(have b1:bW wr G:=by rw[h9];exact BEL);(have C:Blk G wr.heap.size 177 #[uI c6,uI i8,uI i5,uI b9,uI i7,bV i6,bV i9,jI d5]:=by rw[h9];exact Wx _ _ _);have h6:=((g6.o.below b1 f8).cell b).trans q0.o;have k4:=(g6.o.below b1 f8).frozen b;have h5:=((I.o.below b1 f7).cell b).trans q1.o;have k3:=(I.o.below b1 f7).frozen b;have m9:wr.heap.size<G.heap.size:=C.lt;have n4:¬(x=wr.heap.size):=oM;have A4:¬(z=wr.heap.size):=oM;have A5:¬(x=z):=oM;obtain⟨e2,n9,o0⟩:=C.e3 0 3 5;obtain⟨b2,x3⟩:=yx b1 (show Blk G.drew wr.heap.size 177 _ from C);have d9:=g6.o.below b1 f8;have e0:=I.o.below b1 f7;obtain⟨o3,o2⟩:=yx (show Blk G.drew x _ _ from d9) (show Blk G.drew z _ _ from e0);clear d9 e0;clear h9 b1 C d7 d8 t8 t9 v0 v1 v2 v3;obtain⟨w1,p0,o7,j6⟩:=Bq (show bW w G from j1.o.trans (b2.o.mono j1.o.size)) (e5.o.below b2.o) (L.o.below b2.o) (b4.o.trans (aH b2.o));have v5:x<G.heap.size:=aC f8 b2.o.size;have v4:z<G.heap.size:=aC f7 b2.o.size;(have s3:b<(a.map (·.bX)).length:=by rw[bR];exact H);(have s2:b<(oo d a).length:=by rw[P];exact H);clear e5 L b4 b2 g6 I f8 f7 q0 q1;cases i6 with
      |false=>
       rw[Bool.false_and]at a0;have r:Blk G.drew wr.heap.size 177 _:=x3.o;refine aZ (S:=(λf=>Blk f wr.heap.size 177 #[uI c6,uI i8,uI i5,uI b9,uI i7,bV false,bV i9,jI d5])) kR r (λl3=>?_);clear l3;refine tK 0 58 r ?_;refine tK 1 59 r ?_;refine tK 2 60 r ?_;refine tK 3 61 r ?_;refine tK 4 62 r ?_;refine X6 5 63 r ?_ (y:=by intro w l7;have E9:=l7.Wu 3;exact gS);refine tK 6 64 r ?_;refine X6 7 65 r ?_ (y:=by intro w l7;have F0:=l7.Wu 5;exact gS);refine tK 8 66 r ?_;refine tkU 9 (some 67) r (h:=?_);refine tkU 10 (some 68) r (h:=?_);refine tkU 11 (some 69) r (h:=?_);refine tkU 12 (some 70) r (h:=?_);refine tkU 13 (some 71) r (h:=?_);refine tK 14 72 r ?_;refine tK 15 73 r ?_;refine aI 16 kR ?_;refine fF (op:=_) rfl kR kR 30 (.tmp 73) (.tmp 63) kR x b (uI b9) kR kR rfl kR o3.o (Array.getElem?_eq_some_iff.1 ((o3.o.cell b).symm.trans h6)).1 ?_;intro F1 y4;subst y4;refine⟨r.far (Ne.symm n4) _,?_⟩;refine tk 17 (some 74) (r.far (Ne.symm n4) _) (h:=?_);refine aI 18 kR ?_;refine fF (op:=_) rfl kR kR 4 (.tmp 74) (.tmp 72) kR z b (bV false) kR kR rfl kR (o2.o.far (Ne.symm A5) _) (Array.getElem?_eq_some_iff.1 ((o2.o.cell b).symm.trans h5)).1 ?_;intro F2 y5;subst y5;refine⟨(r.far (Ne.symm n4) _).far (Ne.symm A4) _,?_⟩;refine bg kR ?_ _;all_goals
        clear r;obtain⟨g0,g1,g2⟩:=DN X s3 s2 p0.o o7.o j7.o a0.o;obtain⟨h2,h3,h4⟩:=Av g0 g1 g2;clear g0 g1 g2 e2 n9 o0 h6 k4 h5 k3;go_wp2;go_roundw;(case rel=>exact⟨b+1,oM,by go_num,zH (h2.o.below (bA (aj _ _))),zH (h3.o.below (bA (aj _ _))),zH (j6.o.trans h4.o).drew⟩);case measure=>exact Yl
      |true=>
       rw[Bool.true_and]at a0;obtain⟨Q,r9⟩:=eX (oQ d c6);rw[<-r9]at a0 j5;clear r9;(first|(go_region_held3 (λf=>f.cell? ⟨wr.heap.size,0,none⟩=some (uI c6)/\f.cell? ⟨wr.heap.size,3,none⟩=some (uI b9)/\f.cell? ⟨wr.heap.size,5,none⟩=some (.bool true)) (first|simp[go_sem, *]) (first|(go_at_call 156;refine(j5.o _ (by have C6:=w1.o;exact BEL)).mono ?_;rintro c0 a3 ⟨rfl,O⟩;have x9:a3.cell? ⟨x,b,none⟩=some u1:=(O.cell (p:=⟨x,b,none⟩) v5).trans h6;have y7:a3.frozen? ⟨x,b,none⟩=false:=(O.frozen (p:=⟨x,b,none⟩) v5).trans k4;have x8:a3.cell? ⟨z,b,none⟩=some u2:=(O.cell (p:=⟨z,b,none⟩) v4).trans h5;have y6:a3.frozen? ⟨z,b,none⟩=false:=(O.frozen (p:=⟨z,b,none⟩) v4).trans k3;have B8:a3.cell? ⟨wr.heap.size,0,none⟩=some (uI c6):=(O.cell (p:=⟨wr.heap.size,0,none⟩) m9).trans e2;have B9:a3.cell? ⟨wr.heap.size,3,none⟩=some (uI b9):=(O.cell (p:=⟨wr.heap.size,3,none⟩) m9).trans n9;have C0:a3.cell? ⟨wr.heap.size,5,none⟩=some (.bool true):=(O.cell (p:=⟨wr.heap.size,5,none⟩) m9).trans o0;have r2:bW G a3:=(by have h7:=aj G.heap.size G;exact BEL:bW G _).trans O;have a6:=zH r2;clear O r2)))|fail "no");all_goals
        rename_i l3;clear l3;obtain⟨g0,g1,g2⟩:=DN X s3 s2 (p0.o.below a6.o) (o7.o.below a6.o) j7.o a0.o;obtain⟨h2,h3,h4⟩:=Av g0 g1 g2;clear g0 g1 g2 e2 n9 o0 h6 k4 h5 k3 x9 y7 x8 y6 B8 B9 C0;go_wp2;go_roundw;(case rel=>first|exact⟨b+1,oM,by go_num,zH h2.o,zH h3.o,zH ((j6.o.trans (aH a6.o)).trans h4.o)⟩|exact⟨b+1,oM,by go_num,zH (h2.o.below (bA (aj _ _))),zH (h3.o.below (bA (aj _ _))),zH ((j6.o.trans (aH a6.o)).trans h4.o).drew⟩);case measure=>exact Yl
     .obtain rfl:b=a.length:=oM
      (have c4:a.length=(a.map (·.bX)).length:=by rw[bR]);obtain⟨B,A,e7,e8⟩:=Ju e5.o L.o (Ml 0 (a.map (·.bX))) (Ml false (oo d a));rw[<-c4]at e7;rw[P]at e8;rw[e7]at B;rw[e8]at A;clear e7 e8;clear c4;obtain⟨j2,p6⟩:=yx (R.o.trans (b4.o.cZ R.o.size (λn Y h=>by have y8:w.heap.size<=n:=h;omega))) (aG b5.o (b4.o.aM (ts:=[some 177]) dC) sM);have h8:rG (a.map (·.bX)):=λG6 z4=>by
       obtain⟨E,z2,rfl⟩:=List.mem_map.1 z4;exact(w4.o E z2).bX
      obtain⟨g9,l5⟩:=eX (a.map (·.bX));obtain⟨j0,q6⟩:=eX (oo d a);(have c4:g9.length=a.length:=by rw[l5,bR]);rw[<-q6]at P d2 A;rw[<-l5]at d2 B h8;clear l5 q6;obtain⟨p1,b6⟩:=yx h8 (OL (FN w) (some ⟨x,0,none⟩) a.length g9 wr (by unfold Wos;rw[c4];exact B.row) oM h8);rw[c4]at b6;have a0:=zH A;have m3:=GU g9;have g8:=zH (OM p1.o);have m2:=IM j0;obtain⟨h0,q8⟩:=eX (kI g9);rw[<-q8]at b6 d2 m3 g8;rw[c4]at m3;rw[P]at m2;clear B A h8 b5 e5 L b4 R j1 q8 p1 c4;go_wp2_with fail;refine(b6.o).mono ?_;rintro c0 B2 ⟨x4,y0,rfl,q7,i0⟩;obtain⟨p3,g7⟩:=yx q7 (Qd (FN w) (some ⟨z,0,none⟩) a.length j0 B2 (by unfold Bos;rw[P];exact(a0.o.below i0).row) oM);obtain⟨h1,r0⟩:=eX (kW j0);rw[<-r0]at g7 d2 m2;rw[P]at g7;obtain⟨j3,p7⟩:=yx (j2.o.trans (i0.mono j2.o.size)) (p6.o.below i0);clear q7 i0 b6 r0 P a0;go_wp2_with fail;refine(g7.o).mono ?_;rintro c0 B3 ⟨x5,y1,rfl,q9,i1⟩;obtain⟨w8,w6,o1,p8⟩:=Bq q9 (aD p3.o i1) (j3.o.trans (i1.mono j3.o.size)) (p7.o.below i1);clear q9 i1 g7 p3 p6 p7 j2 j3;go_wp2;go_loopw [82,17,18,20,84,85] (λU B6 B7 F9 G4 G5 B5=>∃(b:Nat) (e1:Int) (f9:Bool),b<=u.length/\U=jI b/\B6=uI e1/\B7=bV f9/\X3 (Word e1)/\X3 (DR s next a h0 h1 (u.drop b) e1 f9=e6)/\X3 (bW B3 B5)) (λU _ _ _ _ _ _=>u.length -(intOf U).toNat);(case atStart=>exact⟨0,0,false,oM,rfl,rfl,rfl,zH ⟨dC,dC⟩,d2,zH (aj _ _)⟩);case round=>
       clear d2;obtain⟨b,e1,f9,z1,rfl,rfl,rfl,b6,k0,j4⟩:=hrel;have a8:=zH (o1.o.trans (j4.o.mono o1.o.size));by_cases H:b<u.length
       .obtain⟨x7,A6,rfl,r4,d7,d8⟩:=Sps.at_ w9.o a8.o H
        have C8:=aC r4 a8.o.size;have g:=k0.o;rw[aR H,Kk]at g;have n0:=w5.o _ (aN H);have r8:=zF.1 (w2.o _ (aN H));generalize u[b]=E at*
        obtain⟨b0,a9⟩:=E;simp only at d7 d8 g r8;obtain⟨D2,D3⟩:=r8;have E3:Word b0:=n0.lo;have E4:Word a9:=n0.hi;clear n0;by_cases d9:b0<s
        .rw[aB (Or.inl d9)]at g
         have M:=zH g;(have A8:=bM d9);clear g;go_wp2;refine mQ ?_;rintro _ ⟨nq,rfl⟩;refine mV ?_;rw[<-M.o];exact⟨rfl,by have c:=a8.o;have C:=c.size;exact BEL⟩
        (have A8:=bJ d9);by_cases e0:next<=a9
        .rw[aB (Or.inr e0)]at g
         have M:=zH g;(have A9:=bM e0);clear g;go_wp2_with fail;generalize c3:wr.alloc (.cells #[uI b0,uI a9] 272)=b8;(have d6:bW wr b8:=by rw[<-c3];exact BEL);(have c5:Blk b8 wr.heap.size 272 #[uI b0,uI a9]:=by rw[<-c3];exact Wx _ _ _);obtain⟨e2,w0⟩:=c5.e2 0 1;have b3:=zH (a8.o.trans (d6.mono a8.o.size));clear c3 d6 c5 d7 d8;refine bN kR kR ?_;(repeat (go_big_quiet_step (((go_at_call 61;exact aJ ((p2.o _ (aA b3.o _)).mono λc0 f h=>⟨h.1,h.2.symm⟩))))));refine aK ?_;rintro _ ⟨nq,rfl⟩;refine mV ?_;rw[<-M.o];exact⟨rfl,by have c:=b3.o;have C:=c.size;exact BEL⟩
        .have A9:=bJ e0
         rw[Ww oM]at g;obtain⟨q,rfl⟩:∃q:Nat,b0=s+q:=⟨(b0 -s).toNat,oM⟩;obtain⟨e,rfl⟩:∃e:Nat,a9=s+e:=⟨(a9 -s).toNat,oM⟩;have D1:q<=e:=oM;have z3:e<a.length:=oM;rw[show(s+(e:Int) -s).toNat=e by omega,show(s+(q:Int) -s).toNat=q by omega]at g;have E1:s+(q:Int) -s=q:=oM;have E2:s+(e:Int) -s=e:=oM;have M:=zH g;clear g;obtain⟨C3,A7,rfl,_⟩:=Ses.at_ p8.o (aj _ _) z3;go_wp2_with fail;generalize c3:wr.alloc (.cells #[uI (s+q),uI (s+e)] 272)=b8;(have d6:bW wr b8:=by rw[<-c3];exact BEL);(have c5:Blk b8 wr.heap.size 272 #[uI (s+q),uI (s+e)]:=by rw[<-c3];exact Wx _ _ _);obtain⟨e2,w0⟩:=c5.e2 0 1;obtain⟨b3,g5⟩:=yx (a8.o.trans (d6.mono a8.o.size)) (j4.o.trans (d6.mono j4.o.size));clear c3 d6 c5 d7 d8;refine bN kR kR ?_;(repeat (go_big_quiet_step (((go_at_call 61;exact aJ ((p2.o _ (aA b3.o _)).mono λc0 f h=>⟨h.1,h.2.symm⟩))))));refine aK ?_;rintro _ ⟨nq,rfl⟩;go_wp2;refine mQ ?_;rintro _ ⟨nq,rfl⟩;go_wp2_with fail;have m8:=pZ.part (k:=q) (m:=e+1) (p8.o.below g5.o) oM oM z0;rw[lD oM]at m8;(have m7:((a.take (e+1)).drop q).length=e+1 -q:=by rw[bI,aT];omega);generalize(a.take (e+1)).drop q=n6 at*
         generalize A7+q*8=E7 at*
         have p4:=zH m8;clear m8 e2 w0;obtain⟨q4,l8⟩:=eX (n6.any (λE=>E.aS==4));rw[<-l8]at M;have d4:=zH l8.symm;clear l8;generalize r1:World.drewN b8 _=q5;(have i2:bW b8 q5:=by rw[<-r1];exact BEL);obtain⟨o4,c7,w7⟩:=Av (b3.o.trans (i2.mono b3.o.size)) (g5.o.trans (i2.mono g5.o.size)) (aD p4.o i2);clear r1 i2 p4 b3 g5 k0;go_loopw [113,24,115,116] (λU G0 F5 F6 B4=>∃(n:Nat),n<=e+1 -q/\U=jI n/\X3 ((n6.drop n).any (λE=>E.aS==4)=q4)/\X3 (bW q5 B4)) (λU _ _ _ _=>(e+1 -q) -(intOf U).toNat);(case atStart=>exact⟨0,oM,rfl,d4,zH (aj _ _)⟩);case round=>
          clear d4;obtain⟨n,Y,rfl,d4,c8⟩:=hrel;have o5:=zH (o4.o.trans (c8.o.mono o4.o.size));have E5:=o5.o.size;by_cases i3:n<e+1 -q
          .obtain⟨C2,E6,l9,C7,z5,z6,z7,z8,z9,A0,A1,A2⟩:=Ses.at_ w7.o c8.o (j:=n) (by rw[m7];exact i3)
           injection l9 with l9;injection l9 with e7 e8;subst e7 e8;have Q:=d4.o;rw[aR (by rw[m7];exact i3),List.any_cons]at Q;generalize n6[n]'(by rw[m7];exact i3)=E at*
           obtain⟨c6,i8,i5,b9,i7,i6,i9,d5⟩:=E;simp only at z5 z6 z7 z8 z9 A0 A1 A2 Q;have D4:(n:Int)<((e+1 -q:Nat):Int):=Int.ofNat_lt.2 i3;by_cases v6:d5=4
           .subst v6
            have x1:X3 (q4=true):=zH (by rw[<-Q];rfl);have g:=M.o;rw[x1.o,aB rfl]at g;have M:=zH g;clear g Q;go_wp2_with fail;refine mV ?_;rw[<-M.o];exact⟨rfl,by have c:=o5.o;have C:=c.size;exact BEL⟩
           .have B0:(d5==4)=false:=by simp[v6]
            rw[B0,Bool.false_or]at Q;have x0:=zH Q;clear Q;go_wp2;go_roundw;(case rel=>exact⟨n+1,oM,by go_num,x0,zH (by have c:=c8.o;have C:=c.size;exact BEL)⟩);case measure=>exact Yl
          .obtain rfl:n=e+1 -q:=oM
           have Q:=d4.o;rw[List.drop_of_length_le oM]at Q;have g:=M.o;rw[<-Q,List.any_nil,Ww dC]at g;have s9:=aD w6.o (c7.o.trans (c8.o.mono c7.o.size));have s5:=aD w8.o (c7.o.trans (c8.o.mono c7.o.size));obtain⟨v7,i4⟩:=eX (WN (h0.getD (e+1) 0) (h0.getD q 0));obtain⟨B1,n1⟩:=eX ((h1.getD (e+1) false !=h1.getD q false));obtain⟨j9,j8⟩:=yx (P5 _ x4 y0 h0 q (e+1) wr s9 oM oM oM g8.o) (λf (c:bW wr f)=>RY _ x5 y1 h1 q (e+1) f (aD s5 c) oM oM oM);rw[<-i4]at j9;rw[<-n1]at j8;rw[<-i4,<-n1]at g;rw[m3,show((e+1:Nat):Int)=(e:Int)+1 by omega]at j9;rw[m2,show((e+1:Nat):Int)=(e:Int)+1 by omega]at j8;have o8:=zH g;have n2:Word v7:=by
            rw[i4];refine wm ?_ ?_
            .rw[Jr oM];exact g8.o _ (aN _)
            .rw[Jr oM];exact g8.o _ (aN _)
           have y9:=yt b6.o n2;obtain⟨v9,n3⟩:=eX (WN e1 v7);have x2:X3 (Word v9):=zH (by rw[n3];exact wm b6.o n2);rw[<-n3]at y9 o8;clear g Q s9 s5 i4 n1 n2 n3 d4 M;have o6:=zH (c7.o.trans (c8.o.mono c7.o.size));go_wp2_with fail;refine Yd j9.o ?_;intro a3 O;have a6:=zH O;clear O;go_wp2_with fail;refine Yd (j8.o _ a6.o) ?_;intro F4 r3;have R:=zH (o6.o.trans ((a6.o.trans (r3.mono a6.o.size)).mono o6.o.size));clear r3;go_wp2;go_roundw;(case rel=>exact⟨b+1,v9,(f9 !=B1),oM,by go_num,rfl,rfl,x2,o8,R⟩);case measure=>exact Yl
       .obtain rfl:b=u.length:=oM
        have g:=k0.o;rw[List.drop_length]at g;have M:X3 (⟨e1,f9,true⟩=e6):=zH g;clear g;go_wp2_with fail;refine mV ?_;rw[<-M.o];exact⟨rfl,a8.o⟩
def sx (g:Gu) (q o:Int) (e:En):En:={e with gu:=g,told:=q,cO:=o}
def shG (g:Gu):Gu:=⟨⟨0,0,0,[],0⟩,⟨0,0,0,0,0⟩,g.over⟩
def sd (e:En):En:=sx (shG e.gu) 0 0 e
def shR (g:Gu) (q o:Int) (a:Rse):Rse:={a with en:=sx g q o a.en}
def shP (g:Gu) (q o:Int) (a:Rpo):Rpo:={a with en:=sx g q o a.en}
def qV (e:En) (top:Int):En:={e with dm:=max e.dm top}
def e1T (e:En):En:={jT {e with dS:=jR e.dS e.now} (eY e.led)with fP:=true}
def onE (v:Ve) (a:Ak) (e:En):En:=if v.kind=3 then{e with aS:=4}else if v.kind=2 then qh e a else e
section
variable (g:Gu) (q o:Int)
theorem OY (e:En) (b:List Int):fU (sx g q o e) b=⟨(fU e b).n,(fU e b).err,sx g q o (fU e b).en⟩:=by
 show(if e.aS≠1 then(⟨0,9,sx g q o e⟩:Ren)else⟨kg e.dH b.length,if kg e.dH b.length<b.length then 7 else 0,(sx g q o) {e with dH:=oI e.dH b}⟩)=_;unfold fU;by_cases a:e.aS≠1
 .rw[aB a,aB a]
 .rw[Ww a,Ww a]
theorem Hz:∀(b:List Int) (a:En),b.foldl jT (sx g q o a)=sx g q o (b.foldl jT a)
 |[],_=>rfl
 |x::t,a=>Hz t (jT a x)
theorem Pj (e:En):(iB (sx g q o e)).lost=(iB e).lost:=rfl
theorem Ph (e:En):(iB (sx g q o e)).some_=(iB e).some_:=rfl
theorem Xp (e:En):(iB (sx g q o e)).en=sx g q o (iB e).en:=Hz g q o (qi e).lost {e with gU:=(qi e).next}
theorem Pb (e:En):jm (sx g q o e)=sx g q o (jm e):=rfl
theorem Hy (e:En) (l:Int) (b:Bool):kD (sx g q o e) l b=sx g q o (kD e l b):=by cases b<;>rfl
theorem Bi (e:En):jE e=(if Yn e=true then e else if tH e.now e.gU=true then jm (kD (iB e).en (iB e).lost (iB e).some_)else if tH e.now (jJ e)=true then jm (if 3<=(e1T e).dS.count then{e1T e with cc:=kz (e1T e).c (e1T e).cc}else e1T e)else e):=rfl
theorem Hr (e:En):jE (sx g q o e)=sx g q o (jE e):=by
 have f:jE (sx g q o e)=(if Yn e=true then(sx g q o) e else if tH e.now e.gU=true then jm (kD (iB (sx g q o e)).en (iB e).lost (iB e).some_)else if tH e.now (jJ e)=true then jm (if 3<=(e1T e).dS.count then(sx g q o) {e1T e with cc:=kz (e1T e).c (e1T e).cc}else(sx g q o) (e1T e))else(sx g q o) e):=rfl;rw[f,Bi,Xp,Hy];by_cases a:Yn e=true
 (.rw[aB a,aB a]);rw[Ww a,Ww a];by_cases b:tH e.now e.gU=true
 (.rw[aB b,aB b];rfl);rw[Ww b,Ww b];by_cases c:tH e.now (jJ e)=true
 .rw[aB c,aB c]
  by_cases d:3<=(e1T e).dS.count
  .rw[aB d,aB d];rfl
  .rw[Ww d,Ww d];rfl
 .rw[Ww c,Ww c]
theorem RE (e:En) (now:Int):kr (sx g q o e) now=sx g q o (kr e now):=Hr g q o (nO e now)
theorem MU (b:Rse) (s:Se):fH (shR g q o b) s=shR g q o (fH b s):=by
 unfold fH;by_cases a:s.aS≠1/\s.aS≠3
 .rw[aB a,aB a]
 .rw[Ww a,Ww a];rfl
theorem Bj:∀(b:List Se) (a:Rse),b.foldl fH (shR g q o a)=shR g q o (b.foldl fH a)
 |[],_=>rfl
 |s::t,a=>by
  rw[List.foldl_cons,List.foldl_cons,MU];exact Bj t _
theorem xH (e:En) (a:Ak):ed (sx g q o e) a=shR g q o (ed e a):=Bj g q o (a.cu.flatMap (partOf (gT e.led) e.led.kept)) ⟨[],false,e⟩
theorem Kj (e:En) (f:List Se) (top:Int):iF (sx g q o e) f top=sx g q o (iF e f top):=by
 unfold iF;cases f.getLast? with
 |none=>rfl
 |some s=>
  dsimp only;by_cases a:s.pn=top
  .rw[aB a,aB a];rfl
  .rw[Ww a,Ww a]
theorem Pf (e:En) (top:Int):qV (sx g q o e) top=sx g q o (qV e top):=rfl
theorem MV (e:En) (m:List Sp) (f:List Se):kv (sx g q o e) m f=sx g q o (kv e m f):=by
 unfold kv;cases gJ m f<;>rfl
theorem Pg (e:En) (f:List Se):kE (sx g q o e) f=sx g q o (kE e f):=by
 show(if 0<ko e.cc.round f then(sx g q o) {e with cc:=vQ e.c e.cc (ko e.cc.round f) e.now (iI e)}else(sx g q o) e)=_;unfold kE;by_cases a:0<ko e.cc.round f
 .rw[aB a,aB a]
 .rw[Ww a,Ww a]
theorem RI (e:En) (f:List Se) (l:Bool):lQ (sx g q o e) f l=sx g q o (lQ e f l):=by
 unfold lQ;by_cases a:0<f.length\/l=true
 .rw[aB a,aB a];rfl
 .rw[Ww a,Ww a]
theorem RG (e:En):nN (sx g q o e)=sx g q o (nN e):=by
 show(if e.aS=2/\rC e=true then(sx g q o) {e with aS:=3}else(sx g q o) e)=_;unfold nN;by_cases a:e.aS=2/\rC e=true
 .rw[aB a,aB a]
 .rw[Ww a,Ww a]
theorem yA (e:En) (a:Ak):qh e a=nN (jm (lQ (kE (kD (kv (iB (qV (iF (ed e a).en (ed e a).fresh (a.cu.getLastD ⟨0,0⟩).hi) (a.cu.getLastD ⟨0,0⟩).hi)).en a.aO (ed e a).fresh) (iB (qV (iF (ed e a).en (ed e a).fresh (a.cu.getLastD ⟨0,0⟩).hi) (a.cu.getLastD ⟨0,0⟩).hi)).lost (iB (qV (iF (ed e a).en (ed e a).fresh (a.cu.getLastD ⟨0,0⟩).hi) (a.cu.getLastD ⟨0,0⟩).hi)).some_) (ed e a).fresh) (ed e a).fresh (ed e a).late)):=rfl
theorem Hu (e:En) (a:Ak):(ed (sx g q o e) a).fresh=(ed e a).fresh:=by rw[xH];rfl
theorem Ht (e:En) (a:Ak):(ed (sx g q o e) a).late=(ed e a).late:=by rw[xH];rfl
theorem Hw (e:En) (a:Ak):(ed (sx g q o e) a).en=sx g q o (ed e a).en:=by rw[xH];rfl
theorem OZ (e:En) (a:Ak):qh (sx g q o e) a=sx g q o (qh e a):=by
 rw[yA,yA,Hu,Ht,Hw,Kj,Pf,Xp,Pj,Ph,MV,Hy,Pg,RI,Pb,RG]
theorem RF (e:En):eH (sx g q o e)=sx g q o (eH e):=by
 show(if rQ e=true then(sx g q o) {WG e with led:=(og e.led).led}else(sx g q o) (WG e))=_;unfold eH;by_cases a:rQ e=true
 .rw[aB a,aB a]
 .rw[Ww a,Ww a]
theorem RH (e:En) (p:Pi):jH (sx g q o e) p=shP g q o (jH e p):=by
 unfold jH;rw[RF];rfl
theorem Ti (v:Ve) (a:Ak) (e:En):onE v a (sx g q o e)=sx g q o (onE v a e):=by
 unfold onE;by_cases b:v.kind=3
 (.rw[aB b,aB b];rfl);rw[Ww b,Ww b];by_cases c:v.kind=2
 .rw[aB c,aB c,OZ]
 .rw[Ww c,Ww c]
def uS (e:En):Rpo:=
 match iY e.dH e.c.mss with
 |none=>⟨[],10,e⟩
 |some p=>
  if e.fP=false/\e.cc.win.cr<gq e.led+p.body.length then⟨[],7,e⟩else
  if e.c.dO<e.led.next then⟨[],8,{e with aS:=3}⟩else
  if eu e.led<1 then⟨[],7,e⟩else
  if vw e.fM e.c.gD e.now p.body.length then jH {e with fM:=WR e.fM e.c.gD e.now p.body.length} p else⟨[],7,e⟩
theorem vk (e:En):WQ e=(if Yn e=true then⟨[],9,e⟩else if 0<e.cO then⟨rR e.told,0,{e with cO:=e.cO -1,told:=e.told+1}⟩else uS e):=rfl
theorem XQ (e:En):uS (sx g q o e)=shP g q o (uS e):=by
 have f:uS (sx g q o e)=(match iY e.dH e.c.mss with
  |none=>⟨[],10,sx g q o e⟩
  |some p=>
   if e.fP=false/\e.cc.win.cr<gq e.led+p.body.length then⟨[],7,sx g q o e⟩else
   if e.c.dO<e.led.next then⟨[],8,(sx g q o) {e with aS:=3}⟩else
   if eu e.led<1 then⟨[],7,sx g q o e⟩else
   if vw e.fM e.c.gD e.now p.body.length=true then jH (sx g q o {e with fM:=WR e.fM e.c.gD e.now p.body.length}) p else⟨[],7,sx g q o e⟩):=rfl
 rw[f];unfold uS;cases iY e.dH e.c.mss with
 |none=>rfl
 |some p=>
  dsimp only;by_cases a:e.fP=false/\e.cc.win.cr<gq e.led+p.body.length
  (.rw[aB a,aB a];rfl);rw[Ww a,Ww a];by_cases b:e.c.dO<e.led.next
  (.rw[aB b,aB b];rfl);rw[Ww b,Ww b];by_cases c:eu e.led<1
  (.rw[aB c,aB c];rfl);rw[Ww c,Ww c];by_cases d:vw e.fM e.c.gD e.now p.body.length=true
  .rw[aB d,aB d,RH]
  .rw[Ww d,Ww d];rfl
end
theorem yC (e:En):e=sx e.gu e.told e.cO e:=rfl
theorem LM (e:En) (now:Int):(kr e now).gu=e.gu/\(kr e now).told=e.told/\(kr e now).cO=e.cO:=by
 have h:=RE e.gu e.told e.cO e now;rw[<-yC]at h;rw[h];exact⟨rfl,rfl,rfl⟩
theorem OO (e:En) (b:List Int):(fU e b).en.gu=e.gu/\(fU e b).en.told=e.told/\(fU e b).en.cO=e.cO:=by
 have h:=OY e.gu e.told e.cO e b;rw[<-yC]at h;rw[h];exact⟨rfl,rfl,rfl⟩
theorem PT (e:En):(uS e).en.gu=e.gu/\(uS e).en.told=e.told/\(uS e).en.cO=e.cO:=by
 have h:=XQ e.gu e.told e.cO e;rw[<-yC]at h;rw[h];exact⟨rfl,rfl,rfl⟩
theorem SS (e:En) (now:Int):sd (nO e now)=nO (sd e) now:=rfl
theorem Gc (e:En) (b:List Int):xw e b=(if Yn e=true then⟨⟨1,8,0,false⟩,e⟩else
 ⟨(dN e.gu e.led b e.now).ver,onE (dN e.gu e.led b e.now).ver (dN e.gu e.led b e.now).ack (sx (dN e.gu e.led b e.now).gu e.told (if(dN e.gu e.led b e.now).ver.dU=true then e.cO+1 else e.cO) {e with led:=(dN e.gu e.led b e.now).led})⟩):=rfl
theorem Qa (v:Ve) (a:Ak) (e:En):(onE v a e).gu=e.gu/\(onE v a e).told=e.told/\(onE v a e).cO=e.cO:=by
 have h:=Ti e.gu e.told e.cO v a e;rw[<-yC]at h;rw[h];exact⟨rfl,rfl,rfl⟩
def WK:Nat->En->Int->Rpo
 |0,e,_=>⟨[],10,e⟩
 |k+1,e,now=>if(fD e now).err≠0\/(fD e now).b.length=0\/(fD e now).b.getD 0 0≠3 then fD e now else WK k (fD e now).en now
theorem Xi:∀(d a:Nat) (c:En) (b:Int),dG a c->Word b->dG (a+d) (WK d c b).en
 |0,a,c,b,h,hn=>h
 |d+1,a,c,b,h,hn=>by
  have e:=wO h hn;unfold WK;split
  .exact e.mono oM
  .have f:=Xi d (a+1) _ b e hn
   exact f.mono oM
structure SQ (k:Nat) (m:Int) (a b:En):Prop where
 oka:dG k a
 okb:dG k b
 same:sd a=sd b
 Rk:b.cO=0
 bd:b.gu.n.eT=0
 bm:b.gu.n.dB=0
 Ru:a.cO<=m
structure Xw (now:Int) (k:Nat) (m:Int) (a b:En):Prop where
 oka:dG k a
 okb:dG k b
 same:sd (nO a now)=sd (nO b now)
 Rk:b.cO=0
 bd:b.gu.n.eT=0
 bm:b.gu.n.dB=0
 Ru:a.cO<=m
theorem SQ.late {m:Int} {a b:En} (h:SQ k m a b) (now:Int):Xw now k m a b:=⟨h.oka,h.okb,by rw[SS,SS,h.same],h.Rk,h.bd,h.bm,h.Ru⟩
theorem SQ.mono {k k':Nat} {m d:Int} {a b:En} (h:SQ k m a b) (c:k<=k') (e:m<=d):SQ k' d a b:=⟨h.oka.mono c,h.okb.mono c,h.same,h.Rk,h.bd,h.bm,by have:=h.Ru;omega⟩
def CN (e e':En):Prop:=e'.c=e.c/\e'.now=e.now
theorem CN.refl (e:En):CN e e:=⟨rfl,rfl⟩
theorem CN.trans {a b c:En} (h:CN a b) (d:CN b c):CN a c:=⟨d.1.trans h.1,d.2.trans h.2⟩
theorem JV:∀(b:List Int) (a:En),CN a (b.foldl jT a)
 |[],a=>CN.refl a
 |x::t,a=>JV t (jT a x)
theorem Mw (e:En):CN e (iB e).en:=JV (qi e).lost {e with gU:=(qi e).next}
theorem JU (e:En) (l:Int) (b:Bool):CN e (kD e l b):=by cases b<;>exact CN.refl e
theorem Ov (a:Rse) (s:Se):CN a.en (fH a s).en:=by
 unfold fH;split<;>exact⟨rfl,rfl⟩
theorem CU:∀(b:List Se) (a:Rse),CN a.en (b.foldl fH a).en
 |[],a=>CN.refl _
 |s::t,a=>(Ov a s).trans (CU t _)
theorem Ls (e:En) (a:Ak):CN e (ed e a).en:=CU _ ⟨[],false,e⟩
theorem Lt (e:En) (f:List Se) (top:Int):CN e (iF e f top):=by
 unfold iF;split
 .exact CN.refl e
 .split<;>exact⟨rfl,rfl⟩
theorem Ow (e:En) (m:List Sp) (f:List Se):CN e (kv e m f):=by
 unfold kv;split<;>exact⟨rfl,rfl⟩
theorem XE (e:En) (f:List Se):CN e (kE e f):=by
 unfold kE;split<;>exact⟨rfl,rfl⟩
theorem Sy (e:En) (f:List Se) (l:Bool):CN e (lQ e f l):=by
 unfold lQ;split<;>exact⟨rfl,rfl⟩
theorem Sv (e:En):CN e (nN e):=by
 unfold nN;split<;>exact⟨rfl,rfl⟩
theorem XD (e:En) (a:Ak):CN e (qh e a):=by
 rw[yA];refine CN.trans ?_ (Sv _);refine CN.trans (b:=lQ _ _ _) ?_ ⟨rfl,rfl⟩;refine CN.trans ?_ (Sy _ _ _);refine CN.trans ?_ (XE _ _);refine CN.trans ?_ (JU _ _ _);refine CN.trans ?_ (Ow _ _ _);refine CN.trans ?_ (Mw _);refine CN.trans (b:=iF _ _ _) ?_ ⟨rfl,rfl⟩;refine CN.trans ?_ (Lt _ _ _);exact Ls e a
theorem cn_on1 (e:En) (b:List Int):CN e (xw e b).en:=by
 rw[Gc];split
 .exact CN.refl e
 .dsimp only
  unfold onE;split
  .exact⟨rfl,rfl⟩
  .split
   .refine CN.trans ?_ (XD _ _)
    exact⟨rfl,rfl⟩
   .exact⟨rfl,rfl⟩
theorem Su (e:En):CN e (eH e):=by
 unfold eH;split<;>exact⟨rfl,rfl⟩
theorem Sw (e:En) (p:Pi):CN e (jH e p).en:=(Su e).trans ⟨rfl,rfl⟩
theorem JS (e:En):CN e (WQ e).en:=by
 rw[vk];split
 (.exact CN.refl e);split
 (.exact⟨rfl,rfl⟩);unfold uS;split
 (.exact CN.refl e);split
 (.exact CN.refl e);split
 (.exact⟨rfl,rfl⟩);split
 (.exact CN.refl e);split
 .refine CN.trans ?_ (Sw _ _)
  exact⟨rfl,rfl⟩
 .exact CN.refl e
theorem IP:∀(c:Nat) (a:En) (b:Int),(WK (c+1) a b).en.c=a.c/\(WK (c+1) a b).en.now=max a.now b
 |0,a,b=>by
  have h:=JS (nO a b);unfold WK;split
  .exact⟨h.1,h.2⟩
  .exact⟨h.1,h.2⟩
 |c+1,a,b=>by
  have h:(fD a b).en.c=a.c/\(fD a b).en.now=max a.now b:=JS (nO a b);unfold WK;split
  .exact h
  .have d:=IP c (fD a b).en b
   rw[h.1,h.2]at d;exact⟨d.1,by rw[d.2];omega⟩
theorem VQ (e:En) (b:List Int) (now:Int):(lU e b now).en.c=e.c/\(lU e b now).en.now=max e.now now:=cn_on1 (nO e now) b
def atI (k:List Int) (i:Nat):Int:=k.getD i 0
def U32 (k:List Int):Prop:=∀a∈k,0<=a/\a<4294967296
theorem LA {k:List Int} (h:U32 k) (i:Nat):0<=atI k i/\atI k i<4294967296:=by
 unfold atI;by_cases a:i<k.length
 .rw[getD_at a];exact h _ (aN a)
 .rw[aW,List.getElem?_eq_none oM];exact⟨dC,dC⟩
def fV (k:List Int):Cf where
 mss:=1+atI k 0%40
 bn:=2*(1+atI k 0%40)+atI k 1%50
 jD:=2*(1+atI k 0%40)+atI k 1%50+atI k 2%100
 most:=2*(1+atI k 0%40)+atI k 1%50+atI k 2%100+atI k 3%400
 bits:=if atI k 4%4=1 then 1+atI k 4/4%64 else 64
 one:=if 0<atI k 5%4 then 2+atI k 5/4%30 else 0
 ring:=4+atI k 6%40
 dO:=if atI k 7%4=1 then atI k 7/4%60 else 4611686018427387903
 room:=1+atI k 8%300
 pX:=1+atI k 9%2
 first:=1+atI k 10%200000
 jc:=1+atI k 11%2000
 cap:=1+atI k 11%2000+atI k 12%400000
 gD:=1+atI k 0%40+atI k 13%400
 WL:=1+atI k 14%100000
 bE:=atI k 15%5
 every:=1+atI k 16%100000
theorem CS {k:List Int} (h:U32 k):lV (fV k)where
 bits0:=by simp only[fV];split<;>omega
 bits1:=by simp only[fV];split<;>omega
 one:=by
  have a:=(LA h 5).1;simp only[fV];split<;>exact⟨oM,oM⟩
 one1:=by
  have a:=(LA h 5).1;simp only[fV,beq_eq_false_iff_ne];split<;>omega
 wZ:=by simp only[fV];omega
 lW:=by simp only[fV];omega
 limit0:=by simp only[fV];split<;>omega
 mh:=by simp only[fV];split<;>omega
 Af:=by simp only[fV];omega
 qC:=by simp only[fV];omega
 Gj:=by simp only[fV];omega
 Ca:=by simp only[fV];omega
 zM:=by simp only[fV];omega
 Mg:=by simp only[fV];omega
 Mf:=by simp only[fV];omega
 most:=by simp only[fV];omega
 pX:=by simp only[fV];omega
 KY:=by simp only[fV];omega
 Xv:=by simp only[fV];omega
 KW:=by simp only[fV];omega
 QG:=by simp only[fV];omega
 cap0:=by simp only[fV];omega
 cap1:=by simp only[fV];omega
 Rh:=by simp only[fV];omega
 Rf:=by simp only[fV];omega
 Ie:=by simp only[fV];omega
 BA:=by simp only[fV];omega
 chal0:=by simp only[fV];omega
 chal1:=by simp only[fV];omega
 QM:=by simp only[fV];omega
 XB:=by simp only[fV];omega
def yj:List Int:=[9,0,0,0,0,0,0,0,99,0,99,0,5000,50]
def aliveW:Wo:=Bc (mO (fV yj) [] [] [] 0) ⟨1,0,[97,98,99]⟩
def Db:Rw:=zz aliveW ⟨2,7,[]⟩
theorem Rv:Db.aS.fG=0/\Db.aS.dh.fI=1/\Db.qm=3/\Db.aS.bK=7:=by decide+kernel
def co1 (s:Se):Int:=if s.aS=1 then s.len else 0
def flS:List Se->Int
 |[]=>0
 |s::t=>co1 s+flS t
theorem Lr {s:Se} (a:0<=s.len):0<=co1 s/\co1 s<=s.len:=by unfold co1;split<;>omega
theorem xW:∀(b:List Se),(∀a∈b,0<=a.len)->0<=flS b
 |[],_=>bY 0
 |a::t,h=>by
  have e:=Lr (h a sM);have f:=xW t (λd c=>h d (by simp[c]));unfold flS;omega
theorem GG {m:Int}:∀(b:List Se),(∀a∈b,0<=a.len/\a.len<=m)->flS b<=b.length*m
 |[],_=>by simp[flS]
 |a::t,h=>by
  have c:=h a sM;have f:=Lr c.1;have g:=GG t (λe d=>h e (by simp[d]));(have i:((t.length+1:Nat):Int)*m=t.length*m+m:=by rw[Int.natCast_add,Int.add_mul];simp);unfold flS;rw[aY];omega
theorem Jw (s:Se) (t:List Se):flS (s::t)=co1 s+flS t:=rfl
theorem Aw:∀(d:List Se) (b:Int),(∀a∈d,0<=a.len)->b+flS d<18446744073709551616->iT b d=b+flS d
 |[],b,_,_=>by simp[iT,flS]
 |a::t,b,h,hn=>by
  have k:=xW t (λg f=>h g (by simp[f]));have j:=Lr (h a sM);rw[Jw]at hn;have i:(if a.aS=1 then WI b a.len else b)=b+co1 a:=by
   by_cases c:a.aS=1
   .have e:co1 a=a.len:=by unfold co1;rw[aB c]
    rw[aB c,e];unfold WI;rw[aB oM]
   .have e:co1 a=0:=by unfold co1;rw[Ww c]
    rw[Ww c,e];omega
  unfold iT;rw[i,Aw t (b+co1 a) (λg f=>h g (by simp[f])) oM,Jw];omega
theorem gM.yQ {l:Le} (h:gM l):∀a∈l.kept,0<=a.len:=λa b=>(h.ok a b).yQ
theorem Jg {l:Le} (h:gM l):gq l=flS l.kept:=by
 have c:=GG (m:=1500) l.kept (λb a=>⟨(h.ok b a).yQ,(h.ok b a).Dr⟩);have d:=h.len;have e:=h.lW;unfold gq;rw[Aw l.kept 0 h.yQ oM];omega
theorem MQ {g:Gu} {l:Le} {b:List Int} {now:Int} (hb:dP b):(dN g l b now).ack.cu.length<=1000/\Word ((dN g l b now).ack.cu.getLastD ⟨0,0⟩).hi:=by
 rcases Ct g l b now with a|a<;>rw[a]
 .exact⟨dC,⟨dC,dC⟩⟩
 .have:=xY b hb
  exact⟨oM,Cu this.2⟩
theorem RD {e:En} {b:List Int} (h:dG k e):dG (k+1) (sx (dN e.gu e.led b e.now).gu e.told (if(dN e.gu e.led b e.now).ver.dU=true then e.cO+1 else e.cO) {e with led:=(dN e.gu e.led b e.now).led}):=by
 obtain⟨i,d,g,m⟩:=Ju (h.mono (Nat.le_succ k)) (EN (b:=b) h.gu h.le h.now) h.rO h.ni;have f:∀b:Bool,0<=(if b=true then e.cO+1 else e.cO)/\(if b=true then e.cO+1 else e.cO)<=((k+1:Nat):Int):=by
  intro b;cases b
  .exact⟨by simpa using g,by simp;omega⟩
  .exact⟨by simp;omega,by simp;omega⟩
 have a:(dN e.gu e.led b e.now).led.ring=e.c.ring/\(dN e.gu e.led b e.now).led.dO=e.c.dO/\∀l∈(dN e.gu e.led b e.now).led.kept,l.len<=e.c.mss:=by
  rcases Cr e.gu e.led b e.now with c|⟨j,c⟩<;>rw[c]
  .exact⟨h.lr,h.ll,h.lm⟩
  .have:=Ci e.led j
   exact⟨this.1.trans h.lr,this.2.1.trans h.ll,EE h.lm⟩
 exact{i with gu:=d.1,le:=d.2,lr:=a.1,ll:=a.2.1,lm:=a.2.2,rO:=(f _).1,ni:=(f _).2}
def u3V (x:Int):List Value:=[.int .u32 x]
theorem RB (x:Int):(u3V x).length=1:=rfl
theorem Sc (S:X4) (a:X5) (c:Nat) (k:List Int) (i:Nat) (r:i<=100) (w:World) (h:Row w S t 1 a k.length (k.flatMap u3V)) (e:U32 k):
  Yk 33 #[.slice a k.length c,jI i] w λl o=>l=.returned (uI (atI k i))/\w=o:=by
 have u:¬((i:Int)<0):=oM;by_cases d:i<k.length
 .obtain⟨j,n,rfl,_,v,f⟩:=h.at_ oM
  (have b:atI k i=k[i]:=by unfold atI;rw[getD_at d]);(have z:w.cell? ⟨j,n+i,none⟩=some (.int .u32 k[i]):=by have:=f (i*1) _ (mr RB k i 0 d oM);rw[Nat.mul_one]at this;exact this);obtain⟨p,q⟩:=e _ (aN d);rw[b];generalize k[i]=g at*
  have x:(i:Int)<(k.length:Int):=oM;have m:¬((k.length:Int)<=(i:Int)):=oM;(have y:IntKind.u64.wrap g=g:=by simp[IntKind.wrap,IntKind.bits,IntKind.signed];omega);have s:(0:Int)<=(i:Int):=oM;clear h e f b;go_enter Tryz.func33,Tryz.ntmps33;go_wp2;go_ret;exact⟨rfl,rfl⟩
 .have b:atI k i=0:=by unfold atI;rw[aW,List.getElem?_eq_none oM];rfl
  rw[b];have m:(k.length:Int)<=(i:Int):=oM;clear h e b;go_enter Tryz.func33,Tryz.ntmps33;go_wp2;go_ret;exact⟨rfl,rfl⟩
theorem MZ {tw:TypeId} (S:X4) (a:X5) (c:Nat) (l:List Int) (w:World) (h:Wot tw w S a l) (z:l.length<=c):
  Yk 16 #[.slice a l.length c,jI 60] w λq o=>(∃g,q=.returned (.slice g (l.take 60).length c)/\Wot tw o S g (l.take 60))/\w=o:=by
 obtain⟨D,j,u,n,v⟩:=info_parts (show(prog.info? 30).map (λf=>(f.zero,f.size,f.bytes))=some (some (uI 0),1,8) by kernel_rfl);have i:l.take 60=l.take (min l.length 60):=by
  rcases Nat.le_total l.length 60 with d|d
  .rw[fJ d,dM,List.take_of_length_le d]
  .rw[Nat.min_eq_right d]
 rw[i];have C:min (l.length:Int) 60=((min l.length 60:Nat):Int):=oM;have B:min l.length 60<=c:=oM;have m:min l.length 60<=l.length:=oM;have A:min l.length 60<=60:=oM;generalize min l.length 60=b at*
 (have e:(l.take b).length=b:=by rw[aT];omega);rw[e];have hcut:∀w,(Instr.slice 23 (.slice a l.length c) none (some (jI (b:Int))) none).run prog w=.ok (.slice (fE a c 0 1) b c) w:=λw=>by
  have h:=tY (P:=prog) qH.ht j a l.length c b oM w;rw[n]at h;exact h
 have p:=zH (show Wot tw w S (fE a c 0 1) (l.take b)from by
  have t:=Row.take h (k:=b) m;have s:=t.drop (k:=0) oM (a':=fE a c 0 1) (λ_ x E r=>by
   subst r;unfold fE;split
   .simp
   .simp[Go.WideShapes.add_plain])
  unfold Wot;rw[e,pQ qH.len];simpa using s)
 generalize fE a c 0 1=y at*
 clear h i j u n v e m;go_enter Tryz.func16,Tryz.ntmps16;go_wp2;go_ret;exact⟨⟨_,rfl,p.o⟩,rfl⟩
abbrev cfL (c:Cf):Array Value:= #[jI c.bits,uI c.one,jI c.ring,uI c.dO,jI c.room,uI c.mss,uI c.jD,uI c.bn,uI c.most,jI c.pX,uI c.first,uI c.jc,uI c.cap,uI c.gD,uI c.WL,jI c.bE,uI c.every]
abbrev cfZ:Cf:=⟨0,0,0,0,0,0,0,0,0,0,0,0,0,0,0,0,0⟩
structure Lc (w W:World) (b2 b3:Nat) (C:Cf):Prop where
 h2:Blk W b2 32 (cfL cfZ)
 hb:Blk W b3 32 (cfL C)
 hB:bW w W
 q2:w.heap.size<=b2
 q3:w.heap.size<=b3
 n:b2≠b3
section
variable {w W:World} {b2 b3:Nat} {C:Cf}
theorem Lc.set (h:Lc w W b2 b3 C) (k:Nat) (v:Value) (a:Cf) (e:(cfL C).setIfInBounds k v=cfL a):Lc w (W.setCell ⟨b3,k,none⟩ v) b2 b3 a:=
 ⟨h.h2.far h.n _,e▸h.hb.bF k v,bG h.hB h.q3 _,h.q2,h.q3,h.n⟩
theorem Lc.drewN (h:Lc w W b2 b3 C) (n:Nat):Lc w (W.drewN n) b2 b3 C:=⟨h.h2.drewN n,h.hb.drewN n,aA h.hB n,h.q2,h.q3,h.n⟩
end
theorem JR (S:X4) (a:X5) (c:Nat) (k:List Int) (w:World) (h:Row w S t 1 a k.length (k.flatMap u3V)) (a4:U32 k):
  Yk 9 #[.slice a k.length c] w λj F=>j=.returned (.agg #[jI (fV k).bits,uI (fV k).one,jI (fV k).ring,uI (fV k).dO,jI (fV k).room,uI (fV k).mss,uI (fV k).jD,uI (fV k).bn,uI (fV k).most,jI (fV k).pX,uI (fV k).first,uI (fV k).jc,uI (fV k).cap,uI (fV k).gD,uI (fV k).WL,jI (fV k).bE,uI (fV k).every])/\bW w F:=by
 obtain⟨b,c0⟩:=eX (atI k);have X:=λ(N:Nat) (f9:N<=100) F (f8:bW w F)=>Sc S a c k N f9 F (aD h f8) a4;have a0:=λN=>LA a4 N;obtain⟨c5,I⟩:=eX (fV k);rw[<-I];unfold fV at I;rw[<-c0]at X a0 I;obtain⟨o,Y⟩:=eX ((if b 4%4=1 then 1+b 4/4%64 else 64));obtain⟨p,a1⟩:=eX ((if 0<b 5%4 then 2+b 5/4%30 else 0));obtain⟨r,a3⟩:=eX ((if b 7%4=1 then b 7/4%60 else 4611686018427387903));rw[<-Y,<-a1,<-a3]at I;obtain⟨q,i,c3,b0,b1,b4⟩:=Fy X a0 I Y a1 a3;clear X a0 I Y a1 a3 h a4 c0;go_enter Tryz.func9,Tryz.ntmps9;go_wp2_with fail;obtain⟨e3,L⟩:=eX ((w.alloc (.cells #[jI 0,uI 0,jI 0,uI 0,jI 0,uI 0,uI 0,uI 0,uI 0,jI 0,uI 0,uI 0,uI 0,uI 0,uI 0,jI 0,uI 0] 32)).alloc (.cells #[jI 0,uI 0,jI 0,uI 0,jI 0,uI 0,uI 0,uI 0,uI 0,jI 0,uI 0,uI 0,uI 0,uI 0,uI 0,jI 0,uI 0] 32));rw[<-L];obtain⟨b2,U⟩:=eX w.heap.size;obtain⟨b3,V⟩:=eX (w.heap.size+1);have d:=zH (show Lc w e3 b2 b3 cfZ from⟨by rw[L,U];exact(Wx _ _ _).alloc _,by rw[L,V];exact Blk.qN _ _ _ _,by rw[L];exact BEL,oM,oM,oM⟩);rw[<-V,<-U];clear L U V;refine(q.o 0 oM _ d.o.hB).mono ?_;rintro j u ⟨rfl,rfl⟩;obtain⟨f,g⟩:=i.o 0;have K:_=some (uI (0)):=d.o.hb.cell 5;have M:=d.o.hb.frozen 5;have l:=d.o.hb.lt;have n:0<=1+b 0%40:=oM;have m:1+b 0%40<9223372036854775808:=oM;have u0:1+b 0%40<18446744073709551616:=oM;go_wp2_with fail;generalize e:World.setCell _ ⟨b3,5,none⟩ _=c6;replace d:=zH (show Lc w c6 b2 b3 ⟨0,0,0,0,0,1+b 0%40,0,0,0,0,0,0,0,0,0,0,0⟩from by rw[<-e];exact(d.o.set 5 (uI (1+b 0%40)) ⟨0,0,0,0,0,1+b 0%40,0,0,0,0,0,0,0,0,0,0,0⟩ rfl));clear e l K M n m u0 f g;obtain⟨f,g⟩:=i.o 1;obtain⟨v,x⟩:=i.o 0;obtain⟨y,z⟩:=i.o 1;obtain⟨A,B⟩:=i.o 2;have s:=zH (q.o 1 oM);have T:_=some (uI (0)):=d.o.hb.cell 7;have a9:=d.o.hb.frozen 7;have K:_=some (uI (1+b 0%40)):=d.o.hb.cell 5;have M:=d.o.hb.frozen 5;have l:=d.o.hb.lt;have n:0<=2*(1+b 0%40):=oM;have m:2*(1+b 0%40)<9223372036854775808:=oM;have u0:2*(1+b 0%40)<18446744073709551616:=oM;have G:0<=2*(1+b 0%40)+b 1%50:=oM;have E:2*(1+b 0%40)+b 1%50<9223372036854775808:=oM;have u1:2*(1+b 0%40)+b 1%50<18446744073709551616:=oM;clear v x y z A B;refine bP 8 kR kR ?_;refine mD ?_;(repeat (go_big_quiet_step (((go_at_call 33;exact aJ ((s.o _ (aA d.o.hB _)).mono λj F h=>⟨h.1,h.2.symm⟩))))));refine aK ?_;rintro _ ⟨D,rfl⟩;refine dA rfl rfl ?_;go_simp;refine aK ?_;generalize e:World.setCell _ ⟨b3,7,none⟩ _=d5;replace d:=zH (show Lc w d5 b2 b3 ⟨0,0,0,0,0,1+b 0%40,0,2*(1+b 0%40)+b 1%50,0,0,0,0,0,0,0,0,0⟩from by rw[<-e];exact((d.o.drewN D).set 7 (uI (2*(1+b 0%40)+b 1%50)) ⟨0,0,0,0,0,1+b 0%40,0,2*(1+b 0%40)+b 1%50,0,0,0,0,0,0,0,0,0⟩ rfl));clear e l T a9 K M n m u0 G E u1 f g s;go_wp2_with fail;obtain⟨f,g⟩:=i.o 2;obtain⟨v,x⟩:=i.o 0;obtain⟨y,z⟩:=i.o 1;obtain⟨A,B⟩:=i.o 2;have s:=zH (q.o 2 oM);have R:_=some (uI (0)):=d.o.hb.cell 6;have a8:=d.o.hb.frozen 6;have T:_=some (uI (2*(1+b 0%40)+b 1%50)):=d.o.hb.cell 7;have a9:=d.o.hb.frozen 7;have l:=d.o.hb.lt;have n:0<=2*(1+b 0%40)+b 1%50+b 2%100:=oM;have m:2*(1+b 0%40)+b 1%50+b 2%100<9223372036854775808:=oM;have u0:2*(1+b 0%40)+b 1%50+b 2%100<18446744073709551616:=oM;clear v x y z A B;refine bP 7 kR kR ?_;refine mD ?_;(repeat (go_big_quiet_step (((go_at_call 33;exact aJ ((s.o _ (aA d.o.hB _)).mono λj F h=>⟨h.1,h.2.symm⟩))))));refine aK ?_;rintro _ ⟨D,rfl⟩;refine dA rfl rfl ?_;go_simp;refine aK ?_;generalize e:World.setCell _ ⟨b3,6,none⟩ _=d6;replace d:=zH (show Lc w d6 b2 b3 ⟨0,0,0,0,0,1+b 0%40,2*(1+b 0%40)+b 1%50+b 2%100,2*(1+b 0%40)+b 1%50,0,0,0,0,0,0,0,0,0⟩from by rw[<-e];exact((d.o.drewN D).set 6 (uI (2*(1+b 0%40)+b 1%50+b 2%100)) ⟨0,0,0,0,0,1+b 0%40,2*(1+b 0%40)+b 1%50+b 2%100,2*(1+b 0%40)+b 1%50,0,0,0,0,0,0,0,0,0⟩ rfl));clear e l R a8 T a9 n m u0 f g s;go_wp2_with fail;obtain⟨f,g⟩:=i.o 3;obtain⟨v,x⟩:=i.o 0;obtain⟨y,z⟩:=i.o 1;obtain⟨A,B⟩:=i.o 2;have s:=zH (q.o 3 oM);have f3:_=some (uI (0)):=d.o.hb.cell 8;have g8:=d.o.hb.frozen 8;have R:_=some (uI (2*(1+b 0%40)+b 1%50+b 2%100)):=d.o.hb.cell 6;have a8:=d.o.hb.frozen 6;have l:=d.o.hb.lt;have n:0<=2*(1+b 0%40)+b 1%50+b 2%100+b 3%400:=oM;have m:2*(1+b 0%40)+b 1%50+b 2%100+b 3%400<9223372036854775808:=oM
 have u0:2*(1+b 0%40)+b 1%50+b 2%100+b 3%400<18446744073709551616:=oM;clear v x y z A B;refine bP 7 kR kR ?_;refine mD ?_;(repeat (go_big_quiet_step (((go_at_call 33;exact aJ ((s.o _ (aA d.o.hB _)).mono λj F h=>⟨h.1,h.2.symm⟩))))));refine aK ?_;rintro _ ⟨D,rfl⟩;refine dA rfl rfl ?_;go_simp;refine aK ?_;generalize e:World.setCell _ ⟨b3,8,none⟩ _=d7;replace d:=zH (show Lc w d7 b2 b3 ⟨0,0,0,0,0,1+b 0%40,2*(1+b 0%40)+b 1%50+b 2%100,2*(1+b 0%40)+b 1%50,2*(1+b 0%40)+b 1%50+b 2%100+b 3%400,0,0,0,0,0,0,0,0⟩from by rw[<-e];exact((d.o.drewN D).set 8 (uI (2*(1+b 0%40)+b 1%50+b 2%100+b 3%400)) ⟨0,0,0,0,0,1+b 0%40,2*(1+b 0%40)+b 1%50+b 2%100,2*(1+b 0%40)+b 1%50,2*(1+b 0%40)+b 1%50+b 2%100+b 3%400,0,0,0,0,0,0,0,0⟩ rfl));clear e l f3 g8 R a8 n m u0 f g s;obtain⟨f,g⟩:=i.o 0;have O:_=some (jI (0)):=d.o.hb.cell 0;have a5:=d.o.hb.frozen 0;have l:=d.o.hb.lt;go_wp2_with fail;generalize e:World.setCell _ ⟨b3,0,none⟩ _=d8;replace d:=zH (show Lc w d8 b2 b3 ⟨64,0,0,0,0,1+b 0%40,2*(1+b 0%40)+b 1%50+b 2%100,2*(1+b 0%40)+b 1%50,2*(1+b 0%40)+b 1%50+b 2%100+b 3%400,0,0,0,0,0,0,0,0⟩from by rw[<-e];exact(d.o.set 0 (jI (64)) ⟨64,0,0,0,0,1+b 0%40,2*(1+b 0%40)+b 1%50+b 2%100,2*(1+b 0%40)+b 1%50,2*(1+b 0%40)+b 1%50+b 2%100+b 3%400,0,0,0,0,0,0,0,0⟩ rfl));clear e l O a5 f g;refine(q.o 4 oM _ d.o.hB).mono ?_;rintro j u ⟨rfl,rfl⟩;obtain⟨f,g⟩:=i.o 4;go_upto_if 35 with fail;clear f g;go_cut [] (λwx=>X3 (Lc w wx b2 b3 ⟨o,0,0,0,0,1+b 0%40,2*(1+b 0%40)+b 1%50+b 2%100,2*(1+b 0%40)+b 1%50,2*(1+b 0%40)+b 1%50+b 2%100+b 3%400,0,0,0,0,0,0,0,0⟩));case first=>
  by_cases b6:b 4%4=1
  .have H:(b 4%4==1)=true:=sO
   go_wp2_with fail;clear H;refine(q.o 4 oM _ d.o.hB).mono ?_;rintro j u ⟨rfl,rfl⟩;obtain⟨f,g⟩:=i.o 4;have O:_=some (jI (64)):=d.o.hb.cell 0;have a5:=d.o.hb.frozen 0;have l:=d.o.hb.lt;have n:0<=b 4/4%64:=oM;have m:b 4/4%64<9223372036854775808:=oM;have u0:b 4/4%64<18446744073709551616:=oM;have G:0<=1+b 4/4%64:=oM;have E:1+b 4/4%64<9223372036854775808:=oM;have u1:1+b 4/4%64<18446744073709551616:=oM;go_wp2_with fail;generalize e:World.setCell _ ⟨b3,0,none⟩ _=d9;replace d:=zH (show Lc w d9 b2 b3 ⟨1+b 4/4%64,0,0,0,0,1+b 0%40,2*(1+b 0%40)+b 1%50+b 2%100,2*(1+b 0%40)+b 1%50,2*(1+b 0%40)+b 1%50+b 2%100+b 3%400,0,0,0,0,0,0,0,0⟩from by rw[<-e];exact(d.o.set 0 (jI (1+b 4/4%64)) ⟨1+b 4/4%64,0,0,0,0,1+b 0%40,2*(1+b 0%40)+b 1%50+b 2%100,2*(1+b 0%40)+b 1%50,2*(1+b 0%40)+b 1%50+b 2%100+b 3%400,0,0,0,0,0,0,0,0⟩ rfl));clear e l O a5 n m u0 G E u1 f g;(try go_wp2_with fail);go_meet;have j:=b0.o;rw[aB oM]at j;rw[j];exact d
  .have H:(b 4%4==1)=false:=sO
   go_wp2;go_meet;have j:=b0.o;rw[Ww oM]at j;rw[j];exact d
 case rest=>
  clear d;have d:=hcut;clear hcut;go_wp2_with fail;refine Yd (q.o 5 oM _ d.o.hB) ?_;intro u rfl;obtain⟨f,g⟩:=i.o 5;go_upto_if 46 with fail;clear f g;go_cut [] (λwx=>X3 (Lc w wx b2 b3 ⟨o,p,0,0,0,1+b 0%40,2*(1+b 0%40)+b 1%50+b 2%100,2*(1+b 0%40)+b 1%50,2*(1+b 0%40)+b 1%50+b 2%100+b 3%400,0,0,0,0,0,0,0,0⟩));case first=>
   by_cases b6:0<b 5%4
   .have H:(decide (0<b 5%4))=true:=sO
    go_wp2_with fail;clear H;refine(q.o 5 oM _ d.o.hB).mono ?_;rintro j u ⟨rfl,rfl⟩;obtain⟨f,g⟩:=i.o 5;have e5:_=some (uI (0)):=d.o.hb.cell 1;have g0:=d.o.hb.frozen 1;have l:=d.o.hb.lt;have n:0<=2+b 5/4%30:=oM;have m:2+b 5/4%30<9223372036854775808:=oM;have u0:2+b 5/4%30<18446744073709551616:=oM;go_wp2_with fail;generalize e:World.setCell _ ⟨b3,1,none⟩ _=e0;replace d:=zH (show Lc w e0 b2 b3 ⟨o,2+b 5/4%30,0,0,0,1+b 0%40,2*(1+b 0%40)+b 1%50+b 2%100,2*(1+b 0%40)+b 1%50,2*(1+b 0%40)+b 1%50+b 2%100+b 3%400,0,0,0,0,0,0,0,0⟩from by rw[<-e];exact(d.o.set 1 (uI (2+b 5/4%30)) ⟨o,2+b 5/4%30,0,0,0,1+b 0%40,2*(1+b 0%40)+b 1%50+b 2%100,2*(1+b 0%40)+b 1%50,2*(1+b 0%40)+b 1%50+b 2%100+b 3%400,0,0,0,0,0,0,0,0⟩ rfl));clear e l e5 g0 n m u0 f g;(try go_wp2_with fail);go_meet;have j:=b1.o;rw[aB oM]at j;rw[j];exact d
   .have H:(decide (0<b 5%4))=false:=sO
    go_wp2;go_meet;have j:=b1.o;rw[Ww oM]at j;rw[j];exact d
  case rest=>
   clear d;have d:=hcut;clear hcut;go_wp2_with fail;refine Yd (q.o 6 oM _ d.o.hB) ?_;intro u rfl;obtain⟨f,g⟩:=i.o 6;have f1:_=some (jI (0)):=d.o.hb.cell 2;have g6:=d.o.hb.frozen 2;have Q:_=some (uI (0)):=d.o.hb.cell 3;have a7:=d.o.hb.frozen 3;have l:=d.o.hb.lt;have n:0<=b 6%40:=oM;have m:b 6%40<9223372036854775808:=oM;have u0:b 6%40<18446744073709551616:=oM;have G:0<=4+b 6%40:=oM;have E:4+b 6%40<9223372036854775808:=oM;have u1:4+b 6%40<18446744073709551616:=oM;go_wp2_with fail;generalize e:World.setCell (World.setCell _ ⟨b3,2,none⟩ _) ⟨b3,3,none⟩ _=e1;replace d:=zH (show Lc w e1 b2 b3 ⟨o,p,4+b 6%40,4611686018427387903,0,1+b 0%40,2*(1+b 0%40)+b 1%50+b 2%100,2*(1+b 0%40)+b 1%50,2*(1+b 0%40)+b 1%50+b 2%100+b 3%400,0,0,0,0,0,0,0,0⟩from by rw[<-e];exact((d.o.set 2 (jI (4+b 6%40)) ⟨o,p,4+b 6%40,0,0,1+b 0%40,2*(1+b 0%40)+b 1%50+b 2%100,2*(1+b 0%40)+b 1%50,2*(1+b 0%40)+b 1%50+b 2%100+b 3%400,0,0,0,0,0,0,0,0⟩ rfl).set 3 (uI (4611686018427387903)) ⟨o,p,4+b 6%40,4611686018427387903,0,1+b 0%40,2*(1+b 0%40)+b 1%50+b 2%100,2*(1+b 0%40)+b 1%50,2*(1+b 0%40)+b 1%50+b 2%100+b 3%400,0,0,0,0,0,0,0,0⟩ rfl));clear e l f1 g6 Q a7 n m u0 G E u1 f g;refine(q.o 7 oM _ d.o.hB).mono ?_;rintro j u ⟨rfl,rfl⟩;obtain⟨f,g⟩:=i.o 7;go_upto_if 63 with fail;clear f g;go_cut [] (λwx=>X3 (Lc w wx b2 b3 ⟨o,p,4+b 6%40,r,0,1+b 0%40,2*(1+b 0%40)+b 1%50+b 2%100,2*(1+b 0%40)+b 1%50,2*(1+b 0%40)+b 1%50+b 2%100+b 3%400,0,0,0,0,0,0,0,0⟩));case first=>
    by_cases b6:b 7%4=1
    .have H:(b 7%4==1)=true:=sO
     go_wp2_with fail;clear H;refine(q.o 7 oM _ d.o.hB).mono ?_;rintro j u ⟨rfl,rfl⟩;obtain⟨f,g⟩:=i.o 7;have Q:_=some (uI (4611686018427387903)):=d.o.hb.cell 3;have a7:=d.o.hb.frozen 3;have l:=d.o.hb.lt;have n:0<=b 7/4%60:=oM;have m:b 7/4%60<9223372036854775808:=oM;have u0:b 7/4%60<18446744073709551616:=oM;go_wp2_with fail;generalize e:World.setCell _ ⟨b3,3,none⟩ _=e2;replace d:=zH (show Lc w e2 b2 b3 ⟨o,p,4+b 6%40,b 7/4%60,0,1+b 0%40,2*(1+b 0%40)+b 1%50+b 2%100,2*(1+b 0%40)+b 1%50,2*(1+b 0%40)+b 1%50+b 2%100+b 3%400,0,0,0,0,0,0,0,0⟩from by rw[<-e];exact(d.o.set 3 (uI (b 7/4%60)) ⟨o,p,4+b 6%40,b 7/4%60,0,1+b 0%40,2*(1+b 0%40)+b 1%50+b 2%100,2*(1+b 0%40)+b 1%50,2*(1+b 0%40)+b 1%50+b 2%100+b 3%400,0,0,0,0,0,0,0,0⟩ rfl));clear e l Q a7 n m u0 f g;(try go_wp2_with fail);go_meet;have j:=b4.o;rw[aB oM]at j;rw[j];exact d
    .have H:(b 7%4==1)=false:=sO
     go_wp2;go_meet;have j:=b4.o;rw[Ww oM]at j;rw[j];exact d
   case rest=>
    clear d;have d:=hcut;clear hcut;go_wp2_with fail;refine Yd (q.o 8 oM _ d.o.hB) ?_;intro u rfl;obtain⟨f,g⟩:=i.o 8;have f2:_=some (jI (0)):=d.o.hb.cell 4;have g7:=d.o.hb.frozen 4;have l:=d.o.hb.lt;have n:0<=b 8%300:=oM;have m:b 8%300<9223372036854775808:=oM;have u0:b 8%300<18446744073709551616:=oM;have G:0<=1+b 8%300:=oM;have E:1+b 8%300<9223372036854775808:=oM;have u1:1+b 8%300<18446744073709551616:=oM;go_wp2_with fail;generalize e:World.setCell _ ⟨b3,4,none⟩ _=c7;replace d:=zH (show Lc w c7 b2 b3 ⟨o,p,4+b 6%40,r,1+b 8%300,1+b 0%40,2*(1+b 0%40)+b 1%50+b 2%100,2*(1+b 0%40)+b 1%50,2*(1+b 0%40)+b 1%50+b 2%100+b 3%400,0,0,0,0,0,0,0,0⟩from by rw[<-e];exact(d.o.set 4 (jI (1+b 8%300)) ⟨o,p,4+b 6%40,r,1+b 8%300,1+b 0%40,2*(1+b 0%40)+b 1%50+b 2%100,2*(1+b 0%40)+b 1%50,2*(1+b 0%40)+b 1%50+b 2%100+b 3%400,0,0,0,0,0,0,0,0⟩ rfl));clear e l f2 g7 n m u0 G E u1 f g;refine(q.o 9 oM _ d.o.hB).mono ?_;rintro j u ⟨rfl,rfl⟩;obtain⟨f,g⟩:=i.o 9;have f4:_=some (jI (0)):=d.o.hb.cell 9;have g9:=d.o.hb.frozen 9;have l:=d.o.hb.lt;have n:0<=b 9%2:=oM;have m:b 9%2<9223372036854775808:=oM;have u0:b 9%2<18446744073709551616:=oM;have G:0<=1+b 9%2:=oM;have E:1+b 9%2<9223372036854775808:=oM;have u1:1+b 9%2<18446744073709551616:=oM;go_wp2_with fail;generalize e:World.setCell _ ⟨b3,9,none⟩ _=c8;replace d:=zH (show Lc w c8 b2 b3 ⟨o,p,4+b 6%40,r,1+b 8%300,1+b 0%40,2*(1+b 0%40)+b 1%50+b 2%100,2*(1+b 0%40)+b 1%50,2*(1+b 0%40)+b 1%50+b 2%100+b 3%400,1+b 9%2,0,0,0,0,0,0,0⟩from by rw[<-e];exact(d.o.set 9 (jI (1+b 9%2)) ⟨o,p,4+b 6%40,r,1+b 8%300,1+b 0%40,2*(1+b 0%40)+b 1%50+b 2%100,2*(1+b 0%40)+b 1%50,2*(1+b 0%40)+b 1%50+b 2%100+b 3%400,1+b 9%2,0,0,0,0,0,0,0⟩ rfl));clear e l f4 g9 n m u0 G E u1 f g;refine(q.o 10 oM _ d.o.hB).mono ?_;rintro j u ⟨rfl,rfl⟩;obtain⟨f,g⟩:=i.o 10;have e6:_=some (uI (0)):=d.o.hb.cell 10;have g1:=d.o.hb.frozen 10;have l:=d.o.hb.lt;have n:0<=1+b 10%200000:=oM;have m:1+b 10%200000<9223372036854775808:=oM;have u0:1+b 10%200000<18446744073709551616:=oM;go_wp2_with fail;generalize e:World.setCell _ ⟨b3,10,none⟩ _=c9;replace d:=zH (show Lc w c9 b2 b3 ⟨o,p,4+b 6%40,r,1+b 8%300,1+b 0%40,2*(1+b 0%40)+b 1%50+b 2%100,2*(1+b 0%40)+b 1%50,2*(1+b 0%40)+b 1%50+b 2%100+b 3%400,1+b 9%2,1+b 10%200000,0,0,0,0,0,0⟩from by rw[<-e];exact(d.o.set 10 (uI (1+b 10%200000)) ⟨o,p,4+b 6%40,r,1+b 8%300,1+b 0%40,2*(1+b 0%40)+b 1%50+b 2%100,2*(1+b 0%40)+b 1%50,2*(1+b 0%40)+b 1%50+b 2%100+b 3%400,1+b 9%2,1+b 10%200000,0,0,0,0,0,0⟩ rfl));clear e l e6 g1 n m u0 f g;refine(q.o 11 oM _ d.o.hB).mono ?_;rintro j u ⟨rfl,rfl⟩;obtain⟨f,g⟩:=i.o 11;have P:_=some (uI (0)):=d.o.hb.cell 11;have a6:=d.o.hb.frozen 11;have l:=d.o.hb.lt;have n:0<=1+b 11%2000:=oM;have m:1+b 11%2000<9223372036854775808:=oM;have u0:1+b 11%2000<18446744073709551616:=oM;go_wp2_with fail;generalize e:World.setCell _ ⟨b3,11,none⟩ _=d0;replace d:=zH (show Lc w d0 b2 b3 ⟨o,p,4+b 6%40,r,1+b 8%300,1+b 0%40,2*(1+b 0%40)+b 1%50+b 2%100,2*(1+b 0%40)+b 1%50,2*(1+b 0%40)+b 1%50+b 2%100+b 3%400,1+b 9%2,1+b 10%200000,1+b 11%2000,0,0,0,0,0⟩from by rw[<-e];exact(d.o.set 11 (uI (1+b 11%2000)) ⟨o,p,4+b 6%40,r,1+b 8%300,1+b 0%40,2*(1+b 0%40)+b 1%50+b 2%100,2*(1+b 0%40)+b 1%50,2*(1+b 0%40)+b 1%50+b 2%100+b 3%400,1+b 9%2,1+b 10%200000,1+b 11%2000,0,0,0,0,0⟩ rfl));clear e l P a6 n m u0 f g;obtain⟨f,g⟩:=i.o 12;obtain⟨v,x⟩:=i.o 0;obtain⟨y,z⟩:=i.o 1;obtain⟨A,B⟩:=i.o 2;have s:=zH (q.o 12 oM);obtain⟨f5,f6⟩:=i.o 11;have e7:_=some (uI (0)):=d.o.hb.cell 12;have g2:=d.o.hb.frozen 12;have P:_=some (uI (1+b 11%2000)):=d.o.hb.cell 11;have a6:=d.o.hb.frozen 11;have l:=d.o.hb.lt;have n:0<=1+b 11%2000+b 12%400000:=oM;have m:1+b 11%2000+b 12%400000<9223372036854775808:=oM;have u0:1+b 11%2000+b 12%400000<18446744073709551616:=oM;clear v x y z A B f5 f6;refine bP 7 kR kR ?_;refine mD ?_;(repeat (go_big_quiet_step (((go_at_call 33;exact aJ ((s.o _ (aA d.o.hB _)).mono λj F h=>⟨h.1,h.2.symm⟩))))));refine aK ?_;rintro _ ⟨D,rfl⟩;refine dA rfl rfl ?_;go_simp;refine aK ?_;generalize e:World.setCell _ ⟨b3,12,none⟩ _=d1;replace d:=zH (show Lc w d1 b2 b3 ⟨o,p,4+b 6%40,r,1+b 8%300,1+b 0%40,2*(1+b 0%40)+b 1%50+b 2%100,2*(1+b 0%40)+b 1%50,2*(1+b 0%40)+b 1%50+b 2%100+b 3%400,1+b 9%2,1+b 10%200000,1+b 11%2000,1+b 11%2000+b 12%400000,0,0,0,0⟩from by rw[<-e];exact((d.o.drewN D).set 12 (uI (1+b 11%2000+b 12%400000)) ⟨o,p,4+b 6%40,r,1+b 8%300,1+b 0%40,2*(1+b 0%40)+b 1%50+b 2%100,2*(1+b 0%40)+b 1%50,2*(1+b 0%40)+b 1%50+b 2%100+b 3%400,1+b 9%2,1+b 10%200000,1+b 11%2000,1+b 11%2000+b 12%400000,0,0,0,0⟩ rfl))
    clear e l e7 g2 P a6 n m u0 f g s;go_wp2_with fail;obtain⟨f,g⟩:=i.o 13;obtain⟨v,x⟩:=i.o 0;obtain⟨y,z⟩:=i.o 1;obtain⟨A,B⟩:=i.o 2;have s:=zH (q.o 13 oM);have e8:_=some (uI (0)):=d.o.hb.cell 13;have g3:=d.o.hb.frozen 13;have K:_=some (uI (1+b 0%40)):=d.o.hb.cell 5;have M:=d.o.hb.frozen 5;have l:=d.o.hb.lt;have n:0<=1+b 0%40+b 13%400:=oM;have m:1+b 0%40+b 13%400<9223372036854775808:=oM;have u0:1+b 0%40+b 13%400<18446744073709551616:=oM;clear v x y z A B;refine bP 7 kR kR ?_;refine mD ?_;(repeat (go_big_quiet_step (((go_at_call 33;exact aJ ((s.o _ (aA d.o.hB _)).mono λj F h=>⟨h.1,h.2.symm⟩))))));refine aK ?_;rintro _ ⟨D,rfl⟩;refine dA rfl rfl ?_;go_simp;refine aK ?_;generalize e:World.setCell _ ⟨b3,13,none⟩ _=d2;replace d:=zH (show Lc w d2 b2 b3 ⟨o,p,4+b 6%40,r,1+b 8%300,1+b 0%40,2*(1+b 0%40)+b 1%50+b 2%100,2*(1+b 0%40)+b 1%50,2*(1+b 0%40)+b 1%50+b 2%100+b 3%400,1+b 9%2,1+b 10%200000,1+b 11%2000,1+b 11%2000+b 12%400000,1+b 0%40+b 13%400,0,0,0⟩from by rw[<-e];exact((d.o.drewN D).set 13 (uI (1+b 0%40+b 13%400)) ⟨o,p,4+b 6%40,r,1+b 8%300,1+b 0%40,2*(1+b 0%40)+b 1%50+b 2%100,2*(1+b 0%40)+b 1%50,2*(1+b 0%40)+b 1%50+b 2%100+b 3%400,1+b 9%2,1+b 10%200000,1+b 11%2000,1+b 11%2000+b 12%400000,1+b 0%40+b 13%400,0,0,0⟩ rfl));clear e l e8 g3 K M n m u0 f g s;go_wp2_with fail;refine Yd (q.o 14 oM _ d.o.hB) ?_;intro u rfl;obtain⟨f,g⟩:=i.o 14;have e9:_=some (uI (0)):=d.o.hb.cell 14;have g4:=d.o.hb.frozen 14;have l:=d.o.hb.lt;have n:0<=1+b 14%100000:=oM;have m:1+b 14%100000<9223372036854775808:=oM;have u0:1+b 14%100000<18446744073709551616:=oM;go_wp2_with fail;generalize e:World.setCell _ ⟨b3,14,none⟩ _=d3;replace d:=zH (show Lc w d3 b2 b3 ⟨o,p,4+b 6%40,r,1+b 8%300,1+b 0%40,2*(1+b 0%40)+b 1%50+b 2%100,2*(1+b 0%40)+b 1%50,2*(1+b 0%40)+b 1%50+b 2%100+b 3%400,1+b 9%2,1+b 10%200000,1+b 11%2000,1+b 11%2000+b 12%400000,1+b 0%40+b 13%400,1+b 14%100000,0,0⟩from by rw[<-e];exact(d.o.set 14 (uI (1+b 14%100000)) ⟨o,p,4+b 6%40,r,1+b 8%300,1+b 0%40,2*(1+b 0%40)+b 1%50+b 2%100,2*(1+b 0%40)+b 1%50,2*(1+b 0%40)+b 1%50+b 2%100+b 3%400,1+b 9%2,1+b 10%200000,1+b 11%2000,1+b 11%2000+b 12%400000,1+b 0%40+b 13%400,1+b 14%100000,0,0⟩ rfl));clear e l e9 g4 n m u0 f g;refine(q.o 15 oM _ d.o.hB).mono ?_;rintro j u ⟨rfl,rfl⟩;obtain⟨f,g⟩:=i.o 15;have f0:_=some (jI (0)):=d.o.hb.cell 15;have g5:=d.o.hb.frozen 15;have l:=d.o.hb.lt;have n:0<=b 15%5:=oM;have m:b 15%5<9223372036854775808:=oM;have u0:b 15%5<18446744073709551616:=oM;go_wp2_with fail;generalize e:World.setCell _ ⟨b3,15,none⟩ _=d4;replace d:=zH (show Lc w d4 b2 b3 ⟨o,p,4+b 6%40,r,1+b 8%300,1+b 0%40,2*(1+b 0%40)+b 1%50+b 2%100,2*(1+b 0%40)+b 1%50,2*(1+b 0%40)+b 1%50+b 2%100+b 3%400,1+b 9%2,1+b 10%200000,1+b 11%2000,1+b 11%2000+b 12%400000,1+b 0%40+b 13%400,1+b 14%100000,b 15%5,0⟩from by rw[<-e];exact(d.o.set 15 (jI (b 15%5)) ⟨o,p,4+b 6%40,r,1+b 8%300,1+b 0%40,2*(1+b 0%40)+b 1%50+b 2%100,2*(1+b 0%40)+b 1%50,2*(1+b 0%40)+b 1%50+b 2%100+b 3%400,1+b 9%2,1+b 10%200000,1+b 11%2000,1+b 11%2000+b 12%400000,1+b 0%40+b 13%400,1+b 14%100000,b 15%5,0⟩ rfl));clear e l f0 g5 n m u0 f g;refine(q.o 16 oM _ d.o.hB).mono ?_;rintro j u ⟨rfl,rfl⟩;obtain⟨f,g⟩:=i.o 16;have n:0<=1+b 16%100000:=oM;have m:1+b 16%100000<9223372036854775808:=oM;have u0:1+b 16%100000<18446744073709551616:=oM;obtain⟨C,Z⟩:=eX ((⟨o,p,4+b 6%40,r,1+b 8%300,1+b 0%40,2*(1+b 0%40)+b 1%50+b 2%100,2*(1+b 0%40)+b 1%50,2*(1+b 0%40)+b 1%50+b 2%100+b 3%400,1+b 9%2,1+b 10%200000,1+b 11%2000,1+b 11%2000+b 12%400000,1+b 0%40+b 13%400,1+b 14%100000,b 15%5,1+b 16%100000⟩:Cf));obtain⟨f7,c4⟩:=yx (show(cfL ⟨o,p,4+b 6%40,r,1+b 8%300,1+b 0%40,2*(1+b 0%40)+b 1%50+b 2%100,2*(1+b 0%40)+b 1%50,2*(1+b 0%40)+b 1%50+b 2%100+b 3%400,1+b 9%2,1+b 10%200000,1+b 11%2000,1+b 11%2000+b 12%400000,1+b 0%40+b 13%400,1+b 14%100000,b 15%5,0⟩).setIfInBounds 16 (uI (1+b 16%100000))=cfL C from by rw[Z];rfl) (show c5=C from by rw[Z,c3.o]);clear Z;repeat ((fail_if_success (with_reducible apply eG));first|(refine qR 30 (.tmp 119) (.tmp 118) rfl rfl rfl b3 16 (uI (1+b 16%100000)) kR kR rfl kR d.o.hb (by show 16<17;omega) ?_;intro e4 b9;have J:=zH (show Lc w e4 b2 b3 C from by rw[b9];exact d.o.set 16 _ _ f7.o);clear b9)|(refine kP 32 (.tmp 3) rfl rfl (some 120) rfl b3 kR (cfL C) J.o.hb _ Tryz.underlying32 kR kR ?_)|(refine iG 32 (.tmp 2) (.tmp 120) rfl rfl rfl b2 0 (cfL C) kR kR (J.o.h2.there _ (av 17)) kR (by simp[cfL,Value.oneCell']) ?_;intro b5 a2;have b7:Blk b5 b2 32 (cfL C):=(by rw[a2];exact Blk.gF J.o.h2 (cfL C).toList rfl);have c1:=zH b7;have b8:bW w b5:=(by rw[a2];exact Below.bZ J.o.q2 _ _ _ J.o.hB);have c2:=zH b8;clear a2 b7 b8)|go_values|go_skip|go_guarded|go_step|go_upon|go_back|go_simp)
    (try simp only[Exit.inBlock,Exit.then])
    refine iZ 2 32 b2 (cfL C) kR kR c1.o _ Tryz.underlying32 kR kR rfl ?_;exact⟨by rw[c4.o],c2.o⟩
end Go.Proofs.YtiflndepmgnojaaGreat
