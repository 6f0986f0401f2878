import Derived.Test.YtiflndepmgnojaaGreatGuC
import Derived.Test.YtiflndepmgnojaaGreatRhg
namespace Go.Proofs.YtiflndepmgnojaaGreat
open Go.RowKit
set_option linter.unusedSimpArgs false
set_option linter.unusedVariables false
set_option maxHeartbeats 8000000
set_option maxRecDepth 100000
theorem NS {tb:TypeId} (k:Nat) (o:k<=1000000000) (S e:Nat->Prop) (p d:Nat) (g:Gu) (l:Le) (a:Option Addr) (c:Nat) (b:List Int) (now:Int) (w:World)
  (m:mI w S p g) (n:AO k g) (q:iJ w S d l) (r:gM l) (hb:Byt tb w e a b) (i:b.length<=100000) (j:dP b) (s:Word now) (f:Bd S w):
  Calls Tryz.prog 52 #[pT p,pT d,.slice a b.length c,uI now] w λx y=>vZ w S p d (dN g l b now) x y:=by
 cases h1:g.over with
 |true=>exact Sk k o S e p d g l a c b now w m n q r hb i j s f (zH h1)
 |false=>
  by_cases t:(jy b).err=0
  ·by_cases u:(jW l (jy b).val).why=0
   ·by_cases v:(kL (lX l (jW l (jy b).val).val) (jy b).val).why=0
    ·exact Sf k o S e p d g l a c b now w m n q r hb i j s f (zH h1) (zH t) (zH u) (zH v)
    ·exact Sg k o S e p d g l a c b now w m n q r hb i j s f (zH h1) (zH t) (zH u) (zH v)
   ·exact Si k o S e p d g l a c b now w m n q r hb i j s f (zH h1) (zH t) (zH u)
  ·exact Sj k o S e p d g l a c b now w m n q r hb i j s f (zH h1) (zH t)
theorem tO:∀(a:Nat) (b:Int),dP (kM a b)
 |0,_,x,h=>by simp[kM]at h
 |a+1,b,x,h=>by
  rcases WB.1 h with h|h
  ·exact tO a _ x h
  ·obtain rfl:=dZ.1 h
   omega
theorem uO:∀(a:Nat) (b:Int),(kM a b).length=a
 |0,_=>rfl
 |a+1,b=>by simp[kM,uO a]
theorem Jo (m:Int) (l:List Int):(oP m l).length=l.length:=by cases l<;>rfl
theorem Po (n:Int):eU n<=8:=by unfold eU;split<;>(try split)<;>(try split)<;>(try split)<;>omega
theorem ui (n:Int):(kY n).length<=8:=by unfold kY;rw[Jo,uO];exact Po n
theorem uF {m:Int} {k:Nat} {n:Int} (l:(k=1/\m=0/\0<=n/\n<64)\/(k=2/\m=64/\0<=n/\n<16384)\/(k=4/\m=128/\0<=n/\n<1073741824)\/(k=8/\m=192/\0<=n/\n<=4611686018427387903)):dP (oP m (kM k n)):=by
 have o:∀(b:List Int),dP b->(∀a e,b=a::e->a+m<256/\0<=m)->dP (oP m b):=by
  intro b g j p d;cases b with
  |nil=>cases d
  |cons a e=>
   obtain⟨c,q⟩:=j a e rfl;rcases bT.1 d with rfl|d
   ·have:=g a sM;omega
   ·exact g p (by simp[d])
 refine o _ (tO k n) (λa e i=>?_);rcases l with⟨rfl,rfl,f,c⟩|⟨rfl,rfl,f,c⟩|⟨rfl,rfl,f,c⟩|⟨rfl,rfl,f,c⟩<;>
  (simp only[kM,List.nil_append,List.cons_append,List.cons.injEq]at i;omega)
theorem uh {n:Int} (a:0<=n):dP (kY n):=by
 unfold kY eU;by_cases b:n<64
 (·rw[aB b];exact uF (.inl ⟨rfl,rfl,a,b⟩));rw[Ww b];by_cases c:n<16384
 (·rw[aB c];exact uF (.inr (.inl ⟨rfl,rfl,a,c⟩)));rw[Ww c];by_cases d:n<1073741824
 (·rw[aB d];exact uF (.inr (.inr (.inl ⟨rfl,rfl,a,d⟩))));rw[Ww d];by_cases e:n<=4611686018427387903
 (·rw[aB e];exact uF (.inr (.inr (.inr ⟨rfl,rfl,a,e⟩))));rw[Ww e];intro g f;simp[kM,oP]at f
theorem dP.app {a b:List Int} (d:dP a) (hb:dP b):dP (a++b):=λc e=>(WB.1 e).elim (d c) (hb c)
theorem Mm {d:Da} (h:DOk d):dP (rY d)/\(rY d).length<=100000:=by
 have b:=ui d.pn;have c:=ui d.bn;have e:=ui d.off;have f:=ui (d.body.length:Int);have g:=h.xE;(have i:d.ecn=1\/d.ecn=2\/d.ecn=3:=by have:=h.ecn;simp[tF]at this;omega);refine⟨?_,?_⟩
 ·unfold rY
  refine((((((dP.app (λj a=>?_) (uh h.pn0)).app (uh h.zM)).app (uh h.vz)).app (tO 8 _)).app (uh oM)).app h.bok);simp only[bT,List.not_mem_nil,or_false]at a;omega
 ·unfold rY lu
  simp only[aU,aY,List.length_nil,uO];omega
theorem Io:∀(b:List Sp) (a:Int),GF a b->dP (rM a b)/\(rM a b).length<=16*b.length
 |[],_,_=>⟨λm d=>by simp[rM]at d,by simp[rM]⟩
 |s::t,a,h=>by
  obtain⟨f,g,i,c⟩:=h;obtain⟨e,j⟩:=Io t _ c;have k:=ui (s.lo -a);have l:=ui (s.hi -s.lo);unfold rM;refine⟨((uh oM).app (uh oM)).app e,?_⟩;simp only[aU,aY];omega
theorem LZ {l:List Sp} (h:Gd l) (d:l.length<=32):dP (xL l)/\(xL l).length<=1+16*32:=by
 obtain⟨b,e⟩:=Io l 0 h;unfold xL;refine⟨λc a=>?_,by simp only[aY];omega⟩;rcases bT.1 a with rfl|a
 ·omega
 ·exact b c a
theorem Sn {a:Ak} (c:Gd a.cu) (d:Gd a.aO) (g:a.cu.length<=32) (i:a.aO.length<=32):dP (zP a)/\(zP a).length<=100000:=by
 obtain⟨e,k⟩:=LZ c g;obtain⟨f,l⟩:=LZ d i;unfold zP;refine⟨((((dP.app (λj b=>?_) e).app f).app (tO 8 _)).app (tO 8 _)).app (λj b=>?_),?_⟩
 ·obtain rfl:=dZ.1 b;omega
 ·obtain rfl:=dZ.1 b;split<;>omega
 ·unfold lu
  simp only[aU,aY,List.length_nil,uO];omega
theorem II {k:Nat} {p:Pe} {g m:Nat} (h:jN k g m {p with fG:=0,due:=18446744073709551615}) (d:g<=32) (e:m<=32):dP (lZ p).b/\(lZ p).b.length<=100000:=by
 unfold lZ;dsimp only;split
 ·have a:=h.lh
  have b:=h.sV;have c:=h.oq;exact Sn (h.got.gd a) (h.aO.gd a) (ay b d) (ay c e)
 ·exact⟨(λi f=>by cases f),sM⟩
theorem vv {k:Nat} {p:Pe} {now:Int} (h:jN k 32 32 p):dP (kK p now).b/\(kK p now).b.length<=100000:=by
 unfold kK;split
 ·exact II {h with tX:=by simp,tV:=by simp,due:=⟨sM,sM⟩} (av _) (av _)
 ·exact⟨(λb a=>by cases a),sM⟩
theorem IJ {k:Nat} {p:Pe} {b:List Int} {now:Int} (h:jN k 32 32 p) (hb:dP b) (l:Word now):dP (oN p b now).b/\(oN p b now).b.length<=100000:=by
 have e:dP ([]:List Int)/\([]:List Int).length<=100000:=⟨(λt j=>by cases j),sM⟩;unfold oN;split
 ·exact e
 next c=>
 simp only[not_or,Decidable.not_not,Int.not_lt,Bool.not_eq_true]at c;obtain⟨g,i,f⟩:=c;have d:=zm hb g;rw[Gy (h.got.gd h.lh)]at f;have a:=Ma h d i f;have o:=d.pn0;have q:=d.pn1;have r:=a.tX;have s:=a.tV;have m:=a.pE;have n:=a.nI;dsimp only;split
 (·exact e);split
 ·exact II {a with pE:=by simp only;omega,nI:=by simp only;omega,tX:=by simp,tV:=by simp,dw:=d.bX,due:=⟨sM,sM⟩} (av _) (av _)
 ·exact e
theorem Q7 {n:Int} (h:0<=n):dP (rR n)/\(rR n).length<=100000:=by
 unfold rR;split
 ·exact⟨(λb a=>by cases a),sM⟩
 ·have:=ui n
  refine⟨λb a=>?_,by simp only[aY];omega⟩;rcases bT.1 a with rfl|a
  ·omega
  ·exact uh h b a
theorem send_b {k:Nat} {e:En} {p:Pi} (c:dG k e) (w:iY e.dH e.c.mss=some p) (u:¬e.c.dO<e.led.next) (x:¬eu e.led<1):dP (jH e p).b/\(jH e p).b.length<=100000:=by
 obtain⟨O,P,z,Q,R,A⟩:=nD c.qu w;obtain⟨B,C,S⟩:=DX c u x;have b:=wM c;have s:=(zh e).1;have L:=c.cf.Ca;have I:=c.qu.qx;have H:=c.qu.base0;unfold jH;generalize J:eH e=a at*
 unfold wN;dsimp only;obtain⟨f,l⟩:=eX (yP (jg a) a.c.bits);obtain⟨d,t⟩:=eX (zn (jg (WG a)));rw[<-l,<-t];(have v:¬a.led.dO<a.led.next:=by rw[b.ll,s];exact B);have y:jG (WG (WG a)).led ⟨0,p.off,p.body.length,f,(WG (WG a)).now,d,false,0⟩=gG a.led ⟨0,p.off,p.body.length,f,(WG (WG a)).now,d,false,1⟩:=by
  unfold jG;rw[Ww (by simp only;omega)];rfl
 rw[y];obtain⟨D,o,E,q⟩:=xU ⟨0,p.off,p.body.length,f,(WG (WG a)).now,d,false,1⟩ b.le v C;generalize gG a.led ⟨0,p.off,p.body.length,f,(WG (WG a)).now,d,false,1⟩=i at*
 have M:=b.le.pE;have N:=b.le.nI;have K:=b.le.mh;have j:0<=eY i.led/\eY i.led<=i.val:=by
  rw[q,o];simp only;have G:=b.le.bn;have F:=b.le.KN;have n:eY a.led=gB a.led.next a.led.kept:=rfl;rw[aB trivial,<-n];omega
 have r:dP p.body:=by
  rw[A];exact λm g=>c.qb m (dW (bf g))
 split
 ·exact Mm ⟨by simp only;omega,by simp only;omega,j.1,j.2,by simp only;omega,by simp only;omega,by rw[l];exact zL (pG b.wok _),z,by simp only;omega,r,by cases d<;>rfl⟩
 ·exact⟨(λm g=>by cases g),sM⟩
structure PollD (e:En) (r:Rpo):Prop where
 b:dP r.b/\r.b.length<=100000
 c:(0<e.cO/\r.en.cO=e.cO -1/\r.en.led=e.led/\(ky r.b).err≠0)\/(eu r.en.led<eu e.led/\r.en.cO=e.cO)
theorem SA (n:Int):(ky (rR n)).err≠0:=by
 unfold rR;split
 ·simp[ky,fQ]
 ·unfold ky
  rw[MR];simp
theorem RU {k:Nat} {e:En} (b:dG k e) (a:(WQ e).err=0):PollD e (WQ e):=by
 rw[vk]at a|-;by_cases i:lq e=true
 (·rw[aB i]at a;exact Wy a (show¬((9:Int)=0) by decide));rw[Ww i]at a|-;by_cases f:0<e.cO
 ·rw[aB f]
  exact⟨Q7 b.Ho,.inl ⟨f,rfl,rfl,SA _⟩⟩
 rw[Ww f]at a|-;unfold uS at a|-;cases hq:iY e.dH e.c.mss with
 |none=>rw[hq]at a;exact Wy a (show¬((10:Int)=0) by decide)
 |some p=>
  rw[hq]at a;dsimp only at a|-;by_cases j:e.fP=false/\e.cc.win.cr<gq e.led+p.body.length
  (·rw[aB j]at a;exact Wy a (show¬((7:Int)=0) by decide));rw[Ww j]at a|-;by_cases c:e.c.dO<e.led.next
  (·rw[aB c]at a;exact Wy a (show¬((8:Int)=0) by decide));rw[Ww c]at a|-;by_cases d:eu e.led<1
  (·rw[aB d]at a;exact Wy a (show¬((7:Int)=0) by decide));rw[Ww d]at a|-;by_cases g:vw e.fM e.c.gD e.now p.body.length=true
  ·rw[aB g]at a|-
   obtain⟨n,o,q,r,s,t⟩:=nD b.qu hq;have m:Word (p.body.length:Int):=⟨oM,by have:=b.cf.Ca;omega⟩;have l:dG k {e with fM:=WR e.fM e.c.gD e.now p.body.length}:={b with pa:=wF b.pa b.cf.uP b.now m g,ra0:=b.ra0,ra1:=b.ra1};exact⟨send_b l hq c d,.inr (Ea l hq c d)⟩
  ·rw[Ww g]at a;exact Wy a (show¬((7:Int)=0) by decide)
theorem BS {k:Nat} {e:En} {now:Int} (d:dG k e) (f:Word now) (c:(fD e now).err=0):PollD e (fD e now):=by
 obtain⟨a,b⟩:=RU (qO d f) c;exact⟨a,b⟩
theorem Nw {e:En} (a:(WQ e).err≠0):(WQ e).en.cO=e.cO/\(WQ e).en.led=e.led:=by
 rw[vk]at a|-;split
 ·exact⟨rfl,rfl⟩
 next c=>
 rw[Ww c]at a;split
 ·next c2=>rw[aB c2]at a;exact Wy rfl a
 next c2=>
 rw[Ww c2]at a;unfold uS at a|-;split
 ·exact⟨rfl,rfl⟩
 next p hp=>
 rw[hp]at a;dsimp only at a;split
 (·exact⟨rfl,rfl⟩);split
 (·exact⟨rfl,rfl⟩);split
 (·exact⟨rfl,rfl⟩);split
 ·next c3 c4 c5 c6=>rw[Ww c3,Ww c4,Ww c5,aB c6]at a;exact Wy rfl a
 ·exact⟨rfl,rfl⟩
theorem Qb (e:En) (b:List Int):(xw e b).en.cO=e.cO\/(xw e b).en.cO=e.cO+1:=by
 rw[Gc];split
 ·exact .inl rfl
 ·dsimp only
  rw[(Qa _ _ _).2.2];show(if _ then _ else _)=_\/(if _ then _ else _)=_;split
  ·exact .inr rfl
  ·exact .inl rfl
structure WdX (n m:Nat) (pa pb:Nat) (w:Wo):Prop where
 en:dG (w.heard+w.sent+m) w.en
 gs:GS w.en
 pe:jN w.eO.toNat 32 32 w.pe
 now:Word w.now
 vR:0<=w.eO
 fu:(w.fu:Int)<=w.eO
 ahead:vY w.ahead.count w.ahead
 back:vY w.back.count w.back
 ahc:w.ahead.count<=256*m
 ahi:w.eO+w.ahead.items.length+pa<=2*w.ahead.count
 bkc:(w.back.count:Int)<=w.eO+n
 bki:w.heard+w.back.items.length+pb<=2*w.back.count+n
 sent:(w.sent:Int)+w.en.cO<=w.heard+256*m
theorem WdX.small {n m a b:Nat} {w:Wo} (h:WdX n m a b w) (k:n<=1000) (j:m<=1000):w.ahead.count<=256000/\w.eO<=512000/\w.back.count<=513000/\w.heard<=1027000/\w.sent<=1283000:=by
 have c:=h.ahc;have d:=h.ahi;have e:=h.bkc;have f:=h.bki;have g:=h.sent;have i:=h.en.rO;omega
theorem IB {q:Pp} (h:vY q.count q) {b:List Int} {now:Int} (hb:dP b) (i:b.length<=100000) (o:Word now):vY (qD q b now).count (qD q b now)/\(qD q b now).count=q.count+1/\(qD q b now).items.length<=q.items.length+2:=by
 have m:Word (mK q).delay:=by
  unfold mK;rw[aW];cases f:q.qF[q.count]?with
  |none=>exact⟨dC,dC⟩
  |some c=>exact h.word c (List.mem_of_getElem? f)
 have n:dP ((qp b).getD b)/\((qp b).getD b).length<=100000:=by
  unfold qp;split
  ·exact⟨hb,i⟩
  next e=>
  have l:=zm hb (by simpa using e);exact Mm {l with ecn:=rfl}
 have f:∀(a:It),a=⟨WI now (mK q).delay,if(mK q).mark then(qp b).getD b else b⟩->Word a.iat/\dP a.b/\a.b.length<=100000:=by
  rintro a rfl;refine⟨fB o m,?_⟩;show dP (if(mK q).mark then(qp b).getD b else b)/\(if(mK q).mark then(qp b).getD b else b).length<=100000;split
  ·exact n
  ·exact⟨hb,i⟩
 have p:=h.items;unfold qD;by_cases e:(mK q).drop=true
 ·rw[aB e]
  exact⟨⟨av _,by simp only;omega,h.ok,h.qF,h.word⟩,rfl,by simp only;omega⟩
 ·rw[Ww e]
  dsimp only;obtain⟨a,k⟩:∃a:It,a=⟨WI now (mK q).delay,if(mK q).mark then(qp b).getD b else b⟩:=⟨_,rfl⟩;rw[<-k];have j:=f a k;have r:=vE q.items a;have s:=vE (uD q.items a) a;have g:∀c∈uD q.items a,Word c.iat/\dP c.b/\c.b.length<=100000:=λc d=>by
   rcases vD d with rfl|d
   ·exact j
   ·exact h.ok c d
  split
  ·refine⟨⟨av _,by simp only;omega,λc d=>?_,h.qF,h.word⟩,rfl,oM⟩
   rcases vD d with rfl|d
   ·exact j
   ·exact g c d
  ·exact⟨⟨av _,by simp only;omega,g,h.qF,h.word⟩,rfl,oM⟩
theorem Fx {n m d c:Nat} {w:Wo} {b:List Int} (h:WdX n m d (c+1) w) (hb:dP b):WdX n m d c (je w b):=by
 have e:=Mo (b:=b) h.en hb h.now;have f:(lU w.en b w.now).en.cO<=w.en.cO+1:=by
  rcases Qb (nO w.en w.now) b with a|a
  ·have:(lU w.en b w.now).en.cO=w.en.cO:=a
   omega
  ·have:(lU w.en b w.now).en.cO=w.en.cO+1:=a
   omega
 have g:=h.bki;have i:=h.sent;refine{h with en:=?_,gs:=gs_on1 (Mi h.gs w.now) b,bki:=?_,sent:=?_}
 ·show dG (w.heard+1+w.sent+m) _
  exact e.mono oM
 ·show(w.heard+1)+w.back.items.length+c<=2*w.back.count+n
  omega
 ·show(w.sent:Int)+(lU w.en b w.now).en.cO<=((w.heard+1:Nat):Int)+256*m
  omega
theorem Fw {n m d e:Nat} {w:Wo} {a:Rpe} (h:WdX n m d e w) (b:jN w.eO.toNat 32 32 a.pe) (hb:dP a.b) (f:a.b.length<=100000) (j:(w.back.count:Int)+1<=w.eO+n):WdX n m d e (jP w a):=by
 unfold jP;split
 ·obtain⟨g,c,k⟩:=IB h.back hb f h.now
  have i:=h.bki;exact{h with pe:=b,back:=g,bkc:=by simp only;rw[c];push_cast;omega,bki:=by simp only;rw[c];omega}
 ·exact{h with pe:=b}
theorem Xx {n m a d:Nat} {w:Wo} {b:List Int} (h:WdX n m (a+1) d w) (hb:dP b):WdX n m a d (jZ w b):=by
 unfold jZ;have l:=h.vR;have c:(w.eO+1).toNat=w.eO.toNat+1:=oM;have e:=NC (now:=w.now) h.pe hb h.now;obtain⟨f,g⟩:=IJ h.pe hb h.now;have i:=h.ahi;have j:=h.bkc;have k:=h.fu;refine Fw ?_ (by show jN (w.eO+1).toNat 32 32 _;rw[c];exact e) f g (by show(w.back.count:Int)+1<=w.eO+1+n;omega);exact{h with
  pe:=by show jN (w.eO+1).toNat 32 32 w.pe;rw[c];exact h.pe.mono (Nat.le_succ _)
  vR:=by show 0<=w.eO+1;omega
  fu:=by
   show((if _ then _ else _:Nat):Int)<=w.eO+1;split
   ·push_cast;omega
   ·omega
  ahi:=by show w.eO+1+w.ahead.items.length+a<=2*(w.ahead.count:Int);omega
  bkc:=by show(w.back.count:Int)<=w.eO+1+n;omega}
theorem Hg {n m c:Nat}:∀(b:List (List Int)) {w:Wo},WdX n m b.length c w->(∀a∈b,dP a)->WdX n m 0 c (b.foldl jZ w)
 |[],_,h,_=>h
 |a::t,_,h,hb=>Hg t (Xx h (hb a sM)) (λe d=>hb e (by simp[d]))
theorem He {n m c:Nat}:∀(b:List (List Int)) {w:Wo},WdX n m c b.length w->(∀a∈b,dP a)->WdX n m c 0 (b.foldl je w)
 |[],_,h,_=>h
 |a::t,_,h,hb=>He t (Fx h (hb a sM)) (λe d=>hb e (by simp[d]))
theorem vY.rest {k:Nat} {q:Pp} (h:vY k q) (now:Int):vY k {q with items:=iH now q.items}:=by
 have c:=pU now q.items;have d:=h.items;exact⟨h.count,by simp only;omega,λb a=>h.ok b (Nk a),h.qF,h.word⟩
def LQ (w:Wo) (n:Int):Wo:={w with now:=WI w.now n,ahead:={w.ahead with items:=iH (WI w.now n) w.ahead.items}}
def DL (w:Wo) (n:Int):Wo:=(iy (WI w.now n) w.ahead.items).foldl jZ (LQ w n)
def qB (w:Wo) (n:Int):Wo:=jP (DL w n) (kK (DL w n).pe (DL w n).now)
def LP (w:Wo) (n:Int):Wo:={qB w n with back:={(qB w n).back with items:=iH (qB w n).now (qB w n).back.items}}
def Bh (w:Wo) (n:Int):Wo:=(iy (qB w n).now (qB w n).back.items).foldl je (LP w n)
theorem MK (w:Wo) (n:Int):xF w n={Bh w n with en:=kr (Bh w n).en (Bh w n).now}:=rfl
theorem RA {n m:Nat} {w:Wo} {d:Int} (h:WdX n m 0 0 w) (y:0<=d):
  WdX n m (iy (WI w.now d) w.ahead.items).length 0 (LQ w d)/\WdX n m 0 0 (DL w d)/\WdX (n+1) m 0 0 (qB w d)/\WdX (n+1) m 0 (iy (qB w d).now (qB w d).back.items).length (LP w d)/\WdX (n+1) m 0 0 (Bh w d)/\WdX (n+1) m 0 0 (xF w d):=by
 have r:Word (WI w.now d):=by
  unfold WI;have:=h.now;unfold Word at*
  split<;>omega
 have v:=pU (WI w.now d) w.ahead.items;have t:=h.ahi;have j:WdX n m (iy (WI w.now d) w.ahead.items).length 0 (LQ w d):={h with now:=r,ahead:=h.ahead.rest _,ahi:=by simp only[LQ];omega};have l:∀c∈iy (WI w.now d) w.ahead.items,dP c:=λc f=>by
  obtain⟨i,g,rfl⟩:=wR f;exact(h.ahead.ok i g).2.1
 have a:WdX n m 0 0 (DL w d):=Hg _ j l;have p:WdX (n+1) m 0 0 (DL w d):=by
  have z:=a.bkc;have A:=a.bki;exact{a with bkc:=by push_cast;omega,bki:=by omega}
 have e:WdX (n+1) m 0 0 (qB w d):=Fw p (Ep a.pe) (vv a.pe).1 (vv a.pe).2 (by have:=a.bkc;push_cast;omega);have x:=pU (qB w d).now (qB w d).back.items;have u:=e.bki;have k:WdX (n+1) m 0 (iy (qB w d).now (qB w d).back.items).length (LP w d):={e with back:=e.back.rest _,bki:=by simp only[LP];omega};have o:∀c∈iy (qB w d).now (qB w d).back.items,dP c:=λc f=>by
  obtain⟨i,g,rfl⟩:=wR f;exact(e.back.ok i g).2.1
 have b:WdX (n+1) m 0 0 (Bh w d):=He _ k o;refine⟨j,a,e,k,b,?_⟩;rw[MK];have q:=LM (Bh w d).en (Bh w d).now;have s:=b.sent;exact{b with en:=EV b.en b.now,gs:=QD (Mi b.gs _),sent:=by simp only;rw[q.2.2];exact s}
structure EvOk (e:Ev):Prop where
 body:dP e.body
 n:0<=e.n
theorem Hf {n:Nat} {w:Wo} {e:Ev} (h:WdX n n 0 0 w) (b:EvOk e):WdX (n+1) n 0 0 (wB w e):=by
 have j:=h.bkc;have k:=h.bki;have c:=h.sent;have a:WdX (n+1) n 0 0 w:={h with bkc:=by push_cast;omega,bki:=by omega};unfold wB;split
 (·exact{a with en:=CE h.en b.body,gs:=QC h.gs _,sent:=by simp only;rw[(OO w.en e.body).2.2];exact c});split
 ·have i:=b.n
  exact(RA h (d:=min e.n 1099511627776) oM).2.2.2.2.2
 split
 ·have f:WdX (n+1) n 0 1 w:={h with bkc:=by push_cast;omega,bki:=by omega}
  exact Fx f b.body
 split
 (·exact{a with});split
 ·exact{a with}
 ·have g:(kF w.en).en.cO=w.en.cO:=by unfold kF;split<;>rfl
  exact{a with en:=Lg h.en,gs:=QE h.gs,sent:=by simp only;rw[g];exact c}
def polled (w:Wo):Wo:={w with en:=(fD w.en w.now).en,sent:=w.sent+1,ahead:=if(ky (fD w.en w.now).b).err=0 then qD w.ahead (fD w.en w.now).b w.now else w.ahead}
theorem BR {w:Wo} (k:Nat) (h:(fD w.en w.now).err≠0):qI (k+1) w={w with en:=(fD w.en w.now).en}:=by
 rw[qI];exact aB h
theorem IC {w:Wo} (k:Nat) (h:(fD w.en w.now).err=0):qI (k+1) w=qI k (polled w):=by
 rw[qI];exact Ww (by rw[h];decide)
structure WdP (n:Nat) (w:Wo):Prop where
 en:dG (w.heard+w.sent+n) w.en
 gs:GS w.en
 pe:jN w.eO.toNat 32 32 w.pe
 now:Word w.now
 vR:0<=w.eO
 fu:(w.fu:Int)<=w.eO
 ahead:vY w.ahead.count w.ahead
 back:vY w.back.count w.back
 ahc:(w.ahead.count:Int)+eu w.en.led<=256*(n+1)
 ahi:w.eO+w.ahead.items.length<=2*w.ahead.count
 bkc:(w.back.count:Int)<=w.eO+n+1
 bki:w.heard+w.back.items.length<=2*w.back.count+n+1
 sent:(w.sent:Int)+w.en.cO+eu w.en.led<=w.heard+256*(n+1)
theorem zA {n:Nat} {w:Wo} (h:WdX (n+1) n 0 0 w):WdP n w:=by
 have b:=h.en.le.room;have c:=h.en.le.lW;have d:=h.ahc;have e:=h.ahi;have a:=h.bkc;have f:=h.bki;have g:=h.sent;exact⟨h.en,h.gs,h.pe,h.now,h.vR,h.fu,h.ahead,h.back,oM,oM,by push_cast at a;omega,oM,oM⟩
theorem DI {n:Nat} {w:Wo} (h:WdP n w) (g:(fD w.en w.now).err=0):WdP n (polled w)/\pm (polled w).en<pm w.en:=by
 have m:=wO h.en h.now;obtain⟨⟨k,l⟩,a⟩:=BS h.en h.now g;obtain⟨q,i,s⟩:=IB h.ahead k l h.now;have p:pm (fD w.en w.now).en<pm w.en:=by
  have:=Ny (qO h.en h.now) g;exact this
 have t:=h.ahc;have u:=h.ahi;have v:=h.sent;have e:GS (fD w.en w.now).en:=Jq (Mi h.gs w.now);have d:dG (w.heard+(w.sent+1)+n) (fD w.en w.now).en:=m.mono oM;refine⟨?_,p⟩;by_cases b:(ky (fD w.en w.now).b).err=0
 ·have c:polled w={w with en:=(fD w.en w.now).en,sent:=w.sent+1,ahead:=qD w.ahead (fD w.en w.now).b w.now}:=by unfold polled;rw[aB b]
  rw[c];rcases a with⟨_,_,_,a⟩|⟨a,o⟩
  ·exact Wy b a
  ·exact⟨d,e,h.pe,h.now,h.vR,h.fu,q,h.back,by simp only;rw[i];push_cast;omega,by simp only;rw[i];push_cast;omega,h.bkc,h.bki,by simp only;push_cast;omega⟩
 ·have c:polled w={w with en:=(fD w.en w.now).en,sent:=w.sent+1}:=by unfold polled;rw[Ww b]
  rw[c];rcases a with⟨r,j,f,_⟩|⟨a,o⟩
  ·exact⟨d,e,h.pe,h.now,h.vR,h.fu,h.ahead,h.back,by simp only;rw[f];omega,by simp only;omega,h.bkc,h.bki,by simp only;rw[j,f];push_cast;omega⟩
  ·exact⟨d,e,h.pe,h.now,h.vR,h.fu,h.ahead,h.back,by simp only;omega,by simp only;omega,h.bkc,h.bki,by simp only;push_cast;omega⟩
theorem Be {n:Nat} {w:Wo} (h:WdP n w) (a:(fD w.en w.now).err≠0):WdX (n+1) (n+1) 0 0 {w with en:=(fD w.en w.now).en}:=by
 have b:=wO h.en h.now;have c:(fD w.en w.now).en.cO=w.en.cO:=(Nw a).1;have d:=h.en.le.room;have e:=h.ahc;have f:=h.ahi;have g:=h.bkc;have i:=h.bki;have j:=h.sent;exact⟨b.mono (by simp only;omega),Jq (Mi h.gs w.now),h.pe,h.now,h.vR,h.fu,h.ahead,h.back,by simp only;omega,by simp only;omega,by simp only;push_cast;omega,by simp only;omega,by simp only;rw[c];push_cast;omega⟩
theorem Eo {n:Nat} (d:Wo->Prop) (f:∀a,WdP n a->d a->(fD a.en a.now).err=0->d (polled a)):
  ∀(c:Nat) (a:Wo),WdP n a->pm a.en<c->d a->∃b,WdP n b/\d b/\(fD b.en b.now).err≠0/\qI c a={b with en:=(fD b.en b.now).en}
 |0,a,h,hk,_=>Wy hk (by have:=(PU h.en).1;omega)
 |c+1,a,h,hk,hi=>by
  by_cases e:(fD a.en a.now).err=0
  ·obtain⟨g,i⟩:=DI h e
   rw[IC c e];exact Eo d f c (polled a) g (by push_cast at hk;omega) (f a h hi e)
  ·exact⟨a,h,hi,e,BR c e⟩
theorem PV {n:Nat} {w:Wo} (h:WdP n w):pm w.en<((w.en.cO.toNat+257:Nat):Int):=by
 have b:=(PU h.en).2;have c:=h.en.rO;have a:((w.en.cO.toNat+257:Nat):Int)=w.en.cO+257:=oM;rw[a];omega
theorem wd_all {n:Nat} {w:Wo} (h:WdX (n+1) n 0 0 w):WdX (n+1) (n+1) 0 0 (GY w):=by
 obtain⟨d,a,_,b,c⟩:=Eo (n:=n) (λ_=>True) (λ_ _ _ _=>trivial) _ w (zA h) (PV (zA h)) trivial;unfold GY;rw[c];exact Be a b
theorem U6 {n:Nat} {w:Wo} {e:Ev} (h:WdX n n 0 0 w) (a:EvOk e) (b:1<=e.kind/\e.kind<=6):WdX (n+1) (n+1) 0 0 (Bc w e):=by
 unfold Bc;rw[aB b];exact wd_all (Hf h a)
theorem OU {c:Cf} {words:List Int} {a b:List Fa} {f:Int} (j:lV c) (m:rG words) (l:words.length<=1000000) (o:a.length<=1000000) (p:b.length<=1000000) (g:∀d∈a,Word d.delay) (i:∀d∈b,Word d.delay) (k:Word f):WdX 0 0 0 0 (mO c words a b f)where
 en:=JI j m l
 gs:=gs_new c words
 pe:=PW k
 now:=⟨by simp[mO],by simp[mO]⟩
 vR:=by simp[mO]
 fu:=by simp[mO]
 ahead:=⟨by simp[mO],by simp[mO],λn e=>by simp[mO]at e,by simp only[mO];omega,g⟩
 back:=⟨by simp[mO],by simp[mO],λn e=>by simp[mO]at e,by simp only[mO];omega,i⟩
 ahc:=by simp[mO]
 ahi:=by simp[mO]
 bkc:=by simp[mO]
 bki:=by simp[mO]
 sent:=by simp[mO,nK]
attribute[local go_sem] BW.cell BW.frozen
abbrev cfL (c:Cf):Array Value:= #[jI c.bits,uI c.one,jI c.ring,uI c.dO,jI c.room,uI c.mss,uI c.jD,uI c.bn,uI c.most,jI c.pX,uI c.first,uI c.jc,uI c.cap,uI c.gD,uI c.WL,jI c.bE,uI c.every]
abbrev cfZ:Cf:=⟨0,0,0,0,0,0,0,0,0,0,0,0,0,0,0,0,0⟩
structure Lc (w W:World) (b2 b3:Nat) (C:Cf):Prop where
 h2:Blk W b2 32 (cfL cfZ)
 hb:Blk W b3 32 (cfL C)
 hB:bW w W
 q2:w.heap.size<=b2
 q3:w.heap.size<=b3
 n:b2≠b3
section
variable {w W:World} {b2 b3:Nat} {C:Cf}
theorem Lc.set (h:Lc w W b2 b3 C) (k:Nat) (v:Value) (a:Cf) (e:(cfL C).setIfInBounds k v=cfL a):Lc w (W.setCell ⟨b3,k,none⟩ v) b2 b3 a:=
 ⟨h.h2.far h.n _,e▸h.hb.bF k v,bG h.hB h.q3 _,h.q2,h.q3,h.n⟩
theorem Lc.drewN (h:Lc w W b2 b3 C) (n:Nat):Lc w (W.drewN n) b2 b3 C:=⟨h.h2.drewN n,h.hb.drewN n,aA h.hB n,h.q2,h.q3,h.n⟩
end
theorem JR {f9:TypeId} (S:Nat->Prop) (a:Option Addr) (c:Nat) (k:List Int) (w:World) (h:Row w S f9 1 a k.length (k.flatMap u3V)) (a3:U32 k):
  Calls Tryz.prog 9 #[.slice a k.length c] w λf t=>f=.returned (.agg #[jI (fV k).bits,uI (fV k).one,jI (fV k).ring,uI (fV k).dO,jI (fV k).room,uI (fV k).mss,uI (fV k).jD,uI (fV k).bn,uI (fV k).most,jI (fV k).pX,uI (fV k).first,uI (fV k).jc,uI (fV k).cap,uI (fV k).gD,uI (fV k).WL,jI (fV k).bE,uI (fV k).every])/\bW w t:=by
 obtain⟨b,b9⟩:=eX (atI k);have V:=λ(M:Nat) (f8:M<=100) t (f7:bW w t)=>Sc S a c k M f8 t (aD h f7) a3;have Z:=λM=>LA a3 M;obtain⟨c4,H⟩:=eX (fV k);rw[<-H];unfold fV at H;rw[<-b9]at V Z H;obtain⟨o,X⟩:=eX ((if b 4%4=1 then 1+b 4/4%64 else 64));obtain⟨p,a0⟩:=eX ((if 0<b 5%4 then 2+b 5/4%30 else 0));obtain⟨s,a2⟩:=eX ((if b 7%4=1 then b 7/4%60 else 4611686018427387903));rw[<-X,<-a0,<-a2]at H;have q:=zH V;have j:=zH Z;have c2:=zH H;have a9:=zH X;have b0:=zH a0;have b1:=zH a2;clear V Z H X a0 a2 h a3 b9;go_enter Tryz.func9,Tryz.ntmps9;go_wp2_with fail;obtain⟨e2,K⟩:=eX ((w.alloc (.cells #[jI 0,uI 0,jI 0,uI 0,jI 0,uI 0,uI 0,uI 0,uI 0,jI 0,uI 0,uI 0,uI 0,uI 0,uI 0,jI 0,uI 0] 32)).alloc (.cells #[jI 0,uI 0,jI 0,uI 0,jI 0,uI 0,uI 0,uI 0,uI 0,jI 0,uI 0,uI 0,uI 0,uI 0,uI 0,jI 0,uI 0] 32));rw[<-K];obtain⟨b2,T⟩:=eX w.heap.size;obtain⟨b3,U⟩:=eX (w.heap.size+1);have d:=zH (show Lc w e2 b2 b3 cfZ from⟨by rw[K,T];exact(Wx _ _ _).alloc _,by rw[K,U];exact Blk.qN _ _ _ _,by rw[K];exact BEL,oM,oM,oM⟩);rw[<-U,<-T];clear K T U;refine(q.out 0 oM _ d.out.hB).mono ?_;rintro f u ⟨rfl,rfl⟩;obtain⟨g,i⟩:=j.out 0;have J:_=some (uI (0)):=d.out.hb.cell 5;have L:=d.out.hb.frozen 5;have l:=d.out.hb.lt;have n:0<=1+b 0%40:=oM;have m:1+b 0%40<9223372036854775808:=oM;have u0:1+b 0%40<18446744073709551616:=oM;go_wp2_with fail;generalize e:World.setCell _ ⟨b3,5,none⟩ _=c5;replace d:=zH (show Lc w c5 b2 b3 ⟨0,0,0,0,0,1+b 0%40,0,0,0,0,0,0,0,0,0,0,0⟩from by rw[<-e];exact(d.out.set 5 (uI (1+b 0%40)) ⟨0,0,0,0,0,1+b 0%40,0,0,0,0,0,0,0,0,0,0,0⟩ rfl));clear e l J L n m u0 g i;obtain⟨g,i⟩:=j.out 1;obtain⟨v,x⟩:=j.out 0;obtain⟨y,z⟩:=j.out 1;obtain⟨A,B⟩:=j.out 2;have r:=zH (q.out 1 oM);have R:_=some (uI (0)):=d.out.hb.cell 7;have a8:=d.out.hb.frozen 7;have J:_=some (uI (1+b 0%40)):=d.out.hb.cell 5;have L:=d.out.hb.frozen 5;have l:=d.out.hb.lt;have n:0<=2*(1+b 0%40):=oM;have m:2*(1+b 0%40)<9223372036854775808:=oM;have u0:2*(1+b 0%40)<18446744073709551616:=oM;have F:0<=2*(1+b 0%40)+b 1%50:=oM;have E:2*(1+b 0%40)+b 1%50<9223372036854775808:=oM;have u1:2*(1+b 0%40)+b 1%50<18446744073709551616:=oM;clear v x y z A B;refine bP 8 kR kR ?_;refine mD ?_;(repeat (first|go_big_quiet_step (((go_at_call 33;exact aJ ((r.out _ (aA d.out.hB _)).mono λf t h=>⟨h.1,h.2.symm⟩))))|quiet_step (((go_at_call 33;exact aJ ((r.out _ (aA d.out.hB _)).mono λf t h=>⟨h.1,h.2.symm⟩))))));refine aK ?_;rintro _ ⟨D,rfl⟩;refine dA rfl rfl ?_;go_simp;refine aK ?_;generalize e:World.setCell _ ⟨b3,7,none⟩ _=d4;replace d:=zH (show Lc w d4 b2 b3 ⟨0,0,0,0,0,1+b 0%40,0,2*(1+b 0%40)+b 1%50,0,0,0,0,0,0,0,0,0⟩from by rw[<-e];exact((d.out.drewN D).set 7 (uI (2*(1+b 0%40)+b 1%50)) ⟨0,0,0,0,0,1+b 0%40,0,2*(1+b 0%40)+b 1%50,0,0,0,0,0,0,0,0,0⟩ rfl));clear e l R a8 J L n m u0 F E u1 g i r;go_wp2_with fail;obtain⟨g,i⟩:=j.out 2;obtain⟨v,x⟩:=j.out 0;obtain⟨y,z⟩:=j.out 1;obtain⟨A,B⟩:=j.out 2;have r:=zH (q.out 2 oM);have Q:_=some (uI (0)):=d.out.hb.cell 6;have a7:=d.out.hb.frozen 6;have R:_=some (uI (2*(1+b 0%40)+b 1%50)):=d.out.hb.cell 7;have a8:=d.out.hb.frozen 7;have l:=d.out.hb.lt;have n:0<=2*(1+b 0%40)+b 1%50+b 2%100:=oM;have m:2*(1+b 0%40)+b 1%50+b 2%100<9223372036854775808:=oM;have u0:2*(1+b 0%40)+b 1%50+b 2%100<18446744073709551616:=oM;clear v x y z A B;refine bP 7 kR kR ?_;refine mD ?_;(repeat (first|go_big_quiet_step (((go_at_call 33;exact aJ ((r.out _ (aA d.out.hB _)).mono λf t h=>⟨h.1,h.2.symm⟩))))|quiet_step (((go_at_call 33;exact aJ ((r.out _ (aA d.out.hB _)).mono λf t h=>⟨h.1,h.2.symm⟩))))));refine aK ?_;rintro _ ⟨D,rfl⟩;refine dA rfl rfl ?_;go_simp;refine aK ?_;generalize e:World.setCell _ ⟨b3,6,none⟩ _=d5;replace d:=zH (show Lc w d5 b2 b3 ⟨0,0,0,0,0,1+b 0%40,2*(1+b 0%40)+b 1%50+b 2%100,2*(1+b 0%40)+b 1%50,0,0,0,0,0,0,0,0,0⟩from by rw[<-e];exact((d.out.drewN D).set 6 (uI (2*(1+b 0%40)+b 1%50+b 2%100)) ⟨0,0,0,0,0,1+b 0%40,2*(1+b 0%40)+b 1%50+b 2%100,2*(1+b 0%40)+b 1%50,0,0,0,0,0,0,0,0,0⟩ rfl));clear e l Q a7 R a8 n m u0 g i r;go_wp2_with fail;obtain⟨g,i⟩:=j.out 3;obtain⟨v,x⟩:=j.out 0;obtain⟨y,z⟩:=j.out 1;obtain⟨A,B⟩:=j.out 2;have r:=zH (q.out 3 oM)
 have f2:_=some (uI (0)):=d.out.hb.cell 8;have g8:=d.out.hb.frozen 8;have Q:_=some (uI (2*(1+b 0%40)+b 1%50+b 2%100)):=d.out.hb.cell 6;have a7:=d.out.hb.frozen 6;have l:=d.out.hb.lt;have n:0<=2*(1+b 0%40)+b 1%50+b 2%100+b 3%400:=oM;have m:2*(1+b 0%40)+b 1%50+b 2%100+b 3%400<9223372036854775808:=oM;have u0:2*(1+b 0%40)+b 1%50+b 2%100+b 3%400<18446744073709551616:=oM;clear v x y z A B;refine bP 7 kR kR ?_;refine mD ?_;(repeat (first|go_big_quiet_step (((go_at_call 33;exact aJ ((r.out _ (aA d.out.hB _)).mono λf t h=>⟨h.1,h.2.symm⟩))))|quiet_step (((go_at_call 33;exact aJ ((r.out _ (aA d.out.hB _)).mono λf t h=>⟨h.1,h.2.symm⟩))))));refine aK ?_;rintro _ ⟨D,rfl⟩;refine dA rfl rfl ?_;go_simp;refine aK ?_;generalize e:World.setCell _ ⟨b3,8,none⟩ _=d6;replace d:=zH (show Lc w d6 b2 b3 ⟨0,0,0,0,0,1+b 0%40,2*(1+b 0%40)+b 1%50+b 2%100,2*(1+b 0%40)+b 1%50,2*(1+b 0%40)+b 1%50+b 2%100+b 3%400,0,0,0,0,0,0,0,0⟩from by rw[<-e];exact((d.out.drewN D).set 8 (uI (2*(1+b 0%40)+b 1%50+b 2%100+b 3%400)) ⟨0,0,0,0,0,1+b 0%40,2*(1+b 0%40)+b 1%50+b 2%100,2*(1+b 0%40)+b 1%50,2*(1+b 0%40)+b 1%50+b 2%100+b 3%400,0,0,0,0,0,0,0,0⟩ rfl));clear e l f2 g8 Q a7 n m u0 g i r;obtain⟨g,i⟩:=j.out 0;have N:_=some (jI (0)):=d.out.hb.cell 0;have a4:=d.out.hb.frozen 0;have l:=d.out.hb.lt;go_wp2_with fail;generalize e:World.setCell _ ⟨b3,0,none⟩ _=d7;replace d:=zH (show Lc w d7 b2 b3 ⟨64,0,0,0,0,1+b 0%40,2*(1+b 0%40)+b 1%50+b 2%100,2*(1+b 0%40)+b 1%50,2*(1+b 0%40)+b 1%50+b 2%100+b 3%400,0,0,0,0,0,0,0,0⟩from by rw[<-e];exact(d.out.set 0 (jI (64)) ⟨64,0,0,0,0,1+b 0%40,2*(1+b 0%40)+b 1%50+b 2%100,2*(1+b 0%40)+b 1%50,2*(1+b 0%40)+b 1%50+b 2%100+b 3%400,0,0,0,0,0,0,0,0⟩ rfl));clear e l N a4 g i;refine(q.out 4 oM _ d.out.hB).mono ?_;rintro f u ⟨rfl,rfl⟩;obtain⟨g,i⟩:=j.out 4;go_upto_if 35 with fail;clear g i;go_cut [] (λwx=>Hid (Lc w wx b2 b3 ⟨o,0,0,0,0,1+b 0%40,2*(1+b 0%40)+b 1%50+b 2%100,2*(1+b 0%40)+b 1%50,2*(1+b 0%40)+b 1%50+b 2%100+b 3%400,0,0,0,0,0,0,0,0⟩));case first=>
  by_cases b5:b 4%4=1
  ·have G:(b 4%4==1)=true:=by simp;omega
   go_wp2_with fail;clear G;refine(q.out 4 oM _ d.out.hB).mono ?_;rintro f u ⟨rfl,rfl⟩;obtain⟨g,i⟩:=j.out 4;have N:_=some (jI (64)):=d.out.hb.cell 0;have a4:=d.out.hb.frozen 0;have l:=d.out.hb.lt;have n:0<=b 4/4%64:=oM;have m:b 4/4%64<9223372036854775808:=oM;have u0:b 4/4%64<18446744073709551616:=oM;have F:0<=1+b 4/4%64:=oM;have E:1+b 4/4%64<9223372036854775808:=oM;have u1:1+b 4/4%64<18446744073709551616:=oM;go_wp2_with fail;generalize e:World.setCell _ ⟨b3,0,none⟩ _=d8;replace d:=zH (show Lc w d8 b2 b3 ⟨1+b 4/4%64,0,0,0,0,1+b 0%40,2*(1+b 0%40)+b 1%50+b 2%100,2*(1+b 0%40)+b 1%50,2*(1+b 0%40)+b 1%50+b 2%100+b 3%400,0,0,0,0,0,0,0,0⟩from by rw[<-e];exact(d.out.set 0 (jI (1+b 4/4%64)) ⟨1+b 4/4%64,0,0,0,0,1+b 0%40,2*(1+b 0%40)+b 1%50+b 2%100,2*(1+b 0%40)+b 1%50,2*(1+b 0%40)+b 1%50+b 2%100+b 3%400,0,0,0,0,0,0,0,0⟩ rfl));clear e l N a4 n m u0 F E u1 g i;(try go_wp2_with fail);go_meet;have f:=a9.out;rw[aB oM]at f;rw[f];exact d
  ·have G:(b 4%4==1)=false:=by simp;omega
   go_wp2_with fail;go_meet;have f:=a9.out;rw[Ww oM]at f;rw[f];exact d
 case rest=>
  clear d;have d:=hcut;clear hcut;go_wp2_with fail;refine(q.out 5 oM _ d.out.hB).mono ?_;rintro f u ⟨rfl,rfl⟩;obtain⟨g,i⟩:=j.out 5;go_upto_if 46 with fail;clear g i;go_cut [] (λwx=>Hid (Lc w wx b2 b3 ⟨o,p,0,0,0,1+b 0%40,2*(1+b 0%40)+b 1%50+b 2%100,2*(1+b 0%40)+b 1%50,2*(1+b 0%40)+b 1%50+b 2%100+b 3%400,0,0,0,0,0,0,0,0⟩));case first=>
   by_cases b5:0<b 5%4
   ·have G:(decide (0<b 5%4))=true:=by simp;omega
    go_wp2_with fail;clear G;refine(q.out 5 oM _ d.out.hB).mono ?_;rintro f u ⟨rfl,rfl⟩;obtain⟨g,i⟩:=j.out 5;have e4:_=some (uI (0)):=d.out.hb.cell 1;have g0:=d.out.hb.frozen 1;have l:=d.out.hb.lt;have n:0<=2+b 5/4%30:=oM;have m:2+b 5/4%30<9223372036854775808:=oM;have u0:2+b 5/4%30<18446744073709551616:=oM;go_wp2_with fail;generalize e:World.setCell _ ⟨b3,1,none⟩ _=d9;replace d:=zH (show Lc w d9 b2 b3 ⟨o,2+b 5/4%30,0,0,0,1+b 0%40,2*(1+b 0%40)+b 1%50+b 2%100,2*(1+b 0%40)+b 1%50,2*(1+b 0%40)+b 1%50+b 2%100+b 3%400,0,0,0,0,0,0,0,0⟩from by rw[<-e];exact(d.out.set 1 (uI (2+b 5/4%30)) ⟨o,2+b 5/4%30,0,0,0,1+b 0%40,2*(1+b 0%40)+b 1%50+b 2%100,2*(1+b 0%40)+b 1%50,2*(1+b 0%40)+b 1%50+b 2%100+b 3%400,0,0,0,0,0,0,0,0⟩ rfl));clear e l e4 g0 n m u0 g i;(try go_wp2_with fail);go_meet;have f:=b0.out;rw[aB oM]at f;rw[f];exact d
   ·have G:(decide (0<b 5%4))=false:=by simp;omega
    go_wp2_with fail;go_meet;have f:=b0.out;rw[Ww oM]at f;rw[f];exact d
  case rest=>
   clear d;have d:=hcut;clear hcut;go_wp2_with fail;refine(q.out 6 oM _ d.out.hB).mono ?_;rintro f u ⟨rfl,rfl⟩;obtain⟨g,i⟩:=j.out 6;have f0:_=some (jI (0)):=d.out.hb.cell 2;have g6:=d.out.hb.frozen 2;have P:_=some (uI (0)):=d.out.hb.cell 3;have a6:=d.out.hb.frozen 3;have l:=d.out.hb.lt;have n:0<=b 6%40:=oM;have m:b 6%40<9223372036854775808:=oM;have u0:b 6%40<18446744073709551616:=oM;have F:0<=4+b 6%40:=oM;have E:4+b 6%40<9223372036854775808:=oM;have u1:4+b 6%40<18446744073709551616:=oM;go_wp2_with fail;generalize e:World.setCell (World.setCell _ ⟨b3,2,none⟩ _) ⟨b3,3,none⟩ _=e0;replace d:=zH (show Lc w e0 b2 b3 ⟨o,p,4+b 6%40,4611686018427387903,0,1+b 0%40,2*(1+b 0%40)+b 1%50+b 2%100,2*(1+b 0%40)+b 1%50,2*(1+b 0%40)+b 1%50+b 2%100+b 3%400,0,0,0,0,0,0,0,0⟩from by rw[<-e];exact((d.out.set 2 (jI (4+b 6%40)) ⟨o,p,4+b 6%40,0,0,1+b 0%40,2*(1+b 0%40)+b 1%50+b 2%100,2*(1+b 0%40)+b 1%50,2*(1+b 0%40)+b 1%50+b 2%100+b 3%400,0,0,0,0,0,0,0,0⟩ rfl).set 3 (uI (4611686018427387903)) ⟨o,p,4+b 6%40,4611686018427387903,0,1+b 0%40,2*(1+b 0%40)+b 1%50+b 2%100,2*(1+b 0%40)+b 1%50,2*(1+b 0%40)+b 1%50+b 2%100+b 3%400,0,0,0,0,0,0,0,0⟩ rfl));clear e l f0 g6 P a6 n m u0 F E u1 g i;refine(q.out 7 oM _ d.out.hB).mono ?_;rintro f u ⟨rfl,rfl⟩;obtain⟨g,i⟩:=j.out 7;go_upto_if 63 with fail;clear g i;go_cut [] (λwx=>Hid (Lc w wx b2 b3 ⟨o,p,4+b 6%40,s,0,1+b 0%40,2*(1+b 0%40)+b 1%50+b 2%100,2*(1+b 0%40)+b 1%50,2*(1+b 0%40)+b 1%50+b 2%100+b 3%400,0,0,0,0,0,0,0,0⟩));case first=>
    by_cases b5:b 7%4=1
    ·have G:(b 7%4==1)=true:=by simp;omega
     go_wp2_with fail;clear G;refine(q.out 7 oM _ d.out.hB).mono ?_;rintro f u ⟨rfl,rfl⟩;obtain⟨g,i⟩:=j.out 7;have P:_=some (uI (4611686018427387903)):=d.out.hb.cell 3;have a6:=d.out.hb.frozen 3;have l:=d.out.hb.lt;have n:0<=b 7/4%60:=oM;have m:b 7/4%60<9223372036854775808:=oM;have u0:b 7/4%60<18446744073709551616:=oM;go_wp2_with fail;generalize e:World.setCell _ ⟨b3,3,none⟩ _=e1;replace d:=zH (show Lc w e1 b2 b3 ⟨o,p,4+b 6%40,b 7/4%60,0,1+b 0%40,2*(1+b 0%40)+b 1%50+b 2%100,2*(1+b 0%40)+b 1%50,2*(1+b 0%40)+b 1%50+b 2%100+b 3%400,0,0,0,0,0,0,0,0⟩from by rw[<-e];exact(d.out.set 3 (uI (b 7/4%60)) ⟨o,p,4+b 6%40,b 7/4%60,0,1+b 0%40,2*(1+b 0%40)+b 1%50+b 2%100,2*(1+b 0%40)+b 1%50,2*(1+b 0%40)+b 1%50+b 2%100+b 3%400,0,0,0,0,0,0,0,0⟩ rfl));clear e l P a6 n m u0 g i;(try go_wp2_with fail);go_meet;have f:=b1.out;rw[aB oM]at f;rw[f];exact d
    ·have G:(b 7%4==1)=false:=by simp;omega
     go_wp2_with fail;go_meet;have f:=b1.out;rw[Ww oM]at f;rw[f];exact d
   case rest=>
    clear d;have d:=hcut;clear hcut;go_wp2_with fail;refine(q.out 8 oM _ d.out.hB).mono ?_;rintro f u ⟨rfl,rfl⟩;obtain⟨g,i⟩:=j.out 8;have f1:_=some (jI (0)):=d.out.hb.cell 4;have g7:=d.out.hb.frozen 4;have l:=d.out.hb.lt;have n:0<=b 8%300:=oM;have m:b 8%300<9223372036854775808:=oM;have u0:b 8%300<18446744073709551616:=oM;have F:0<=1+b 8%300:=oM;have E:1+b 8%300<9223372036854775808:=oM;have u1:1+b 8%300<18446744073709551616:=oM;go_wp2_with fail;generalize e:World.setCell _ ⟨b3,4,none⟩ _=c6;replace d:=zH (show Lc w c6 b2 b3 ⟨o,p,4+b 6%40,s,1+b 8%300,1+b 0%40,2*(1+b 0%40)+b 1%50+b 2%100,2*(1+b 0%40)+b 1%50,2*(1+b 0%40)+b 1%50+b 2%100+b 3%400,0,0,0,0,0,0,0,0⟩from by rw[<-e];exact(d.out.set 4 (jI (1+b 8%300)) ⟨o,p,4+b 6%40,s,1+b 8%300,1+b 0%40,2*(1+b 0%40)+b 1%50+b 2%100,2*(1+b 0%40)+b 1%50,2*(1+b 0%40)+b 1%50+b 2%100+b 3%400,0,0,0,0,0,0,0,0⟩ rfl));clear e l f1 g7 n m u0 F E u1 g i;refine(q.out 9 oM _ d.out.hB).mono ?_;rintro f u ⟨rfl,rfl⟩;obtain⟨g,i⟩:=j.out 9;have f3:_=some (jI (0)):=d.out.hb.cell 9;have g9:=d.out.hb.frozen 9;have l:=d.out.hb.lt;have n:0<=b 9%2:=oM;have m:b 9%2<9223372036854775808:=oM;have u0:b 9%2<18446744073709551616:=oM;have F:0<=1+b 9%2:=oM;have E:1+b 9%2<9223372036854775808:=oM;have u1:1+b 9%2<18446744073709551616:=oM;go_wp2_with fail;generalize e:World.setCell _ ⟨b3,9,none⟩ _=c7;replace d:=zH (show Lc w c7 b2 b3 ⟨o,p,4+b 6%40,s,1+b 8%300,1+b 0%40,2*(1+b 0%40)+b 1%50+b 2%100,2*(1+b 0%40)+b 1%50,2*(1+b 0%40)+b 1%50+b 2%100+b 3%400,1+b 9%2,0,0,0,0,0,0,0⟩from by rw[<-e];exact(d.out.set 9 (jI (1+b 9%2)) ⟨o,p,4+b 6%40,s,1+b 8%300,1+b 0%40,2*(1+b 0%40)+b 1%50+b 2%100,2*(1+b 0%40)+b 1%50,2*(1+b 0%40)+b 1%50+b 2%100+b 3%400,1+b 9%2,0,0,0,0,0,0,0⟩ rfl));clear e l f3 g9 n m u0 F E u1 g i;refine(q.out 10 oM _ d.out.hB).mono ?_;rintro f u ⟨rfl,rfl⟩;obtain⟨g,i⟩:=j.out 10;have e5:_=some (uI (0)):=d.out.hb.cell 10;have g1:=d.out.hb.frozen 10;have l:=d.out.hb.lt;have n:0<=1+b 10%200000:=oM;have m:1+b 10%200000<9223372036854775808:=oM;have u0:1+b 10%200000<18446744073709551616:=oM;go_wp2_with fail;generalize e:World.setCell _ ⟨b3,10,none⟩ _=c8;replace d:=zH (show Lc w c8 b2 b3 ⟨o,p,4+b 6%40,s,1+b 8%300,1+b 0%40,2*(1+b 0%40)+b 1%50+b 2%100,2*(1+b 0%40)+b 1%50,2*(1+b 0%40)+b 1%50+b 2%100+b 3%400,1+b 9%2,1+b 10%200000,0,0,0,0,0,0⟩from by rw[<-e];exact(d.out.set 10 (uI (1+b 10%200000)) ⟨o,p,4+b 6%40,s,1+b 8%300,1+b 0%40,2*(1+b 0%40)+b 1%50+b 2%100,2*(1+b 0%40)+b 1%50,2*(1+b 0%40)+b 1%50+b 2%100+b 3%400,1+b 9%2,1+b 10%200000,0,0,0,0,0,0⟩ rfl));clear e l e5 g1 n m u0 g i;refine(q.out 11 oM _ d.out.hB).mono ?_;rintro f u ⟨rfl,rfl⟩;obtain⟨g,i⟩:=j.out 11;have O:_=some (uI (0)):=d.out.hb.cell 11;have a5:=d.out.hb.frozen 11;have l:=d.out.hb.lt;have n:0<=1+b 11%2000:=oM;have m:1+b 11%2000<9223372036854775808:=oM;have u0:1+b 11%2000<18446744073709551616:=oM;go_wp2_with fail;generalize e:World.setCell _ ⟨b3,11,none⟩ _=c9;replace d:=zH (show Lc w c9 b2 b3 ⟨o,p,4+b 6%40,s,1+b 8%300,1+b 0%40,2*(1+b 0%40)+b 1%50+b 2%100,2*(1+b 0%40)+b 1%50,2*(1+b 0%40)+b 1%50+b 2%100+b 3%400,1+b 9%2,1+b 10%200000,1+b 11%2000,0,0,0,0,0⟩from by rw[<-e];exact(d.out.set 11 (uI (1+b 11%2000)) ⟨o,p,4+b 6%40,s,1+b 8%300,1+b 0%40,2*(1+b 0%40)+b 1%50+b 2%100,2*(1+b 0%40)+b 1%50,2*(1+b 0%40)+b 1%50+b 2%100+b 3%400,1+b 9%2,1+b 10%200000,1+b 11%2000,0,0,0,0,0⟩ rfl));clear e l O a5 n m u0 g i;obtain⟨g,i⟩:=j.out 12;obtain⟨v,x⟩:=j.out 0;obtain⟨y,z⟩:=j.out 1;obtain⟨A,B⟩:=j.out 2;have r:=zH (q.out 12 oM);obtain⟨f4,f5⟩:=j.out 11;have e6:_=some (uI (0)):=d.out.hb.cell 12;have g2:=d.out.hb.frozen 12;have O:_=some (uI (1+b 11%2000)):=d.out.hb.cell 11;have a5:=d.out.hb.frozen 11;have l:=d.out.hb.lt;have n:0<=1+b 11%2000+b 12%400000:=oM;have m:1+b 11%2000+b 12%400000<9223372036854775808:=oM;have u0:1+b 11%2000+b 12%400000<18446744073709551616:=oM;clear v x y z A B f4 f5;refine bP 7 kR kR ?_;refine mD ?_;repeat (first|go_big_quiet_step (((go_at_call 33;exact aJ ((r.out _ (aA d.out.hB _)).mono λf t h=>⟨h.1,h.2.symm⟩))))|quiet_step (((go_at_call 33;exact aJ ((r.out _ (aA d.out.hB _)).mono λf t h=>⟨h.1,h.2.symm⟩)))))
    refine aK ?_;rintro _ ⟨D,rfl⟩;refine dA rfl rfl ?_;go_simp;refine aK ?_;generalize e:World.setCell _ ⟨b3,12,none⟩ _=d0;replace d:=zH (show Lc w d0 b2 b3 ⟨o,p,4+b 6%40,s,1+b 8%300,1+b 0%40,2*(1+b 0%40)+b 1%50+b 2%100,2*(1+b 0%40)+b 1%50,2*(1+b 0%40)+b 1%50+b 2%100+b 3%400,1+b 9%2,1+b 10%200000,1+b 11%2000,1+b 11%2000+b 12%400000,0,0,0,0⟩from by rw[<-e];exact((d.out.drewN D).set 12 (uI (1+b 11%2000+b 12%400000)) ⟨o,p,4+b 6%40,s,1+b 8%300,1+b 0%40,2*(1+b 0%40)+b 1%50+b 2%100,2*(1+b 0%40)+b 1%50,2*(1+b 0%40)+b 1%50+b 2%100+b 3%400,1+b 9%2,1+b 10%200000,1+b 11%2000,1+b 11%2000+b 12%400000,0,0,0,0⟩ rfl));clear e l e6 g2 O a5 n m u0 g i r;go_wp2_with fail;obtain⟨g,i⟩:=j.out 13;obtain⟨v,x⟩:=j.out 0;obtain⟨y,z⟩:=j.out 1;obtain⟨A,B⟩:=j.out 2;have r:=zH (q.out 13 oM);have e7:_=some (uI (0)):=d.out.hb.cell 13;have g3:=d.out.hb.frozen 13;have J:_=some (uI (1+b 0%40)):=d.out.hb.cell 5;have L:=d.out.hb.frozen 5;have l:=d.out.hb.lt;have n:0<=1+b 0%40+b 13%400:=oM;have m:1+b 0%40+b 13%400<9223372036854775808:=oM;have u0:1+b 0%40+b 13%400<18446744073709551616:=oM;clear v x y z A B;refine bP 7 kR kR ?_;refine mD ?_;(repeat (first|go_big_quiet_step (((go_at_call 33;exact aJ ((r.out _ (aA d.out.hB _)).mono λf t h=>⟨h.1,h.2.symm⟩))))|quiet_step (((go_at_call 33;exact aJ ((r.out _ (aA d.out.hB _)).mono λf t h=>⟨h.1,h.2.symm⟩))))));refine aK ?_;rintro _ ⟨D,rfl⟩;refine dA rfl rfl ?_;go_simp;refine aK ?_;generalize e:World.setCell _ ⟨b3,13,none⟩ _=d1;replace d:=zH (show Lc w d1 b2 b3 ⟨o,p,4+b 6%40,s,1+b 8%300,1+b 0%40,2*(1+b 0%40)+b 1%50+b 2%100,2*(1+b 0%40)+b 1%50,2*(1+b 0%40)+b 1%50+b 2%100+b 3%400,1+b 9%2,1+b 10%200000,1+b 11%2000,1+b 11%2000+b 12%400000,1+b 0%40+b 13%400,0,0,0⟩from by rw[<-e];exact((d.out.drewN D).set 13 (uI (1+b 0%40+b 13%400)) ⟨o,p,4+b 6%40,s,1+b 8%300,1+b 0%40,2*(1+b 0%40)+b 1%50+b 2%100,2*(1+b 0%40)+b 1%50,2*(1+b 0%40)+b 1%50+b 2%100+b 3%400,1+b 9%2,1+b 10%200000,1+b 11%2000,1+b 11%2000+b 12%400000,1+b 0%40+b 13%400,0,0,0⟩ rfl));clear e l e7 g3 J L n m u0 g i r;go_wp2_with fail;refine(q.out 14 oM _ d.out.hB).mono ?_;rintro f u ⟨rfl,rfl⟩;obtain⟨g,i⟩:=j.out 14;have e8:_=some (uI (0)):=d.out.hb.cell 14;have g4:=d.out.hb.frozen 14;have l:=d.out.hb.lt;have n:0<=1+b 14%100000:=oM;have m:1+b 14%100000<9223372036854775808:=oM;have u0:1+b 14%100000<18446744073709551616:=oM;go_wp2_with fail;generalize e:World.setCell _ ⟨b3,14,none⟩ _=d2;replace d:=zH (show Lc w d2 b2 b3 ⟨o,p,4+b 6%40,s,1+b 8%300,1+b 0%40,2*(1+b 0%40)+b 1%50+b 2%100,2*(1+b 0%40)+b 1%50,2*(1+b 0%40)+b 1%50+b 2%100+b 3%400,1+b 9%2,1+b 10%200000,1+b 11%2000,1+b 11%2000+b 12%400000,1+b 0%40+b 13%400,1+b 14%100000,0,0⟩from by rw[<-e];exact(d.out.set 14 (uI (1+b 14%100000)) ⟨o,p,4+b 6%40,s,1+b 8%300,1+b 0%40,2*(1+b 0%40)+b 1%50+b 2%100,2*(1+b 0%40)+b 1%50,2*(1+b 0%40)+b 1%50+b 2%100+b 3%400,1+b 9%2,1+b 10%200000,1+b 11%2000,1+b 11%2000+b 12%400000,1+b 0%40+b 13%400,1+b 14%100000,0,0⟩ rfl));clear e l e8 g4 n m u0 g i;refine(q.out 15 oM _ d.out.hB).mono ?_;rintro f u ⟨rfl,rfl⟩;obtain⟨g,i⟩:=j.out 15;have e9:_=some (jI (0)):=d.out.hb.cell 15;have g5:=d.out.hb.frozen 15;have l:=d.out.hb.lt;have n:0<=b 15%5:=oM;have m:b 15%5<9223372036854775808:=oM;have u0:b 15%5<18446744073709551616:=oM;go_wp2_with fail;generalize e:World.setCell _ ⟨b3,15,none⟩ _=d3;replace d:=zH (show Lc w d3 b2 b3 ⟨o,p,4+b 6%40,s,1+b 8%300,1+b 0%40,2*(1+b 0%40)+b 1%50+b 2%100,2*(1+b 0%40)+b 1%50,2*(1+b 0%40)+b 1%50+b 2%100+b 3%400,1+b 9%2,1+b 10%200000,1+b 11%2000,1+b 11%2000+b 12%400000,1+b 0%40+b 13%400,1+b 14%100000,b 15%5,0⟩from by rw[<-e];exact(d.out.set 15 (jI (b 15%5)) ⟨o,p,4+b 6%40,s,1+b 8%300,1+b 0%40,2*(1+b 0%40)+b 1%50+b 2%100,2*(1+b 0%40)+b 1%50,2*(1+b 0%40)+b 1%50+b 2%100+b 3%400,1+b 9%2,1+b 10%200000,1+b 11%2000,1+b 11%2000+b 12%400000,1+b 0%40+b 13%400,1+b 14%100000,b 15%5,0⟩ rfl));clear e l e9 g5 n m u0 g i;refine(q.out 16 oM _ d.out.hB).mono ?_;rintro f u ⟨rfl,rfl⟩;obtain⟨g,i⟩:=j.out 16;have n:0<=1+b 16%100000:=oM;have m:1+b 16%100000<9223372036854775808:=oM;have u0:1+b 16%100000<18446744073709551616:=oM
    obtain⟨C,Y⟩:=eX ((⟨o,p,4+b 6%40,s,1+b 8%300,1+b 0%40,2*(1+b 0%40)+b 1%50+b 2%100,2*(1+b 0%40)+b 1%50,2*(1+b 0%40)+b 1%50+b 2%100+b 3%400,1+b 9%2,1+b 10%200000,1+b 11%2000,1+b 11%2000+b 12%400000,1+b 0%40+b 13%400,1+b 14%100000,b 15%5,1+b 16%100000⟩:Cf));have f6:=zH (show(cfL ⟨o,p,4+b 6%40,s,1+b 8%300,1+b 0%40,2*(1+b 0%40)+b 1%50+b 2%100,2*(1+b 0%40)+b 1%50,2*(1+b 0%40)+b 1%50+b 2%100+b 3%400,1+b 9%2,1+b 10%200000,1+b 11%2000,1+b 11%2000+b 12%400000,1+b 0%40+b 13%400,1+b 14%100000,b 15%5,0⟩).setIfInBounds 16 (uI (1+b 16%100000))=cfL C from by rw[Y];rfl);have c3:=zH (show c4=C from by rw[Y,c2.out]);clear Y;repeat ((fail_if_success (with_reducible apply eG));first|(refine qR 30 (.tmp 119) (.tmp 118) rfl rfl rfl b3 16 (uI (1+b 16%100000)) kR kR rfl kR d.out.hb (by show 16<17;omega) ?_;intro e3 b8;have I:=zH (show Lc w e3 b2 b3 C from by rw[b8];exact d.out.set 16 _ _ f6.out);clear b8)|(refine kP 32 (.tmp 3) rfl rfl (some 120) rfl b3 kR (cfL C) I.out.hb _ Tryz.underlying32 kR kR ?_)|(refine iG 32 (.tmp 2) (.tmp 120) rfl rfl rfl b2 0 (cfL C) kR kR (I.out.h2.there _ (av 17)) kR (by simp[cfL,Value.oneCell']) ?_;intro b4 a1;have b6:Blk b4 b2 32 (cfL C):=(by rw[a1];exact Blk.gF I.out.h2 (cfL C).toList rfl);have c0:=zH b6;have b7:bW w b4:=(by rw[a1];exact Below.bZ I.out.q2 _ _ _ I.out.hB);have c1:=zH b7;clear a1 b6 b7)|go_values|go_skip|go_guarded|go_step|go_upon|go_back|go_simp)
    (try simp only[Exit.inBlock,Exit.then])
    refine iZ 2 32 b2 (cfL C) kR kR c0.out _ Tryz.underlying32 kR kR rfl ?_;exact⟨by rw[c3.out],c1.out⟩
end Go.Proofs.YtiflndepmgnojaaGreat
