import Derived.Test.YtiflndepmgnojaaGreatLawF
namespace Go.Proofs.YtiflndepmgnojaaGreat
open Go.RowKit
set_option linter.unusedSimpArgs false
set_option linter.unusedVariables false
set_option maxRecDepth 100000
def sx (g:Gu) (q o:Int) (e:En):En:={e with gu:=g,told:=q,cO:=o}
def shG (g:Gu):Gu:=⟨⟨0,0,0,[],0⟩,⟨0,0,0,0,0⟩,g.over⟩
def sd (e:En):En:=sx (shG e.gu) 0 0 e
def shR (g:Gu) (q o:Int) (a:Rse):Rse:={a with en:=sx g q o a.en}
def shP (g:Gu) (q o:Int) (a:Rpo):Rpo:={a with en:=sx g q o a.en}
def qV (e:En) (top:Int):En:={e with dm:=max e.dm top}
def e1T (e:En):En:={jT {e with dS:=jR e.dS e.now} (eY e.led)with fP:=true}
def onE (v:Ve) (a:Ak) (e:En):En:=if v.kind=3 then{e with aS:=4}else if v.kind=2 then qh e a else e
section
variable (g:Gu) (q o:Int)
theorem sx_at (e:En) (now:Int):nO (sx g q o e) now=sx g q o (nO e now):=rfl
theorem Ta (e:En):lq (sx g q o e)=lq e:=rfl
theorem OY (e:En) (b:List Int):fU (sx g q o e) b=⟨(fU e b).n,(fU e b).err,sx g q o (fU e b).en⟩:=by
 show(if e.aS≠1 then(⟨0,9,sx g q o e⟩:Ren)else⟨kg e.dH b.length,if kg e.dH b.length<b.length then 7 else 0,(sx g q o) {e with dH:=oI e.dH b}⟩)=_;unfold fU;by_cases a:e.aS≠1
 ·rw[aB a,aB a]
 ·rw[Ww a,Ww a]
theorem Hz:∀(b:List Int) (a:En),b.foldl jT (sx g q o a)=sx g q o (b.foldl jT a)
 |[],_=>rfl
 |x::t,a=>Hz t (jT a x)
theorem Pj (e:En):(iB (sx g q o e)).lost=(iB e).lost:=rfl
theorem Ph (e:En):(iB (sx g q o e)).some_=(iB e).some_:=rfl
theorem Xp (e:En):(iB (sx g q o e)).en=sx g q o (iB e).en:=Hz g q o (qi e).lost {e with gU:=(qi e).next}
theorem Pb (e:En):jm (sx g q o e)=sx g q o (jm e):=rfl
theorem Hy (e:En) (l:Int) (b:Bool):kD (sx g q o e) l b=sx g q o (kD e l b):=by cases b<;>rfl
theorem Bi (e:En):jE e=(if lq e=true then e else if tH e.now e.gU=true then jm (kD (iB e).en (iB e).lost (iB e).some_)else if tH e.now (jJ e)=true then jm (if 3<=(e1T e).dS.count then{e1T e with cc:=kz (e1T e).c (e1T e).cc}else e1T e)else e):=rfl
theorem Hr (e:En):jE (sx g q o e)=sx g q o (jE e):=by
 have f:jE (sx g q o e)=(if lq e=true then(sx g q o) e else if tH e.now e.gU=true then jm (kD (iB (sx g q o e)).en (iB e).lost (iB e).some_)else if tH e.now (jJ e)=true then jm (if 3<=(e1T e).dS.count then(sx g q o) {e1T e with cc:=kz (e1T e).c (e1T e).cc}else(sx g q o) (e1T e))else(sx g q o) e):=rfl;rw[f,Bi,Xp,Hy];by_cases a:lq e=true
 (·rw[aB a,aB a]);rw[Ww a,Ww a];by_cases b:tH e.now e.gU=true
 (·rw[aB b,aB b];rfl);rw[Ww b,Ww b];by_cases c:tH e.now (jJ e)=true
 ·rw[aB c,aB c]
  by_cases d:3<=(e1T e).dS.count
  ·rw[aB d,aB d];rfl
  ·rw[Ww d,Ww d];rfl
 ·rw[Ww c,Ww c]
theorem RE (e:En) (now:Int):kr (sx g q o e) now=sx g q o (kr e now):=Hr g q o (nO e now)
theorem MU (b:Rse) (s:Se):fH (shR g q o b) s=shR g q o (fH b s):=by
 unfold fH;by_cases a:s.aS≠1/\s.aS≠3
 ·rw[aB a,aB a]
 ·rw[Ww a,Ww a];rfl
theorem Bj:∀(b:List Se) (a:Rse),b.foldl fH (shR g q o a)=shR g q o (b.foldl fH a)
 |[],_=>rfl
 |s::t,a=>by
  rw[List.foldl_cons,List.foldl_cons,MU];exact Bj t _
theorem xH (e:En) (a:Ak):ed (sx g q o e) a=shR g q o (ed e a):=Bj g q o (a.cu.flatMap (partOf (gT e.led) e.led.kept)) ⟨[],false,e⟩
theorem Kj (e:En) (f:List Se) (top:Int):iF (sx g q o e) f top=sx g q o (iF e f top):=by
 unfold iF;cases f.getLast? with
 |none=>rfl
 |some s=>
  dsimp only;by_cases a:s.pn=top
  ·rw[aB a,aB a];rfl
  ·rw[Ww a,Ww a]
theorem Pf (e:En) (top:Int):qV (sx g q o e) top=sx g q o (qV e top):=rfl
theorem MV (e:En) (m:List Sp) (f:List Se):kv (sx g q o e) m f=sx g q o (kv e m f):=by
 unfold kv;cases gJ m f<;>rfl
theorem Pg (e:En) (f:List Se):kE (sx g q o e) f=sx g q o (kE e f):=by
 show(if 0<ko e.cc.round f then(sx g q o) {e with cc:=vQ e.c e.cc (ko e.cc.round f) e.now (iI e)}else(sx g q o) e)=_;unfold kE;by_cases a:0<ko e.cc.round f
 ·rw[aB a,aB a]
 ·rw[Ww a,Ww a]
theorem RI (e:En) (f:List Se) (l:Bool):lQ (sx g q o e) f l=sx g q o (lQ e f l):=by
 unfold lQ;by_cases a:0<f.length\/l=true
 ·rw[aB a,aB a];rfl
 ·rw[Ww a,Ww a]
theorem RG (e:En):nN (sx g q o e)=sx g q o (nN e):=by
 show(if e.aS=2/\rC e=true then(sx g q o) {e with aS:=3}else(sx g q o) e)=_;unfold nN;by_cases a:e.aS=2/\rC e=true
 ·rw[aB a,aB a]
 ·rw[Ww a,Ww a]
theorem yA (e:En) (a:Ak):qh e a=nN (jm (lQ (kE (kD (kv (iB (qV (iF (ed e a).en (ed e a).fresh (a.cu.getLastD ⟨0,0⟩).hi) (a.cu.getLastD ⟨0,0⟩).hi)).en a.aO (ed e a).fresh) (iB (qV (iF (ed e a).en (ed e a).fresh (a.cu.getLastD ⟨0,0⟩).hi) (a.cu.getLastD ⟨0,0⟩).hi)).lost (iB (qV (iF (ed e a).en (ed e a).fresh (a.cu.getLastD ⟨0,0⟩).hi) (a.cu.getLastD ⟨0,0⟩).hi)).some_) (ed e a).fresh) (ed e a).fresh (ed e a).late)):=rfl
theorem Hu (e:En) (a:Ak):(ed (sx g q o e) a).fresh=(ed e a).fresh:=by rw[xH];rfl
theorem Ht (e:En) (a:Ak):(ed (sx g q o e) a).late=(ed e a).late:=by rw[xH];rfl
theorem Hw (e:En) (a:Ak):(ed (sx g q o e) a).en=sx g q o (ed e a).en:=by rw[xH];rfl
theorem OZ (e:En) (a:Ak):qh (sx g q o e) a=sx g q o (qh e a):=by
 rw[yA,yA,Hu,Ht,Hw,Kj,Pf,Xp,Pj,Ph,MV,Hy,Pg,RI,Pb,RG]
theorem RF (e:En):eH (sx g q o e)=sx g q o (eH e):=by
 show(if rQ e=true then(sx g q o) {WG e with led:=(og e.led).led}else(sx g q o) (WG e))=_;unfold eH;by_cases a:rQ e=true
 ·rw[aB a,aB a]
 ·rw[Ww a,Ww a]
theorem RH (e:En) (p:Pi):jH (sx g q o e) p=shP g q o (jH e p):=by
 unfold jH;rw[RF];rfl
theorem Ti (v:Ve) (a:Ak) (e:En):onE v a (sx g q o e)=sx g q o (onE v a e):=by
 unfold onE;by_cases b:v.kind=3
 (·rw[aB b,aB b];rfl);rw[Ww b,Ww b];by_cases c:v.kind=2
 ·rw[aB c,aB c,OZ]
 ·rw[Ww c,Ww c]
def uS (e:En):Rpo:=
 match iY e.dH e.c.mss with
 |none=>⟨[],10,e⟩
 |some p=>
  if e.fP=false/\e.cc.win.cr<gq e.led+p.body.length then⟨[],7,e⟩else
  if e.c.dO<e.led.next then⟨[],8,{e with aS:=3}⟩else
  if eu e.led<1 then⟨[],7,e⟩else
  if vw e.fM e.c.gD e.now p.body.length then jH {e with fM:=WR e.fM e.c.gD e.now p.body.length} p else⟨[],7,e⟩
theorem vk (e:En):WQ e=(if lq e=true then⟨[],9,e⟩else if 0<e.cO then⟨rR e.told,0,{e with cO:=e.cO -1,told:=e.told+1}⟩else uS e):=rfl
theorem u6 (e:En):uS (sx g q o e)=shP g q o (uS e):=by
 have f:uS (sx g q o e)=(match iY e.dH e.c.mss with
  |none=>⟨[],10,sx g q o e⟩
  |some p=>
   if e.fP=false/\e.cc.win.cr<gq e.led+p.body.length then⟨[],7,sx g q o e⟩else
   if e.c.dO<e.led.next then⟨[],8,(sx g q o) {e with aS:=3}⟩else
   if eu e.led<1 then⟨[],7,sx g q o e⟩else
   if vw e.fM e.c.gD e.now p.body.length=true then jH (sx g q o {e with fM:=WR e.fM e.c.gD e.now p.body.length}) p else⟨[],7,sx g q o e⟩):=rfl
 rw[f];unfold uS;cases iY e.dH e.c.mss with
 |none=>rfl
 |some p=>
  dsimp only;by_cases a:e.fP=false/\e.cc.win.cr<gq e.led+p.body.length
  (·rw[aB a,aB a];rfl);rw[Ww a,Ww a];by_cases b:e.c.dO<e.led.next
  (·rw[aB b,aB b];rfl);rw[Ww b,Ww b];by_cases c:eu e.led<1
  (·rw[aB c,aB c];rfl);rw[Ww c,Ww c];by_cases d:vw e.fM e.c.gD e.now p.body.length=true
  ·rw[aB d,aB d,RH]
  ·rw[Ww d,Ww d];rfl
end
theorem yC (e:En):e=sx e.gu e.told e.cO e:=rfl
theorem sd_sx {g:Gu} {q o:Int} {e:En} (h:g.over=e.gu.over):sd (sx g q o e)=sd e:=by
 unfold sd sx shG;simp only[h]
theorem sd_eq {a b:En} (h:sd a=sd b):b=sx b.gu b.told b.cO a/\a.gu.over=b.gu.over:=by
 constructor
 ·have c:b=sx b.gu b.told b.cO (sd b):=rfl
  rw[<-h]at c;exact c
 ·have d:(sd a).gu.over=(sd b).gu.over:=by rw[h]
  exact d
theorem LM (e:En) (now:Int):(kr e now).gu=e.gu/\(kr e now).told=e.told/\(kr e now).cO=e.cO:=by
 have h:=RE e.gu e.told e.cO e now;rw[<-yC]at h;rw[h];exact⟨rfl,rfl,rfl⟩
theorem OO (e:En) (b:List Int):(fU e b).en.gu=e.gu/\(fU e b).en.told=e.told/\(fU e b).en.cO=e.cO:=by
 have h:=OY e.gu e.told e.cO e b;rw[<-yC]at h;rw[h];exact⟨rfl,rfl,rfl⟩
theorem PT (e:En):(uS e).en.gu=e.gu/\(uS e).en.told=e.told/\(uS e).en.cO=e.cO:=by
 have h:=u6 e.gu e.told e.cO e;rw[<-yC]at h;rw[h];exact⟨rfl,rfl,rfl⟩
theorem Tm (e:En) (now:Int):sd (kr e now)=kr (sd e) now:=by
 show sx (shG (kr e now).gu) 0 0 (kr e now)=kr (sx (shG e.gu) 0 0 e) now;rw[RE,(LM e now).1]
theorem Td (e:En) (b:List Int):sd (fU e b).en=(fU (sd e) b).en:=by
 show sx (shG (fU e b).en.gu) 0 0 (fU e b).en=(fU (sx (shG e.gu) 0 0 e) b).en;rw[OY,(OO e b).1]
theorem SS (e:En) (now:Int):sd (nO e now)=nO (sd e) now:=rfl
theorem at_at (e:En) (now:Int):nO (nO e now) now=nO e now:=by
 unfold nO;have h:max (max e.now now) now=max e.now now:=oM;simp only[h]
theorem take_drop {g:Gu} {l:Le} {b:List Int} {now:Int} (h:(dN g l b now).ver.kind=1):(dN g l b now).led=l/\(dN g l b now).gu.over=g.over:=by
 unfold dN at h|-;by_cases a:g.over=true
 (·rw[aB a]at h|-;exact⟨rfl,rfl⟩);rw[Ww a]at h|-;by_cases c:(jy b).err≠0
 (·rw[aB c]at h|-;exact⟨rfl,rfl⟩);rw[Ww c]at h|-;by_cases d:(jW l (jy b).val).why≠0
 (·rw[aB d]at h|-;exact⟨rfl,rfl⟩);rw[Ww d]at h|-;dsimp only at h|-;by_cases e:(kL (lX l (jW l (jy b).val).val) (jy b).val).why≠0
 ·rw[aB e]at h;exact Wy h (show¬((3:Int)=1) by decide)
 ·rw[Ww e]at h;exact Wy h (show¬((2:Int)=1) by decide)
theorem take_same {g g':Gu} {l:Le} {b:List Int} {now:Int} (h:(dN g l b now).ver.kind≠1) (f:g'.over=g.over):
  (dN g' l b now).ver=(dN g l b now).ver/\(dN g' l b now).ack=(dN g l b now).ack/\(dN g' l b now).led=(dN g l b now).led/\(dN g' l b now).gu.over=(dN g l b now).gu.over/\
  (dN g l b now).ver.dU=false/\(dN g' l b now).gu.n.eT=g'.n.eT/\(dN g' l b now).gu.n.dB=g'.n.dB:=by
 unfold dN at h|-;rw[f];by_cases c:g.over=true
 (·rw[aB c]at h;exact Wy rfl h);rw[Ww c]at h|-;rw[Ww c];by_cases d:(jy b).err≠0
 (·rw[aB d]at h;exact Wy rfl h);rw[Ww d]at h|-;rw[Ww d];by_cases e:(jW l (jy b).val).why≠0
 (·rw[aB e]at h;exact Wy rfl h);rw[Ww e]at h|-;rw[Ww e];dsimp only;by_cases a:(kL (lX l (jW l (jy b).val).val) (jy b).val).why≠0
 ·rw[aB a,aB a]
  exact⟨rfl,rfl,rfl,rfl,rfl,rfl,rfl⟩
 ·rw[Ww a,Ww a]
  exact⟨rfl,rfl,rfl,rfl,rfl,rfl,rfl⟩
theorem Gc (e:En) (b:List Int):xw e b=(if lq e=true then⟨⟨1,8,0,false⟩,e⟩else
 ⟨(dN e.gu e.led b e.now).ver,onE (dN e.gu e.led b e.now).ver (dN e.gu e.led b e.now).ack (sx (dN e.gu e.led b e.now).gu e.told (if(dN e.gu e.led b e.now).ver.dU=true then e.cO+1 else e.cO) {e with led:=(dN e.gu e.led b e.now).led})⟩):=rfl
theorem Tf {e:En} {b:List Int} (h:(xw e b).ver.kind=1) (k:0<=e.cO):sd (xw e b).en=sd e/\(xw e b).en.cO<=e.cO+1:=by
 rw[Gc]at h|-;by_cases d:lq e=true
 (·rw[aB d];exact⟨rfl,by simp only;omega⟩);rw[Ww d]at h|-;obtain⟨f,i⟩:=take_drop h;dsimp only at h|-;have j:∀(c:Ak) (a:En),onE (dN e.gu e.led b e.now).ver c a=a:=λc a=>by
  unfold onE;rw[h,Ww dC,Ww dC]
 rw[j,f];refine⟨sd_sx (e:=e) i,?_⟩;show(if(dN e.gu e.led b e.now).ver.dU=true then e.cO+1 else e.cO)<=e.cO+1;split<;>omega
theorem Qa (v:Ve) (a:Ak) (e:En):(onE v a e).gu=e.gu/\(onE v a e).told=e.told/\(onE v a e).cO=e.cO:=by
 have h:=Ti e.gu e.told e.cO v a e;rw[<-yC]at h;rw[h];exact⟨rfl,rfl,rfl⟩
theorem Te {a b:En} {x:List Int} (h:sd a=sd b) (d:(xw a x).ver.kind≠1):
  (xw b x).ver=(xw a x).ver/\sd (xw a x).en=sd (xw b x).en/\(xw a x).en.cO=a.cO/\(xw b x).en.cO=b.cO/\(xw b x).en.gu.n.eT=b.gu.n.eT/\(xw b x).en.gu.n.dB=b.gu.n.dB:=by
 obtain⟨e,i⟩:=sd_eq h;generalize y:b.gu=g at e i|-;generalize b.told=q at e;generalize z:b.cO=o at e|-;subst e;rw[Gc]at d|-;rw[Gc,Ta];by_cases f:lq a=true
 (·rw[aB f]at d;exact Wy rfl d);rw[Ww f]at d|-;rw[Ww f];obtain⟨n,p,r,s,t,u,v⟩:=take_same (g':=g) d i.symm;have j:dN (sx g q o a).gu (sx g q o a).led x (sx g q o a).now=dN g a.led x a.now:=rfl;rw[j,n,p,r,t];dsimp only;have w:sx (dN g a.led x a.now).gu (sx g q o a).told (if False then o+1 else o) {sx g q o a with led:=(dN a.gu a.led x a.now).led}=sx (dN g a.led x a.now).gu q o {a with led:=(dN a.gu a.led x a.now).led}:=rfl;have k:∀(c:Gu),sx c (sx g q o a).told (if(false:Bool)=true then(sx g q o a).cO+1 else(sx g q o a).cO) {sx g q o a with led:=(dN a.gu a.led x a.now).led}=sx c q o {a with led:=(dN a.gu a.led x a.now).led}:=λ_=>rfl;have l:∀(c:Gu),sx c a.told (if(false:Bool)=true then a.cO+1 else a.cO) {a with led:=(dN a.gu a.led x a.now).led}=sx c a.told a.cO {a with led:=(dN a.gu a.led x a.now).led}:=λ_=>rfl;rw[k,l,Ti,Ti];refine⟨rfl,?_,rfl,rfl,u,v⟩;show sx (shG _) 0 0 (onE _ _ _)=sx (shG _) 0 0 (onE _ _ _);(have m:shG (dN g a.led x a.now).gu=shG (dN a.gu a.led x a.now).gu:=by unfold shG;rw[s]);show sx (shG (dN a.gu a.led x a.now).gu) 0 0 _=sx (shG (dN g a.led x a.now).gu) 0 0 _;rw[m]
def WK:Nat->En->Int->Rpo
 |0,e,_=>⟨[],10,e⟩
 |k+1,e,now=>if(fD e now).err≠0\/(fD e now).b.length=0\/(fD e now).b.getD 0 0≠3 then fD e now else WK k (fD e now).en now
theorem Tu (e:En) (p:Pi):(jH e p).b.length=0\/(jH e p).b.getD 0 0=1:=by
 unfold jH wN;dsimp only;split
 ·exact .inr rfl
 ·exact .inl rfl
theorem Tj (e:En):(uS e).err≠0\/(uS e).b.length=0\/(uS e).b.getD 0 0≠3:=by
 unfold uS;split
 ·exact .inl (show¬((10:Int)=0) by decide)
 next p _=>
 split
 (·exact .inl (show¬((7:Int)=0) by decide));split
 (·exact .inl (show¬((8:Int)=0) by decide));split
 (·exact .inl (show¬((7:Int)=0) by decide));split
 ·rcases Tu {e with fM:=WR e.fM e.c.gD e.now p.body.length} p with h|h
  ·exact .inr (.inl h)
  ·exact .inr (.inr (by rw[h];decide))
 ·exact .inl (show¬((7:Int)=0) by decide)
theorem Tv {n:Int} (b:0<=n) (h:n<=1000000000):(rR n).length≠0/\(rR n).getD 0 0=3:=by
 have a:eU n≠0:=by
  unfold eU;split
  ·decide
  ·split
   ·decide
   ·split
    ·decide
    ·rw[aB oM];decide
 unfold rR;rw[Ww a];exact⟨sM,rfl⟩
theorem SV:∀(c:Nat) (a:En) (b:Int),0<=a.cO->a.cO<c->0<=a.told->a.told+a.cO<=1000000000->
  (WK c a b).b=(fD (sd a) b).b/\(WK c a b).err=(fD (sd a) b).err/\sd (WK c a b).en=(fD (sd a) b).en/\(WK c a b).en.cO<=a.cO/\(WK c a b).en.gu=a.gu
 |0,a,b,h0,h1,_,_=>by simp at h1;omega
 |c+1,a,b,h0,h1,h2,h3=>by
  unfold WK fD;have n:nO (sd a) b=sx (shG a.gu) 0 0 (nO a b):=rfl;rw[n,vk,vk (sx _ _ _ _),Ta,u6];by_cases e:lq (nO a b)=true
  ·rw[aB e,aB e,aB (.inl sM)]
   exact⟨rfl,rfl,rfl,bY _,rfl⟩
  rw[Ww e,Ww e,Ww (show¬0<(sx (shG a.gu) 0 0 (nO a b)).cO by show¬(0:Int)<0;omega)];by_cases f:0<a.cO
  ·have j:=Tv h2 oM
   rw[aB (show 0<(nO a b).cO from f)];dsimp only;rw[Ww (by
    rintro(h|h|h)
    ·exact h rfl
    ·exact j.1 h
    ·exact h j.2)]
   have d:=SV c {nO a b with cO:=(nO a b).cO -1,told:=(nO a b).told+1} b (by show 0<=a.cO -1;omega) (by show a.cO -1<c;omega) (by show 0<=a.told+1;omega) (by show a.told+1+(a.cO -1)<=_;omega);have m:fD (sd {nO a b with cO:=(nO a b).cO -1,told:=(nO a b).told+1}) b=shP (shG a.gu) 0 0 (uS (nO a b)):=by
    have l:sd {nO a b with cO:=(nO a b).cO -1,told:=(nO a b).told+1}=sx (shG a.gu) 0 0 (nO a b):=rfl;rw[l];unfold fD;rw[sx_at,at_at,vk,Ta,Ww e,Ww (show¬0<(sx (shG a.gu) 0 0 (nO a b)).cO by show¬(0:Int)<0;decide),u6]
   rw[m]at d;exact⟨d.1,d.2.1,d.2.2.1,oK (show _<=a.cO -1 from d.2.2.2.1) oM,d.2.2.2.2⟩
  ·rw[Ww (show¬0<(nO a b).cO from f),aB (Tj _)]
   obtain⟨i,p,k⟩:=PT (nO a b);refine⟨rfl,rfl,?_,?_,i⟩
   ·show sx (shG (uS (nO a b)).en.gu) 0 0 (uS (nO a b)).en=sx (shG a.gu) 0 0 (uS (nO a b)).en
    rw[i];rfl
   ·rw[k];exact bY _
theorem Xi:∀(d a:Nat) (c:En) (b:Int),dG a c->Word b->dG (a+d) (WK d c b).en
 |0,a,c,b,h,hn=>h
 |d+1,a,c,b,h,hn=>by
  have e:=wO h hn;unfold WK;split
  ·exact e.mono oM
  ·have f:=Xi d (a+1) _ b e hn
   exact f.mono oM
def Tz (s:St):St:={s with dh:=⟨0,0,0,0,0⟩}
theorem Tn (e:En):Tz (cK e)=cK (sd e):=rfl
structure SQ (k:Nat) (m:Int) (a b:En):Prop where
 oka:dG k a
 okb:dG k b
 same:sd a=sd b
 Rk:b.cO=0
 bd:b.gu.n.eT=0
 bm:b.gu.n.dB=0
 Ru:a.cO<=m
structure Xw (now:Int) (k:Nat) (m:Int) (a b:En):Prop where
 oka:dG k a
 okb:dG k b
 same:sd (nO a now)=sd (nO b now)
 Rk:b.cO=0
 bd:b.gu.n.eT=0
 bm:b.gu.n.dB=0
 Ru:a.cO<=m
theorem SQ.late {k:Nat} {m:Int} {a b:En} (h:SQ k m a b) (now:Int):Xw now k m a b:=⟨h.oka,h.okb,by rw[SS,SS,h.same],h.Rk,h.bd,h.bm,h.Ru⟩
theorem SQ.mono {k k':Nat} {m d:Int} {a b:En} (h:SQ k m a b) (c:k<=k') (e:m<=d):SQ k' d a b:=⟨h.oka.mono c,h.okb.mono c,h.same,h.Rk,h.bd,h.bm,by have:=h.Ru;omega⟩
theorem rp_new {c:Cf} {words:List Int} (a:lV c) (d:rG words) (b:words.length<=1000000):SQ 0 0 (nK c words) (nK c words):=⟨JI a d b,JI a d b,rfl,rfl,rfl,rfl,bY 0⟩
theorem Tw {k:Nat} {m:Int} {a b:En} (h:SQ k m a b) {t:List Int} (d:dP t):SQ k m (fU a t).en (fU b t).en:=by
 have e:=OO a t;have c:=OO b t;exact⟨CE h.oka d,CE h.okb d,by rw[Td,Td,h.same],by rw[c.2.2];exact h.Rk,by rw[c.1];exact h.bd,by rw[c.1];exact h.bm,by rw[e.2.2];exact h.Ru⟩
theorem TA {k:Nat} {m:Int} {a b:En} (h:SQ k m a b) {now:Int} (d:Word now):SQ k m (kr a now) (kr b now):=by
 have e:=LM a now;have c:=LM b now;exact⟨EV h.oka d,EV h.okb d,by rw[Tm,Tm,h.same],by rw[c.2.2];exact h.Rk,by rw[c.1];exact h.bd,by rw[c.1];exact h.bm,by rw[e.2.2];exact h.Ru⟩
theorem TE {k:Nat} {m:Int} {a b:En} (h:SQ k m a b) {now:Int} (i:Word now) {x:List Int} (j:dP x) (f:(lU a x now).ver.kind=1):Xw now (k+1) (m+1) (lU a x now).en b:=by
 have c:=Tf (e:=nO a now) f h.oka.rO;have l:(lU a x now).en.cO<=a.cO+1:=c.2;refine⟨Mo h.oka j i,h.okb.mono (Nat.le_succ k),?_,h.Rk,h.bd,h.bm,by have:=h.Ru;omega⟩;have d:sd (lU a x now).en=sd (nO a now):=c.1;rw[SS,d,<-SS,at_at,SS,SS,h.same]
theorem TB {k:Nat} {m:Int} {a b:En} (h:SQ k m a b) {now:Int} (c:Word now) {x:List Int} (d:dP x) (f:(lU a x now).ver.kind≠1):(lU b x now).ver=(lU a x now).ver/\SQ (k+1) m (lU a x now).en (lU b x now).en:=by
 (have e:sd (nO a now)=sd (nO b now):=by rw[SS,SS,h.same]);obtain⟨i,j,l,n,p,r⟩:=Te e f;refine⟨i,Mo h.oka d c,Mo h.okb d c,j,n.trans h.Rk,p.trans h.bd,r.trans h.bm,?_⟩;have s:(lU a x now).en.cO=a.cO:=l;have:=h.Ru;omega
theorem TD {k:Nat} {m:Int} {a b:En} {now:Int} (h:Xw now k m a b) (d:Word now) (B:m<200) (A:k<=500000000):
  (WK 200 a now).b=(WK 200 b now).b/\(WK 200 a now).err=(WK 200 b now).err/\SQ (k+200) m (WK 200 a now).en (WK 200 b now).en:=by
 have i:=h.oka.rO;have v:=h.oka.ni;have j:=h.oka.Ho;have w:=h.oka.DK;have l:=h.okb.Ho;have z:=h.okb.DK;have y:=h.Rk;have x:=h.Ru;obtain⟨n,p,r,C,D⟩:=SV 200 a now i oM j oM;obtain⟨s,t,u,E,f⟩:=SV 200 b now oM oM l oM;have c:fD (sd a) now=fD (sd b) now:=by
  unfold fD;rw[<-SS,<-SS,h.same]
 have e:=Xi 200 k b now h.okb d;exact⟨by rw[n,s,c],by rw[p,t,c],Xi 200 k a now h.oka d,e,by rw[r,u,c],by have:=e.rO;omega,by rw[f];exact h.bd,by rw[f];exact h.bm,oM⟩
theorem TC {k:Nat} {m:Int} {a b:En} (h:SQ k m a b):Tz (cK a)=Tz (cK b)/\a.led.kept=b.led.kept:=by
 refine⟨by rw[Tn,Tn,h.same],?_⟩;(have c:(sd a).led.kept=(sd b).led.kept:=by rw[h.same]);exact c
def CN (e e':En):Prop:=e'.c=e.c/\e'.now=e.now
theorem CN.refl (e:En):CN e e:=⟨rfl,rfl⟩
theorem CN.trans {a b c:En} (h:CN a b) (d:CN b c):CN a c:=⟨d.1.trans h.1,d.2.trans h.2⟩
theorem JV:∀(b:List Int) (a:En),CN a (b.foldl jT a)
 |[],a=>CN.refl a
 |x::t,a=>JV t (jT a x)
theorem Mw (e:En):CN e (iB e).en:=JV (qi e).lost {e with gU:=(qi e).next}
theorem JU (e:En) (l:Int) (b:Bool):CN e (kD e l b):=by cases b<;>exact CN.refl e
theorem XC (e:En):CN e (jE e):=by
 rw[Bi];split
 (·exact CN.refl e);split
 (·exact(Mw e).trans (JU _ _ _));split
 ·split<;>exact⟨rfl,rfl⟩
 ·exact CN.refl e
theorem Ov (a:Rse) (s:Se):CN a.en (fH a s).en:=by
 unfold fH;split<;>exact⟨rfl,rfl⟩
theorem CU:∀(b:List Se) (a:Rse),CN a.en (b.foldl fH a).en
 |[],a=>CN.refl _
 |s::t,a=>(Ov a s).trans (CU t _)
theorem Ls (e:En) (a:Ak):CN e (ed e a).en:=CU _ ⟨[],false,e⟩
theorem Lt (e:En) (f:List Se) (top:Int):CN e (iF e f top):=by
 unfold iF;split
 ·exact CN.refl e
 ·split<;>exact⟨rfl,rfl⟩
theorem Ow (e:En) (m:List Sp) (f:List Se):CN e (kv e m f):=by
 unfold kv;split<;>exact⟨rfl,rfl⟩
theorem XE (e:En) (f:List Se):CN e (kE e f):=by
 unfold kE;split<;>exact⟨rfl,rfl⟩
theorem Sy (e:En) (f:List Se) (l:Bool):CN e (lQ e f l):=by
 unfold lQ;split<;>exact⟨rfl,rfl⟩
theorem Sv (e:En):CN e (nN e):=by
 unfold nN;split<;>exact⟨rfl,rfl⟩
theorem XD (e:En) (a:Ak):CN e (qh e a):=by
 rw[yA];refine CN.trans ?_ (Sv _);refine CN.trans (b:=lQ _ _ _) ?_ ⟨rfl,rfl⟩;refine CN.trans ?_ (Sy _ _ _);refine CN.trans ?_ (XE _ _);refine CN.trans ?_ (JU _ _ _);refine CN.trans ?_ (Ow _ _ _);refine CN.trans ?_ (Mw _);refine CN.trans (b:=iF _ _ _) ?_ ⟨rfl,rfl⟩;refine CN.trans ?_ (Lt _ _ _);exact Ls e a
theorem cn_on1 (e:En) (b:List Int):CN e (xw e b).en:=by
 rw[Gc];split
 ·exact CN.refl e
 ·dsimp only
  unfold onE;split
  ·exact⟨rfl,rfl⟩
  ·split
   ·refine CN.trans ?_ (XD _ _)
    exact⟨rfl,rfl⟩
   ·exact⟨rfl,rfl⟩
theorem Su (e:En):CN e (eH e):=by
 unfold eH;split<;>exact⟨rfl,rfl⟩
theorem Sw (e:En) (p:Pi):CN e (jH e p).en:=(Su e).trans ⟨rfl,rfl⟩
theorem JS (e:En):CN e (WQ e).en:=by
 rw[vk];split
 (·exact CN.refl e);split
 (·exact⟨rfl,rfl⟩);unfold uS;split
 (·exact CN.refl e);split
 (·exact CN.refl e);split
 (·exact⟨rfl,rfl⟩);split
 (·exact CN.refl e);split
 ·refine CN.trans ?_ (Sw _ _)
  exact⟨rfl,rfl⟩
 ·exact CN.refl e
theorem IP:∀(c:Nat) (a:En) (b:Int),(WK (c+1) a b).en.c=a.c/\(WK (c+1) a b).en.now=max a.now b
 |0,a,b=>by
  have h:=JS (nO a b);unfold WK;split
  ·exact⟨h.1,h.2⟩
  ·exact⟨h.1,h.2⟩
 |c+1,a,b=>by
  have h:(fD a b).en.c=a.c/\(fD a b).en.now=max a.now b:=JS (nO a b);unfold WK;split
  ·exact h
  ·have d:=IP c (fD a b).en b
   rw[h.1,h.2]at d;exact⟨d.1,by rw[d.2];omega⟩
theorem VQ (e:En) (b:List Int) (now:Int):(lU e b now).en.c=e.c/\(lU e b now).en.now=max e.now now:=cn_on1 (nO e now) b
theorem OV (e:En) (now:Int):(kr e now).c=e.c/\(kr e now).now=max e.now now:=XC (nO e now)
theorem Av {m:Int} (d:0<=m):∀(c:List Se) (a:Int),(∀b∈c,b.len<=m)->iT a c<=a+c.length*m
 |[],a,_=>by simp[iT]
 |b::t,a,h=>by
  have k:=h b sM;have l:=Av d t (if b.aS=1 then WI a b.len else a) (λf e=>h f (by simp[e]));have i:(if b.aS=1 then WI a b.len else a)<=a+m:=by
   split
   ·unfold WI;split<;>omega
   ·omega
  unfold iT;rw[aY];(have j:((t.length+1:Nat):Int)*m=t.length*m+m:=by rw[Int.natCast_add,Int.add_mul];simp);omega
structure LateOk (c:Cf) (s:St):Prop where
 now:s.now=18446744073709551615
 cw0:c.bn<=s.cr
 cw1:s.cr<=c.most
 ra1:s.gP<=4294967296
 ra0:c.WL<=s.gP
 jS:s.jS<=c.ring*c.mss
 next:s.next<=c.dO+1
 fG:s.fG<=c.room
theorem Sb {k:Nat} {e:En} (h:dG k e) (f:18446744073709551615<=e.now):LateOk e.c (cK e)where
 now:=by have:=h.now.2;show e.now=_;omega
 cw0:=h.cw.1
 cw1:=h.cw.2
 ra1:=h.ra1
 ra0:=h.ra0
 jS:=by
  have d:=h.cf.Gj;have b:=Av (m:=e.c.mss) oM e.led.kept 0 h.lm;(have a:(e.led.kept.length:Int)<=e.c.ring:=by have:=h.le.len;have:=h.lr;omega);have c:(e.led.kept.length:Int)*e.c.mss<=e.c.ring*e.c.mss:=bC a oM;show iT 0 e.led.kept<=_;omega
 next:=by have:=h.le.nI;have:=h.ll;show e.led.next<=_;omega
 fG:=by
  have b:=h.qu.len;have a:=h.qr;show fT e.dH -e.dH.base<=_;unfold fT;omega
end Go.Proofs.YtiflndepmgnojaaGreat
