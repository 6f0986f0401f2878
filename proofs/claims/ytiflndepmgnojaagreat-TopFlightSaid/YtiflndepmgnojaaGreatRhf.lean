import Derived.Test.YtiflndepmgnojaaGreatRha
import Derived.Test.YtiflndepmgnojaaGreatAce
namespace Go.Proofs.YtiflndepmgnojaaGreat
open Tryz Go.RowKit
set_option linter.unusedSimpArgs false
set_option linter.unusedVariables false
set_option maxHeartbeats 8000000
set_option maxRecDepth 100000
variable {k m c n:Nat} {x:Int} {w w' W:World} {C:Array Value} {l:List Int}
structure jN (k g m:Nat) (p:Pe):Prop where
 delay:Word p.delay
 lh:0<=p.floor
 QI:p.floor<=4611686018427387903
 pE:0<=p.next
 nI:p.next<=4611686018427387904
 GN:0<=p.bytes
 yh:p.bytes<=1500*k
 got:GF p.floor p.got
 sV:p.got.length<=g
 aO:GF p.floor p.aO
 oq:p.aO.length<=m
 kept:∀x∈p.kept,Word x.bX/\0<=x.pn/\x.pn<=4611686018427387903
 Ap:p.kept.Pairwise (λx y=>x.pn≠y.pn)
 Cm:∀x∈p.kept,dI p.got x.pn=true
 yV:p.kept.length<=k
 tX:0<=p.fG
 tV:p.fG<=1
 dw:Word p.dw
 due:Word p.due
 fK:Gd p.fK
 EL:p.fK.length<=k
 pieces:LF p.pieces
 pok:∀x∈p.pieces,dP x.body/\x.body.length<=1500/\x.off+x.body.length<=4611686018427387904
 cov:∀n,Cov p.pieces n↔dI p.fK n=true
 plen:(p.pieces.length:Int)<=p.bytes
theorem PW (h:Word x):jN 0 32 32 (kU x)where
 delay:=h
 lh:=by simp[kU]
 QI:=by simp[kU]
 pE:=by simp[kU]
 nI:=by simp[kU]
 GN:=by simp[kU]
 yh:=by simp[kU]
 got:=trivial
 sV:=by simp[kU]
 aO:=trivial
 oq:=by simp[kU]
 kept:=λb a=>by simp[kU]at a
 Ap:=List.Pairwise.nil
 Cm:=λb a=>by simp[kU]at a
 yV:=by simp[kU]
 tX:=by simp[kU]
 tV:=by simp[kU]
 dw:=⟨by simp[kU],by simp[kU]⟩
 due:=⟨by simp[kU],by simp[kU]⟩
 fK:=trivial
 EL:=by simp[kU]
 pieces:=⟨List.Pairwise.nil,λb a=>by simp[kU]at a⟩
 pok:=λb a=>by simp[kU]at a
 cov:=λc=>⟨λ⟨b,a,_⟩=>by simp[kU]at a,λh=>by simp[kU,dI]at h⟩
 plen:=by simp[kU]
theorem xV (lo:Int):∀(a:List Sp),(jr lo a).length<=a.length
 |[]=>av _
 |s::t=>by
  have:=xV lo t;unfold jr;split
  .simpa using this
  .simp only[aY];omega
theorem GF.gd {b:Int} {l:List Sp} (h:GF b l) (hb:0<=b):Gd l:=h.mono hb
theorem EQ {l:List Sp} (h:Gd l) (lo:Int):(gV l lo).length<=l.length:=by rw[vJ h];exact xV lo l
theorem um {k g m:Nat} {p:Pe} (h:jN k g m p) {f:Int} (l:f<=4611686018427387903):jN k g m (gz p f):=by
 unfold gz;split
 .exact h
 next c=>
 have a:=h.lh;have e:=pP (lo:=f) h.got a;have i:=pP (lo:=f) h.aO a;have n:max p.floor f=f:=oM;rw[n]at e i;exact{h with
  lh:=by simp only;omega
  QI:=l
  got:=e
  sV:=ay (EQ (h.got.gd a) f) h.sV
  aO:=i
  oq:=ay (EQ (h.aO.gd a) f) h.oq
  kept:=λb d=>h.kept b (dx.1 d).1
  Ap:=h.Ap.filter _
  Cm:=λb d=>by
   have j:=dx.1 d;show dI (gV p.got f) b.pn=true;rw[sW (h.got.gd a),h.Cm b j.1];simpa using j.2
  yV:=ay (List.length_filter_le _ _) h.yV}
theorem TI (p:Pe) (f:Int):(gz p f).delay=p.delay/\(gz p f).next=p.next/\(gz p f).bytes=p.bytes/\(gz p f).fG=p.fG/\(gz p f).dw=p.dw/\(gz p f).due=p.due/\(gz p f).fK=p.fK/\(gz p f).pieces=p.pieces:=by
 unfold gz;split<;>exact⟨rfl,rfl,rfl,rfl,rfl,rfl,rfl,rfl⟩
theorem TK {k g m:Nat} {p:Pe} (h:jN k g m p) (f n:Int) (a:dI (gz p f).got n=true):dI p.got n=true:=by
 unfold gz at a;split at a
 .exact a
 .simp only at a
  rw[sW (h.got.gd h.lh),Bool.and_eq_true]at a;exact a.1
theorem GF.two {b:Int} {l:List Sp} (h:GF b l) (d:2<=l.length):b<(l.getD 1 ⟨0,0⟩).lo/\(l.getD 1 ⟨0,0⟩).lo<=4611686018427387903/\(jr (l.getD 1 ⟨0,0⟩).lo l).length+1<=l.length:=by
 rcases l with _|⟨f,_|⟨a,c⟩⟩
 .simp at d
 .simp at d
 .obtain⟨g,i,j,k,m,n,o⟩:=h
  simp only[List.getD_cons_succ,List.getD_cons_zero];refine⟨oM,oM,?_⟩;have e:jr a.lo (f::a::c)=jr a.lo (a::c):=by
   conv=>lhs;unfold jr
   rw[Ww oM]
  rw[e];have:=xV a.lo (a::c);simp only[aY]at this|-;omega
theorem qM {p:Pe} (h:jN k 33 m p):jo p.got.length p=(if 32<p.got.length then gz p (p.got.getD 1 ⟨0,0⟩).lo else p)/\jN k 32 m (jo p.got.length p):=by
 have l:=h.sV;by_cases b:32<p.got.length
 .obtain⟨i,e,j⟩:=h.got.two oM
  have f:=um h e;have g:(gz p (p.got.getD 1 ⟨0,0⟩).lo).got.length<=32:=by
   unfold gz;rw[Ww oM];show(gV p.got (p.got.getD 1 ⟨0,0⟩).lo).length<=32;rw[vJ (h.got.gd h.lh)];omega
  have c:jo p.got.length p=gz p (p.got.getD 1 ⟨0,0⟩).lo:=by
   obtain⟨a,d⟩:∃a,p.got.length=a+1:=⟨p.got.length -1,oM⟩;rw[d,jo,aB b];cases a with
   |zero=>rfl
   |succ a=>rw[jo,Ww oM]
  rw[aB b,c];exact⟨rfl,{f with sV:=g}⟩
 .have c:jo p.got.length p=p:=by
   cases d:p.got.length with
   |zero=>rfl
   |succ a=>rw[jo,Ww b]
  rw[Ww b,c];exact⟨rfl,{h with sV:=by omega}⟩
theorem nX {k g:Nat} {p:Pe} (h:jN k g 33 p):iC p.aO.length p=(if 32<p.aO.length then gz p (p.aO.getD 1 ⟨0,0⟩).lo else p)/\jN k g 32 (iC p.aO.length p):=by
 have m:=h.oq;by_cases b:32<p.aO.length
 .obtain⟨j,e,l⟩:=h.aO.two oM
  have f:=um h e;have i:(gz p (p.aO.getD 1 ⟨0,0⟩).lo).aO.length<=32:=by
   unfold gz;rw[Ww oM];show(gV p.aO (p.aO.getD 1 ⟨0,0⟩).lo).length<=32;rw[vJ (h.aO.gd h.lh)];omega
  have c:iC p.aO.length p=gz p (p.aO.getD 1 ⟨0,0⟩).lo:=by
   obtain⟨a,d⟩:∃a,p.aO.length=a+1:=⟨p.aO.length -1,oM⟩;rw[d,iC,aB b];cases a with
   |zero=>rfl
   |succ a=>rw[iC,Ww oM]
  rw[aB b,c];exact⟨rfl,{f with oq:=i}⟩
 .have c:iC p.aO.length p=p:=by
   cases d:p.aO.length with
   |zero=>rfl
   |succ a=>rw[iC,Ww b]
  rw[Ww b,c];exact⟨rfl,{h with oq:=by omega}⟩
def nW (d:Da):Sp:=⟨d.off,d.off+d.body.length -1⟩
def uT (p:Pe) (d:Da):List Sp:=p.fK.foldl jh [nW d]
def nZ (d:Da) (x:Sp):Pi:=⟨x.lo,(d.body.take (x.hi -d.off+1).toNat).drop (x.lo -d.off).toNat⟩
theorem PY (p:Pe) (d:Da):Es p d={p with pieces:=p.pieces++(uT p d).map (nZ d),fK:=iV p.fK (nW d)}:=rfl
theorem IQ {p:Pe} {d:Da} (n:Gd p.fK) (e:DOk d):GF d.off (uT p d)/\(∀a,dI (uT p d) a=(nV a (nW d)&& !dI p.fK a))/\∀b∈uT p d,b.hi<d.off+d.body.length:=by
 obtain⟨l,o,q⟩:=Hl e.vz e.off1 e.CW;have k:GF d.off [nW d]:=⟨bY _,by simp only[nW];omega,by simp only[nW];omega,trivial⟩;obtain⟨f,j⟩:=tN p.fK [nW d] d.off k l (λb c=>(GF.low n b c).2);have g:∀a,dI (uT p d) a=(nV a (nW d)&& !dI p.fK a):=λa=>by
  unfold uT;rw[j a,iX,LB,Bool.or_false]
 refine⟨f,g,λb c=>?_⟩;have m:=GF.low f b c;have:dI (uT p d) b.hi=true:=pW.2 ⟨b,c,m.2.1,bY _⟩;rw[g,Bool.and_eq_true]at this;have i:=this.1;(have r:b.hi<=(nW d).hi:=by simp[nV]at i;exact i.2);have s:(nW d).hi=d.off+d.body.length -1:=rfl;omega
theorem vo {d:Da} {x:Sp} (a:d.off<=x.lo) (b:x.lo<=x.hi) (c:x.hi<d.off+d.body.length):((nZ d x).body.length:Int)=x.hi -x.lo+1:=by
 unfold nZ;simp only[bI,aT];omega
theorem ID {d:Da} {x:Sp} (a:d.off<=x.lo) (b:x.lo<=x.hi) (c:x.hi<d.off+d.body.length) (n:Int):((nZ d x).off<=n/\n<(nZ d x).off+((nZ d x).body.length:Int))↔(x.lo<=n/\n<=x.hi):=by
 rw[vo a b c];unfold nZ;simp only;omega
theorem Gh {d:Da} {l:List Sp} (c:GF d.off l) (e:∀a∈l,a.hi<d.off+d.body.length) (n:Int):Cov (l.map (nZ d)) n↔dI l n=true:=by
 rw[pW];constructor
 .rintro⟨g,f,h⟩
  obtain⟨a,b,rfl⟩:=List.mem_map.1 f;have:=GF.low c a b;exact⟨a,b,(ID this.1 this.2.1 (e a b) n).1 h⟩
 .rintro⟨a,b,h⟩
  have:=GF.low c a b;exact⟨nZ d a,List.mem_map.2 ⟨a,b,rfl⟩,(ID this.1 this.2.1 (e a b) n).2 h⟩
theorem Qg {d:Da}:∀(f:List Sp) (c:Int),GF c f->d.off<=c->(∀a∈f,a.hi<d.off+d.body.length)->(f.map (nZ d)).Pairwise Dj
 |[],_,_,_,_=>List.Pairwise.nil
 |a::t,c,h,hb,hh=>by
  obtain⟨k,i,l,g⟩:=h;refine List.pairwise_cons.2 ⟨λn j=>?_,Qg t (a.hi+2) g oM (λb e=>hh b (by simp[e]))⟩;obtain⟨b,e,rfl⟩:=List.mem_map.1 j;have m:=GF.low g b e;have:=vo (d:=d) (x:=a) oM i (hh a sM);refine .inl ?_;rw[this];show a.lo+(a.hi -a.lo+1)<=b.lo;omega
theorem dj_of {x y:Pi} (d:1<=x.body.length) (hy:1<=y.body.length) (h:∀a,(x.off<=a/\a<x.off+x.body.length)->(y.off<=a/\a<y.off+y.body.length)->False):Dj x y:=by
 unfold Dj;by_cases b:x.off<=y.off
 .exact .inl (Decidable.byContradiction λc=>h y.off ⟨b,oM⟩ ⟨bY _,oM⟩)
 .exact .inr (Decidable.byContradiction λc=>h x.off ⟨bY _,oM⟩ ⟨oM,oM⟩)
theorem PX {k g m:Nat} {p:Pe} {d:Da} (h:jN k g m {p with bytes:=p.bytes -d.body.length}) (l:DOk d):jN (k+1) g m (Es p d):=by
 obtain⟨i,t,j⟩:=IQ (p:=p) h.fK l;obtain⟨B,C,J,I⟩:=Ju h.yh h.GN l.xE l.CW;simp only at B C;have L:=l.vz;have M:=l.off1;have K:=i.count (e:=d.off+d.body.length) j oM;(have w:(nW d).lo<=(nW d).hi:=by simp only[nW];omega);(have x:(nW d).hi<=4611686018427387903:=by simp only[nW];omega);have v:∀b∈(uT p d).map (nZ d),0<=b.off/\1<=b.body.length:=by
  intro b a;obtain⟨f,q,rfl⟩:=List.mem_map.1 a;have o:=GF.low i f q;have:=vo (d:=d) o.1 o.2.1 (j f q);exact⟨by show 0<=f.lo;omega,oM⟩
 rw[PY];exact{h with
  GN:=by simp only;omega
  yh:=by simp only;omega
  yV:=Nat.le_succ_of_le h.yV
  fK:=zV h.fK (by simp only[nW];omega) w x
  EL:=ay (zu _ _) (Nat.succ_le_succ h.EL)
  pieces:=⟨List.pairwise_append.2 ⟨h.pieces.dj,Qg _ _ i (bY _) j,λb a z y=>dj_of (h.pieces.pos b a).2 (v z y).2 (λc E F=>by
   have s:dI p.fK c=true:=(h.cov c).1 ⟨b,a,E⟩;have u:dI (uT p d) c=true:=(Gh i j c).1 ⟨z,y,F⟩;rw[t,s]at u;simp at u)⟩,λb a=>(WB.1 a).elim (h.pieces.pos b) (v b)⟩
  pok:=λb a=>by
   rcases WB.1 a with a|a
   .exact h.pok b a
   .obtain⟨f,q,rfl⟩:=List.mem_map.1 a
    have o:=GF.low i f q;have A:=j f q;have:=vo (d:=d) o.1 o.2.1 A;refine⟨λH G=>l.bok H (bf (dW G)),oM,?_⟩;rw[this];show f.lo+(f.hi -f.lo+1)<=_;omega
  cov:=λc=>by
   show Cov (p.pieces++(uT p d).map (nZ d)) c↔dI (iV p.fK (nW d)) c=true;rw[vW h.fK w x,Bool.or_eq_true];constructor
   .rintro⟨b,a,n⟩
    rcases WB.1 a with a|a
    .exact .inl ((h.cov c).1 ⟨b,a,n⟩)
    .have:=(Gh i j c).1 ⟨b,a,n⟩
     rw[t,Bool.and_eq_true]at this;exact .inr this.1
   .intro D
    by_cases r:dI p.fK c=true
    .obtain⟨b,a,n⟩:=(h.cov c).2 r
     exact⟨b,by simp[a],n⟩
    .have s:=D.resolve_left r
     obtain⟨b,a,n⟩:=(Gh i j c).2 (by rw[t,s];simp[r]);exact⟨b,WB.2 (.inr a),n⟩
  plen:=by
   have:=h.plen;simp only at this;show((p.pieces++(uT p d).map (nZ d)).length:Int)<=p.bytes;rw[aU,bR];omega}
theorem Gy {l:List Sp} (h:Gd l) (n:Int):oQ l n=dI l n:=by unfold oQ;rw[h.good];rfl
def sK (p:Pe) (d:Da):Pe:=
 {Es {p with bytes:=p.bytes+d.body.length} d with got:=iV p.got ⟨d.pn,d.pn⟩,kept:=p.kept++[⟨d.pn,d.bX,uM d.ecn⟩],aO:=if jB d.ecn then p.aO else iV p.aO ⟨d.pn,d.pn⟩}
theorem Mb (p:Pe) (d:Da):Ga p d=iC (jo (gz (sK p d) d.bn).got.length (gz (sK p d) d.bn)).aO.length (jo (gz (sK p d) d.bn).got.length (gz (sK p d) d.bn)):=rfl
theorem Qz (n a:Int):nV n ⟨a,a⟩=(n==a):=by
 rw[mU];simp[nV];omega
theorem IK {p:Pe} {d:Da} (h:jN k 32 32 p) (e:DOk d) (j:p.floor<=d.pn) (o:dI p.got d.pn=false):jN (k+1) 33 33 (sK p d):=by
 have l:jN k 32 32 {{p with bytes:=p.bytes+d.body.length}with bytes:={p with bytes:=p.bytes+d.body.length}.bytes -d.body.length}:=by
  have c:p.bytes+d.body.length -d.body.length=p.bytes:=oM;simp only[c];exact h
 obtain⟨m,i,g,r⟩:=Ju (PX l e) h.lh e.pn1 e.pn0;(have n:∀f,dI (iV p.got ⟨d.pn,d.pn⟩) f=(dI p.got f||f==d.pn):=λf=>by rw[vW (h.got.gd i) (bY _) g,Qz]);exact{m with
  got:=Dh h.got i j (bY _) g
  sV:=ay (zu _ _) (Nat.succ_le_succ h.sV)
  aO:=by
   show GF p.floor (if jB d.ecn then p.aO else iV p.aO ⟨d.pn,d.pn⟩);split
   .exact h.aO
   .exact Dh h.aO i j (bY _) g
  oq:=by
   show(if jB d.ecn then p.aO else iV p.aO ⟨d.pn,d.pn⟩).length<=33;split
   .have:=h.oq;omega
   .exact ay (zu _ _) (Nat.succ_le_succ h.oq)
  kept:=λb a=>by
   rcases WB.1 a with a|a
   .exact h.kept b a
   .obtain rfl:=dZ.1 a
    exact⟨e.bX,r,g⟩
  Ap:=List.pairwise_append.2 ⟨h.Ap,List.pairwise_singleton _ _,λb a s q c=>by
   obtain rfl:=dZ.1 q;have:=h.Cm b a;simp only at c;rw[c,o]at this;cases this⟩
  Cm:=λb a=>by
   show dI (iV p.got ⟨d.pn,d.pn⟩) b.pn=true;rw[n];rcases WB.1 a with a|a
   .rw[h.Cm b a];rfl
   .obtain rfl:=dZ.1 a
    simp
  yV:=by
   show(p.kept++[_]).length<=k+1;rw[aU];exact Nat.succ_le_succ h.yV}
theorem Ma {p:Pe} {d:Da} (h:jN k 32 32 p) (a:DOk d) (g:p.floor<=d.pn) (i:dI p.got d.pn=false):jN (k+1) 32 32 (Ga p d):=by
 have b:=IK h a g i;have c:=um b (f:=d.bn) (by have:=a.Gt;have:=a.pn1;omega);have e:=(qM c).2;rw[Mb];exact(nX e).2
theorem Er {p:Pe} {g m:Nat} (h:jN k g m {p with fG:=0,due:=18446744073709551615}):jN k g m (lZ p).pe:=h
theorem Ep {p:Pe} {now:Int} (h:jN k 32 32 p):jN k 32 32 (kK p now).pe:=by
 unfold kK;split
 .exact Er {h with tX:=by simp,tV:=by simp,due:=⟨sM,sM⟩}
 .exact h
theorem jN.mono {k k' g m:Nat} {p:Pe} (h:jN k g m p) (a:k<=k'):jN k' g m p:=
 {h with yh:=by have:=h.yh;omega,yV:=ay h.yV a,EL:=ay h.EL a}
theorem NC {p:Pe} {b:List Int} {now:Int} (h:jN k 32 32 p) (hb:dP b) (l:Word now):jN (k+1) 32 32 (oN p b now).pe:=by
 unfold oN;split
 .exact h.mono (Nat.le_succ k)
 next c=>
 simp only[not_or,Decidable.not_not,Int.not_lt,Bool.not_eq_true]at c;obtain⟨g,i,f⟩:=c;have d:=zm hb g;rw[Gy (h.got.gd h.lh)]at f;have a:=Ma h d i f;obtain⟨q,r,s,t,n,o⟩:=MP d.pn0 d.pn1 a.tX a.tV a.pE a.nI;dsimp only;split
 (.exact a);split
 .exact Er {a with pE:=by simp only;omega,nI:=by simp only;omega,tX:=by simp,tV:=by simp,dw:=d.bX,due:=⟨sM,sM⟩}
 next c4=>
 have m:¬2<=(Ga p (ky b).val).fG+1:=λj=>c4 (.inl j);have e:jN (k+1) 32 32 {Ga p (ky b).val with next:=max (Ga p (ky b).val).next ((ky b).val.pn+1),fG:=(Ga p (ky b).val).fG+1,dw:=(ky b).val.bX}:=
  {a with pE:=by simp only;omega,nI:=by simp only;omega,tX:=by simp only;omega,tV:=by simp only;omega,dw:=d.bX}
 show jN (k+1) 32 32 (if _ then _ else _);split
 .exact{e with due:=fB l e.delay}
 .exact e
attribute[local go_sem] BW.cell BW.frozen
def puT:List (Option TypeId):=[some 218,some 222]
def Xb (q:Pp) (f:Fa) (b:List Int) (now:Int):Pp:=
 if f.drop then{q with count:=q.count+1}else
 {q with count:=q.count+1,items:=if f.twice then uD (uD q.items ⟨WI now f.delay,if f.mark then(qp b).getD b else b⟩) ⟨WI now f.delay,if f.mark then(qp b).getD b else b⟩else uD q.items ⟨WI now f.delay,if f.mark then(qp b).getD b else b⟩}
theorem PR (q:Pp) (b:List Int) (now:Int):qD q b now=Xb q (mK q) b now:=rfl
theorem El (k:Nat) (d:k<1000000000) (S h0:X4) (p:Nat) (q:Pp) (a:X5) (c:Nat) (b:List Int) (now:Int) (w:World) (h:rH w S p q) (c4:vY k q) (hb:Bys w h0 a b) (l2:b.length<=100000) (m4:dP b) (v:Word now) (i0:Bd S w):
  Yk 39 #[pT p,.slice a b.length c,uI now] w λd9 j0=>
   d9=.returned (.tuple #[])/\rH j0 (grow S w j0) p (qD q b now)/\Mod S puT w j0:=by
 rw[PR];obtain⟨a7,a8,c0,c1,c5,e8,l4,l5,l1,l7⟩:=h.ex;have c2:=h.mem;have i4:=e8.lt;obtain⟨j,g6⟩:=eX (mK q);rw[<-g6];have u:Word j.delay:=by
  rw[g6];unfold mK;rw[aW];cases b3:q.qF[q.count]?with
  |none=>exact⟨dC,dC⟩
  |some A=>exact c4.word A (List.mem_of_getElem? b3)
 have n0:=c4.count;have n3:=c4.items;have b8:=zH c4.ok;have n1:=c4.qF;obtain⟨l,e,a4⟩:=q;simp only at*
 obtain⟨d1,b6,c9,g9,d0,f9⟩:=Fy l5 l4 l1 l7 e8 hb;obtain⟨k0,g8⟩:=yx g6 l2;have f5:¬(p=w.heap.size):=oM;have d7:=e8.Wu 0;obtain⟨d8,h3⟩:=e8.cz 1;clear l5 l4 l1 l7 e8 hb g6 h c4 l2;have l3:(e:Int)+1<9223372036854775808:=oM;go_enter Tryz.func39,Tryz.ntmps39;go_wp2_with fail;generalize i1:w.alloc (.cells #[bV false,bV false,bV false,uI 0] 187)=U;(have i2:bW w U:=by rw[<-i1];exact BEL);(have g3:Blk U w.heap.size 187 #[bV false,bV false,bV false,uI 0]:=by rw[<-i1];exact Wx _ _ _);have g4:=d0.o.below i2 i4;have d7:=g4.Wu 0;obtain⟨d8,h3⟩:=g4.cz 1;obtain⟨s,k5⟩:=eX w.heap.size;rw[<-k5]at g3 f5|-;obtain⟨c8,c7⟩:=yx i2 g3;have k8:=g3.lt;have l6:=g4.lt;have n4:w.heap.size<=s:=oM;clear i1 i2 g3 g4 k5;by_cases c3:e<l.length
 case' pos=>
  obtain⟨J,K,rfl,m9,n2,e9⟩:=(aD b6.o c8.o).at_ (by omega:0<l.length);(have Z:j=l[e]:=by rw[k0.o];unfold mK;simp only;rw[aW,aL c3];rfl);(have i6:U.cell? ⟨J,K+e*4,none⟩=some (bV j.drop):=by rw[Z];exact e9 _ _ (mr AU l e 0 c3 oM));(have i7:U.cell? ⟨J,K+e*4+1,none⟩=some (bV j.twice):=by rw[Z,Nat.add_assoc];exact e9 _ _ (mr AU l e 1 c3 oM));(have i8:U.cell? ⟨J,K+e*4+2,none⟩=some (bV j.mark):=by rw[Z,Nat.add_assoc];exact e9 _ _ (mr AU l e 2 c3 oM));(have i9:U.cell? ⟨J,K+e*4+3,none⟩=some (uI j.delay):=by rw[Z,Nat.add_assoc];exact e9 _ _ (mr AU l e 3 c3 oM));have g7:(e:Int)<(l.length:Int):=oM;have m5:(0:Int)<=(e:Int):=oM;have e7:=c7.o;obtain⟨j1,j5,j2,j6,j3,j7,j4,j8⟩:=e7.c4;clear e7 Z e9;refine mQ ?_;rintro _ ⟨nq,rfl⟩;generalize N:World.drewN U _=I;obtain⟨j9,g2⟩:=yx (show bW w I from by rw[<-N];exact aA c8.o _) (show Blk I s 187 #[bV false,bV false,bV false,uI 0]from by rw[<-N];exact c7.o.drewN _);(have i6:I.cell? ⟨J,K+e*4,none⟩=some (bV j.drop):=by rw[<-N];exact i6);(have i7:I.cell? ⟨J,K+e*4+1,none⟩=some (bV j.twice):=by rw[<-N];exact i7);(have i8:I.cell? ⟨J,K+e*4+2,none⟩=some (bV j.mark):=by rw[<-N];exact i8);(have i9:I.cell? ⟨J,K+e*4+3,none⟩=some (uI j.delay):=by rw[<-N];exact i9);(have d7:I.cell? ⟨p,0,none⟩=some (.slice (some ⟨J,K,none⟩) l.length a8):=by rw[<-N];exact d7);(have d8:I.cell? ⟨p,1,none⟩=some (jI e):=by rw[<-N];exact d8);have m2:s<I.heap.size:=g2.o.lt;clear N j1 j2 j3 j4 j5 j6 j7 j8 c8 c7 k8 l6;have e7:=g2.o;obtain⟨j1,j5,j2,j6,j3,j7,j4,j8⟩:=e7.c4;clear e7;go_wp2;refine bP 10 kR kR ?_;refine mB ?_;rintro _ ⟨m0,rfl⟩;refine dA rfl rfl ?_;go_simp;refine aK ?_;obtain⟨n,Y⟩:=eX (((((I.drewN m0).setCell ⟨s,0,none⟩ (bV j.drop)).setCell ⟨s,1,none⟩ (bV j.twice)).setCell ⟨s,2,none⟩ (bV j.mark)).setCell ⟨s,3,none⟩ (uI j.delay));rw[<-Y];(have L:Blk n s 187 #[bV j.drop,bV j.twice,bV j.mark,uI j.delay]:=by rw[Y];exact((((g2.o.drewN m0).bF 0 _).bF 1 _).bF 2 _).bF 3 _);(have O:bW w n:=by rw[Y];have hb:=j9.o;exact BEL);clear Y j1 j2 j3 j4 j5 j6 j7 j8 i6 i7 i8 i9 j9 g2 m2 g7 m5;obtain⟨B,a5⟩:=yx O L;have M:=d0.o.below O i4;obtain⟨h4,h5⟩:=M.cz 1;obtain⟨h6,f2,e3,i5⟩:=Ju (L.Wu 0) M.lt L.lt O.size;have x:=zH M;clear l3 O L M d7 d8 h3;obtain⟨k6,W,k7,o⟩:=j;simp only at*
  generalize some (⟨J,K,none⟩:Addr)=a7 at*
 case' neg=>
  (have Z:j=⟨false,false,false,0⟩:=by rw[k0.o];unfold mK;simp only;rw[aW,List.getElem?_eq_none oM];rfl);have g7:¬(e:Int)<(l.length:Int):=oM;have m6:decide ((e:Int)<(l.length:Int))=false:=bJ g7;refine mQ ?_;rintro _ ⟨nq,rfl⟩;generalize Y:World.drewN U _=n;(have O:bW w n:=by rw[<-Y];exact aA c8.o _);(have L:Blk n s 187 #[bV j.drop,bV j.twice,bV j.mark,uI j.delay]:=by rw[Z,<-Y];exact c7.o.drewN _);clear Y Z c8 c7 k8 l6;obtain⟨B,a5⟩:=yx O L;have M:=d0.o.below O i4;obtain⟨h4,h5⟩:=M.cz 1;obtain⟨h6,f2,e3,i5⟩:=Ju (L.Wu 0) M.lt L.lt O.size;have x:=zH M;clear l3 O L M d7 d8 h3 m6 g7 c3;obtain⟨k6,W,k7,o⟩:=j;simp only at*
 all_goals
  cases k6 with
  |true=>
   go_wp2_with fail;refine mV ?_;obtain⟨h1,g5⟩:=eX (n.setCell ⟨p,1,none⟩ (jI ((e:Int)+1)));rw[<-g5];(have m7:Mod S puT w h1:=by rw[g5];exact(aH B.o).setCell x.o (λ_=>c2) (by simp[puT]) 1 _);(have m3:Blk h1 p 218 #[.slice a7 l.length a8,jI ((e+1:Nat):Int),.slice c0 c5.length c1]:=by rw[g5];exact x.o.bF 1 _);have i3:bQ S [some 187,some 222,some 5] w h1:=(bQ.below B.o).trans (by rw[g5];exact bQ.setCell x.o dC 1 _);refine⟨rfl,⟨⟨a7,a8,c0,c1,c5,m3,(b6.o.keep i3 sM).mono (λk d=>.inl d),(d1.o.keep i3 sM).mono (λk d=>.inl d),λf8 b3=>(aG (c9.o f8 b3) i3 sM).mono (λk d=>.inl d),g9.o⟩,.inl c2⟩,m7⟩
  |false=>
   cases k7 with
   |false=>
    go_wp2_with (at_builtin;have f6:Bys (n.setCell ⟨p,1,none⟩ (jI ((e:Int)+1))) h0 a b:=aG (ts:=[some 5]) f9.o ((bQ.below B.o).trans (bQ.setCell x.o dC 1 _)) sM;have f7:([]:List Int).length+b.length<=1000000000000:=(by have:=g8.o;simp;omega);refine fe.wpList rfl _ (.tmp 40) rfl (n.setCell ⟨p,1,none⟩ (jI ((e:Int)+1))).heap.size none 0 [] (by rfl) (iq _ _ _ _) a c b (by rfl) f6 f7 dC (av _) ?_;intro z V f f1 f0;have a9:Below (n.setCell ⟨p,1,none⟩ (jI ((e:Int)+1))).heap.size (n.setCell ⟨p,1,none⟩ (jI ((e:Int)+1))) f:=(aj _ _).grown f0 (av _) XI;have d4:=zH f1;have C:=zH a9;have b4:Blk (n.setCell ⟨p,1,none⟩ (jI ((e:Int)+1))) s 187 #[bV false,bV W,bV false,uI o]:=a5.o.far (Ne.symm f5) _;have R:=b4.below a9 b4.lt;have h7:=R.Wu 2;have h8:=R.Wu 3;have h9:s<f.heap.size:=R.lt;clear f1 f0 a9 b4 R f6 f7);(have Q:(n.setCell ⟨p,1,none⟩ (jI ((e:Int)+1))).heap.size=n.heap.size:=by simp[World.setCell]);have b2:Mod S puT w f:=((aH B.o).setCell x.o (λ_=>c2) (by simp[puT]) 1 _).trans (aH C.o);have e6:Blk f p 218 #[.slice a7 l.length a8,jI ((e+1:Nat):Int),.slice c0 c5.length c1]:=(x.o.bF 1 _).below C.o (by rw[Q];exact f2);have P:bQ S [some 187,some 222,some 5] w f:=((bQ.below B.o).trans (bQ.setCell x.o dC 1 _)).trans (bQ.below C.o);have e2:Blk f s 187 #[bV false,bV W,bV false,uI o]:=(a5.o.far (Ne.symm f5) _).below C.o (by rw[Q];exact e3);have b1:=OwnAt.fresh d4.o;rw[List.nil_append]at b1;have l9:w.heap.size<=f.heap.size:=b2.size;obtain⟨g0,d2,a6,b9⟩:=Bq (show rH f (grow S w f) p ⟨l,e+1,a4⟩from⟨⟨a7,a8,c0,c1,c5,e6,(b6.o.keep P sM).mono (λk d=>.inl d),(d1.o.keep P sM).mono (λk d=>.inl d),λf8 b3=>(aG (c9.o f8 b3) P sM).mono (λk d=>.inl d),g9.o⟩,.inl c2⟩) b2 e2 (show Bys f (grow S w f) z b from b1.row.mono (λk d=>.inr ⟨ay i5 (Q▸d.1),d.2⟩));clear Q b2 e6 P e2 b1 d4 C B x b6 d1 c9 d0 f9 a5 h6 h4 h5 f2 e3;clear h7 h8 h9;have X:Bd (grow S w f) f:=i0.grow d2.o.size;have e0:=a6.o.Wu 3;have e4:s<f.heap.size:=a6.o.lt;(try go_wp2_with fail);refine(lT now o v u _).mono ?_;rintro d9 m1 ⟨rfl,rfl⟩;go_wp2_with fail;refine Yd (qQ k oM (grow S w f) p ⟨l,e+1,a4⟩ ⟨WI now o,b,z,V⟩ f g0.o (by simp only;omega) b9.o (fB v u) (λA t=>(b8.o A t).1) X) ?_;rintro g ⟨a2,r⟩;have y:=a6.o.mod r dC;obtain⟨k3,k4⟩:=y.e2 1 3;have l0:=y.lt;have a0:Mod S puT w g:=d2.o.grow (r.mono (λ_ _ h=>h) (by simp[lyT,puT]));obtain⟨d6,T,D⟩:=Av (show Bys g (grow (grow S w f) f g) z b from(aG b9.o (r.aM (ts:=[some 5]) dC) sM).mono (λk d=>.inl d)) a2 a0;have e5:Bd (grow (grow S w f) f g) g:=X.grow r.size;have F:=r.size;have G:=d2.o.size;clear a2 r a0 y e0 e4;cases W with
    |false=>
     go_wp2;refine mE ?_;refine⟨rfl,?_,D.o⟩;have:=T.o.mono (S':=grow S w g) (λk d=>grow_grow G F d);simpa[Xb,Iv.it]using this
    |true=>
     go_wp2_with fail;refine Yd (lT now o v u _) ?_;intro m8 rfl;go_wp2_with fail;refine Yd (qQ k oM (grow (grow S w f) f g) p ⟨l,e+1,uD a4 (Iv.it ⟨WI now o,b,z,V⟩)⟩ ⟨WI now o,b,z,V⟩ g T.o (by simp only[vE];omega) d6.o (fB v u) (λA t=>by rcases vD t with rfl|t;exact fB v u;exact(b8.o A t).1) e5) ?_;rintro H ⟨a3,E⟩;have f4:=E.size;have a1:Mod S puT w H:=by
      have e1:Mod (grow S w g) puT g H:=E.mono (λk _ h=>grow_grow G F h) (by simp[lyT,puT]);exact D.o.grow e1
     obtain⟨d5,d3⟩:=yx a3 a1;clear a3 E a1;go_wp2;refine mE ?_;refine⟨rfl,?_,d3.o⟩;have f3:w.heap.size<=g.heap.size:=D.o.size;have:=d5.o.mono (S':=grow S w H) (λk d=>grow_grow f3 f4 (d.imp (λh=>grow_grow G F h) id));simpa[Xb,Iv.it]using this
   |true=>
    go_wp2_with (at_builtin;have f6:Bys (n.setCell ⟨p,1,none⟩ (jI ((e:Int)+1))) h0 a b:=aG (ts:=[some 5]) f9.o ((bQ.below B.o).trans (bQ.setCell x.o dC 1 _)) sM;have f7:([]:List Int).length+b.length<=1000000000000:=(by have:=g8.o;simp;omega);refine fe.wpList rfl _ (.tmp 40) rfl (n.setCell ⟨p,1,none⟩ (jI ((e:Int)+1))).heap.size none 0 [] (by rfl) (iq _ _ _ _) a c b (by rfl) f6 f7 dC (av _) ?_;intro z V f f1 f0;have a9:Below (n.setCell ⟨p,1,none⟩ (jI ((e:Int)+1))).heap.size (n.setCell ⟨p,1,none⟩ (jI ((e:Int)+1))) f:=(aj _ _).grown f0 (av _) XI;have d4:=zH f1;have C:=zH a9;have b4:Blk (n.setCell ⟨p,1,none⟩ (jI ((e:Int)+1))) s 187 #[bV false,bV W,bV true,uI o]:=a5.o.far (Ne.symm f5) _;have R:=b4.below a9 b4.lt;have h7:=R.Wu 2;have h8:=R.Wu 3;have h9:s<f.heap.size:=R.lt;clear f1 f0 a9 b4 R f6 f7);(have Q:(n.setCell ⟨p,1,none⟩ (jI ((e:Int)+1))).heap.size=n.heap.size:=by simp[World.setCell]);have b2:Mod S puT w f:=((aH B.o).setCell x.o (λ_=>c2) (by simp[puT]) 1 _).trans (aH C.o);have e6:Blk f p 218 #[.slice a7 l.length a8,jI ((e+1:Nat):Int),.slice c0 c5.length c1]:=(x.o.bF 1 _).below C.o (by rw[Q];exact f2);have P:bQ S [some 187,some 222,some 5] w f:=((bQ.below B.o).trans (bQ.setCell x.o dC 1 _)).trans (bQ.below C.o);have e2:Blk f s 187 #[bV false,bV W,bV true,uI o]:=(a5.o.far (Ne.symm f5) _).below C.o (by rw[Q];exact e3);have b1:=OwnAt.fresh d4.o;rw[List.nil_append]at b1;have l9:w.heap.size<=f.heap.size:=b2.size;obtain⟨g0,d2,a6,b9⟩:=Bq (show rH f (grow S w f) p ⟨l,e+1,a4⟩from⟨⟨a7,a8,c0,c1,c5,e6,(b6.o.keep P sM).mono (λk d=>.inl d),(d1.o.keep P sM).mono (λk d=>.inl d),λf8 b3=>(aG (c9.o f8 b3) P sM).mono (λk d=>.inl d),g9.o⟩,.inl c2⟩) b2 e2 (show Bys f (grow S w f) z b from b1.row.mono (λk d=>.inr ⟨ay i5 (Q▸d.1),d.2⟩));clear Q b2 e6 P e2 b1 d4 C B x b6 d1 c9 d0 f9 a5 h6 h4 h5 f2 e3;have k9:=a6.o.lt;refine(Qi _ z V b f b9.o g8.o m4).mono ?_;rintro d9 i ⟨c6,h2,rfl,l8,b0⟩;obtain⟨b7,b5,k1,k2,g1⟩:=BF (d2.o.trans (aH b0)) (a6.o.below b0 k9) ((g0.o.below b0).mono (S':=grow S w i) (λk d=>d.imp id (λh=>⟨h.1,aC h.2 b0.size⟩))) (show Bys i (grow S w i) z b from(aD b9.o b0).mono (λk d=>d.imp id (λh=>⟨h.1,aC h.2 b0.size⟩))) (show Bys i (grow S w i) c6 ((qp b).getD [])from aF l8 (λk d=>.inr ⟨ay l9 d.1,d.2⟩));clear l8 b0 h7 h8 h9 k9 a6 g0 b9;cases hmk:qp b with
    |none=>
     rw[hmk]at g1;simp only[Option.getD_none,Option.isSome_none]at*
     have X:Bd (grow S w i) i:=i0.grow b7.o.size;have e0:=b5.o.Wu 3;have e4:s<i.heap.size:=b5.o.lt;(try go_wp2_with fail);refine(lT now o v u _).mono ?_;rintro d9 m1 ⟨rfl,rfl⟩;go_wp2_with fail;refine Yd (qQ k oM (grow S w i) p ⟨l,e+1,a4⟩ ⟨WI now o,b,z,V⟩ i k1.o (by simp only;omega) k2.o (fB v u) (λA t=>(b8.o A t).1) X) ?_;rintro g ⟨a2,r⟩;have y:=b5.o.mod r dC;obtain⟨k3,k4⟩:=y.e2 1 3;have l0:=y.lt;have a0:Mod S puT w g:=b7.o.grow (r.mono (λ_ _ h=>h) (by simp[lyT,puT]));obtain⟨d6,T,D⟩:=Av (show Bys g (grow (grow S w i) i g) z b from(aG k2.o (r.aM (ts:=[some 5]) dC) sM).mono (λk d=>.inl d)) a2 a0;have e5:Bd (grow (grow S w i) i g) g:=X.grow r.size;have F:=r.size;have G:=b7.o.size;clear a2 r a0 y e0 e4;cases W with
     |false=>
      go_wp2;refine mE ?_;refine⟨rfl,?_,D.o⟩;have:=T.o.mono (S':=grow S w g) (λk d=>grow_grow G F d);simpa[Xb,Iv.it,hmk]using this
     |true=>
      go_wp2_with fail;refine Yd (lT now o v u _) ?_;intro m8 rfl;go_wp2_with fail;refine Yd (qQ k oM (grow (grow S w i) i g) p ⟨l,e+1,uD a4 (Iv.it ⟨WI now o,b,z,V⟩)⟩ ⟨WI now o,b,z,V⟩ g T.o (by simp only[vE];omega) d6.o (fB v u) (λA t=>by rcases vD t with rfl|t;exact fB v u;exact(b8.o A t).1) e5) ?_;rintro H ⟨a3,E⟩;have f4:=E.size;have a1:Mod S puT w H:=by
       have e1:Mod (grow S w g) puT g H:=E.mono (λk _ h=>grow_grow G F h) (by simp[lyT,puT]);exact D.o.grow e1
      obtain⟨d5,d3⟩:=yx a3 a1;clear a3 E a1;go_wp2;refine mE ?_;refine⟨rfl,?_,d3.o⟩;have f3:w.heap.size<=g.heap.size:=D.o.size;have:=d5.o.mono (S':=grow S w H) (λk d=>grow_grow f3 f4 (d.imp (λh=>grow_grow G F h) id));simpa[Xb,Iv.it,hmk]using this
    |some m=>
     rw[hmk]at g1;simp only[Option.getD_some,Option.isSome_some]at*
     have X:Bd (grow S w i) i:=i0.grow b7.o.size;have e0:=b5.o.Wu 3;have e4:s<i.heap.size:=b5.o.lt;(try go_wp2_with fail);refine(lT now o v u _).mono ?_;rintro d9 m1 ⟨rfl,rfl⟩;go_wp2_with fail;refine Yd (qQ k oM (grow S w i) p ⟨l,e+1,a4⟩ ⟨WI now o,m,c6,h2⟩ i k1.o (by simp only;omega) g1.o (fB v u) (λA t=>(b8.o A t).1) X) ?_;rintro g ⟨a2,r⟩;have y:=b5.o.mod r dC;obtain⟨k3,k4⟩:=y.e2 1 3;have l0:=y.lt;have a0:Mod S puT w g:=b7.o.grow (r.mono (λ_ _ h=>h) (by simp[lyT,puT]));obtain⟨d6,T,D⟩:=Av (show Bys g (grow (grow S w i) i g) c6 m from(aG g1.o (r.aM (ts:=[some 5]) dC) sM).mono (λk d=>.inl d)) a2 a0;have e5:Bd (grow (grow S w i) i g) g:=X.grow r.size;have F:=r.size;have G:=b7.o.size;clear a2 r a0 y e0 e4;cases W with
     |false=>
      go_wp2;refine mE ?_;refine⟨rfl,?_,D.o⟩;have:=T.o.mono (S':=grow S w g) (λk d=>grow_grow G F d);simpa[Xb,Iv.it,hmk]using this
     |true=>
      go_wp2_with fail;refine Yg (lT now o v u _) ?_;go_wp2_with fail;refine Yd (qQ k oM (grow (grow S w i) i g) p ⟨l,e+1,uD a4 (Iv.it ⟨WI now o,m,c6,h2⟩)⟩ ⟨WI now o,m,c6,h2⟩ g T.o (by simp only[vE];omega) d6.o (fB v u) (λA t=>by rcases vD t with rfl|t;exact fB v u;exact(b8.o A t).1) e5) ?_;rintro H ⟨a3,E⟩;have f4:=E.size;have a1:Mod S puT w H:=by
       have e1:Mod (grow S w g) puT g H:=E.mono (λk _ h=>grow_grow G F h) (by simp[lyT,puT]);exact D.o.grow e1
      obtain⟨d5,d3⟩:=yx a3 a1;clear a3 E a1;go_wp2;refine mE ?_;refine⟨rfl,?_,d3.o⟩;have f3:w.heap.size<=g.heap.size:=D.o.size;have:=d5.o.mono (S':=grow S w H) (λk d=>grow_grow f3 f4 (d.imp (λh=>grow_grow G F h) id));simpa[Xb,Iv.it,hmk]using this
theorem Ni (S:X4) (p:Nat) (d l:Int) (a:List Se) (c:Int) (w:World) (h:Dw w S p d l a) (x:a.length<=1000000000) (D:0<=d) (E:d<=1000000) (C:Word c) (t:∀b∈a,Word b.bX):
  Yk 129 #[pT p,uI c] w λA n=>(∃(b:Se) (k:Bool),A=.returned (.tuple #[.agg #[uI b.pn,uI b.off,uI b.len,uI b.bX,uI b.sat,bV b.rE,bV b.used,jI b.aS],bV k])/\Word b.bX)/\bW w n:=by
 obtain⟨i,o⟩:=yx (λn (e:bW w n)=>h.below e) t;obtain⟨V,P⟩:=C;clear h t;go_enter Tryz.func129,Tryz.ntmps129;go_wp2_with fail;refine Yd (Yu S p d l a _ (i.o _ BEL) x D E) ?_;rintro W ⟨N,rfl⟩;have j:=zH (i.o (((w.alloc (.cells #[uI 0,uI 0,uI 0,uI 0,uI 0,bV false,bV false,jI 0] 177))).drewN N) BEL);clear i;by_cases m:c<max 0 ((a.length:Int) -d)
 .have u:decide (c<max 0 ((a.length:Int) -d))=true:=bM m
  go_wp2;refine mZ ?_;exact⟨⟨seZ,false,rfl,⟨dC,dC⟩⟩,BEL⟩
 .have u:decide (c<max 0 ((a.length:Int) -d))=false:=bJ m
  go_wp2_with fail;refine Yg (BI S p d l a _ j.o x) ?_;by_cases e:(a.length:Int)<=c
  .have v:decide ((a.length:Int)<=c)=true:=bM e
   go_wp2;refine mZ ?_;exact⟨⟨seZ,false,rfl,⟨dC,dC⟩⟩,BEL⟩
  .have v:decide ((a.length:Int)<=c)=false:=bJ e
   go_upto_region 3 with fail;obtain⟨f,g⟩:∃f:Nat,c=f:=⟨c.toNat,oM⟩;subst g;have g:f<a.length:=oM;obtain⟨R,z,r,s,B⟩:=j.o.ex;obtain⟨k,O,rfl,U,F,G,H,I,J,K,L,M⟩:=Ses.at_ s (aj _ _) g;have y:=o.o _ (aN g);have T:World.cell? _ ⟨p,2,none⟩=some (.slice (some ⟨k,O,none⟩) a.length z):=r.cell 2;have q:=zH y;have X:(f:Int)<9223372036854775808:=oM;clear y r s o j m u e v P B;generalize a[f]=Q at F G H I J K L M q;go_wp2;refine mZ ?_;exact⟨⟨Q,true,rfl,q.o⟩,BEL⟩
theorem Ia {S:X4} {j:Nat} {a:X5} {l:List Sp} (h:Sps w S a l) (n:j<l.length):
  ∃c d,a=some ⟨c,d,none⟩/\∀e,bW w e->(e.cell? ⟨c,d+j*2,none⟩=some (uI l[j].lo)/\e.cell? ⟨c,d+j*2+1,none⟩=some (uI l[j].hi))/\∀b (f:b<l.length),e.cell? ⟨c,d+b*2,none⟩=some (uI l[b].lo)/\e.cell? ⟨c,d+b*2+1,none⟩=some (uI l[b].hi):=by
 obtain⟨c,d,g,r,u,s⟩:=Row.at_ h oM;refine⟨c,d,g,λe m=>?_⟩;have k:∀b (f:b<l.length),e.cell? ⟨c,d+b*2,none⟩=some (uI l[b].lo)/\e.cell? ⟨c,d+b*2+1,none⟩=some (uI l[b].hi):=λb f=>by
  obtain⟨q,v,i,t,o,p⟩:=h.at_ m f;rw[g]at i;cases i;exact⟨o,p⟩
 exact⟨k j n,k⟩
theorem Ec (S:X4) (a:X5) (c:Nat) (l:List Sp) (w:World) (h:Sps w S a l) (U:l.length<=1000000000):
  Yk 130 #[.slice a l.length c] w λF K=>(∃g,F=.returned (bV g))/\bW w K:=by
 have z:=zH h;clear h;go_enter Tryz.func130,Tryz.ntmps130;go_wp2;go_loopg [3] l.length (λb J wx=>J=jI ((l.length:Int) -b)/\b<=l.length/\X3 (bW w wx));(case atStart=>exact⟨by congr 1;omega,av _,zH (aj _ _)⟩);case round=>
  obtain⟨rfl,Q,e⟩:=hrel;by_cases V:0<gk
  .have q:decide ((l.length:Int) -gk<l.length)=true:=bM oM
   have r:l.length -gk<l.length:=oM;have s:(l.length:Int) -gk=((l.length -gk:Nat):Int):=oM;obtain⟨g,W,rfl,t⟩:=Ia z.o r;obtain⟨⟨v,x⟩,u⟩:=t _ e.o;clear t;go_upto_region 4 with fail;rw[s];clear s q;have k:l.length -(l.length -gk)=gk:=oM;generalize l[l.length -gk]=I at*
   obtain⟨j,d⟩:=I;obtain⟨b,i⟩:=eX (l.length -gk);rw[<-i]at r v x k;rw[<-i];dsimp only at v x;have y:=zH u;have T:(b:Int)<l.length:=oM;have R:IntKind.i64.wrap ((b:Int)+1)=(b:Int)+1:=eP _ ⟨oM,oM⟩;obtain⟨m,L⟩:=yx i k;clear u i k;by_cases n:d<j
   .have B:decide (d<j)=true:=bM n
    refine mQ ?_;rintro _ ⟨nq,rfl⟩;go_wp2;go_ret;exact⟨by first|exact⟨_,rfl⟩|simp,aA e.o _⟩
   have B:decide (d<j)=false:=bJ n;by_cases o:4611686018427387903<d
   .have C:decide (4611686018427387903<d)=true:=bM o
    refine mQ ?_;rintro _ ⟨nq,rfl⟩;go_wp2;go_ret;exact⟨by first|exact⟨_,rfl⟩|simp,aA e.o _⟩
   have C:decide (4611686018427387903<d)=false:=bJ o;by_cases p:0<b
   .obtain⟨f,d⟩:=eX (b -1)
    have D:decide ((0:Int)<(b:Int))=true:=bM oM;have E:decide (0<b)=true:=bM oM;have M:(b:Int) -1=f:=oM;have N:(f:Int)<l.length:=oM;have O:f<l.length:=oM;obtain⟨H,X⟩:=y.o f oM;generalize l[f].hi=G at*
    clear H d p;obtain⟨A,P⟩:∃g,decide (j<=IntKind.u64.wrap (G+1))=g:=⟨_,rfl⟩;cases A with
    |true=>
     refine mQ ?_;rintro _ ⟨nq,rfl⟩;go_wp2;go_ret;exact⟨by first|exact⟨_,rfl⟩|simp,aA e.o _⟩
    |false=>
     refine mQ ?_;rintro _ ⟨nq,rfl⟩;go_wp2;go_roundg (gk -1);(case measure=>omega);case rel=>have:=m.o;exact⟨by congr 1;omega,oM,zH (aA e.o _)⟩
   .have D:decide ((0:Int)<(b:Int))=false:=bJ oM
    have E:decide (0<b)=false:=bJ oM;clear p;refine mQ ?_;rintro _ ⟨nq,rfl⟩;go_wp2;go_roundg (gk -1);(case measure=>omega);case rel=>have:=m.o;exact⟨by congr 1;omega,oM,zH (aA e.o _)⟩
  .have q:decide ((l.length:Int) -gk<l.length)=false:=bJ oM
   go_wp2;go_ret;exact⟨by first|exact⟨_,rfl⟩|simp,e.o⟩
theorem Pz (S d:X4) (p:Nat) (e x:Int) (a:List Se) (a1 a2:X5) (c1 c2:Nat) (l m:List Sp) (w:World) (h:Dw w S p e x a) (D:a.length<=1000000000) (X:0<=e) (Y:e<=1000000) (M:∀I∈a,Word I.bX)
  (f:Sps w d a1 l) (i:Sps w d a2 m) (V:l.length<=1000000000) (W:m.length<=1000000000):
  Yk 55 #[pT p,.slice a1 l.length c1,.slice a2 m.length c2] w λr b=>(∃(n:Int) (z c9:Bool),r=.returned (.tuple #[uI n,bV z,bV c9])/\Word n)/\bW w b:=by
 obtain⟨q,s,J,b2⟩:=Bq (λb (j:bW w b)=>h.below j) (λb (j:bW w b)=>(show Sps b d a1 l from aD f j)) (λb (j:bW w b)=>(show Sps b d a2 m from aD i j)) M;clear h f i M;go_enter Tryz.func55,Tryz.ntmps55;go_wp2_with fail;refine(Ec d a1 c1 l w (s.o _ (aj _ _)) V).mono ?_;rintro r d6 ⟨⟨c5,rfl⟩,N⟩;have o:=zH N;clear N;cases c5 with
 |false=>
  go_wp2_with fail;go_ret3;exact⟨⟨0,_,_,rfl,⟨dC,dC⟩⟩,o.o⟩
 |true=>
  go_wp2_with fail;refine(Ec d a2 c2 m d6 (J.o _ o.o) W).mono ?_;rintro r d7 ⟨⟨c6,rfl⟩,O⟩;have t:=zH (o.o.trans (O.mono o.o.size));clear O o;cases c6 with
  |false=>
   go_wp2_with fail;go_ret3;exact⟨⟨0,_,_,rfl,⟨dC,dC⟩⟩,t.o⟩
  |true=>
   go_wp2_with fail;refine Yd (Yu S p e x a d7 (q.o _ t.o) D X Y) ?_;rintro b0 ⟨f3,Z⟩;have g:=zH (show bW w b0 by rw[Z];exact aA t.o _);clear Z t;go_wp2_with fail;refine Yd (Kv d a1 c1 l _ b0 (s.o _ g.o)) ?_;intro b rfl;generalize(decide (0<l.length)&&decide ((l.getD 0 ⟨0,0⟩).lo<max 0 ((a.length:Int) -e)))=c7;cases c7 with
   |true=>
    go_wp2_with fail;go_ret3;exact⟨⟨0,_,_,rfl,⟨dC,dC⟩⟩,g.o⟩
   |false=>
    go_upto_region 4 with fail;have b3:=zH (λb (j:bW w b)=>BI S p e x a b (q.o _ j) D);go_cut [42] (λd2 wx=>(∃B:Bool,d2=bV B)/\X3 (bW w wx));case first=>
     by_cases e3:l.length=0
     .have c4:decide (0<l.length)=false:=bJ oM
      refine mQ ?_;rintro _ ⟨nq,rfl⟩;go_wp2;go_meet;exact⟨⟨_,rfl⟩,zH (aA g.o _)⟩
     .have c4:decide (0<l.length)=true:=bM oM
      have c8:l.length -1<l.length:=oM;obtain⟨B,d0,rfl,U⟩:=Ia (s.o _ g.o) c8;obtain⟨⟨F,G⟩,-⟩:=U _ (aj _ _);clear U;have e2:(l.length:Int) -1=((l.length -1:Nat):Int):=oM;generalize l[l.length -1].hi=e4 at*
      refine bN kR kR ?_;(repeat (go_big_quiet_step ((go_at_call 132;exact aJ ((b3.o _ (aA g.o _)).mono λr b h=>⟨h.1,h.2.symm⟩)))));refine aK ?_;rintro _ ⟨nq,rfl⟩;go_wp2;go_meet;exact⟨⟨_,rfl⟩,zH (aA g.o _)⟩
    case rest=>
     obtain⟨⟨b8,rfl⟩,u⟩:=hcut;clear g;go_step;cases b8 with
     |true=>
      go_wp2_with fail;go_ret3;exact⟨⟨0,_,_,rfl,⟨dC,dC⟩⟩,u.o⟩
     |false=>
      go_wp2_with fail;refine Yd (Yu S p e x a wc (q.o _ u.o) D X Y) ?_;rintro d8 ⟨f4,a0⟩;have b1:=zH (show bW w d8 by rw[a0];exact aA u.o _);clear a0 u;obtain⟨E,T⟩:∃y:Nat,max 0 ((a.length:Int) -e)=y:=⟨(max 0 ((a.length:Int) -e)).toNat,oM⟩;have e7:E<=a.length:=oM;rw[T];have f8:(E:Int)<9223372036854775808:=oM;clear T;go_wp2;go_loopg [10,11,12] (a.length -E) (λy d3 d4 d5 wx=>∃(n:Int) (z:Bool),d3=uI n/\d4=bV z/\d5=jI ((a.length:Int) -y)/\Word n/\y<=a.length/\X3 (bW w wx));(case atStart=>exact⟨0,false,rfl,rfl,by congr 1;omega,⟨dC,dC⟩,oM,b1⟩);case round=>
       obtain⟨n,z,rfl,rfl,rfl,a3,e6,c⟩:=hrel;by_cases f0:0<gk
       .have K:decide ((a.length:Int) -gk<a.length)=true:=bM oM
        obtain⟨b6,c0,f,i,L⟩:=(q.o _ c.o).ex;have c3:=f.Wu 2;have b5:=zH i;clear f i L;go_upto_region 10 with fail;obtain⟨k,P⟩:=eX (a.length -gk);have C:(a.length:Int) -gk=(k:Int):=oM;have R:k<a.length:=oM;have Q:a.length -k=gk:=oM;obtain⟨B,d0,rfl,e5,F,G,a4,a5,a6,a7,a8,a9⟩:=Ses.at_ b5.o (aj _ _) R;have b4:=zH (b2.o _ (aN R));generalize a[k]=I at F G a4 a5 a6 a7 a8 a9 b4;obtain⟨A,f6,f2,e1,f5,d1,f7,b7⟩:=I;dsimp only at F G a4 a5 a6 a7 a8 a9;rw[C];obtain⟨v,e0,d9⟩:=Av P C Q;have f1:(k:Int)<a.length:=oM;clear P Q C K;go_wp2_with fail;have e9:=c.o.size;have e8:IntKind.i64.wrap ((k:Int)+1)=(k:Int)+1:=eP _ ⟨oM,oM⟩;refine(Cq d a1 c1 l A _ (s.o _ (bD c.o BEL)) V).mono ?_;rintro r b ⟨rfl,rfl⟩;generalize dI l A=H;cases H with
        |false=>
         go_wp2;go_roundg (gk -1);(case measure=>omega);case rel=>have:=v.o;exact⟨_,_,rfl,rfl,by congr 1;omega,a3,oM,zH (bD c.o BEL)⟩
        |true=>
         go_upto_if 69 with fail;generalize(b7==(4:Int))=b9;cases b9 with
         |true=>
          go_wp2_with fail;go_ret3;exact⟨⟨0,_,_,rfl,⟨dC,dC⟩⟩,bD c.o BEL⟩
         |false=>
          cases d1 with
          |false=>
           go_wp2;go_roundg (gk -1);(case measure=>omega);case rel=>have:=v.o;exact⟨_,_,rfl,rfl,by congr 1;omega,zq _ _ _,oM,zH (bD c.o BEL)⟩
          |true=>
           go_wp2_with fail;refine Yg (Cq d a2 c2 m A _ (J.o _ (bD c.o BEL)) W) ?_;generalize dI m A=H;cases H with
           |false=>
            go_wp2;go_roundg (gk -1);(case measure=>omega);case rel=>have:=v.o;exact⟨_,_,rfl,rfl,by congr 1;omega,zq _ _ _,oM,zH (bD c.o BEL)⟩
           |true=>
            go_wp2;go_roundg (gk -1);(case measure=>omega);case rel=>have:=v.o;exact⟨_,_,rfl,rfl,by congr 1;omega,zq _ _ _,oM,zH (bD c.o BEL)⟩
       .have K:decide ((a.length:Int) -gk<a.length)=false:=bJ oM
        obtain⟨b6,c0,f,i,L⟩:=(q.o _ c.o).ex;have c3:=f.Wu 2;clear f i;go_wp2_with fail;go_ret3;exact⟨⟨_,_,_,rfl,a3⟩,c.o⟩
theorem Ki (w:World) (c1:Array Value) (a:TypeId) (c2:Array Value) (b:TypeId) (c:Array Value) (d:TypeId):
  Blk (((w.alloc (.cells c1 a)).alloc (.cells c2 b)).alloc (.cells c d)) w.heap.size a c1/\Blk (((w.alloc (.cells c1 a)).alloc (.cells c2 b)).alloc (.cells c d)) (w.heap.size+1) b c2/\Blk (((w.alloc (.cells c1 a)).alloc (.cells c2 b)).alloc (.cells c d)) (w.heap.size+1+1) d c:=by
 obtain⟨f,g⟩:=sG w c1 a c2 b;have e:=Wx ((w.alloc (.cells c1 a)).alloc (.cells c2 b)) d c;have i:((w.alloc (.cells c1 a)).alloc (.cells c2 b)).heap.size=w.heap.size+1+1:=sM;rw[i]at e;exact⟨f.alloc _,g.alloc _,e⟩
theorem WW {g b:Nat} (d:b≠g):∀(e:List Value) (a:Nat) (c:World),(c.setCells g a e).heap[b]?=c.heap[b]?
 |[],_,_=>rfl
 |v::r,a,c=>(WW d r (a+1) _).trans (Below.heap_setCell c ⟨g,a,none⟩ v b d)
theorem Row.S9 {S:X4} {t t':TypeId} {size n g:Nat} {a:X5} {xs:List Value} (h:Row w S t size a n xs) (hb:Blk w g t' C) (p:t'≠t) (c:List Value) (o:Nat):Row (w.setCells g o c) S t size a n xs:=
 ⟨h.1,λm=>by
  obtain⟨d,q,e,i,f,j,b,l⟩:=h.2 m;refine⟨d,q,e,i,f,j,(WW (λk=>?_) c o w).trans b,l⟩;subst k;unfold Blk at hb;rw[hb]at b;cases b;exact p rfl⟩
structure AskI (W4 wx:World) (b8:Nat) (tr xo:Int):Prop where
 ex:∃a c,∃l:List Sp,Blk wx b8 92 #[.slice a l.length c,zzN,uI tr,uI xo,bV false]/\l.length<=2/\Sps wx (λk=>W4.heap.size<=k/\k<wx.heap.size) a l/\∀s∈l,Word s.lo/\Word s.hi
 lo:bW W4 wx
 b8:W4.heap.size<=b8
theorem SG (S:X4) (p:Nat) (u1:Value) (E b6:Int) (A:List Se) (x B j C D:Int) (w:World) (h:Dw w S p E b6 A) (e8:A.length<=1000000000) (f5:0<=E) (f6:E<=1000000) (e5:∀I∈A,Word I.bX)
  (t:Word x) (k7:0<=B/\B<65536) (k8:0<=j/\j<65536) (k9:0<=C/\C<65536) (l0:0<=D/\D<65536):
  Yk 54 #[.agg #[u1,pT p],.agg #[.int .u16 B,.int .u16 j,.int .u16 C,.int .u16 D],uI x] w λe4 y=>(∃(d9:X5) (i4:Nat) (a1:List Sp) (g6 g8:Int),e4=.returned (.agg #[.slice d9 a1.length i4,zzN,uI g6,uI g8,bV false])/\a1.length<=2/\Sps y (λo=>w.heap.size<=o/\o<y.heap.size) d9 a1/\(∀I∈a1,Word I.lo/\Word I.hi)/\Word g6/\Word g8)/\bW w y:=by
 obtain⟨d3,h2⟩:=yx (λy (b7:bW w y)=>h.below b7) e5;clear h e5;go_enter Tryz.func54,Tryz.ntmps54;go_wp2_with fail;obtain⟨v,q,R⟩:=Ki w #[u1,pT p] 80 #[.int .u16 B,.int .u16 j,.int .u16 C,.int .u16 D] 51 jK 92;have e6:bW w (((w.alloc (.cells #[u1,pT p] 80)).alloc (.cells #[.int .u16 B,.int .u16 j,.int .u16 C,.int .u16 D] 51)).alloc (.cells jK 92)):=BEL;generalize(World.alloc _ _)=i2 at*
 obtain⟨b3,b8⟩:=eX w.heap.size;obtain⟨H,b9⟩:=eX (b3+1);obtain⟨d,c0⟩:=eX (H+1);rw[<-b8]at v q R;rw[<-b9]at q R;rw[<-c0]at R;rw[<-b8,<-b9,<-c0];obtain⟨c7,h9,i0,i1⟩:=Bq e6 v q R;have e7:=And.intro (show w.heap.size<=b3 by omega) (And.intro (show b3<H by omega) (show H<d by omega));have a4:=zH e7;clear b8 b9 c0 e7 e6;have b4:=v.Wu 1;have b5:=q.Wu 0;clear v q R;have h3:=zH (λy (b7:bW w y)=>Yu S p E b6 A y (d3.o _ b7) e8 f5 f6);refine bN kR kR ?_;(repeat (go_big_quiet_step ((go_at_call 128;exact dn (h3.o _ (aA c7.o _))))));refine aK ?_;rintro _ ⟨nq,rfl⟩;obtain⟨k,d8,r,b2⟩:=Bq (aA c7.o nq) (h9.o.drewN nq) (i0.o.drewN nq) (i1.o.drewN nq);clear b4 b5;generalize i2.drewN nq=i3 at*
 have b5:=r.o.Wu 0
 iterate 3 (first|go_values|go_skip|go_guarded|go_step|go_upon|go_back|go_simp)
 have f0:Word (max 0 ((A.length:Int) -E)+B%12):=⟨oM,oM⟩;generalize max 0 ((A.length:Int) -E)+B%12=j2 at*
 have c9:=zH f0;clear f0;go_cut [7] (λj5 wx=>(∃e,j5=uI e/\Word e)/\wx=i3);case first=>
  go_upto_if 27 with fail;(all_goals generalize decide (3<j2)=c5);(all_goals cases c5);(all_goals go_wp2_with fail);(all_goals go_meet);all_goals first|exact⟨⟨_,rfl,c9.o⟩,rfl⟩|exact⟨⟨_,rfl,ny _⟩,rfl⟩
 case rest=>
  obtain⟨⟨e,rfl,g0⟩,rfl⟩:=hcut;have d7:=zH g0;have e1:=r.o.Wu 1;clear g0 b5 c9;(repeat ((fail_if_success (with_reducible (change Code.wp _ (Code.seq (Code.region 5 _ _) _) _ _ _)));first|go_values|go_skip|go_guarded|go_step|go_upon|go_back|go_simp));obtain⟨v,q⟩:=sG wc #[uI e,uI (IntKind.u64.wrap (e+j%9))] 272 #[.slice (some ⟨wc.heap.size,0,none⟩) 1 1,zzN,uI x,uI (x/128),bV false] 92;have X:bW wc ((wc.alloc (.cells #[uI e,uI (IntKind.u64.wrap (e+j%9))] 272)).alloc (.cells #[.slice (some ⟨wc.heap.size,0,none⟩) 1 1,zzN,uI x,uI (x/128),bV false] 92)):=BEL;have f7:((wc.alloc (.cells #[uI e,uI (IntKind.u64.wrap (e+j%9))] 272)).alloc (.cells #[.slice (some ⟨wc.heap.size,0,none⟩) 1 1,zzN,uI x,uI (x/128),bV false] 92)).heap.size=wc.heap.size+2:=sM;generalize i8:(World.alloc _ _)=F at*
  obtain⟨a3,d1,U⟩:=Av (show AskI wc F (wc.heap.size+1) x (x/128)from⟨⟨_,_,[⟨e,IntKind.u64.wrap (e+j%9)⟩],q,sM,(kQ v).mono (λo g=>by rw[g];omega),λI Q=>by rw[dZ.1 Q];exact⟨d7.o,ny _⟩⟩,X,Nat.le_succ _⟩) (show OwnAt F (λo=>o=wc.heap.size) 272 2 (some ⟨wc.heap.size,0,none⟩) 1 1 ([(⟨e,IntKind.u64.wrap (e+j%9)⟩:Sp)].flatMap spV)from v.own rfl rfl dC) q;clear i8 v q e1;obtain⟨s,Y⟩:=eX (wc.heap.size+1);rw[<-Y]at a3 U;rw[<-Y];have i5:F.cell? ⟨H,2,none⟩=some (.int .u16 C):=(r.o.below X r.o.lt).cell 2;obtain⟨T,d4,c8⟩:=Av X f7 Y;clear X f7 Y;go_cut [] (λwx=>X3 (AskI wc wx s x (x/128)));case first=>
   go_upto_if 46 with fail;generalize decide (0<C%3)=j3;cases j3 with
   |false=>
    go_wp2;go_meet;exact a3
   |true=>
    have e1:F.cell? ⟨H,1,none⟩=some (.int .u16 j):=(r.o.below T.o r.o.lt).cell 1;have j9:=U.o.Wu 0;have j1:=T.o.size;go_wp2_with (at_builtin;refine iP.jO rfl (.tmp 60) (.tmp 69) rfl (some ⟨wc.heap.size,0,none⟩) 1 [⟨e,IntKind.u64.wrap (e+j%9)⟩] (by rfl) (d1.o.below BEL) (some ⟨F.heap.size,0,none⟩) 1 [⟨_,_⟩] (by rfl) (kQ (Wx _ _ _)) sM dC ?_;intro c6 e3 l1 f4 c3 j0;have a0:=(U.o.alloc _).mod c3 dC;obtain⟨k0,k1⟩:=a0.cz 0;have k2:=a0.lt;have d5:=zH a0;have d2:=zH f4;have h4:=zH c3;clear f4 c3 j0 a0);go_meet;have k4:=c8.o;have k3:=d4.o;have i9:=d2.o.far (i:=0) (u:=.slice c6 2 e3) (d2.o.pI d5.o dC);exact zH ⟨⟨c6,e3,_,d5.o.bF 0 _,sM,(Row.lt_ i9.row).mono (λo g=>⟨by rcases g.1 with h|h;exact Nat.le_of_eq h.symm;exact(by have i7:=h.1;simp only[World.size_alloc]at i7;omega),g.2⟩),λI Q=>by
     rcases bT.1 Q with rfl|Q
     .exact⟨d7.o,ny _⟩
     .rw[dZ.1 Q];exact⟨ny _,ny _⟩⟩,bG (bD (T.o.trans (show Below wc.heap.size F _ from BEL)) (h4.o.cZ sO (λo g h=>by omega))) (show wc.heap.size<=s by omega) _,oM⟩
  case rest=>
   have n:=hcut;clear a3 T U d1 d4 i5 c8;obtain⟨c4,k5⟩:=And.intro n.o.lo n.o.b8;obtain⟨h8,b0⟩:=yx (d8.o.below c4 d8.o.lt) (r.o.below c4 r.o.lt);have b4:=h8.o.cell 1;have e2:=b0.o.cell 3;have g9:=zH (k.o.trans (n.o.lo.mono k.o.size));clear c4;go_step;go_wp2_with fail;refine(Ni S p E b6 A _ wc (d3.o _ g9.o) e8 f5 f6 (ny _) h2.o).mono ?_;rintro e4 a2 ⟨⟨j6,j4,rfl,f3⟩,Z⟩;obtain⟨g2,g5,g1,m,g4,g3,g7,e0⟩:=j6;obtain⟨h6,d6⟩:=yx f3 Z;have j1:=Z.size;have b1:=zH (b0.o.below Z b0.o.lt);have i6:=b1.o.cell 3;clear b4 e2 Z f3;dsimp only;go_upto_region 9 with fail;obtain⟨G,V⟩:=eX (a2.alloc (.cells #[uI g2,uI g5,uI g1,uI m,uI g4,bV g3,bV g7,jI e0] 177));rw[<-V];(have c2:bW a2 G:=by rw[V];exact BEL);(have f1:Blk G a2.heap.size 177 #[uI g2,uI g5,uI g1,uI m,uI g4,bV g3,bV g7,jI e0]:=by rw[V];exact Wx _ _ _);have P:=d6.o.trans (c2.mono d6.o.size);obtain⟨a,c,b,c1,e9,f8,f9⟩:=n.o.ex;obtain⟨J,z,a8,a9,a7,a5⟩:=Fy (c1.below P c1.lt) (b2.o.below (n.o.lo.trans (P.mono n.o.lo.size)) b2.o.lt) (show Sps G _ a b from aD f8 P) f9 e9 (n.o.lo.trans (P.mono n.o.lo.size));have d0:=zH f1;(have f2:¬(d=s):=by have:=n.o.b8;have:=b2.o.lt;omega);have h5:=zH f2;have e2:G.cell? ⟨H,3,none⟩=some (.int .u16 D):=(b1.o.below c2 b1.o.lt).cell 3;obtain⟨j8,W⟩:=eX a2.heap.size;rw[<-W]at d0;rw[<-W];have j7:=zH W;clear i6 c1 f8 f9 e9 c2 f1 P V f2 W;cases j4 with
   |false=>
    repeat ((fail_if_success (with_reducible apply eG));first|(refine kP 92 (.tmp 8) rfl rfl (some 94) rfl s kR #[.slice a b.length c,zzN,uI x,uI (x/128),bV false] J.o _ Tryz.underlying92 kR kR ?_)|(refine iG 92 (.tmp 6) (.tmp 94) rfl rfl rfl d 0 #[.slice a b.length c,zzN,uI x,uI (x/128),bV false] kR kR (z.o.there _ sM) kR XF ?_;intro l f;have M:=zH (show Blk l d 92 #[.slice a b.length c,zzN,uI x,uI (x/128),bV false] by rw[f];exact Blk.gF z.o [.slice a b.length c,zzN,uI x,uI (x/128),bV false] rfl);have K:=zH (show Below d G l by rw[f];exact Below.bZ (av _) _ _ _ (aj _ _));have L:=zH (show Sps l _ a b by rw[f];exact Row.S9 (t':=92) a8.o z.o dC _ _);clear f)|go_values|go_skip|go_guarded|go_step|go_upon|go_back|go_simp)
    (try simp only[Exit.inBlock,Exit.then])
    refine iZ 6 92 d #[.slice a b.length c,zzN,uI x,uI (x/128),bV false] kR kR M.o _ Tryz.underlying92 kR kR rfl ?_;exact⟨⟨a,c,b,x,_,rfl,a7.o,(Row.lt_ L.o).mono (λo g=>⟨ay k.o.size g.1.1,g.2⟩),a9.o,t,⟨by have:=t.1;omega,by have:=t.2;omega⟩⟩,(k.o.trans (a5.o.mono k.o.size)).trans (K.o.mono (by have:=a4.o;omega))⟩
   |true=>
    go_upto_if 90 with fail;generalize decide (0<D%7)=c5;cases c5 with
    |false=>
     repeat ((fail_if_success (with_reducible apply eG));first|(refine kP 92 (.tmp 8) rfl rfl (some 94) rfl s kR #[.slice a b.length c,zzN,uI x,uI (x/128),bV false] J.o _ Tryz.underlying92 kR kR ?_)|(refine iG 92 (.tmp 6) (.tmp 94) rfl rfl rfl d 0 #[.slice a b.length c,zzN,uI x,uI (x/128),bV false] kR kR (z.o.there _ sM) kR XF ?_;intro l f;have M:=zH (show Blk l d 92 #[.slice a b.length c,zzN,uI x,uI (x/128),bV false] by rw[f];exact Blk.gF z.o [.slice a b.length c,zzN,uI x,uI (x/128),bV false] rfl);have K:=zH (show Below d G l by rw[f];exact Below.bZ (av _) _ _ _ (aj _ _));have L:=zH (show Sps l _ a b by rw[f];exact Row.S9 (t':=92) a8.o z.o dC _ _);clear f)|go_values|go_skip|go_guarded|go_step|go_upon|go_back|go_simp)
     (try simp only[Exit.inBlock,Exit.then])
     refine iZ 6 92 d #[.slice a b.length c,zzN,uI x,uI (x/128),bV false] kR kR M.o _ Tryz.underlying92 kR kR rfl ?_;exact⟨⟨a,c,b,x,_,rfl,a7.o,(Row.lt_ L.o).mono (λo g=>⟨ay k.o.size g.1.1,g.2⟩),a9.o,t,⟨by have:=t.1;omega,by have:=t.2;omega⟩⟩,(k.o.trans (a5.o.mono k.o.size)).trans (K.o.mono (by have:=a4.o;omega))⟩
    |true=>
     have k6:=d0.o.Wu 3;repeat ((fail_if_success (with_reducible apply eG));first|(refine qR 30 (.tmp 93) (.tmp 92) rfl rfl rfl s 2 (uI m) kR kR rfl kR J.o sM ?_;intro N O;have h1:=zH (show Blk N s 92 #[.slice a b.length c,zzN,uI m,uI (x/128),bV false] by rw[O];exact J.o.bF 2 _);have a6:=zH (show Blk N d 92 jK by rw[O];exact z.o.far h5.o _);have h7:=zH (show Sps N _ a b by rw[O];exact Row.S9 (t':=92) a8.o J.o dC [uI m] 2);have h0:=zH (show Below _ _ N by rw[O];exact bG a5.o n.o.b8 _);clear O)|(refine kP 92 (.tmp 8) rfl rfl (some 94) rfl s kR #[.slice a b.length c,zzN,uI m,uI (x/128),bV false] h1.o _ Tryz.underlying92 kR kR ?_)|(refine iG 92 (.tmp 6) (.tmp 94) rfl rfl rfl d 0 #[.slice a b.length c,zzN,uI m,uI (x/128),bV false] kR kR (a6.o.there _ sM) kR XF ?_;intro l f;have M:=zH (show Blk l d 92 #[.slice a b.length c,zzN,uI m,uI (x/128),bV false] by rw[f];exact Blk.gF a6.o [.slice a b.length c,zzN,uI m,uI (x/128),bV false] rfl);have K:=zH (show Below d N l by rw[f];exact Below.bZ (av _) _ _ _ (aj _ _));have L:=zH (show Sps l _ a b by rw[f];exact Row.S9 (t':=92) h7.o a6.o dC _ _);clear f)|go_values|go_skip|go_guarded|go_step|go_upon|go_back|go_simp)
     (try simp only[Exit.inBlock,Exit.then])
     refine iZ 6 92 d #[.slice a b.length c,zzN,uI m,uI (x/128),bV false] kR kR M.o _ Tryz.underlying92 kR kR rfl ?_;exact⟨⟨a,c,b,m,_,rfl,a7.o,(Row.lt_ L.o).mono (λo g=>⟨ay k.o.size g.1.1,g.2⟩),a9.o,h6.o,⟨by have:=t.1;omega,by have:=t.2;omega⟩⟩,(k.o.trans (h0.o.mono k.o.size)).trans (K.o.mono (by have:=a4.o;omega))⟩
structure Sh where
 kind:Int
 a:Option Addr
 c:Nat
 b:List Int
 (k0 k1 k2 k3 x:Int)
 right:Bool
 wait:Int
def shV (s:Sh):List Value:=[jI s.kind,.slice s.a s.b.length s.c,.int .u16 s.k0,.int .u16 s.k1,.int .u16 s.k2,.int .u16 s.k3,uI s.x,bV s.right,.int .u16 s.wait]
def U16 (k:Int):Prop:=0<=k/\k<65536
structure zW (w:World) (S:X4) (s:Sh):Prop where
 ex:∃tb,Byt tb w S s.a s.b
 cap:s.b.length<=s.c
 by_:dP s.b
 k0:U16 s.k0
 k1:U16 s.k1
 k2:U16 s.k2
 k3:U16 s.k3
 x:Word s.x
 wait:U16 s.wait
 kind: -9223372036854775808<=s.kind/\s.kind<9223372036854775808
theorem zW.below {S:X4} {s:Sh} (h:zW w S s) (hb:bW w w'):zW w' S s:=
 {h with ex:=by obtain⟨b,a⟩:=h.ex;exact⟨b,aD a hb⟩}
structure FrAt (w w':World) (S:X4) (a:X5) (c:Nat) (b:List Int):Prop where
 ex:∃tb,Byt tb w' (λk=>S k\/w.heap.size<=k/\k<w'.heap.size) a b
 cap:b.length<=c
 by_:dP b
 len:b.length<=4000
theorem Rc {tb:TypeId} {S:X4} {a:X5} (h:Byt tb w S a l) (f:n<=l.length):Byt tb w S (fE a c 0 1) (l.take n):=by
 (have e:(l.take n).length=n:=by rw[aT];omega);have g:=Row.take h (k:=n) f;have d:=g.drop (k:=0) oM (a':=fE a c 0 1) (λ_ i j b=>by
  subst b;unfold fE;split
  .simp
  .simp[Go.WideShapes.add_plain])
 unfold Byt;rw[e,pQ fe.len];simpa using d
theorem ER (S f4:X4) (p:Nat) (u1:Value) (a7 d2:Int) (Z:List Se) (s:Sh) (w:World) (h:Dw w S p a7 d2 Z) (g3:Z.length<=1000000000) (g6:0<=a7) (g7:a7<=1000000) (f8:∀s∈Z,Word s.bX) (z:zW w f4 s):
  Yk 21 #[.agg (shV s).toArray,.agg #[u1,pT p]] w λG U=>∃f5 f7 f6,G=.returned (.slice f5 f6.length f7)/\FrAt w U f4 f5 f7 f6/\bW w U:=by
 obtain⟨e4,e3⟩:=yx (λU (l6:bW w U)=>h.below l6) f8;obtain⟨R,k,g,b,A,B,C,D,d,right,V⟩:=s;obtain⟨⟨m3,g8⟩,g1,g0,m4,m5,m6,m7,h2,n2,m9⟩:=z;dsimp only[shV]at*
 obtain⟨j0,i1⟩:=yx g8 g0;clear h f8 g8 g0;go_enter Tryz.func21,Tryz.ntmps21;go_upto_if 12 with fail;generalize((_:Int)==0)=m1;cases m1 with
 |true=>
  obtain⟨n4,g2,l8,h3,l9⟩:=info_parts lF;have n1:min (b.length:Int) 300=((min b.length 300:Nat):Int):=oM;have d6:min b.length 300<=b.length:=oM;have g5:min b.length 300<=300:=oM;generalize min b.length 300=T at*
  have hcut:∀w,(Instr.slice 47 (.slice k b.length g) none (some (jI (T:Int))) none).run prog w=.ok (.slice (fE k g 0 1) T g) w:=λw=>by
   have h:=tY (P:=prog) fe.ht g2 k b.length g T oM w;rw[h3]at h;exact h
  obtain⟨i0,c6⟩:=yx (Rc (c:=g) j0.o d6) (And.intro d6 (And.intro g5 g1));generalize fE k g 0 1=j9 at*
  clear g2 l8 h3 l9 d6 g5 g1;go_wp2;go_ret;(have m:(b.take T).length=T:=by rw[aT];have:=c6.o;omega);exact⟨j9,g,b.take T,(by rw[m];exact rfl),⟨⟨m3,aF (aD i0.o BEL) (λQ a=>.inl a)⟩,by rw[m];have:=c6.o;omega,λW c1=>i1.o W (bf c1),by rw[m];have:=c6.o;omega⟩,BEL⟩
 |false=>
  obtain⟨c2,a6⟩:=sG w #[jI R,.slice k b.length g,.int .u16 A,.int .u16 B,.int .u16 C,.int .u16 D,uI d,bV right,.int .u16 V] 53 #[u1,pT p] 80;have f9:bW w ((w.alloc (.cells #[jI R,.slice k b.length g,.int .u16 A,.int .u16 B,.int .u16 C,.int .u16 D,uI d,bV right,.int .u16 V] 53)).alloc (.cells #[u1,pT p] 80)):=BEL;go_upto_region 3 with fail;generalize(World.alloc _ _)=j7 at*
  obtain⟨F,b7⟩:=eX w.heap.size;obtain⟨b4,b8⟩:=eX (F+1);rw[<-b7]at c2 a6;rw[<-b8]at a6;rw[<-b7,<-b8];obtain⟨e9,f2,c4,i4⟩:=Bq c2 a6 f9 (And.intro b7 b8);obtain⟨k0,-,k1,-,k2,-,k3,-,k4,-,k5,-,k6,-,k7,-,k8,-⟩:=c2.c9;obtain⟨k9,-,l0,-⟩:=a6.c2;clear c2 a6 f9 b7 b8;go_wp2_with fail;refine(SG S p u1 a7 d2 Z _ A B C D j7 (e4.o _ c4.o) g3 g6 g7 e3.o (zq _ _ _) m4 m5 m6 m7).mono ?_;rintro G a8 ⟨⟨e,l,f,v,h9,rfl,n0,g9,h0,d9,n3⟩,b9⟩;obtain⟨e1,i6,c8,f0,d1⟩:=BF b9 g9 h0 (e9.o.below b9 e9.o.lt) (f2.o.below b9 f2.o.lt);clear b9 g9 h0 k0 k1 k2 k3 k4 k5 k6 k7 k8 k9 l0;go_upto_region 4 with fail;obtain⟨o,b5⟩:=eX (a8.alloc (.cells #[.slice e f.length l,zzN,uI v,uI h9,bV false] 92));rw[<-b5];(have a4:bW a8 o:=by rw[b5];exact BEL);(have d7:Blk o a8.heap.size 92 #[.slice e f.length l,zzN,uI v,uI h9,bV false]:=by rw[b5];exact Wx _ _ _);have g4:b4<a8.heap.size:=d1.o.lt;have l4:=i4.o;obtain⟨i,d5⟩:=eX a8.heap.size;rw[<-d5]at d7 g4;rw[<-d5];have h4:F≠i:=oM;have f1:=zH h4;have h5:b4≠i:=oM;have f3:=zH h5;have h1:w.heap.size<=i:=oM;obtain⟨e6,e7,e8,i7,e2,b0⟩:=Fy (f0.o.below a4 f0.o.lt) (d1.o.below a4 d1.o.lt) d7 (show Sps o _ e f from aD i6.o a4) (c4.o.trans ((e1.o.trans (a4.mono e1.o.size)).mono c4.o.size)) h1;clear b5 a4 d7 g4 l4 d5 h4 h5 h1;have O:bW o o.drew:=bA (aj _ _);have j:Blk o.drew F 53 #[jI R,.slice k b.length g,.int .u16 A,.int .u16 B,.int .u16 C,.int .u16 D,uI d,bV right,.int .u16 V]:=e6.o.below O e6.o.lt;refine aZ (S:=λU=>Blk U F 53 #[jI R,.slice k b.length g,.int .u16 A,.int .u16 B,.int .u16 C,.int .u16 D,uI d,bV right,.int .u16 V]) kR j (λl5=>?_);clear l5;obtain⟨c9,j3,i8,i2⟩:=Bq (e8.o.below O e8.o.lt) (e7.o.below O e7.o.lt) (show Sps o.drew _ e f from aD i7.o O) (e2.o.trans (O.mono e2.o.size));clear O;generalize o.drew=m8 at*
  refine tK 0 27 j ?_;refine X6 1 28 j ?_ (y:=by intro w d4;have m2:=d4.cell 6;exact gS);refine tK 2 29 j ?_;refine X6 3 30 j ?_ (y:=by intro w d4;have m2:=d4.cell 6;exact gS);refine tK 4 31 j ?_;refine tK 5 32 j ?_;refine tK 6 33 j ?_;refine nrm 10 127 ?_;refine aI 7 kR ?_;refine fF (op:=_) rfl kR kR 30 (.tmp 33) (.tmp 28) kR i 3 (uI d) kR kR rfl kR c9.o sM ?_;intro a0 M;(have c0:Blk a0 F 53 #[jI R,.slice k b.length g,.int .u16 A,.int .u16 B,.int .u16 C,.int .u16 D,uI d,bV right,.int .u16 V]:=by rw[M];exact j.far f1.o _);obtain⟨d0,j4,i9,i3⟩:=Bq (show Blk a0 i 92 #[.slice e f.length l,zzN,uI v,uI d,bV false] by rw[M];exact c9.o.bF 3 _) (show Blk a0 b4 80 #[u1,pT p] by rw[M];exact j3.o.far f3.o _) (show Sps a0 _ e f by rw[M];exact Row.S9 (t':=92) i8.o c9.o dC [uI d] 3) (show bW w a0 by rw[M];exact bG i2.o b0.o _);clear M;refine⟨c0,?_⟩;refine Yf 8 34 c0 ?_;refine nrm 10 511 ?_;refine aI 9 kR ?_;refine fF (op:=_) rfl kR kR 4 (.tmp 34) (.tmp 32) kR i 4 (bV (bits .and .u64 d 1==1)) kR kR rfl kR d0.o sM ?_;intro x N;(have d8:Blk x F 53 #[jI R,.slice k b.length g,.int .u16 A,.int .u16 B,.int .u16 C,.int .u16 D,uI d,bV right,.int .u16 V]:=by rw[N];exact c0.far f1.o _);obtain⟨b2,j5,c7,E⟩:=Bq (show Blk x i 92 #[.slice e f.length l,zzN,uI v,uI d,bV (bits .and .u64 d 1==1)] by rw[N];exact d0.o.bF 4 _) (show Blk x b4 80 #[u1,pT p] by rw[N];exact j4.o.far f3.o _) (show Sps x _ e f by rw[N];exact Row.S9 (t':=92) i9.o d0.o dC [bV (bits .and .u64 d 1==1)] 4) (show bW w x by rw[N];exact bG i3.o b0.o _);clear N;refine⟨d8,?_⟩;refine mP ?_;refine bg kR ?_ _;have j1:=zH d8;clear j c0 d8;generalize(bits .and .u64 d 1==1)=h6 at*
  have j8:=j1.o.Wu 7;cases right with
  |false=>
   obtain⟨H,-,I,-,J,-,K,-,L,-⟩:=b2.o.c5;go_wp2_with fail;refine(ve _ e none l 0 f [] v d h6 x (Row.lt_ c7.o) Row.WH (λQ a=>a.2) oM dC c8.o (λs z=>by cases z) d9 h2).mono ?_;rintro G h8 ⟨h7,rfl,t,q⟩;obtain⟨a1,a2,a5,rfl,u,r,m⟩:=t.ex;obtain⟨n,Y,X⟩:=Av u r q;clear t u r q;go_wp2;go_ret;exact⟨a1,a2,a5,rfl,⟨⟨5,(Row.lt_ n.o.row).mono (λQ a=>.inr ⟨ay E.o.size a.1,a.2⟩)⟩,n.o.cap_,Y.o,m⟩,E.o.trans (X.o.mono E.o.size)⟩
  |true=>
   have l3:=j5.o.Wu 1;obtain⟨H,-,I,-,J,-,K,-,L,-⟩:=b2.o.c5;go_wp2_with fail;refine(Pz S _ p a7 d2 Z e none l 0 f [] x (e4.o _ E.o) g3 g6 g7 e3.o c7.o Row.WH oM dC).mono ?_;rintro G e0 ⟨⟨W,c3,m0,rfl,c1⟩,b6⟩;obtain⟨j2,b1,e5,a9⟩:=Bq c1 (b2.o.below b6 b2.o.lt) (show Sps e0 _ e f from aD c7.o b6) (E.o.trans (b6.mono E.o.size));clear c1 b6 H I J K L l3 j8;cases m0 with
   |false=>
    obtain⟨H,-,I,-,J,-,K,-,L,-⟩:=b1.o.c5;go_wp2_with fail;refine(ve _ e none l 0 f [] v d h6 e0 (Row.lt_ e5.o) Row.WH (λQ a=>a.2) oM dC c8.o (λs z=>by cases z) d9 h2).mono ?_;rintro G h8 ⟨h7,rfl,t,q⟩;obtain⟨a1,a2,a5,rfl,u,r,m⟩:=t.ex;obtain⟨n,Y,X⟩:=Av u r q;clear t u r q;go_wp2;go_ret;exact⟨a1,a2,a5,rfl,⟨⟨5,(Row.lt_ n.o.row).mono (λQ a=>.inr ⟨ay a9.o.size a.1,a.2⟩)⟩,n.o.cap_,Y.o,m⟩,a9.o.trans (X.o.mono a9.o.size)⟩
   |true=>
    have d3:=b1.o;obtain⟨H,-,I,-,J,-,K,l1,L,l2⟩:=d3.c5;have l7:=d3.lt;clear d3;go_upto_region 9 with fail;obtain⟨b3,a3⟩:=eX ((e0.setCell ⟨i,3,none⟩ (uI W)).setCell ⟨i,4,none⟩ (bV c3));rw[<-a3];obtain⟨j6,i5,c5⟩:=Av (show Blk b3 i 92 #[.slice e f.length l,zzN,uI v,uI W,bV c3] by rw[a3];exact(b1.o.bF 3 _).bF 4 _) (show Sps b3 _ e f by rw[a3];exact Row.S9 (t':=92) e5.o b1.o dC [uI W,bV c3] 3) (show bW w b3 by rw[a3];exact bG (bG a9.o b0.o _) b0.o _);clear a3 H I J K l1 L l2 l7;obtain⟨H,-,I,-,J,-,K,-,L,-⟩:=j6.o.c5;go_wp2_with fail;refine(ve _ e none l 0 f [] v W c3 b3 (Row.lt_ i5.o) Row.WH (λQ a=>a.2) oM dC c8.o (λs z=>by cases z) d9 j2.o).mono ?_;rintro G h8 ⟨h7,rfl,t,q⟩;obtain⟨a1,a2,a5,rfl,u,r,m⟩:=t.ex;obtain⟨n,Y,X⟩:=Av u r q;clear t u r q;go_wp2;go_ret;exact⟨a1,a2,a5,rfl,⟨⟨5,(Row.lt_ n.o.row).mono (λQ a=>.inr ⟨ay c5.o.size a.1,a.2⟩)⟩,n.o.cap_,Y.o,m⟩,c5.o.trans (X.o.mono c5.o.size)⟩
def nJ (f:Nat->Int) (m j:Nat):List Int:=(List.range m).map λa=>if a<j then f a else 0
theorem wL (f:Nat->Int) (m j:Nat):(nJ f m j).length=m:=by simp[nJ]
theorem Sl (f:Nat->Int) (m:Nat):nJ f m 0=List.replicate m 0:=by
 apply List.ext_getElem
 .simp[nJ]
 .intro c a b;simp[nJ]
theorem NY (f:Nat->Int) (m j:Nat):(nJ f m j).set j (f j)=nJ f m (j+1):=by
 apply List.ext_getElem
 .simp[nJ]
 .intro b c d
  simp only[nJ,List.getElem_set,List.getElem_map,List.getElem_range];by_cases h:j=b
  .subst h;simp
  .rw[Ww h]
   by_cases a:b<j
   .rw[aB a,aB oM]
   .rw[Ww a,Ww oM]
theorem QK {f:Nat->Int} (b:∀a,0<=f a/\f a<256) (m j:Nat):dP (nJ f m j):=λd c=>by
 obtain⟨a,-,rfl⟩:=List.mem_map.1 c;split
 .exact b a
 .exact⟨dC,dC⟩
structure Fil (w0 wr:World) (f:Nat->Int) (m j:Nat):Prop where
 own:OwnAt wr (λk=>w0.heap.size<=k/\k<wr.heap.size) 5 1 (some ⟨w0.heap.size,0,none⟩) m m ((nJ f m j).flatMap byV)
 lo:bW w0 wr
theorem Fil.new (f:Nat->Int) (m:Nat) (h:W.ownsRow w'.heap.size 5 1 (.slice (some ⟨w'.heap.size,0,none⟩) m m) m (madeCells (Value.cells (.int .u8 0)) (m*1)).toList) (a:w'.grownBy W none):Fil w' W f m 0:=by
 refine⟨OwnAt.fresh ?_,(aj _ _).grown a (av _) (λb a=>by cases a)⟩;rw[Sl,vT,List.map_replicate];rw[pJ (.int .u8 0) rfl]at h;exact h
theorem Fil.put {a wr:World} {f:Nat->Int} {m j:Nat} (h:Fil a wr f m j) (s:j<m):(∃o,wr.cell? ⟨a.heap.size,j,none⟩=some o)/\wr.frozen? ⟨a.heap.size,j,none⟩=false/\a.heap.size<wr.heap.size/\Fil a (wr.setCell ⟨a.heap.size,j,none⟩ (.int .u8 (f j))) f m (j+1):=by
 (have t:((nJ f m j).flatMap byV).length=m:=by rw[vT,bR,wL]);obtain⟨q,p,b,r,c,k,n⟩:=h.own.bF (i:=j) oM;injection b with b;injection b with b;subst b;refine⟨?_,c.frozen _,c.lt,⟨?_,h.lo.setCell (av _) _⟩⟩
 .have g:=k j _ (aL oM)
  rw[c.cell];exact⟨_,g⟩
 .have d:=n (.int .u8 (f j))
  have e:((nJ f m j).flatMap byV).set j (.int .u8 (f j))=(nJ f m (j+1)).flatMap byV:=by
   rw[vT,vT,<-NY,List.map_set]
  rw[e]at d;exact d.mono (λu l=>by simpa[World.setCell]using l)
end Go.Proofs.YtiflndepmgnojaaGreat
