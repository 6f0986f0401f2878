import Derived.Test.YtiflndepmgnojaaGreatLok
namespace Go.Proofs.YtiflndepmgnojaaGreat
open Go.RowKit
set_option linter.unusedSimpArgs false
set_option linter.unusedVariables false
set_option maxRecDepth 100000
theorem zL {x n:Int} (h:Word x):Word (yP x n):=by
 unfold yP;split
 ·exact⟨dC,dC⟩
 ·split
  ·exact h
  ·have a:(0:Int)<2^n.toNat:=Int.pow_pos dC
   have b:=iQ x (Int.ne_of_gt a);have c:x%2^n.toNat<=x:=by
    have:=Int.emod_add_ediv_mul x (2^n.toNat);have d:0<=x/2^n.toNat*2^n.toNat:=dK (Int.ediv_nonneg h.1 (Int.le_of_lt a)) (Int.le_of_lt a);omega
   exact⟨b,by have:=h.2;omega⟩
theorem R3 (k:Nat):mixN k<18446744073709551616:=by
 have e:∀(c a:Nat),a<2^64->xsN c a<2^64:=λc a h=>Nat.xor_lt_two_pow h (Nat.lt_of_le_of_lt (by rw[Nat.shiftRight_eq_div_pow];exact Nat.div_le_self _ _) h);have d:∀(b a:Nat),mulN b a<2^64:=λb a=>Nat.mod_lt _ dC;unfold mixN;exact e _ _ (d _ _)
theorem pG {l:List Int} (h:rG l) (k:Nat):Word (Ai l k):=by
 unfold Ai;split
 ·next hk=>rw[getD_at hk];exact h _ (aN hk)
 ·exact⟨Int.natCast_nonneg _,by have:=R3 k;omega⟩
theorem rP (l:Le) (s:Se):(gG l s).led.ring=l.ring/\(gG l s).led.dO=l.dO:=by
 unfold gG;split
 ·exact⟨rfl,rfl⟩
 ·split<;>exact⟨rfl,rfl⟩
theorem Cj {l:Le} {s:Se} {m:Int} (h:∀a∈l.kept,a.len<=m) (d:s.len<=m):∀a∈(gG l s).led.kept,a.len<=m:=by
 have c:∀a∈l.kept++[{s with pn:=l.next}],a.len<=m:=λa b=>by
  rcases WB.1 b with b|b
  ·exact h a b
  ·obtain rfl:a=_:=by simpa using b
   exact d
 unfold gG;split
 ·exact h
 ·split
  ·exact h
  ·simp only
   split
   ·exact λa b=>c a (dW b)
   ·exact c
theorem Je (l:Le) (s:Se):(jG l s).led.ring=l.ring/\(jG l s).led.dO=l.dO:=by
 unfold jG;split
 ·exact⟨rfl,rfl⟩
 ·exact rP _ _
theorem KP {l:Le} {s:Se} {m:Int} (h:∀a∈l.kept,a.len<=m) (b:s.len<=m):∀a∈(jG l s).led.kept,a.len<=m:=by
 unfold jG;split
 ·exact h
 ·exact Cj h b
theorem zk (k:Nat) {e:En} (h:dG k e) (n:Nat) (a:e.words.fI+n<=3*(k+1)):dG (k+1) {e with words:=⟨e.words.l,e.words.fI+n⟩}:=
 {h.mono (Nat.le_succ k)with wt:=a}
theorem zh (e:En):(eH e).c=e.c/\(eH e).dH=e.dH/\(eH e).now=e.now/\(eH e).words.l=e.words.l/\(eH e).words.fI=e.words.fI+1:=by
 unfold eH;split<;>exact⟨rfl,rfl,rfl,rfl,rfl⟩
theorem wM {k:Nat} {e:En} (h:dG k e):dG (k+1) (eH e):=by
 have a:dG (k+1) (WG e):=zk k h 1 (by have:=h.wt;omega);unfold eH;split
 ·have b:=rP e.led {seZ with aS:=4}
  exact{a with
   le:=NN h.le
   lr:=b.1.trans h.lr
   ll:=b.2.trans h.ll
   lm:=Cj h.lm (by have:=h.cf.Gj;show(0:Int)<=e.c.mss;omega)}
 ·exact a
theorem Oe {k:Nat} {e:En} {p:Pi} (h:dG k e) (g:iY e.dH e.c.mss=some p):dG (k+1) (jH e p).en:=by
 obtain⟨d,m,n,f,o,q⟩:=nD h.qu g;obtain⟨i,j,s,t,l⟩:=zh e;have a:=wM h;have b:=Iu (eH e).dH p.off p.body.length;have r:=h.qu.base0;have c:=Je (eH e).led ⟨0,p.off,p.body.length,yP (jg (eH e)) (eH e).c.bits,(eH e).now,zn (jg (WG (eH e))),false,0⟩;unfold jH wN;exact{a with
  wt:=by show(eH e).words.fI+1+1<=_;rw[l];have:=h.wt;omega
  le:=EF a.le _ (by show 0<=p.off;omega) (zL (pG a.wok _)) a.now
  lr:=c.1.trans a.lr
  ll:=c.2.trans a.ll
  lm:=KP a.lm (by show(p.body.length:Int)<=(eH e).c.mss;rw[i];exact f)
  qu:=Nq a.qu _ _ (by rw[j];exact d)
  qr:=b.1.trans a.qr
  qb:=by show dP (ng (eH e).dH _ _).b;rw[b.2];exact a.qb
  pr:=Nv a.pr a.now}
theorem Lf {k:Nat} {e:En} (h:dG k e):dG (k+1) (WQ e).en:=by
 have a:=h.mono (Nat.le_succ k);unfold WQ;split
 (·exact a);split
 ·have b:=h.Ho;have c:=h.DK;have d:=h.ni
  exact{a with Ho:=by simp only;omega,DK:=by simp only;omega,rO:=by simp only;omega,ni:=by simp only;omega}
 split
 ·exact a
 next p hp=>
 split
 (·exact a);split
 (·exact{a with st0:=(by decide:(1:Int)<=3),st1:=(by decide:(3:Int)<=4)});split
 (·exact a);split
 ·next ho=>
  obtain⟨b,c,d,g,i,j⟩:=nD h.qu hp;have f:Word (p.body.length:Int):=⟨oM,by have:=h.cf.Ca;omega⟩;have l:(WR e.fM e.c.gD e.now p.body.length).gP=e.fM.gP:=rfl;exact Oe (e:={e with fM:=WR e.fM e.c.gD e.now p.body.length}) {h with pa:=wF h.pa h.cf.uP h.now f ho,ra0:=h.ra0,ra1:=h.ra1} hp
 ·exact a
theorem wO {k:Nat} {e:En} {now:Int} (h:dG k e) (a:Word now):dG (k+1) (fD e now).en:=Lf (qO h a)
def vX (s:Se):Prop:=LD s/\Word s.pn
theorem FH {k:Nat} {a:Rse} {s:Se} (h:dG k a.en) (c:vX s):dG k (fH a s).en:=by
 unfold fH;split
 ·exact h
 ·have b:=rV a.en.led s.pn 2
  exact{h with
   le:=vC h.le s.pn 2 (.inl rfl)
   lr:=b.1.trans h.lr
   ll:=b.2.1.trans h.ll
   lm:=uz h.lm
   qu:=xM h.qu _ _ c.1.vz
   qr:=(yK _ _ _).trans h.qr
   qb:=Ef h.qb}
theorem AM {c:Rse} {s:Se} (h:∀a∈c.fresh,vX a) (d:vX s):(∀a∈(fH c s).fresh,vX a)/\(fH c s).fresh.length<=c.fresh.length+1:=by
 unfold fH;split
 ·exact⟨h,Nat.le_succ _⟩
 ·simp only
  split
  ·refine⟨λa b=>?_,sM⟩
   rcases WB.1 b with b|b
   ·exact h a b
   ·obtain rfl:a=_:=by simpa using b
    exact d
  ·exact⟨h,Nat.le_succ _⟩
theorem Ab {k:Nat}:∀(c:List Se) (a:Rse),dG k a.en->(∀b∈a.fresh,vX b)->(∀b∈c,vX b)->dG k (c.foldl fH a).en/\(∀b∈(c.foldl fH a).fresh,vX b)/\(c.foldl fH a).fresh.length<=a.fresh.length+c.length
 |[],a,h,hf,_=>⟨h,hf,av _⟩
 |s::t,a,h,hf,hl=>by
  have f:=hl s sM;have e:=AM hf f;have d:=Ab t (fH a s) (FH h f) e.1 (λb g=>hl b (by simp[g]));exact⟨d.1,d.2.1,by have:=d.2.2;have:=e.2;simp only[List.foldl_cons,aY];omega⟩
theorem BV {b:Int} {a:List Se} {c:Sp} {s:Se} (h:s∈partOf b a c):s∈a:=bf (dW h)
theorem KI (b:Int) (a:List Se) (c:Sp):(partOf b a c).length<=a.length:=by unfold partOf;simp;omega
theorem Et (b:Int) (a:List Se):∀(d:List Sp),(d.flatMap (partOf b a)).length<=d.length*a.length
 |[]=>by simp
 |c::t=>by
  have e:=KI b a c;have f:=Et b a t;rw[List.flatMap_cons,aU,aY,Nat.add_mul,Nat.one_mul];omega
theorem zi {k:Nat} {e:En} {a:Ak} (h:dG k e):dG k (ed e a).en/\(∀b∈(ed e a).fresh,vX b)/\(ed e a).fresh.length<=a.cu.length*e.led.kept.length:=by
 have c:=Ab (k:=k) (a.cu.flatMap (partOf (gT e.led) e.led.kept)) ⟨[],false,e⟩ h (λb d=>by cases d) (λb d=>by
  obtain⟨g,_,f⟩:=List.mem_flatMap.1 d;exact⟨h.le.ok b (BV f),h.le.pnw b (BV f)⟩)
 refine⟨c.1,c.2.1,ay c.2.2 ?_⟩;have:=Et (gT e.led) e.led.kept a.cu;simpa using this
theorem vG (m:List Sp):∀(c:List Se) (a:Int),gJ m c=some a->∃b∈c,b.pn=a
 |[],a,h=>by cases h
 |b::t,a,h=>by
  unfold gJ at h;split at h
  ·next q hq=>injection h with h;subst h;obtain⟨f,e,d⟩:=vG m t _ hq;exact⟨f,by simp[e],d⟩
  ·split at h
   ·injection h with h;exact⟨b,sM,h⟩
   ·cases h
theorem rX (d:Ro):∀(c:List Se) (a:Int),0<=a->(∀b∈c,vX b)->0<=c.foldl (λa b=>if WM d b.pn then a+b.len else a) a/\c.foldl (λa b=>if WM d b.pn then a+b.len else a) a<=a+1500*c.length
 |[],a,h,_=>⟨h,sM⟩
 |b::t,a,h,hl=>by
  have f:=(hl b sM).1;have j:=f.yQ;have k:=f.Dr;have e:=rX d t (if WM d b.pn then a+b.len else a) (by split<;>omega) (λi g=>hl i (by simp[g]));simp only[List.foldl_cons,aY];refine⟨e.1,oK e.2 ?_⟩;split<;>omega
theorem GJ {k:Nat} {e:En} {l:List Se} {top:Int} (h:dG k e) (b:∀a∈l,vX a):dG k (iF e l top):=by
 unfold iF;split
 ·exact h
 ·next a hs=>
  split
  ·exact{h with rtt:=Ad h.rtt (nC h.now (b a (List.mem_of_getLast? hs)).1.sat)}
  ·exact h
theorem Mq {k:Nat} {e:En} (h:dG k e):Word e.led.next:=⟨h.le.pE,by have:=h.le.nI;have:=h.le.mh;omega⟩
theorem AA {k:Nat} {e:En} {m:List Sp} {l:List Se} (h:dG k e) (c:∀a∈l,vX a):dG k (kv e m l):=by
 unfold kv;split
 ·exact h
 ·next p hp=>
  obtain⟨a,d,rfl⟩:=vG _ _ _ hp;have b:=OC h.cf h.cc h.cw (c a d).2 (Mq h);exact{h with cc:=b.1,cw:=b.2}
theorem uJ {k:Nat} {e:En} {p:Int} {b:Bool} (h:dG k e) (c:Word p):dG k (kD e p b):=by
 unfold kD;split
 ·have a:=OD h.cf h.cc h.cw c (Mq h)
  exact{h with cc:=a.1,cw:=a.2}
 ·exact h
theorem CG {k:Nat} {e:En} {l:List Se} (h:dG k e) (d:∀f∈l,vX f) (g:l.length<=1000000):dG k (kE e l):=by
 unfold kE;split
 ·have c:=rX e.cc.round l 0 dC d
  have b:=Q9 (a:=ko e.cc.round l) (now:=e.now) (bK:=iI e) h.cf h.cc ⟨c.1,by show ko e.cc.round l<_;unfold ko;omega⟩ h.now (rZ h);exact{h with cc:=b.1,cw:=b.2}
 ·exact h
theorem Og {k:Nat} {e:En} {l:List Se} {b:Bool} (h:dG k e):dG k (lQ e l b):=by
 unfold lQ;split
 ·exact{h with pr:=Ej h.now}
 ·exact h
theorem Od {k:Nat} {e:En} (h:dG k e):dG k (nN e):=by
 unfold nN;split
 ·exact{h with st0:=(by decide:(1:Int)<=3),st1:=(by decide:(3:Int)<=4)}
 ·exact h
theorem CF {k:Nat} {e:En} {a:Ak} (h:dG k e) (i:a.cu.length<=1000) (l:Word (a.cu.getLastD ⟨0,0⟩).hi):dG k (qh e a):=by
 have b:=zi (a:=a) h;have j:(ed e a).fresh.length<=1000000:=by
  (have f:e.led.kept.length<=256:=by have:=h.le.len;have:=h.le.lW;omega);have m:=Nat.mul_le_mul i f;have:=b.2.2;omega
 have c:=GJ (top:=(a.cu.getLastD ⟨0,0⟩).hi) b.1 b.2.1;have g:dG k {iF (ed e a).en (ed e a).fresh (a.cu.getLastD ⟨0,0⟩).hi with dm:=max (iF (ed e a).en (ed e a).fresh (a.cu.getLastD ⟨0,0⟩).hi).dm (a.cu.getLastD ⟨0,0⟩).hi}:={c with dm:=kX c.dm l};have d:=tC g;exact Od (uH (Og (CG (uJ (AA d.1 b.2.1) d.2) b.2.1 j)))
theorem Cr (g:Gu) (l:Le) (b:List Int) (now:Int):(dN g l b now).led=l\/∃a,(dN g l b now).led=lX l a:=by
 unfold dN;split
 (·exact .inl rfl);split
 (·exact .inl rfl);split
 (·exact .inl rfl);dsimp only;split<;>exact .inr ⟨_,rfl⟩
theorem Ct (g:Gu) (l:Le) (b:List Int) (now:Int):(dN g l b now).ack=akZ\/(dN g l b now).ack=(jy b).val:=by
 unfold dN;split
 (·exact .inl rfl);split
 (·exact .inl rfl);split
 (·exact .inl rfl);dsimp only;split<;>exact .inr rfl
theorem xY (b:List Int) (hb:dP b):(jy b).val.cu.length<=32/\∀c∈(jy b).val.cu,SpW c:=by
 have a:akZ.cu.length<=32/\∀c∈akZ.cu,SpW c:=⟨dC,(λc h=>by cases h)⟩;rcases b with _|⟨j,g⟩
 ·exact a
 ·have e:dP g:=λi f=>hb i (by simp[f])
  have d:=zB (bn:=1) e;rw[Fb];split
  (·exact a);unfold dAs;split
  (·exact a);unfold dAm;split
  (·exact a);unfold dAt;split
  (·exact a);unfold dAx;split
  (·exact a);unfold dAp;split
  (·exact a);unfold dAe;split
  (·exact a);split
  (·exact a);split
  ·exact a
  ·exact⟨d.2.1,d.1⟩
theorem Cu {l:List Sp} (h:∀a∈l,SpW a):Word (l.getLastD ⟨0,0⟩).hi:=by
 cases l with
 |nil=>exact⟨dC,dC⟩
 |cons x t=>exact(h _ (by rw[List.getLastD_cons];exact List.getLastD_mem_cons)).hi
theorem QN {k:Nat} {e:En} {b:List Int} (h:dG k e) (hb:dP b):dG (k+1) (xw e b).en:=by
 have j:=h.mono (Nat.le_succ k);unfold xw;split
 ·exact j
 ·have i:=EN (b:=b) h.gu h.le h.now
  have g:(dN e.gu e.led b e.now).ack.cu.length<=1000/\Word ((dN e.gu e.led b e.now).ack.cu.getLastD ⟨0,0⟩).hi:=by
   rcases Ct e.gu e.led b e.now with d|d<;>rw[d]
   ·exact⟨dC,⟨dC,dC⟩⟩
   ·have:=xY b hb
    exact⟨oM,Cu this.2⟩
  have m:=h.rO;have p:=h.ni;have l:∀b:Bool,0<=(if b then e.cO+1 else e.cO)/\(if b then e.cO+1 else e.cO)<=((k+1:Nat):Int):=by
   intro b;cases b
   ·exact⟨by simpa using m,by simp;omega⟩
   ·exact⟨by simp;omega,by simp;omega⟩
  have c:(dN e.gu e.led b e.now).led.ring=e.c.ring/\(dN e.gu e.led b e.now).led.dO=e.c.dO/\∀o∈(dN e.gu e.led b e.now).led.kept,o.len<=e.c.mss:=by
   rcases Cr e.gu e.led b e.now with f|⟨n,f⟩<;>rw[f]
   ·exact⟨h.lr,h.ll,h.lm⟩
   ·have:=Ci e.led n
    exact⟨this.1.trans h.lr,this.2.1.trans h.ll,EE h.lm⟩
  have a:dG (k+1) {e with gu:=(dN e.gu e.led b e.now).gu,led:=(dN e.gu e.led b e.now).led,cO:=if(dN e.gu e.led b e.now).ver.dU then e.cO+1 else e.cO}:=
   {j with
    gu:=i.1
    le:=i.2
    lr:=c.1
    ll:=c.2.1
    lm:=c.2.2
    rO:=(l _).1
    ni:=(l _).2}
  simp only;split
  ·exact{a with st0:=(by decide:(1:Int)<=4),st1:=(by decide:(4:Int)<=4)}
  ·split
   ·exact CF a g.1 g.2
   ·exact a
theorem Mo {k:Nat} {e:En} {b:List Int} {now:Int} (h:dG k e) (hb:dP b) (a:Word now):dG (k+1) (lU e b now).en:=QN (qO h a) hb
theorem Lb {k:Nat} {e:En} (h:dG k e):dG k (jE e):=by
 unfold jE;split
 (·exact h);split
 ·have a:=tC h
  exact uH (uJ a.1 a.2)
 split
 ·have a:dG k {e with dS:=jR e.dS e.now}:={h with pr:=BP _ h.now}
  have d:=wP a (eY e.led);have b:dG k {jT {e with dS:=jR e.dS e.now} (eY e.led)with fP:=true}:={d with};simp only;refine uH ?_;split
  ·have c:=xC b.cf b.cc
   exact{b with cc:=c.1,cw:=c.2}
  ·exact b
 ·exact h
theorem EV {k:Nat} {e:En} {now:Int} (h:dG k e) (a:Word now):dG k (kr e now):=Lb (qO h a)
end Go.Proofs.YtiflndepmgnojaaGreat
