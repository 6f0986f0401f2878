import Derived.Test.YtiflndepmgnojaaGreatNumY
import Derived.Test.YtiflndepmgnojaaGreatNumB
import Derived.Test.YtiflndepmgnojaaGreatLawR
namespace Go.Proofs.YtiflndepmgnojaaGreat
open Go.RowKit Tryz
set_option linter.unusedSimpArgs false
set_option linter.unusedVariables false
set_option maxHeartbeats 8000000
set_option maxRecDepth 100000
variable {n p:Nat} {w:World}
attribute[local go_sem] BW.cell BW.frozen
structure PgQ where
 (n q:Nat)
instance:Coe PgQ Nat:=⟨PgQ.n⟩
def enC (e:En) (ps c b:Nat) (a:PgQ):Array Value:= #[jI e.c.bits,uI e.c.one,jI e.c.ring,uI e.c.dO,jI e.c.room,uI e.c.mss,uI e.c.jD,uI e.c.bn,uI e.c.most,jI e.c.pX,uI e.c.first,uI e.c.jc,uI e.c.cap,uI e.c.gD,uI e.c.WL,jI e.c.bE,uI e.c.every,uI e.now,jI e.aS,pT ps,pT c,pT b,(pT a.n),bV e.rtt.has,uI e.rtt.mJ,uI e.rtt.bK,uI e.rtt.var,uI e.rtt.bn,jI e.dS.count,uI e.dS.since,uI e.cc.win.cr,uI e.cc.win.dL,uI e.cc.win.acc,uI e.cc.win.jF,uI e.cc.win.gX,uI e.cc.win.k,uI e.cc.win.fair,uI e.cc.round.iO,uI e.cc.round.mX,uI e.fM.fC,uI e.fM.pat,uI e.fM.gP,uI e.gU,uI e.dm,uI e.told,uI e.cO,bV e.fP]
def enT:List (Option TypeId):=[some 154,some 232,some 234,some 5,some 272,some 236,some 177,some 256,some 314,some 30]
def SoW (w:World) (S:X4) (p q:Nat) (s:So):Prop:=sw w (λa=>S a/\(a=p\/a=q)) p s/\S q/\(q=p\/∃b,w.heap[q]?=some b/\nH b=some 30)
def GuW (w:World) (S:X4) (p q:Nat) (g:Gu):Prop:=mI w (λa=>S a/\a≠q) p g
section
variable {w w':World} {S S':X4} {p q:Nat} {s:So} {g:Gu} {ts:X8}
theorem SoW.so (h:SoW w S p q s):sw w S p s:=sw.mono h.1 (λ_ h=>h.1)
theorem SoW.keep (h:SoW w S p q s) (b:bQ S ts w w') (f:some 232∈ts) (a:some 30∈ts):SoW w' S p q s:=
 ⟨sw.keep h.1 (b.mono (λ_ h=>h.1) (λ_ h=>h)) f a,h.2.1,h.2.2.imp id (λ⟨d,i,c⟩=>⟨d,b q d h.2.1 i (by rw[c];exact a),c⟩)⟩
theorem SoW.below (h:SoW w S p q s) (hb:bW w w'):SoW w' S p q s:=h.keep (ts:=[some 232,some 30]) (bQ.below hb) sM sM
theorem SoW.mono (h:SoW w S p q s) (a:∀b,S b->S' b):SoW w S' p q s:=⟨sw.mono h.1 (λ_ h=>⟨a _ h.1,h.2⟩),a _ h.2.1,h.2.2⟩
theorem SoW.of (h:sw w S p s):∃q,q<w.heap.size/\SoW w S p q s:=by
 have c:=h.mem;have u:=h.lt;obtain⟨f,i,l,d⟩:=h.ex;by_cases k:0<s.l.length
 .obtain⟨a,v,m,r,n,j,b,o⟩:=d.2 k
  have t:a<w.heap.size:=WT b;exact⟨a,t,⟨⟨f,i,l,d.1,λ_=>⟨a,v,m,r,n,⟨j,.inr rfl⟩,b,o⟩⟩,⟨c,.inl rfl⟩⟩,j,.inr ⟨_,b,rfl⟩⟩
 .exact⟨p,u,⟨⟨f,i,l,d.1,λh=>Wy h k⟩,⟨c,.inl rfl⟩⟩,c,.inl rfl⟩
theorem GuW.gu (h:GuW w S p q g):mI w S p g:=mI.mono h (λ_ h=>h.1)
theorem GuW.keep (h:GuW w S p q g) (d:bQ S ts w w') (a:some 256∈ts) (b:some 314∈ts) (c:some 30∈ts):GuW w' S p q g:=mI.keep h (d.mono (λ_ h=>h.1) (λ_ h=>h)) a b c
theorem GuW.below (h:GuW w S p q g) (hb:bW w w'):GuW w' S p q g:=mI.below h hb
theorem GuW.mono (h:GuW w S p q g) (b:∀a,S a->S' a):GuW w S' p q g:=mI.mono h (λ_ h=>⟨b _ h.1,h.2⟩)
end
structure eB (w:World) (S:X4) (p:Nat) (e:En):Prop where
 ex:∃ps pq pl pg,Blk w p 154 (enC e ps pq pl pg)/\SoW w S ps pg.q e.words/\mG w S pq e.dH/\iJ w S pl e.led/\GuW w S pg.n pg.q e.gu
 mem:S p
section
variable {w w':World} {S S':X4} {p:Nat} {e:En}
theorem eB.lt (h:eB w S p e):p<w.heap.size:=by obtain⟨d,c,b,a,h,_⟩:=h.ex;exact h.lt
theorem eB.mono (h:eB w S p e) (a:∀b,S b->S' b):eB w S' p e:=by
 obtain⟨n,m,l,k,c,d,f,i,j⟩:=h.ex;exact⟨⟨n,m,l,k,c,d.mono a,f.za a,i.mono a,j.mono a⟩,a _ h.mem⟩
theorem eB.below (h:eB w S p e) (hb:bW w w'):eB w' S p e:=by
 obtain⟨l,k,j,i,a,b,c,d,f⟩:=h.ex;exact⟨⟨l,k,j,i,a.below hb a.lt,b.below hb,c.below hb,d.below hb,f.below hb⟩,h.mem⟩
end
theorem sP (S:X4) (p:Nat) (e:En) (w:World) (h:eB w S p e):
  Yk 51 #[pT p] w λf w'=>f=.returned (bV (Yn e))/\w'=w:=by
 obtain⟨n,m,l,k,b,_⟩:=h.ex;have i:=b.Wu 18;have c:Yn e=(e.aS==3||e.aS==4):=rfl;rw[c];clear h b c;generalize e.aS=d at*
 by_cases a:d=3
 .subst a
  go_enter Tryz.func51,Tryz.ntmps51;go_wp2;go_ret;exact⟨rfl,rfl⟩
 .have j:(d==3)=false:=by simp[a]
  go_enter Tryz.func51,Tryz.ntmps51;go_wp2;go_ret;exact⟨eF (by simp[a]),rfl⟩
theorem xJ (S:X4) (p:Nat) (e:En) (w:World) (h:eB w S p e):
  Yk 69 #[pT p] w λd w'=>d=.returned (uI (iI e))/\w'=w:=by
 obtain⟨m,l,k,j,a,_⟩:=h.ex;obtain⟨b,i,f⟩:=a.e3 23 25 10;have c:iI e=if e.rtt.has then e.rtt.bK else e.c.first:=rfl;rw[c];clear h a c;cases hh:e.rtt.has with
 |true=>
  rw[hh]at b;go_enter Tryz.func69,Tryz.ntmps69;go_wp2;go_ret;exact⟨rfl,rfl⟩
 |false=>
  rw[hh]at b;go_enter Tryz.func69,Tryz.ntmps69;go_wp2;go_ret;exact⟨rfl,rfl⟩
theorem ET (S:X4) (p:Nat) (e:En) (w:World) (h:eB w S p e) (c:Word e.cc.win.cr) (d:Word (iI e)) (f:Word e.c.WL):
  Yk 49 #[pT p] w λl w'=>l=.returned (uI (rA e))/\∃b,w'=w.drewN b:=by
 have k:=zH (λb=>xJ S p e (w.drewN b) (h.below (by have a:=aj w.heap.size w;exact BEL)));obtain⟨u,t,r,o,a,_⟩:=h.ex;obtain⟨n,m⟩:=a.e2 30 14;have i:rA e=xg e.cc.win.cr (iI e) e.c.WL:=rfl;rw[i];have j:=zH (PI e.cc.win.cr (iI e) e.c.WL c d f);clear h a i c d f;go_enter Tryz.func49,Tryz.ntmps49;go_wp2;refine bN kR kR ?_;(repeat (go_big_quiet_step ((first|(go_at_call 69;exact aJ (k.o _))|(go_at_call 108;exact dn (j.o _))))));refine aK ?_;rintro _ ⟨nq,rfl⟩;go_wp2;go_ret;exact⟨rfl,_,rfl⟩
theorem JJ (S:X4) (p:Nat) (e:En) (w:World) (h:eB w S p e) (d:WV e.dH):
  Yk 88 #[pT p] w λl w'=>l=.returned (bV (rC e))/\∃a,w'=w.drewN a:=by
 obtain⟨r,i,o,n,b,_,c,_⟩:=h.ex;have m:=b.Wu 20;obtain⟨j,k⟩:=yx (λa=>Eh S i e.dH (w.drewN a) (c.below (by have b:=aj w.heap.size w;exact BEL))) (λa=>Xe S i e.dH (w.drewN a) (c.below (by have b:=aj w.heap.size w;exact BEL)) d);have f:rC e=(e.dH.base==fT e.dH):=rfl;rw[f];clear h b f c d;go_enter Tryz.func88,Tryz.ntmps88;go_wp2;refine bN kR kR ?_;(repeat (go_big_quiet_step ((first|(go_at_call 72;exact aJ ((j.o _).mono λe w' h=>⟨h.1,h.2.symm⟩))|(go_at_call 71;exact dn (k.o _))))));refine aK ?_;rintro _ ⟨nq,rfl⟩;go_wp2;go_ret;exact⟨rfl,_,rfl⟩
theorem xx (k:Nat) (S:X4) (p:Nat) (e:En) (w:World) (h:eB w S p e) (b:dG k e):
  Yk 63 #[pT p] w λE c=>E=.returned (uI (jJ e))/\bW w c:=by
 obtain⟨W,V,C,U,a,_,_,x,_⟩:=h.ex;obtain⟨P,Q,J,K,L,M⟩:=a.e6 28 29 21 23 24 25;obtain⟨N,O,G,H,I⟩:=a.e5 26 27 10 11 12;have R:=a.lt;obtain⟨t,v,A,z,u⟩:=BF (λc (a:bW w c)=>vB S C e.led c (x.below a) b.le) (Hq e.rtt e.c.first e.c.jc b.rtt.bK b.rtt.var b.cf.Cx b.cf.Gz) (BD b.rtt b.cf.Cx b.cf.Gz) b.cf.capw b.pr;have i:jJ e=qW e.dS (decide (0<gq e.led)) (qP e.rtt e.c.first e.c.jc) e.c.cap:=rfl;rw[i];generalize gq e.led=m at*
 generalize qP e.rtt e.c.first e.c.jc=l at*
 generalize e.c.cap=f at*
 generalize e.c.first=first at*
 generalize e.c.jc=T at*
 generalize e.rtt=X at*
 generalize e.dS=D at*
 clear h a x b i;obtain⟨g,j⟩:=D;simp only at*
 have s:=zH (λc=>(GL g j l f u.o.since A.o z.o (by have:=u.o.c1;simp only at this;omega) c).mono (R':=λe d=>e=.returned (uI (qW ⟨g,j⟩ true l f))/\bW c d) (λe d h=>⟨h.1,by obtain⟨B,n⟩:=h.2;rw[n];exact BEL⟩));have r:=zH (λc=>(JN g j l f c).mono (R':=λe d=>e=.returned (uI 18446744073709551615)/\bW c d) (λe d h=>⟨h.1,by obtain⟨B,n⟩:=h.2;rw[n];exact BEL⟩));by_cases y:0<m
 .have q:=bM y
  rw[q];clear r;go_enter Tryz.func63,Tryz.ntmps63;go_wp2;refine fq kR kR ?_;(repeat (go_big_quiet_step ((first|(go_at_call 68;exact bU _ (t.o _ (by apply BW.same)))|(go_at_call 141;exact bU _ (v.o _))|(go_at_call 140;exact bU _ (s.o _))))));refine aK ?_;refine bwI ?_;intro F o;go_wp2;go_ret;exact⟨rfl,o⟩
 .have q:=bJ y
  rw[q];have i:qW ⟨g,j⟩ false l f=18446744073709551615:=rfl;rw[i];clear s;go_enter Tryz.func63,Tryz.ntmps63;go_wp2;refine fq kR kR ?_;(repeat (go_big_quiet_step ((first|(go_at_call 68;exact bU _ (t.o _ (by apply BW.same)))|(go_at_call 141;exact bU _ (v.o _))|(go_at_call 140;exact bU _ (r.o _))))));refine aK ?_;refine bwI ?_;intro F o;go_wp2;go_ret;exact⟨rfl,o⟩
theorem rz (k:Nat) (S:X4) (p:Nat) (e:En) (w:World) (h:eB w S p e) (b:dG k e):
  Yk 62 #[pT p] w λj d=>j=.returned (.tuple #[])/\eB d S p (jm e)/\Mod S [some 154] w d:=by
 have i:=h.mem;have I:=zH (λd (a:bW w d)=>(ET S p e d (h.below a) b.cc.win.cr (rZ b) ⟨by have:=b.cf.Ie;omega,by have:=b.cf.BA;omega⟩).mono (R':=λj A=>j=.returned (uI (rA e))/\bW d A) (λj A h=>⟨h.1,by obtain⟨a3,g⟩:=h.2;rw[g];exact BEL⟩));have n:=zH (ND e.fM e.c.gD e.now (rA e) b.pa.fC b.pa.pat b.pa.gP b.cf.Ym b.now);have v:jm e={e with fM:=xq e.fM e.c.gD e.now (rA e)}:=rfl;rw[v];obtain⟨U,T,R,Q,a,g,r,s,t⟩:=h.ex;obtain⟨X,Y,Z,V,W⟩:=a.e5 39 40 41 13 17;have L:=a.lt;obtain⟨G,C,D,E,F⟩:=BF a g r s t;generalize M:xq e.fM e.c.gD e.now (rA e)=P at*
 clear M h b v g r s t a;obtain⟨z,x,y⟩:=P;simp only at n|-;go_enter Tryz.func62,Tryz.ntmps62;go_wp2;refine dQ 19 kR kR ?_;refine mD ?_;(repeat (go_big_quiet_step (first|(go_at_call 49;exact bU _ (I.o _ (by apply BW.same)))|(go_at_call 139;exact bU _ (n.o _)))));refine aK ?_;refine bwI ?_;intro B u;have l:bW w B:=u;have c:=G.o.below l L;obtain⟨a4,a5,a6,a0,a1,a2⟩:=LX (c.frozen 39) (c.frozen 40) (c.frozen 41) (c.Wu 39) (c.Wu 40) (c.Wu 41);obtain⟨m,H⟩:=yx c l;clear u l c;refine dA rfl rfl ?_;go_simp;refine mR ?_;go_end0;have o:=m.o.bF 39 (uI z);have q:=o.bF 40 (uI x);have J:=q.bF 41 (uI y);have K:Mod S [some 154] w B:=aH H.o;have N:=K.setCell m.o (λ_=>i) sM 39 (uI z);have O:=N.setCell o (λ_=>i) sM 40 (uI x);have f:=O.setCell q (λ_=>i) sM 41 (uI y);refine⟨rfl,⟨⟨U,T,R,Q,J,?_,?_,?_,?_⟩,i⟩,f⟩
 .exact C.o.keep (ts:=[some 232,some 30]) (f.aM sM) sM sM
 .exact D.o.keep (ts:=[some 234,some 5,some 272]) (f.aM sM) sM sM sM
 .exact E.o.keep (ts:=[some 236,some 177]) (f.aM sM) sM sM
 .exact F.o.keep (ts:=[some 256,some 314,some 30]) (f.aM sM) sM sM sM
theorem EX (k:Nat) (S:X4) (p:Nat) (e:En) (a:Int) (w:World) (h:eB w S p e) (g:dG k e) (O:Bd S w):
  Yk 65 #[pT p,uI a] w λs b=>s=.returned (.tuple #[])/\eB b (grow S w b) p (jT e a)/\Mod S [some 236,some 177,some 234,some 5] w b:=by
 have b8:=h.mem;obtain⟨Z,n,m,Y,c,L,M,v,N⟩:=h.ex;obtain⟨I,J⟩:=c.e2 20 21;have z:=c.lt;obtain⟨c3,X,V⟩:=Jf g.le a;obtain⟨a6,b5,a8⟩:=Av (Qq S m e.led a w v g.le) (λb (h:iJ b S m e.led)=>Gn S m e.led a b h g.le) (λb (h:mG b S n e.dH)=>Kz S n e.dH (mH e.led a).off (mH e.led a).len b h g.qu X V);have T:jT e a={e with led:=gH e.led a 3,dH:=pF e.dH (mH e.led a).off (mH e.led a).len}:=rfl;rw[T];obtain⟨a4,a0,a1,a2,a3,b4⟩:=Fy c L M v N O;clear h g T L M v N c O c3 X V;generalize mH e.led a=c4 at*
 obtain⟨E,D,u,C,F,B,H,G⟩:=c4;simp only at*
 go_enter Tryz.func65,Tryz.ntmps65;go_wp2_with fail;refine(a6.o).mono ?_;rintro s t ⟨⟨c6,rfl⟩,j⟩;have K:=(j.cell (p:=⟨p,20,none⟩) z).trans I;have b7:=(j.cell (p:=⟨p,21,none⟩) z).trans J;have d0:=j.size;have c9:p<t.heap.size:=oM;have a5:=zH j;clear j I J;go_wp2_with fail;obtain⟨q,r⟩:=eX (t.alloc (.cells #[uI E,uI D,uI u,uI C,uI F,bV B,bV H,jI G] 177));rw[<-r];(have U:Blk q t.heap.size 177 #[uI E,uI D,uI u,uI C,uI F,bV B,bV H,jI G]:=by rw[r];exact Wx _ _ _);(have l:bW w q:=by rw[r];have c:=a5.o;exact BEL);obtain⟨o,b6⟩:=yx l U;clear r l U K b7;refine(b5.o q (a2.o.below o.o)).mono ?_;rintro s f ⟨⟨c7,rfl⟩,P,d⟩;have A:Blk f t.heap.size 177 #[uI E,uI D,uI u,uI C,uI F,bV B,bV H,jI G]:=b6.o.o d (λh=>by have:=b4.o _ h;omega);have x:Blk f p 154 (enC e Z n m Y):=(a4.o.below o.o z).mod d dC;have K:=x.Wu 20;obtain⟨d2,d3⟩:=A.e2 1 2;have Q:mG f S n e.dH:=(a1.o.below o.o).keep (ts:=[some 234,some 5,some 272]) (d.aM dC) sM sM sM;obtain⟨a7,b2,a9,b0⟩:=Bq x Q P d;clear A x Q P d;go_wp2;refine bP 8 kR kR ?_;refine mD ?_;refine mR ?_;rintro _ ⟨W,rfl⟩;refine dA rfl rfl ?_;go_simp;go_at_call 144;refine(a8.o _ (b2.o.below (by have c:=aj f.heap.size f;exact BEL))).mono ?_;rintro s c5 ⟨⟨c8,rfl⟩,R,i⟩;obtain⟨b3,b1⟩:=yx R i;clear R i;go_simp;refine aK ?_;go_end0;obtain⟨l,d,i⟩:=FX o.o b0.o b1.o;obtain⟨c1,c2,d1⟩:=FX l.size d.size i.size;have b9:Mod S [some 236,some 177,some 234,some 5] w q:=aH l;have c0:Mod S [some 236,some 177,some 234,some 5] w f:=b9.then (d.mono (λ_ _ h=>h) sM) (λ_ _ h=>h);have y:Mod S [some 236,some 177,some 234,some 5] w c5:=(c0.drewN W).then (i.mono (λ_ _ h=>h) sM) (λ_ _ h=>h);refine⟨rfl,⟨⟨Z,n,m,Y,?_,?_,?_,?_,?_⟩,oU b8⟩,y⟩
 .exact(a7.o.drewN W).mod i dC
 .exact(a0.o.keep (ts:=[some 232,some 30]) (y.aM dC) sM sM).mono (λ_ h=>oU h)
 .exact b3.o.za (λk g=>g.elim oU (λh=>.inr ⟨ay (ay c1 c2) h.1,h.2⟩))
 .exact((a9.o.below (by have c:=aj f.heap.size f;exact BEL)).keep (ts:=[some 236,some 177]) (i.aM dC) sM sM).mono (λ_ h=>oU h)
 .exact(a3.o.keep (ts:=[some 256,some 314,some 30]) (y.aM dC) sM sM sM).mono (λ_ h=>oU h)
theorem Cz (k:Nat) (S C:X4) (p:Nat) (e:En) (q:X5) (a:List Int) (r:Nat) (w:World) (h:eB w S p e) (s:dG k e) (hb:Bys w C q a) (O:a.length<=r) (P:a.length<=1000000000):
  Yk 17 #[pT p,.slice q a.length r] w λl c=>l=.returned (.tuple #[jI (fU e a).n,jI (fU e a).err])/\eB c (grow S w c) p (fU e a).en/\Mod S [some 234,some 5] w c:=by
 have Q:=h.mem;by_cases i:e.aS=1
 .obtain⟨L,m,K,J,d,F,G,H,I⟩:=h.ex
  obtain⟨E,U⟩:=d.e2 18 20;rw[i]at E;have B:=zH (Iq S C m e.dH q a r w G s.qu hb O P);(have j:fU e a=⟨kg e.dH a.length,if kg e.dH a.length<a.length then 7 else 0,{e with dH:=oI e.dH a}⟩:=by unfold fU;rw[Ww (by simp[i])]);rw[j];obtain⟨y,u,v,x⟩:=Bq d F H I;clear h d F G H I s i j hb;simp only;generalize kg e.dH a.length=g at*
  have z:∀c l,(∃t,l=Ending.returned (.tuple #[jI g,jI t])/\t=if g<a.length then 7 else 0)->mG c (grow S w c) m (oI e.dH a)->Qum S w c->l=.returned (.tuple #[jI g,jI (if g<a.length then 7 else 0)])/\eB c (grow S w c) p {e with dH:=oI e.dH a}/\Mod S [some 234,some 5] w c:=by
   rintro c l ⟨t,rfl,rfl⟩ f b;exact⟨rfl,⟨⟨L,m,K,J,y.o.mod b dC,(u.o.keep (ts:=[some 232,some 30]) (b.aM dC) sM sM).mono (λ_ h=>oU h),f,
    (v.o.keep (ts:=[some 236,some 177]) (b.aM dC) sM sM).mono (λ_ h=>oU h),(x.o.keep (ts:=[some 256,some 314,some 30]) (b.aM dC) sM sM sM).mono (λ_ h=>oU h)⟩,oU Q⟩,b⟩
  have A:=zH z;clear z y u v x;by_cases D:g<a.length
  .have N:decide ((g:Int)<(a.length:Int))=true:=sO
   go_enter Tryz.func17,Tryz.ntmps17;go_wp2_with fail;refine Yd B.o ?_;rintro T ⟨f,b⟩;obtain⟨o,n⟩:=yx f b;clear f b;go_wp2;go_ret2;exact⟨rfl,(A.o _ _ ⟨7,rfl,by rw[aB D]⟩ o.o n.o).2⟩
  .have N:decide ((g:Int)<(a.length:Int))=false:=sO
   go_enter Tryz.func17,Tryz.ntmps17;go_wp2_with fail;refine Yd B.o ?_;rintro T ⟨f,b⟩;obtain⟨o,n⟩:=yx f b;clear f b;go_wp2;go_ret2;exact⟨rfl,(A.o _ _ ⟨0,rfl,by rw[Ww D]⟩ o.o n.o).2⟩
 .have j:fU e a=⟨0,9,e⟩:=by unfold fU;rw[aB i]
  rw[j];obtain⟨L,m,K,J,d,_⟩:=h.ex;have E:=d.Wu 18;(have V:(e.aS !=1)=true:=by simp[i]);have M:=zH h;clear h d s hb j;generalize R:e.aS=W at*
  clear R;go_enter Tryz.func17,Tryz.ntmps17;go_wp2;go_ret2;exact⟨rfl,M.o.mono (λ_ h=>oU h),aV _ _ _⟩
theorem Lh (k:Nat) (S:X4) (p:Nat) (e:En) (w:World) (h:eB w S p e) (A:dG k e):
  Yk 36 #[pT p] w λO K=>O=.returned (jI (kF e).err)/\eB K S p (kF e).en/\Mod S [some 154] w K:=by
 have H:=h.mem;by_cases o:e.aS=1
 .obtain⟨j,i,g,f,c,t,u,v,x⟩:=h.ex
  obtain⟨E,U⟩:=c.cz 18;have Q:=c.lt;rw[o]at E;(have q:kF e=⟨0,0,{e with aS:=if rC e then 3 else 2}⟩:=by unfold kF;rw[Ww (by simp[o])]);rw[q];have J:∀(a:World) (d:En) (b:Int),(∀j i g f,Blk a p 154 (enC d j i g f)->Blk (a.setCell ⟨p,18,none⟩ (jI b)) p 154 (enC {d with aS:=b} j i g f)):=λa d b j i g f z=>z.bF 18 (jI b);have B:∀(a:World) (d:En) (b:Int),eB a S p d->eB (a.setCell ⟨p,18,none⟩ (jI b)) S p {d with aS:=b}/\Mod S [some 154] a (a.setCell ⟨p,18,none⟩ (jI b)):=by
   intro a d b h;obtain⟨j,i,g,f,c,t,u,v,x⟩:=h.ex;have n:Mod S [some 154] a (a.setCell ⟨p,18,none⟩ (jI b)):=(aV S _ a).setCell c (λ_=>H) sM 18 _;exact⟨⟨⟨j,i,g,f,J a d b _ _ _ _ c,t.keep (ts:=[some 232,some 30]) (n.aM dC) sM sM,u.keep (ts:=[some 234,some 5,some 272]) (n.aM dC) sM sM sM,
    v.keep (ts:=[some 236,some 177]) (n.aM dC) sM sM,x.keep (ts:=[some 256,some 314,some 30]) (n.aM dC) sM sM sM⟩,H⟩,n⟩
  have M:=zH B;obtain⟨y,I⟩:=B w e 2 h;obtain⟨l,C,D⟩:=Av (JJ S p {e with aS:=2} _ y A.qu) y I;have G:rC {e with aS:=2}=rC e:=rfl;rw[G]at l;clear G h c t u v x A o q J B y I;simp only;cases hd:rC e with
  |true=>
   rw[hd]at l;go_enter Tryz.func36,Tryz.ntmps36;go_wp2_with fail;refine Yd l.o ?_;rintro P ⟨r,rfl⟩;have m:eB ((w.setCell ⟨p,18,none⟩ (jI 2)).drewN r) S p {e with aS:=2}:=C.o.below (by have z:=aj (w.setCell ⟨p,18,none⟩ (jI 2)).heap.size (w.setCell ⟨p,18,none⟩ (jI 2));exact BEL);have s:=zH m;clear m;go_wp2;go_ret;have F:=M.o _ _ 3 s.o;exact⟨rfl,F.1,((D.o.drewN r).trans F.2)⟩
  |false=>
   rw[hd]at l;go_enter Tryz.func36,Tryz.ntmps36;go_wp2_with fail;refine Yd l.o ?_;rintro P ⟨r,rfl⟩;have m:eB ((w.setCell ⟨p,18,none⟩ (jI 2)).drewN r) S p {e with aS:=2}:=C.o.below (by have z:=aj (w.setCell ⟨p,18,none⟩ (jI 2)).heap.size (w.setCell ⟨p,18,none⟩ (jI 2));exact BEL);have s:=zH m;clear m;go_wp2;go_ret;exact⟨rfl,s.o,D.o.drewN r⟩
 .have q:kF e=⟨0,9,e⟩:=by unfold kF;rw[aB o]
  rw[q];obtain⟨j,i,g,f,c,_⟩:=h.ex;have E:=c.Wu 18;(have R:(e.aS !=1)=true:=by simp[o]);have L:=zH h;clear h c A q;generalize N:e.aS=T at*
  clear N;go_enter Tryz.func36,Tryz.ntmps36;go_wp2;go_ret;exact⟨rfl,L.o,aV _ _ _⟩
theorem Ob (k:Nat) (S:X4) (p:Nat) (e:En) (w:World) (h:eB w S p e) (i:dG k e):
  Yk 27 #[pT p] w λl c=>∃a b,l=.returned (.slice a e.led.kept.length b)/\e.led.kept.length<=b/\Ses c (λk=>w.heap.size<=k/\k<c.heap.size) a e.led.kept/\bW w c:=by
 obtain⟨z,y,u,x,d,q,r,f,s⟩:=h.ex;have v:=d.Wu 21;have m:=zH (sU S u e.led w f i.le);clear h d q r f s i;go_enter Tryz.func27,Tryz.ntmps27;go_wp2_with fail;refine(m.o).mono ?_;rintro l A ⟨a,b,rfl,t,j,g⟩;obtain⟨o,n⟩:=yx j g;clear j g;go_wp2;go_ret;exact⟨a,b,rfl,t,o.o,n.o⟩
theorem Lu (S:X4) (a:X5) (c:Nat) (l:List Sp) (n:Int) (w:World) (h:Sps w S a l) (H:l.length<=1000000000):
  Yk 123 #[.slice a l.length c,uI n] w λB D=>B=.returned (bV (dI l n))/\bW w D:=by
 have y:=zH h;clear h;obtain⟨f,m⟩:=eX (dI l n);rw[<-m];have s:=zH m;clear m;go_enter Tryz.func123,Tryz.ntmps123;go_wp2;go_loopw [9,6,11,12] (λp M K L wr=>∃(d:Nat),d<=l.length/\p=jI d/\X3 (dI (l.drop d) n=f)/\X3 (bW w wr)) (λp _ _ _ _=>l.length -(intOf p).toNat);(case atStart=>exact⟨0,oM,rfl,s.o.symm,aj _ _⟩);case round=>
  obtain⟨d,G,rfl,r,e⟩:=hrel;clear s;have I:=e.o.size;by_cases x:d<l.length
  .obtain⟨E,J,rfl,F,z,A⟩:=Sps.at_ y.o e.o x
   have b:=r.o;rw[aR x,CX]at b;generalize l[d]=C at*
   obtain⟨q,o⟩:=C;simp only[nV]at z A b;by_cases t:q<=n
   .have g:=bM t
    by_cases u:n<=o
    .have k:=bM u
     have j:X3 (f=true):=zH (by rw[<-b,g,k];rfl);clear b;go_wp2;go_ret;exact⟨eF j.o.symm,by have v:=e.o;exact BEL⟩
    .have k:=bJ u
     have i:X3 (dI (l.drop (d+1)) n=f):=zH (by rw[<-b,g,k];rfl);clear b;go_wp2;go_roundw;(case rel=>exact⟨d+1,oM,by go_num,i,zH (by have v:=e.o;exact BEL)⟩);case measure=>exact Yl
   .have g:=bJ t
    have i:X3 (dI (l.drop (d+1)) n=f):=zH (by rw[<-b,g];rfl);clear b;go_wp2;go_roundw;(case rel=>exact⟨d+1,oM,by go_num,i,zH (by have v:=e.o;exact BEL)⟩);case measure=>exact Yl
  .obtain rfl:d=l.length:=oM
   have b:=r.o;rw[List.drop_length]at b;have j:X3 (f=false):=zH b.symm;clear b;go_wp2;go_ret;exact⟨eF j.o.symm,e.o⟩
theorem eB.set1 {S:X4} {e:En} (h:eB w S p e) (i:Nat) (u:Value) (e':En) (o:∀f d c b,(enC e f d c b).setIfInBounds i u=enC e' f d c b)
  (k:e'.words=e.words) (l:e'.dH=e.dH) (m:e'.led=e.led) (n:e'.gu=e.gu):eB (w.setCell ⟨p,i,none⟩ u) S p e'/\Mod S [some 154] w (w.setCell ⟨p,i,none⟩ u):=by
 have g:=h.mem;obtain⟨f,d,c,b,j,q,r,s,t⟩:=h.ex;have a:Mod S [some 154] w (w.setCell ⟨p,i,none⟩ u):=(aV S _ w).setCell j (λ_=>g) sM i _;refine⟨⟨⟨f,d,c,b,?_,?_,?_,?_,?_⟩,g⟩,a⟩
 .rw[<-o];exact j.bF i u
 .rw[k];exact q.keep (ts:=[some 232,some 30]) (a.aM dC) sM sM
 .rw[l];exact r.keep (ts:=[some 234,some 5,some 272]) (a.aM dC) sM sM sM
 .rw[m];exact s.keep (ts:=[some 236,some 177]) (a.aM dC) sM sM
 .rw[n];exact t.keep (ts:=[some 256,some 314,some 30]) (a.aM dC) sM sM sM
theorem qG (h:n<=1000000):wrap64 (n:Int)=n:=by
 unfold wrap64;omega
theorem GX (t:List Int) (y:Int) (b:(y::t).length<=256):wrap64 (t.length:Int)=t.length:=qG (by have a:=b;simp only[aY]at a;omega)
theorem EY (k:Nat) (S:X4) (p:Nat) (e:En) (w:World) (h:eB w S p e) (a:dG k e) (a3:Bd S w):
  Yk 59 #[pT p] w λb7 n=>b7=.returned (.tuple #[uI (iB e).lost,bV (iB e).some_])/\eB n (grow S w n) p (iB e).en/\Mod S [some 154,some 236,some 177,some 234,some 5] w n:=by
 obtain⟨g2,J,I⟩:=FX h.mem a.cf.Cx a.cf.Gz;have M:=wY a.rtt J I;obtain⟨H,G,a7⟩:=Jz (dm:=e.dm) (now:=e.now) a.le M;(have f4:e.led.kept.length<=256:=by have:=a.le.len;have:=a.le.lW;omega);obtain⟨h0,g9,f7,g8,c,e5,e6,a2,e7⟩:=h.ex;obtain⟨d7,e3,d6,d8,d9,e0⟩:=c.e6 21 43 17 23 24 25;obtain⟨e1,e2,d4,d5⟩:=c.e4 26 27 10 11;have g3:=c.lt;obtain⟨Z,v⟩:=yx (Kg e.rtt e.c.first e.c.jc a.rtt.bK a.rtt.mJ J I) (λn (e8:bW w n)=>QJ S f7 e.led e.dm e.now (lJ e.rtt e.c.first e.c.jc) n (a2.below e8) a.le a.dm a.now M);have b3:iB e=⟨(qE e.led e.dm e.now (lJ e.rtt e.c.first e.c.jc)).lost.getLastD 0,decide (0<(qE e.led e.dm e.now (lJ e.rtt e.c.first e.c.jc)).lost.length),(qE e.led e.dm e.now (lJ e.rtt e.c.first e.c.jc)).lost.foldl jT {e with gU:=(qE e.led e.dm e.now (lJ e.rtt e.c.first e.c.jc)).next}⟩:=rfl;rw[b3];clear b3 c e5 e6 a2 e7;generalize qE e.led e.dm e.now (lJ e.rtt e.c.first e.c.jc)=d2 at*
 obtain⟨b,next⟩:=d2;simp only at H G a7 v|-;have a8:dG k {e with gU:=next}:={a with gU:=G};obtain⟨c3,P,c8,f9⟩:=Bq a8 h a3 H;have b0:b.length<=256:=oM;obtain⟨d1,B⟩:=eX (b.getLastD 0);obtain⟨g0,E⟩:=eX (decide (0<b.length));rw[<-B,<-E];obtain⟨W,Y⟩:=yx B E;clear B E;obtain⟨t,y⟩:∃t,t=b.foldl jT {e with gU:=next}:=⟨_,rfl⟩;rw[<-y];have R:=zH y;clear a a8 h a3 y H G a7 J I M f4;generalize lJ e.rtt e.c.first e.c.jc=h6 at*
 go_enter Tryz.func59,Tryz.ntmps59;go_wp2;refine dQ 27 kR kR ?_;refine mD ?_;(repeat (go_big_quiet_step ((go_at_call 137;exact bU _ (Z.o _)))));refine aK ?_;refine bwI ?_;intro O a4;have o:=zH (show bW w O from a4);clear a4;refine dA rfl rfl ?_;go_simp;go_at_call 136;refine(v.o _ o.o).mono ?_;rintro b7 r ⟨a1,g1,rfl,f0,b5,a5⟩;have F:=o.o.trans (a5.mono o.o.size);have z:=P.o.below F;obtain⟨h4,h3,h2,h1,x,_⟩:=z.ex;have f8:=x.frozen 42;have e4:=x.Wu 42;obtain⟨u,Q,a0⟩:=Av F z b5;have g4:=o.o.size;clear a5 F z b5 x;go_simp;refine mR ?_;go_wp2_with fail;obtain⟨g,l⟩:=eX (r.setCell ⟨p,42,none⟩ (uI next));rw[<-l];obtain⟨A,C⟩:=Q.o.set1 42 (uI next) {e with gU:=next} (λ_ _ _ _=>rfl) rfl rfl rfl rfl;(have b4:Wos g (λk=>O.heap.size<=k/\k<r.heap.size) a1 b:=by rw[l];exact aG a0.o (ts:=[some 30]) (C.aM dC) sM);have D:Mod S [some 154,some 236,some 177,some 234,some 5] w g:=by
  rw[l];exact(aH u.o:Mod S [some 154,some 236,some 177,some 234,some 5] w r).then (C.mono (λ_ _ h=>h) sM) (λ_ _ h=>h)
 rw[<-l]at A;have g5:=u.o.size;have b1:w.heap.size<=g.heap.size:=D.size;(have g6:r.heap.size=g.heap.size:=by rw[l];simp[World.setCell]);obtain⟨c2,c7,d0,c9⟩:=Bq A D b4 (c8.o.later b1);clear l A C b4 D f8 e4 Q a0 u d7 e3 d6 d8 d9 e0 e1 e2 d4 d5 P o v Z;go_loopw [45,7,47,48] (λN h9 h7 h8 wr=>∃(f:Nat) (i:En),f<=b.length/\N=jI f/\X3 (dG k i)/\X3 ((b.drop f).foldl jT i=t)/\X3 (eB wr (grow S g wr) p i)/\X3 (Mod S [some 236,some 177,some 234,some 5] g wr)) (λN _ _ _ _=>b.length -(intOf N).toNat);(case atStart=>exact⟨0,_,oM,rfl,c3,R.o.symm,c2.o.mono (λ_ h=>oU h),aV _ _ _⟩);case round=>
  obtain⟨f,i,f1,rfl,V,X,T,s⟩:=hrel;clear R;have b2:=s.o.size;have q:Wos wr (λk=>O.heap.size<=k/\k<r.heap.size) a1 b:=aG d0.o (ts:=[some 30]) (s.o.aM dC) sM;by_cases K:f<b.length
  .obtain⟨d3,f6,rfl,e9,b6⟩:=q.at_ (aj _ _) K
   have m:=X.o;rw[aR K,List.foldl_cons]at m;generalize b[f]=b8 at*
   obtain⟨c0,c5,c4⟩:=Av m (EX k (grow S g wr) p i b8 wr T.o V.o (c9.o.grow b2)) (wP V.o b8);clear m q;go_wp2_with fail;refine Yd c5.o ?_;rintro h5 ⟨a6,L⟩;have f5:=L.size;obtain⟨c1,c6⟩:=yx (a6.mono (λ_ h=>grow_grow b2 f5 h)) (s.o.grow L);clear a6 L;go_wp2;go_roundw;(case rel=>exact⟨f+1,_,oM,by go_num,c4,c0,c1,c6⟩);case measure=>exact Yl
  .obtain rfl:f=b.length:=oM
   have m:=X.o;rw[List.drop_length,List.foldl_nil]at m;subst m;have U:X3 (eB wr (grow S w wr) p i/\Mod S [some 154,some 236,some 177,some 234,some 5] w wr):=zH ⟨T.o.mono (λk a=>a.elim .inl (λh=>.inr ⟨ay b1 h.1,h.2⟩)),c7.o.then (s.o.mono (λ_ _ h=>h) sM) (λ_ _ h=>h)⟩;rcases b with _|⟨b9,d⟩
   .clear q
    go_wp2;go_ret2;exact⟨by rw[W.o,Y.o];rfl,U.o⟩
   .obtain⟨d3,f6,rfl,e9,b6⟩:=q.at_ (aj _ _) (j:=d.length) sM
    have f2:((d.length:Int)+1 -1)=(d.length:Int):=oM;have f3:((d.length:Int)+1==0)=false:=sO;have a9:d1=(b9::d)[d.length]:=by
     rw[W.o,List.getLastD_eq_getLast?,List.getLast?_eq_getElem?];simp only[aY,Nat.add_sub_cancel];rw[aL sM];rfl
    rw[<-a9]at b6;clear q a9;have g7:wrap64 (d.length:Int)=d.length:=GX d b9 b0;clear f2 f3 K f1 f0 b0;go_wp2;go_ret2;exact⟨by rw[Y.o];rfl,U.o⟩
theorem eB.Ij {S:X4} {e:En} (h:eB w S p e) (z:Cc):eB (((((((((w.setCell ⟨p,30,none⟩ (uI z.win.cr)).setCell ⟨p,31,none⟩ (uI z.win.dL)).setCell ⟨p,32,none⟩ (uI z.win.acc)).setCell ⟨p,33,none⟩ (uI z.win.jF)).setCell ⟨p,34,none⟩ (uI z.win.gX)).setCell ⟨p,35,none⟩ (uI z.win.k)).setCell ⟨p,36,none⟩ (uI z.win.fair)).setCell ⟨p,37,none⟩ (uI z.round.iO)).setCell ⟨p,38,none⟩ (uI z.round.mX)) S p {e with cc:=z}/\Mod S [some 154] w (((((((((w.setCell ⟨p,30,none⟩ (uI z.win.cr)).setCell ⟨p,31,none⟩ (uI z.win.dL)).setCell ⟨p,32,none⟩ (uI z.win.acc)).setCell ⟨p,33,none⟩ (uI z.win.jF)).setCell ⟨p,34,none⟩ (uI z.win.gX)).setCell ⟨p,35,none⟩ (uI z.win.k)).setCell ⟨p,36,none⟩ (uI z.win.fair)).setCell ⟨p,37,none⟩ (uI z.round.iO)).setCell ⟨p,38,none⟩ (uI z.round.mX)):=by
 obtain⟨⟨a,b,c,d,f,g,i⟩,⟨j,k⟩⟩:=z;obtain⟨l,v⟩:=h.set1 30 (uI a) {e with cc:=⟨⟨a,e.cc.win.dL,e.cc.win.acc,e.cc.win.jF,e.cc.win.gX,e.cc.win.k,e.cc.win.fair⟩,⟨e.cc.round.iO,e.cc.round.mX⟩⟩} (λ_ _ _ _=>rfl) rfl rfl rfl rfl;obtain⟨m,x⟩:=l.set1 31 (uI b) {e with cc:=⟨⟨a,b,e.cc.win.acc,e.cc.win.jF,e.cc.win.gX,e.cc.win.k,e.cc.win.fair⟩,⟨e.cc.round.iO,e.cc.round.mX⟩⟩} (λ_ _ _ _=>rfl) rfl rfl rfl rfl;obtain⟨n,y⟩:=m.set1 32 (uI c) {e with cc:=⟨⟨a,b,c,e.cc.win.jF,e.cc.win.gX,e.cc.win.k,e.cc.win.fair⟩,⟨e.cc.round.iO,e.cc.round.mX⟩⟩} (λ_ _ _ _=>rfl) rfl rfl rfl rfl;obtain⟨o,A⟩:=n.set1 33 (uI d) {e with cc:=⟨⟨a,b,c,d,e.cc.win.gX,e.cc.win.k,e.cc.win.fair⟩,⟨e.cc.round.iO,e.cc.round.mX⟩⟩} (λ_ _ _ _=>rfl) rfl rfl rfl rfl;obtain⟨q,B⟩:=o.set1 34 (uI f) {e with cc:=⟨⟨a,b,c,d,f,e.cc.win.k,e.cc.win.fair⟩,⟨e.cc.round.iO,e.cc.round.mX⟩⟩} (λ_ _ _ _=>rfl) rfl rfl rfl rfl;obtain⟨r,C⟩:=q.set1 35 (uI g) {e with cc:=⟨⟨a,b,c,d,f,g,e.cc.win.fair⟩,⟨e.cc.round.iO,e.cc.round.mX⟩⟩} (λ_ _ _ _=>rfl) rfl rfl rfl rfl;obtain⟨s,D⟩:=r.set1 36 (uI i) {e with cc:=⟨⟨a,b,c,d,f,g,i⟩,⟨e.cc.round.iO,e.cc.round.mX⟩⟩} (λ_ _ _ _=>rfl) rfl rfl rfl rfl;obtain⟨t,E⟩:=s.set1 37 (uI j) {e with cc:=⟨⟨a,b,c,d,f,g,i⟩,⟨j,e.cc.round.mX⟩⟩} (λ_ _ _ _=>rfl) rfl rfl rfl rfl;obtain⟨u,F⟩:=t.set1 38 (uI k) {e with cc:=⟨⟨a,b,c,d,f,g,i⟩,⟨j,k⟩⟩} (λ_ _ _ _=>rfl) rfl rfl rfl rfl;exact⟨u,((((((((v.trans x).trans y).trans A).trans B).trans C).trans D).trans E).trans F)⟩
def jC:List (Option TypeId):=[some 154,some 236,some 177,some 234,some 5]
theorem JG (k:Nat) (S:X4) (p:Nat) (e:En) (now:Int) (w:World) (h:eB w S p e) (i:dG k e) (a8:Bd S w) (b9:Word now) (M:tH (nO e now).now (nO e now).gU=true):
  Yk 23 #[pT p,uI now] w λV f=>V=.returned (.tuple #[])/\eB f (grow S w f) p (kr e now)/\Mod S jC w f:=by
 have f4:=h.mem;obtain⟨x,z⟩:=h.set1 17 (uI (max e.now now)) (nO e now) (λ_ _ _ _=>rfl) rfl rfl rfl rfl;have N:dG k (nO e now):=qO i b9;have c1:kr e now=jE (nO e now):=rfl;rw[c1];obtain⟨g2,g1,g0,f9,a5,_⟩:=h.ex;obtain⟨d9,f2⟩:=a5.cz 17;obtain⟨g,a6⟩:=eX (nO e now);rw[<-a6]at x N M|-;obtain⟨o,J⟩:=eX (w.setCell ⟨p,17,none⟩ (uI (max e.now now)));rw[<-J]at x z;obtain⟨t,a0,a1⟩:=Av x N (z.mono (T':=jC) (λ_ _ h=>h) (by simp[jC]));have e3:w.heap.size<=o.heap.size:=z.size;have d7:=zH (a8.later e3);obtain⟨v,I⟩:=eX (jE g);rw[<-I];have D:=zH I;clear a6 x z N i c1 h a5 b9 I a8;go_enter Tryz.func23,Tryz.ntmps23;go_wp2_with fail;rw[<-J];clear J d9 f2;refine(sP S p g o t.o).mono ?_;rintro V f ⟨rfl,c3⟩;obtain rfl:=c3.symm;clear c3;cases hov:Yn g with
 |true=>
  have c9:X3 (v=g):=zH (by rw[D.o];unfold jE;rw[aB hov]);go_wp2;refine mE ?_;rw[c9.o];exact⟨rfl,t.o.mono (λ_ h=>oU h),a1.o⟩
 |false=>
  obtain⟨e8,e7,c5,e6,a,_⟩:=t.o.ex;obtain⟨e0,e1⟩:=a.e2 17 42;clear a;go_wp2;refine bN kR kR ?_;(repeat (go_big_quiet_step (((go_at_call 58;exact aJ ((wQ _ _ _).mono λe f h=>⟨h.1,h.2.symm⟩))))));refine aK ?_;rintro _ ⟨nq,rfl⟩;obtain⟨m,q⟩:=eX (o.drewN nq);(have a7:eB m S p g:=by rw[q];exact t.o.below (by have b0:=aj o.heap.size o;exact BEL));(have H:Mod S jC w m:=by rw[q];exact a1.o.drewN nq);have c0:w.heap.size<=m.heap.size:=H.size;(have a9:Bd S m:=by rw[q];exact d7.o);rw[<-q];obtain⟨c7,d4,a3⟩:=Av a7 H a9;clear q a7 H a9 e0 e1;cases hdu:tH g.now g.gU with
  |true=>
   (have c2:v=jm (kD (iB g).en (iB g).lost (iB g).some_):=by rw[D.o];unfold jE;rw[Ww (by simp[hov]),aB hdu]);have b7:=tC a0.o;obtain⟨d0,n,E⟩:=Av (EY k S p g m c7.o a0.o a3.o) b7 c2;clear c2 b7 D;generalize iB g=e2 at*
   obtain⟨A,e9,d⟩:=e2;go_wp2_with fail;refine Yd d0.o ?_;rintro j ⟨b4,P⟩;have e4:=P.size;obtain⟨u,a2,f3⟩:=Av b4 (d4.o.then (P:Mod S jC m j) (λ_ _ h=>h)) (a3.o.grow e4);clear b4 P;cases e9 with
   |false=>
    have C:=zH (rz k (grow S m j) p d j u.o n.o.1);go_wp2_with fail;refine Yd C.o ?_;rintro s ⟨b5,Q⟩;have e5:=Q.size;have r:eB s (grow S w s) p v/\Mod S jC w s:=by
     rw[E.o];exact⟨b5.mono (λk i=>i.elim .inl (λh=>.inr ⟨ay c0 h.1,aC h.2 e5⟩)),a2.o.then (Q.mono (T':=jC) (λ_ _ h=>h) (by simp[jC])) (λk b8 i=>i.elim id (λh=>Wy h.1 oM))⟩
    have B:=zH r;clear b5 Q r;go_wp2;refine mE ?_;exact⟨rfl,B.o⟩
   |true=>
    obtain⟨e8,e7,c5,e6,a,_,_,a4,_⟩:=u.o.ex;obtain⟨f5,g3,g4,h2,h4,i4⟩:=LX u.o.lt (a.Wu 0) (a.Wu 1) (a.Wu 2) (a.Wu 3) (a.Wu 4);obtain⟨i5,i6,i7,i8,i9,g5⟩:=a.e6 5 6 7 8 9 10;obtain⟨g6,g7,g8,g9,h0,h1⟩:=a.e6 11 12 13 14 15 16;obtain⟨h5,h6,h7,h8,h9,i0⟩:=a.e6 30 31 32 33 34 35;obtain⟨i1,i2,i3,h3⟩:=a.e4 36 37 38 21;have d2:=zH (λf (b0:bW j f)=>(pK (grow S m j) c5 d.led f (a4.below b0)).mono (R':=λe c6=>e=.returned (uI d.led.next)/\bW f c6) (λe c6 h=>⟨h.1,by rw[<-h.2];exact aj _ _⟩));have d3:=zH (Ja d.c d.cc A d.led.next n.o.1.cf n.o.1.cc n.o.2);have U:kD d A true={d with cc:=uN d.c d.cc A d.led.next}:=rfl;have O:=uJ (b:=true) n.o.1 n.o.2;rw[U]at O;have T:=E.o;simp only[U]at T;generalize uN d.c d.cc A d.led.next=l at*
    obtain⟨d1,d6⟩:=yx O T;clear a a4 O T U E;go_wp2;refine gN kR ?_;refine X9 0 ?_;(try simp only[Act.put,Array.setIfInBounds]);(try go_simp);refine eQ 1 15 kR (λf=>∃f1:BW j,f=f1.val) ⟨⟨j.drewN 1,⟨rfl,rfl,rfl,av _,λ_ _=>rfl⟩⟩,rfl⟩ ?_;refine mD ?_;(repeat (go_big_quiet_step ((go_at_call 61;exact bU _ (d2.o _ (by apply BW.same))))));refine aK ?_;refine bwI ?_;intro s b1;have b2:bW j s:=b1;have Y:=zH b2;clear b1 b2;refine dA rfl rfl ?_;go_simp;go_at_call 60;refine(d3.o _).mono ?_;rintro V W ⟨rfl,b3⟩;have L:bW j W:=Y.o.trans (b3.mono Y.o.size);have F:eB W (grow S m j) p d:=u.o.below L;obtain⟨Z,c8⟩:=yx L F;obtain⟨j3,j2,j1,j0,c,_⟩:=F.ex;obtain⟨k3,j4,k4,j5,k5,j6⟩:=LX (c.frozen 30) (c.Wu 30) (c.frozen 31) (c.Wu 31) (c.frozen 32) (c.Wu 32);obtain⟨k6,j7,k7,j8,k8,j9⟩:=LX (c.frozen 33) (c.Wu 33) (c.frozen 34) (c.Wu 34) (c.frozen 35) (c.Wu 35);obtain⟨k9,k0,l0,k1,l1,k2⟩:=LX (c.frozen 36) (c.Wu 36) (c.frozen 37) (c.Wu 37) (c.frozen 38) (c.Wu 38);clear b3 L F c;go_simp;refine X9 16 ?_;refine X9 17 ?_;refine X9 18 ?_;(try simp only[Act.put,Array.setIfInBounds]);(try go_simp);refine eQ 19 21 kR (λf=>∃_:Unit,f=_) ⟨(),rfl⟩ ?_;refine mA ?_;rintro f0 ⟨_,c4⟩;rw[c4];clear c4 f0;refine dA rfl rfl ?_;go_simp;refine jY 22 kR kR ?_;refine mC ?_;obtain⟨d8,K⟩:=eX ((((((((((W.setCell ⟨p,30,none⟩ (uI l.win.cr)).setCell ⟨p,31,none⟩ (uI l.win.dL)).setCell ⟨p,32,none⟩ (uI l.win.acc)).setCell ⟨p,33,none⟩ (uI l.win.jF)).setCell ⟨p,34,none⟩ (uI l.win.gX)).setCell ⟨p,35,none⟩ (uI l.win.k)).setCell ⟨p,36,none⟩ (uI l.win.fair)).setCell ⟨p,37,none⟩ (uI l.round.iO)).setCell ⟨p,38,none⟩ (uI l.round.mX)));rw[<-K];obtain⟨G,y⟩:=c8.o.Ij l;rw[<-K]at G y;have f6:=Z.o.size;have f7:=y.size;have d5:=zH ((a2.o.then (aH (S:=S) Z.o) (λ_ _ h=>h)).then (y.mono (T':=jC) (λ_ _ h=>h) (by simp[jC])) (λk b8 i=>i.elim id (λh=>Wy h.1 oM)));have C:=zH (rz k (grow S m j) p {d with cc:=l} d8 G d1.o);clear G y K;go_wp2_with fail;refine Yd C.o ?_;rintro X ⟨b6,R⟩;have f8:=R.size;have r:eB X (grow S w X) p v/\Mod S jC w X:=by
     rw[d6.o];exact⟨b6.mono (λk i=>i.elim .inl (λh=>.inr ⟨ay c0 h.1,by have:=h.2;omega⟩)),d5.o.then (R.mono (T':=jC) (λ_ _ h=>h) (by simp[jC])) (λk b8 i=>i.elim id (λh=>Wy h.1 oM))⟩
    have B:=zH r;clear b6 R r;go_wp2;refine mE ?_;exact⟨rfl,B.o⟩
  |false=>
   rw[hdu]at M;cases M
theorem JF (k:Nat) (S:X4) (p:Nat) (e:En) (now:Int) (w:World) (h:eB w S p e) (d:dG k e) (d5:Bd S w) (e1:Word now) (b0:tH (nO e now).now (nO e now).gU=false):
  Yk 23 #[pT p,uI now] w λb7 f=>b7=.returned (.tuple #[])/\eB f (grow S w f) p (kr e now)/\Mod S jC w f:=by
 have m7:=h.mem;obtain⟨N,n⟩:=h.set1 17 (uI (max e.now now)) (nO e now) (λ_ _ _ _=>rfl) rfl rfl rfl rfl;have b3:dG k (nO e now):=qO d e1;have e6:kr e now=jE (nO e now):=rfl;rw[e6];obtain⟨o4,o3,o2,o1,d0,_⟩:=h.ex;obtain⟨h3,j7⟩:=d0.cz 17;obtain⟨a,d1⟩:=eX (nO e now);rw[<-d1]at N b3 b0|-;obtain⟨y,a9⟩:=eX (w.setCell ⟨p,17,none⟩ (uI (max e.now now)));rw[<-a9]at N n;obtain⟨I,L,c5⟩:=Av N b3 (n.mono (T':=jC) (λ_ _ h=>h) (by simp[jC]));have i0:w.heap.size<=y.heap.size:=n.size;have g9:=zH (d5.later i0);obtain⟨x,a8⟩:=eX (jE a);rw[<-a8];have a1:=zH a8;clear d1 N n b3 d e6 h d0 e1 a8 d5;go_enter Tryz.func23,Tryz.ntmps23;go_wp2_with fail;rw[<-a9];clear a9 h3 j7;refine(sP S p a y I.o).mono ?_;rintro b7 f ⟨rfl,e7⟩;obtain rfl:=e7.symm;clear e7;cases hov:Yn a with
 |true=>
  have m:X3 (x=a):=zH (by rw[a1.o];unfold jE;rw[aB hov]);go_wp2;refine mE ?_;rw[m.o];exact⟨rfl,I.o.mono (λ_ h=>oU h),c5.o⟩
 |false=>
  obtain⟨f1,f0,e9,e8,l,_⟩:=I.o.ex;obtain⟨a3,h5⟩:=l.e2 17 42;clear l;go_wp2;refine bN kR kR ?_;(repeat (go_big_quiet_step (((go_at_call 58;exact aJ ((wQ _ _ _).mono λe f h=>⟨h.1,h.2.symm⟩))))));refine aK ?_;rintro _ ⟨nq,rfl⟩;obtain⟨t,C⟩:=eX (y.drewN nq);(have d2:eB t S p a:=by rw[C];exact I.o.below (by have d9:=aj y.heap.size y;exact BEL));(have a5:Mod S jC w t:=by rw[C];exact c5.o.drewN nq);have n2:w.heap.size<=t.heap.size:=a5.size;(have d6:Bd S t:=by rw[C];exact g9.o);rw[<-C];obtain⟨J,g4,h0⟩:=Av d2 a5 d6;clear C d2 a5 d6 a3 h5;cases hdu:tH a.now a.gU with
  |true=>
   rw[hdu]at b0;cases b0
  |false=>
   obtain⟨f1,f0,e9,e8,l,_,_,h7,_⟩:=J.o.ex;have m8:=J.o.lt;have a3:=l.Wu 17;have c1:=zH (λf (d9:bW t f)=>xx k S p a f (J.o.below d9) L.o);have c2:=zH (λf=>(wQ a.now (jJ a) f).mono (R':=λe F=>e=.returned (bV (tH a.now (jJ a)))/\bW f F) (λe F h=>⟨h.1,by rw[<-h.2];exact aj _ _⟩));clear l h7;go_wp2;refine fq kR kR ?_;(repeat (go_big_quiet_step ((first|(go_at_call 63;exact bU _ (c1.o _ (by apply BW.same)))|(go_at_call 58;exact bU _ (c2.o _))))));refine aK ?_;refine bwI ?_;intro G e0;have Q:bW t G:=e0;have d4:eB G S p a:=J.o.below Q;have i2:=Q.size;obtain⟨K,c7,h1⟩:=Av d4 (g4.o.then (aH (S:=S) Q) (λ_ _ h=>h)) (h0.o.later i2);have o0:w.heap.size<=G.heap.size:=oM;clear e0 Q d4 a3 c1 c2;cases hd2:tH a.now (jJ a)with
   |false=>
    have m:X3 (x=a):=zH (by rw[a1.o];unfold jE;rw[Ww (by simp[hov]),Ww (by simp[hdu]),Ww (by simp[hd2])]);go_wp2;refine mE ?_;rw[m.o];exact⟨rfl,K.o.mono (λ_ h=>oU h),c7.o⟩
   |true=>
    have m:X3 (x=jm (if 3<=(jR a.dS a.now).count then{jT {a with dS:=jR a.dS a.now} (eY a.led)with fP:=true,cc:=kz (jT {a with dS:=jR a.dS a.now} (eY a.led)).c (jT {a with dS:=jR a.dS a.now} (eY a.led)).cc}else{jT {a with dS:=jR a.dS a.now} (eY a.led)with fP:=true})):=zH (by rw[a1.o];unfold jE;rw[Ww (by simp[hov]),Ww (by simp[hdu]),aB hd2];rfl);obtain⟨f1,f0,e9,e8,l,_⟩:=K.o.ex;obtain⟨m9,o6,o7,o8⟩:=Hl K.o.lt (l.Wu 17) (l.Wu 28) (l.Wu 29);have Y:=zH (λf=>(NW a.dS.count a.dS.since a.now f).mono (R':=λe F=>e=.returned (.agg #[jI ((jR ⟨a.dS.count,a.dS.since⟩ a.now).count),uI a.now])/\bW f F) (λe F h=>⟨h.1,by obtain⟨m4,m5,h8⟩:=h.2;rw[h8];exact BEL⟩));have e2:jR ⟨a.dS.count,a.dS.since⟩ a.now=jR a.dS a.now:=rfl;rw[e2]at Y;have e3:(jR a.dS a.now).since=a.now:=rfl;obtain⟨Z,c8⟩:=yx (show dG k {a with dS:=jR a.dS a.now}from{L.o with pr:=BP _ L.o.now}) e3;clear l e2 e3;generalize jR a.dS a.now=i4 at*
    obtain⟨i,o5⟩:=i4;simp only at Y c8 Z m;go_wp2;refine dQ 12 kR kR ?_;refine mD ?_;(repeat (go_big_quiet_step (((go_at_call 64;exact bU _ (Y.o _))))));refine aK ?_;refine bwI ?_;intro U E;have q:bW G U:=E;have o:eB U S p a:=K.o.below q;obtain⟨b9,f7⟩:=yx q o;obtain⟨i9,i8,i7,i6,c,_⟩:=o.ex;have j5:=c.frozen 28;have W:=c.Wu 28;have j6:=c.frozen 29;have j4:=c.Wu 29;clear E q o c;refine dA rfl rfl ?_;go_simp;refine mR ?_;obtain⟨d3,a6⟩:=f7.o.set1 28 (jI i) {a with dS:=⟨i,a.dS.since⟩} (λ_ _ _ _=>rfl) rfl rfl rfl rfl;obtain⟨A,O⟩:=d3.set1 29 (uI a.now) {a with dS:=⟨i,a.now⟩} (λ_ _ _ _=>rfl) rfl rfl rfl rfl;obtain⟨z,d7⟩:=eX ((U.setCell ⟨p,28,none⟩ (jI i)).setCell ⟨p,29,none⟩ (uI a.now));rw[<-d7]at A O|-;have h9:=c8.o;subst h9;have n3:=b9.o.size;have n4:U.heap.size<=z.heap.size:=(a6.trans O).size;have a7:Mod S jC w z:=(c7.o.then (aH (S:=S) b9.o) (λ_ _ h=>h)).then ((a6.trans O).mono (T':=jC) (λ_ _ h=>h) (by simp[jC])) (λ_ _ h=>h);obtain⟨g5,f9,c9⟩:=Av a7 A (h1.o.later (show G.heap.size<=z.heap.size by omega));obtain⟨p1,p0,i5,o9,f2,_,_,f3,_⟩:=A.ex;have n0:=A.lt;have h6:=f2.Wu 21;have g2:=zH (xR S i5 a.led z f3 L.o.le);have n9:w.heap.size<=z.heap.size:=a7.size;clear d7 d3 a6 A O a7 f2 f3 j5 j6 W j4;go_wp2_with fail;refine Yd g2.o ?_;intro V R;have e5:=R.size;have g3:=zH (EX k S p {a with dS:=⟨i,a.now⟩} (eY a.led) V (f9.o.below R) Z.o (c9.o.later e5));obtain⟨g6,v⟩:=yx (g5.o.then (aH (S:=S) R) (λ_ _ h=>h)) (wP Z.o (eY a.led));have e4:(jT {a with dS:=⟨i,a.now⟩} (eY a.led)).dS=⟨i,a.now⟩:=rfl;have g8:=zH e4;clear R h6 e4;generalize jT {a with dS:=⟨i,a.now⟩} (eY a.led)=g at*
    go_wp2_with fail;refine Yd g3.o ?_;rintro H ⟨b1,b6⟩;have i1:=b6.size;obtain⟨B,n⟩:=b1.set1 46 (bV true) {g with fP:=true} (λ_ _ _ _=>rfl) rfl rfl rfl rfl;obtain⟨a2,D⟩:=eX (H.setCell ⟨p,46,none⟩ (bV true));rw[<-D]at B n;obtain⟨j3,j2,j1,j0,u1,_⟩:=b1.ex;have f5:=u1.frozen 46;have f4:=u1.Wu 46;have n5:=n.size;obtain⟨c6,c3,c4⟩:=Av ((g6.o.then (b6.mono (T':=jC) (λ_ _ h=>h) (by simp[jC])) (λ_ _ h=>h)).then (n.mono (T':=jC) (λ_ _ h=>h) (by simp[jC])) (λk b5 d=>d.elim id (λh=>Wy h.1 oM))) B (show dG k {g with fP:=true}from{v.o with});obtain⟨p5,p4,p3,p2,b,_⟩:=B.ex;have n1:=B.lt;(have W:H.cell? ⟨p,28,none⟩=some (jI i):=by have:=u1.cell 28;rw[show(enC g j3 j2 j1 j0)[28]?=some (jI g.dS.count)from rfl,g8.o]at this;exact this);obtain⟨j8,j9,k7,k8,l8,l9⟩:=b.e6 0 1 2 3 4 5;obtain⟨m0,m1,m2,m3,k0,k1⟩:=b.e6 6 7 8 9 10 11;obtain⟨k2,k3,k4,k5,k6,k9⟩:=b.e6 12 13 14 15 16 30;obtain⟨l0,l1,l2,l3,l4,l5⟩:=b.e6 31 32 33 34 35 36;obtain⟨l6,l7⟩:=b.e2 37 38;have n7:w.heap.size<=a2.heap.size:=oM;have m6:=c9.o.later e5|>.grow i1;clear b1 b6 B n u1 b;by_cases M:3<=i
    case' pos=>
     (have h4:=bM M);have f6:=zH (GM g.c g.cc v.o.cf v.o.cc);have b4:=xC v.o.cf v.o.cc;have r:=m.o;rw[aB M]at r;generalize kz g.c g.cc=j at*
     obtain⟨X,g1⟩:=yx r (show dG k {g with fP:=true,cc:=j}from{c4.o with cc:=b4.1,cw:=b4.2});clear r b4 m;go_wp2_with fail;rw[<-D];clear D W f4 f5;refine dQ 12 kR kR ?_;refine mD ?_;(repeat (go_big_quiet_step (((go_at_call 67;exact bU _ (f6.o _))))));refine aK ?_;refine bwI ?_;intro b8 E;have q:bW a2 b8:=E;have o:eB b8 (grow S V H) p {g with fP:=true}:=c3.o.below q;obtain⟨c0,f8⟩:=yx q o;obtain⟨i9,i8,i7,i6,c,_⟩:=o.ex;obtain⟨q5,p6,q6,p7,q7,p8⟩:=LX (c.frozen 30) (c.Wu 30) (c.frozen 31) (c.Wu 31) (c.frozen 32) (c.Wu 32);obtain⟨q8,p9,q9,q0,r0,q1⟩:=LX (c.frozen 33) (c.Wu 33) (c.frozen 34) (c.Wu 34) (c.frozen 35) (c.Wu 35);obtain⟨r1,q2,r2,q3,r3,q4⟩:=LX (c.frozen 36) (c.Wu 36) (c.frozen 37) (c.Wu 37) (c.frozen 38) (c.Wu 38);clear E q o c;refine dA rfl rfl ?_;go_simp;refine mR ?_;obtain⟨a4,P⟩:=f8.o.Ij j;obtain⟨h2,d8⟩:=eX ((((((((((b8.setCell ⟨p,30,none⟩ (uI j.win.cr)).setCell ⟨p,31,none⟩ (uI j.win.dL)).setCell ⟨p,32,none⟩ (uI j.win.acc)).setCell ⟨p,33,none⟩ (uI j.win.jF)).setCell ⟨p,34,none⟩ (uI j.win.gX)).setCell ⟨p,35,none⟩ (uI j.win.k)).setCell ⟨p,36,none⟩ (uI j.win.fair)).setCell ⟨p,37,none⟩ (uI j.round.iO)).setCell ⟨p,38,none⟩ (uI j.round.mX)));rw[<-d8]at a4 P|-;have n8:=c0.o.size;have n6:=P.size;have g7:=zH ((c6.o.then (aH (S:=S) c0.o) (λ_ _ h=>h)).then (P.mono (T':=jC) (λ_ _ h=>h) (by simp[jC])) (λk b5 d=>d.elim id (λh=>Wy h.1 oM)));have a0:=zH (rz k (grow S V H) p {g with fP:=true,cc:=j} h2 a4 g1.o);clear a4 P d8;go_wp2_with fail;refine Yd a0.o ?_;rintro s ⟨T,u⟩;have i3:=u.size;have b2:eB s (grow S w s) p x/\Mod S jC w s:=by
      rw[X.o];exact⟨T.mono (λk d=>d.elim .inl (λh=>.inr ⟨by have:=h.1;omega,by have:=h.2;omega⟩)),g7.o.then (u.mono (T':=jC) (λ_ _ h=>h) (by simp[jC])) (λk b5 d=>d.elim id (λh=>Wy h.1 oM))⟩
    case' neg=>
     (have h4:=bJ M);have r:=m.o;rw[Ww M]at r;have X:=zH r;have a0:=zH (rz k (grow S V H) p {g with fP:=true} a2 c3.o c4.o);clear r m;go_wp2_with fail;rw[<-D];clear D W f4 f5;refine(a0.o).mono ?_;rintro b7 s ⟨rfl,T,u⟩;have i3:=u.size;have b2:eB s (grow S w s) p x/\Mod S jC w s:=by
      rw[X.o];exact⟨T.mono (λk d=>d.elim .inl (λh=>.inr ⟨by have:=h.1;omega,by have:=h.2;omega⟩)),c6.o.then (u.mono (T':=jC) (λ_ _ h=>h) (by simp[jC])) (λk b5 d=>d.elim id (λh=>Wy h.1 oM))⟩
    all_goals
     have g0:=zH b2;clear T u b2;go_wp2;refine mE ?_;exact⟨rfl,g0.o⟩
theorem Ay (k:Nat) (S:X4) (p:Nat) (e:En) (now:Int) (w:World) (h:eB w S p e) (c:dG k e) (b:Bd S w) (d:Word now):
  Yk 23 #[pT p,uI now] w λf a=>f=.returned (.tuple #[])/\eB a (grow S w a) p (kr e now)/\Mod S jC w a:=by
 cases hd:tH (nO e now).now (nO e now).gU with
 |true=>exact JG k S p e now w h c b d hd
 |false=>exact JF k S p e now w h c b d hd
end Go.Proofs.YtiflndepmgnojaaGreat
