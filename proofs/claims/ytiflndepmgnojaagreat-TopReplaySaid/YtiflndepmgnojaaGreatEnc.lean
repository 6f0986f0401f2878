import Derived.Test.YtiflndepmgnojaaGreatNumZ
import Derived.Test.YtiflndepmgnojaaGreatLawF
import Derived.Test.YtiflndepmgnojaaGreatRhf
namespace Go.Proofs.YtiflndepmgnojaaGreat
open Go.RowKit
set_option linter.unusedSimpArgs false
set_option linter.unusedVariables false
set_option maxHeartbeats 4000000
set_option maxRecDepth 100000
attribute[local go_sem] BW.cell BW.frozen
structure PgQ where
 n:Nat
 q:Nat
instance:Coe PgQ Nat:=⟨PgQ.n⟩
def enC (e:En) (ps c b:Nat) (a:PgQ):Array Value:= #[jI e.c.bits,uI e.c.one,jI e.c.ring,uI e.c.dO,jI e.c.room,uI e.c.mss,uI e.c.jD,uI e.c.bn,uI e.c.most,jI e.c.pX,uI e.c.first,uI e.c.jc,uI e.c.cap,uI e.c.gD,uI e.c.WL,jI e.c.bE,uI e.c.every,uI e.now,jI e.aS,pT ps,pT c,pT b,(pT a.n),bV e.rtt.has,uI e.rtt.mJ,uI e.rtt.bK,uI e.rtt.var,uI e.rtt.bn,jI e.dS.count,uI e.dS.since,uI e.cc.win.cr,uI e.cc.win.dL,uI e.cc.win.acc,uI e.cc.win.jF,uI e.cc.win.gX,uI e.cc.win.k,uI e.cc.win.fair,uI e.cc.round.iO,uI e.cc.round.mX,uI e.fM.fC,uI e.fM.pat,uI e.fM.gP,uI e.gU,uI e.dm,uI e.told,uI e.cO,bV e.fP]
def enT:List (Option TypeId):=[some 154,some 232,some 234,some 5,some 272,some 236,some 177,some 256,some 314,some 30]
def SoW (w:World) (S:Nat->Prop) (p q:Nat) (s:So):Prop:=sw w (λa=>S a/\(a=p\/a=q)) p s/\S q/\(q=p\/∃b,w.heap[q]?=some b/\nH b=some 30)
def GuW (w:World) (S:Nat->Prop) (p q:Nat) (g:Gu):Prop:=mI w (λa=>S a/\a≠q) p g
section
variable {w w':World} {S S':Nat->Prop} {p q:Nat} {s:So} {g:Gu} {ts:List (Option TypeId)}
theorem SoW.so (h:SoW w S p q s):sw w S p s:=sw.mono h.1 (λ_ h=>h.1)
theorem SoW.keep (h:SoW w S p q s) (b:bQ S ts w w') (f:some 232∈ts) (a:some 30∈ts):SoW w' S p q s:=
 ⟨sw.keep h.1 (b.mono (λ_ h=>h.1) (λ_ h=>h)) f a,h.2.1,h.2.2.imp id (λ⟨d,i,c⟩=>⟨d,b q d h.2.1 i (by rw[c];exact a),c⟩)⟩
theorem SoW.below (h:SoW w S p q s) (hb:bW w w'):SoW w' S p q s:=h.keep (ts:=[some 232,some 30]) (bQ.below hb) sM sM
theorem SoW.mono (h:SoW w S p q s) (a:∀b,S b->S' b):SoW w S' p q s:=⟨sw.mono h.1 (λ_ h=>⟨a _ h.1,h.2⟩),a _ h.2.1,h.2.2⟩
theorem SoW.of (h:sw w S p s):∃q,q<w.heap.size/\SoW w S p q s:=by
 have c:=h.mem;have u:=h.lt;obtain⟨f,i,l,d⟩:=h.ex;by_cases k:0<s.l.length
 ·obtain⟨a,v,m,r,n,j,b,o⟩:=d.2 k
  have t:a<w.heap.size:=WT b;exact⟨a,t,⟨⟨f,i,l,d.1,λ_=>⟨a,v,m,r,n,⟨j,.inr rfl⟩,b,o⟩⟩,⟨c,.inl rfl⟩⟩,j,.inr ⟨_,b,rfl⟩⟩
 ·exact⟨p,u,⟨⟨f,i,l,d.1,λh=>Wy h k⟩,⟨c,.inl rfl⟩⟩,c,.inl rfl⟩
theorem GuW.gu (h:GuW w S p q g):mI w S p g:=mI.mono h (λ_ h=>h.1)
theorem GuW.keep (h:GuW w S p q g) (d:bQ S ts w w') (a:some 256∈ts) (b:some 314∈ts) (c:some 30∈ts):GuW w' S p q g:=mI.keep h (d.mono (λ_ h=>h.1) (λ_ h=>h)) a b c
theorem GuW.below (h:GuW w S p q g) (hb:bW w w'):GuW w' S p q g:=mI.below h hb
theorem GuW.mono (h:GuW w S p q g) (b:∀a,S a->S' a):GuW w S' p q g:=mI.mono h (λ_ h=>⟨b _ h.1,h.2⟩)
end
structure eB (w:World) (S:Nat->Prop) (p:Nat) (e:En):Prop where
 ex:∃ps pq pl pg,Blk w p 154 (enC e ps pq pl pg)/\SoW w S ps pg.q e.words/\mG w S pq e.dH/\iJ w S pl e.led/\GuW w S pg.n pg.q e.gu
 mem:S p
section
variable {w w':World} {S S':Nat->Prop} {p:Nat} {e:En}
theorem eB.lt (h:eB w S p e):p<w.heap.size:=by obtain⟨d,c,b,a,h,_⟩:=h.ex;exact h.lt
theorem eB.mono (h:eB w S p e) (a:∀b,S b->S' b):eB w S' p e:=by
 obtain⟨n,m,l,k,c,d,f,i,j⟩:=h.ex;exact⟨⟨n,m,l,k,c,d.mono a,f.za a,i.mono a,j.mono a⟩,a _ h.mem⟩
theorem eB.below (h:eB w S p e) (hb:bW w w'):eB w' S p e:=by
 obtain⟨l,k,j,i,a,b,c,d,f⟩:=h.ex;exact⟨⟨l,k,j,i,a.below hb a.lt,b.below hb,c.below hb,d.below hb,f.below hb⟩,h.mem⟩
end
theorem sP (S:Nat->Prop) (p:Nat) (e:En) (w:World) (h:eB w S p e):
  Calls Tryz.prog 51 #[pT p] w λf w'=>f=.returned (bV (lq e))/\w'=w:=by
 obtain⟨n,m,l,k,b,_⟩:=h.ex;have i:=b.Wu 18;have c:lq e=(e.aS==3||e.aS==4):=rfl;rw[c];clear h b c;generalize e.aS=d at*
 by_cases a:d=3
 ·subst a
  go_enter Tryz.func51,Tryz.ntmps51;go_wp2_with fail;go_ret;exact⟨rfl,rfl⟩
 ·have j:(d==3)=false:=by simp[a]
  go_enter Tryz.func51,Tryz.ntmps51;go_wp2_with fail;go_ret;exact⟨eF (by simp[a]),rfl⟩
theorem xJ (S:Nat->Prop) (p:Nat) (e:En) (w:World) (h:eB w S p e):
  Calls Tryz.prog 69 #[pT p] w λd w'=>d=.returned (uI (iI e))/\w'=w:=by
 obtain⟨m,l,k,j,a,_⟩:=h.ex;have b:=a.Wu 23;have i:=a.Wu 25;have f:=a.Wu 10;have c:iI e=if e.rtt.has then e.rtt.bK else e.c.first:=rfl;rw[c];clear h a c;cases hh:e.rtt.has with
 |true=>
  rw[hh]at b;go_enter Tryz.func69,Tryz.ntmps69;go_wp2_with fail;go_ret;exact⟨rfl,rfl⟩
 |false=>
  rw[hh]at b;go_enter Tryz.func69,Tryz.ntmps69;go_wp2_with fail;go_ret;exact⟨rfl,rfl⟩
theorem ET (S:Nat->Prop) (p:Nat) (e:En) (w:World) (h:eB w S p e) (f:Word e.cc.win.cr) (i:Word (iI e)) (j:Word e.c.WL):
  Calls Tryz.prog 49 #[pT p] w λl w'=>l=.returned (uI (rA e))/\∃b,w'=w.drewN b:=by
 have d:=zH (λb=>xJ S p e (w.drewN b) (h.below (by have a:=aj w.heap.size w;exact BEL)));obtain⟨u,t,r,o,a,_⟩:=h.ex;have n:=a.Wu 30;have m:=a.Wu 14;have k:rA e=xg e.cc.win.cr (iI e) e.c.WL:=rfl;rw[k];have c:=zH (PI e.cc.win.cr (iI e) e.c.WL f i j);clear h a k f i j;go_enter Tryz.func49,Tryz.ntmps49;go_wp2_with fail;refine bN kR kR ?_;(repeat (first|go_big_quiet_step ((first|(go_at_call 69;exact aJ (d.out _))|(go_at_call 108;exact dn (c.out _))))|quiet_step ((first|(go_at_call 69;exact aJ (d.out _))|(go_at_call 108;exact dn (c.out _))))));refine aK ?_;rintro _ ⟨nq,rfl⟩;go_wp2_with fail;go_ret;exact⟨rfl,_,rfl⟩
theorem JJ (S:Nat->Prop) (p:Nat) (e:En) (w:World) (h:eB w S p e) (i:WV e.dH):
  Calls Tryz.prog 88 #[pT p] w λl w'=>l=.returned (bV (rC e))/\∃a,w'=w.drewN a:=by
 obtain⟨r,k,o,n,b,_,c,_⟩:=h.ex;have m:=b.Wu 20;have d:=zH (λa=>Eh S k e.dH (w.drewN a) (c.below (by have b:=aj w.heap.size w;exact BEL)));have f:=zH (λa=>Xe S k e.dH (w.drewN a) (c.below (by have b:=aj w.heap.size w;exact BEL)) i);have j:rC e=(e.dH.base==fT e.dH):=rfl;rw[j];clear h b j c i;go_enter Tryz.func88,Tryz.ntmps88;go_wp2_with fail;refine bN kR kR ?_;(repeat (first|go_big_quiet_step ((first|(go_at_call 72;exact aJ ((d.out _).mono λe w' h=>⟨h.1,h.2.symm⟩))|(go_at_call 71;exact dn (f.out _))))|quiet_step ((first|(go_at_call 72;exact aJ ((d.out _).mono λe w' h=>⟨h.1,h.2.symm⟩))|(go_at_call 71;exact dn (f.out _))))));refine aK ?_;rintro _ ⟨nq,rfl⟩;go_wp2_with fail;go_ret;exact⟨rfl,_,rfl⟩
theorem xx (k:Nat) (S:Nat->Prop) (p:Nat) (e:En) (w:World) (h:eB w S p e) (b:dG k e):
  Calls Tryz.prog 63 #[pT p] w λE c=>E=.returned (uI (jJ e))/\bW w c:=by
 obtain⟨W,V,C,U,a,_,_,x,_⟩:=h.ex;have P:=a.Wu 28;have Q:=a.Wu 29;have J:=a.Wu 21;have K:=a.Wu 23;have L:=a.Wu 24;have M:=a.Wu 25;have N:=a.Wu 26;have O:=a.Wu 27;have G:=a.Wu 10;have H:=a.Wu 11;have I:=a.Wu 12;have R:=a.lt;have f:=zH (λc (a:bW w c)=>vB S C e.led c (x.below a) b.le);have g:=zH (Hq e.rtt e.c.first e.c.jc b.rtt.bK b.rtt.var b.cf.Cx b.cf.Gz);have A:=zH (BD b.rtt b.cf.Cx b.cf.Gz);have z:=zH b.cf.capw;have v:=zH b.pr;have l:jJ e=qW e.dS (decide (0<gq e.led)) (qP e.rtt e.c.first e.c.jc) e.c.cap:=rfl;rw[l];generalize gq e.led=r at*
 generalize qP e.rtt e.c.first e.c.jc=n at*
 generalize e.c.cap=i at*
 generalize e.c.first=first at*
 generalize e.c.jc=T at*
 generalize e.rtt=X at*
 generalize e.dS=D at*
 clear h a x b l;obtain⟨j,m⟩:=D;simp only at*
 have q:=zH (λc=>(GL j m n i v.out.since A.out z.out (by have:=v.out.c1;simp only at this;omega) c).mono (R':=λe d=>e=.returned (uI (qW ⟨j,m⟩ true n i))/\bW c d) (λe d h=>⟨h.1,by obtain⟨B,s⟩:=h.2;rw[s];exact BEL⟩));have o:=zH (λc=>(JN j m n i c).mono (R':=λe d=>e=.returned (uI 18446744073709551615)/\bW c d) (λe d h=>⟨h.1,by obtain⟨B,s⟩:=h.2;rw[s];exact BEL⟩));by_cases y:0<r
 ·have u:decide (0<r)=true:=by simpa using y
  rw[u];clear o;go_enter Tryz.func63,Tryz.ntmps63;go_wp2_with fail;refine fq kR kR ?_;(repeat (first|go_big_quiet_step ((first|(go_at_call 68;exact bU _ (f.out _ (by apply BW.same)))|(go_at_call 141;exact bU _ (g.out _))|(go_at_call 140;exact bU _ (q.out _))))|quiet_step ((first|(go_at_call 68;exact bU _ (f.out _ (by apply BW.same)))|(go_at_call 141;exact bU _ (g.out _))|(go_at_call 140;exact bU _ (q.out _))))));refine aK ?_;refine bwI ?_;intro F t;go_wp2_with fail;go_ret;exact⟨rfl,t⟩
 ·have u:decide (0<r)=false:=by simpa using y
  rw[u];have l:qW ⟨j,m⟩ false n i=18446744073709551615:=rfl;rw[l];clear q;go_enter Tryz.func63,Tryz.ntmps63;go_wp2_with fail;refine fq kR kR ?_;(repeat (first|go_big_quiet_step ((first|(go_at_call 68;exact bU _ (f.out _ (by apply BW.same)))|(go_at_call 141;exact bU _ (g.out _))|(go_at_call 140;exact bU _ (o.out _))))|quiet_step ((first|(go_at_call 68;exact bU _ (f.out _ (by apply BW.same)))|(go_at_call 141;exact bU _ (g.out _))|(go_at_call 140;exact bU _ (o.out _))))));refine aK ?_;refine bwI ?_;intro F t;go_wp2_with fail;go_ret;exact⟨rfl,t⟩
theorem rz (k:Nat) (S:Nat->Prop) (p:Nat) (e:En) (w:World) (h:eB w S p e) (b:dG k e):
  Calls Tryz.prog 62 #[pT p] w λj d=>j=.returned (.tuple #[])/\eB d S p (jm e)/\Mod S [some 154] w d:=by
 have i:=h.mem;have o:=zH (λd (a:bW w d)=>(ET S p e d (h.below a) b.cc.win.cr (rZ b) ⟨by have:=b.cf.Ie;omega,by have:=b.cf.BA;omega⟩).mono (R':=λj B=>j=.returned (uI (rA e))/\bW d B) (λj B h=>⟨h.1,by obtain⟨a3,g⟩:=h.2;rw[g];exact BEL⟩));have l:=zH (ND e.fM e.c.gD e.now (rA e) b.pa.fC b.pa.pat b.pa.gP b.cf.uP b.now);have x:jm e={e with fM:=xq e.fM e.c.gD e.now (rA e)}:=rfl;rw[x];obtain⟨U,T,R,Q,a,g,s,t,u⟩:=h.ex;have X:=a.Wu 39;have Y:=a.Wu 40;have Z:=a.Wu 41;have V:=a.Wu 13;have W:=a.Wu 17;have L:=a.lt;have H:=zH a;have D:=zH g;have E:=zH s;have F:=zH t;have G:=zH u;generalize M:xq e.fM e.c.gD e.now (rA e)=P at*
 clear M h b x g s t u a;obtain⟨A,y,z⟩:=P;simp only at l|-;go_enter Tryz.func62,Tryz.ntmps62;go_wp2_with fail;refine dQ 19 kR kR ?_;refine mD ?_;(repeat (first|go_big_quiet_step (first|(go_at_call 49;exact bU _ (o.out _ (by apply BW.same)))|(go_at_call 139;exact bU _ (l.out _)))|quiet_step (first|(go_at_call 49;exact bU _ (o.out _ (by apply BW.same)))|(go_at_call 139;exact bU _ (l.out _)))));refine aK ?_;refine bwI ?_;intro C v;have m:bW w C:=v;have c:=H.out.below m L;have a4:=c.frozen 39;have a5:=c.frozen 40;have a6:=c.frozen 41;have a0:=c.Wu 39;have a1:=c.Wu 40;have a2:=c.Wu 41;have n:=zH c;have I:=zH m;clear v m c;refine dA rfl rfl ?_;go_simp;refine mR ?_;go_end0;have q:=n.out.bF 39 (uI A);have r:=q.bF 40 (uI y);have J:=r.bF 41 (uI z);have K:Mod S [some 154] w C:=aH I.out;have N:=K.setCell n.out (λ_=>i) sM 39 (uI A);have O:=N.setCell q (λ_=>i) sM 40 (uI y);have f:=O.setCell r (λ_=>i) sM 41 (uI z);refine⟨rfl,⟨⟨U,T,R,Q,J,?_,?_,?_,?_⟩,i⟩,f⟩
 ·exact D.out.keep (ts:=[some 232,some 30]) (f.aM sM) sM sM
 ·exact E.out.keep (ts:=[some 234,some 5,some 272]) (f.aM sM) sM sM sM
 ·exact F.out.keep (ts:=[some 236,some 177]) (f.aM sM) sM sM
 ·exact G.out.keep (ts:=[some 256,some 314,some 30]) (f.aM sM) sM sM sM
theorem EX (k:Nat) (S:Nat->Prop) (p:Nat) (e:En) (a:Int) (w:World) (h:eB w S p e) (g:dG k e) (O:Bd S w):
  Calls Tryz.prog 65 #[pT p,uI a] w λs b=>s=.returned (.tuple #[])/\eB b (grow S w b) p (jT e a)/\Mod S [some 236,some 177,some 234,some 5] w b:=by
 have b8:=h.mem;obtain⟨Z,n,m,Y,c,L,M,v,N⟩:=h.ex;have I:=c.Wu 20;have J:=c.Wu 21;have z:=c.lt;obtain⟨c3,X,V⟩:=Jf g.le a;have a6:=zH (Qq S m e.led a w v g.le);have b5:=zH (λb (h:iJ b S m e.led)=>Gn S m e.led a b h g.le);have a8:=zH (λb (h:mG b S n e.dH)=>Kz S n e.dH (mH e.led a).off (mH e.led a).len b h g.qu X V);have T:jT e a={e with led:=gH e.led a 3,dH:=pF e.dH (mH e.led a).off (mH e.led a).len}:=rfl;rw[T];have a4:=zH c;have a0:=zH L;have a1:=zH M;have a2:=zH v;have a3:=zH N;have b4:=zH O;clear h g T L M v N c O c3 X V;generalize mH e.led a=c4 at*
 obtain⟨E,D,u,C,F,B,H,G⟩:=c4;simp only at*
 go_enter Tryz.func65,Tryz.ntmps65;go_wp2_with fail;refine(a6.out).mono ?_;rintro s t ⟨⟨c6,rfl⟩,j⟩;have K:=(j.cell (p:=⟨p,20,none⟩) z).trans I;have b7:=(j.cell (p:=⟨p,21,none⟩) z).trans J;have d0:=j.size;have c9:p<t.heap.size:=oM;have a5:=zH j;clear j I J;go_wp2_with fail;obtain⟨q,r⟩:=eX (t.alloc (.cells #[uI E,uI D,uI u,uI C,uI F,bV B,bV H,jI G] 177));rw[<-r];(have U:Blk q t.heap.size 177 #[uI E,uI D,uI u,uI C,uI F,bV B,bV H,jI G]:=by rw[r];exact Wx _ _ _);(have l:bW w q:=by rw[r];have c:=a5.out;exact BEL);have o:=zH l;have b6:=zH U;clear r l U K b7;refine(b5.out q (a2.out.below o.out)).mono ?_;rintro s f ⟨⟨c7,rfl⟩,P,d⟩;have A:Blk f t.heap.size 177 #[uI E,uI D,uI u,uI C,uI F,bV B,bV H,jI G]:=b6.out.out d (λh=>by have:=b4.out _ h;omega);have x:Blk f p 154 (enC e Z n m Y):=(a4.out.below o.out z).mod d dC;have K:=x.Wu 20;have d2:=A.Wu 1;have d3:=A.Wu 2;have Q:mG f S n e.dH:=(a1.out.below o.out).keep (ts:=[some 234,some 5,some 272]) (d.aM dC) sM sM sM;have a7:=zH x;have b2:=zH Q;have a9:=zH P;have b0:=zH d;clear A x Q P d;go_wp2_with fail;refine bP 8 kR kR ?_;refine mD ?_;refine mR ?_;rintro _ ⟨W,rfl⟩;refine dA rfl rfl ?_;go_simp;go_at_call 144;refine(a8.out _ (b2.out.below (by have c:=aj f.heap.size f;exact BEL))).mono ?_;rintro s c5 ⟨⟨c8,rfl⟩,R,i⟩;have b3:=zH R;have b1:=zH i;clear R i;go_simp;refine aK ?_;go_end0;have l:=o.out;have d:=b0.out;have i:=b1.out;have c1:=l.size;have c2:=d.size;have d1:=i.size;have b9:Mod S [some 236,some 177,some 234,some 5] w q:=aH l;have c0:Mod S [some 236,some 177,some 234,some 5] w f:=b9.then (d.mono (λ_ _ h=>h) sM) (λ_ _ h=>h);have y:Mod S [some 236,some 177,some 234,some 5] w c5:=(c0.drewN W).then (i.mono (λ_ _ h=>h) sM) (λ_ _ h=>h);refine⟨rfl,⟨⟨Z,n,m,Y,?_,?_,?_,?_,?_⟩,oU b8⟩,y⟩
 ·exact(a7.out.drewN W).mod i dC
 ·exact(a0.out.keep (ts:=[some 232,some 30]) (y.aM dC) sM sM).mono (λ_ h=>oU h)
 ·exact b3.out.za (λk g=>g.elim oU (λh=>.inr ⟨ay (ay c1 c2) h.1,h.2⟩))
 ·exact((a9.out.below (by have c:=aj f.heap.size f;exact BEL)).keep (ts:=[some 236,some 177]) (i.aM dC) sM sM).mono (λ_ h=>oU h)
 ·exact(a3.out.keep (ts:=[some 256,some 314,some 30]) (y.aM dC) sM sM sM).mono (λ_ h=>oU h)
end Go.Proofs.YtiflndepmgnojaaGreat
