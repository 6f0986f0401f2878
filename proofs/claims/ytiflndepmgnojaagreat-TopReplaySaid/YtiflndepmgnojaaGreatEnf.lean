import Derived.Test.YtiflndepmgnojaaGreatNumB
import Derived.Test.YtiflndepmgnojaaGreatEnc
namespace Go.Proofs.YtiflndepmgnojaaGreat
open Go.RowKit
set_option linter.unusedSimpArgs false
set_option linter.unusedVariables false
set_option maxHeartbeats 8000000
set_option maxRecDepth 100000
attribute[local go_sem] BW.cell BW.frozen
theorem Cz (k:Nat) (S C:Nat->Prop) (p:Nat) (e:En) (q:Option Addr) (a:List Int) (r:Nat) (w:World) (h:eB w S p e) (s:dG k e) (hb:Bys w C q a) (O:a.length<=r) (P:a.length<=1000000000):
  Calls Tryz.prog 17 #[pT p,.slice q a.length r] w λi c=>i=.returned (.tuple #[jI (fU e a).n,jI (fU e a).err])/\eB c (grow S w c) p (fU e a).en/\Mod S [some 234,some 5] w c:=by
 have Q:=h.mem;by_cases j:e.aS=1
 ·obtain⟨L,m,K,J,d,F,G,H,I⟩:=h.ex
  have E:=d.Wu 18;have U:=d.Wu 20;rw[j]at E;have B:=zH (Iq S C m e.dH q a r w G s.qu hb O P);(have l:fU e a=⟨kg e.dH a.length,if kg e.dH a.length<a.length then 7 else 0,{e with dH:=oI e.dH a}⟩:=by unfold fU;rw[Ww (by simp[j])]);rw[l];have y:=zH d;have u:=zH F;have v:=zH H;have x:=zH I;clear h d F G H I s j l hb;simp only;generalize kg e.dH a.length=g at*
  have z:∀c i,(∃t,i=Ending.returned (.tuple #[jI g,jI t])/\t=if g<a.length then 7 else 0)->mG c (grow S w c) m (oI e.dH a)->Qum S w c->i=.returned (.tuple #[jI g,jI (if g<a.length then 7 else 0)])/\eB c (grow S w c) p {e with dH:=oI e.dH a}/\Mod S [some 234,some 5] w c:=by
   rintro c i ⟨t,rfl,rfl⟩ f b;exact⟨rfl,⟨⟨L,m,K,J,y.out.mod b dC,(u.out.keep (ts:=[some 232,some 30]) (b.aM dC) sM sM).mono (λ_ h=>oU h),f,
    (v.out.keep (ts:=[some 236,some 177]) (b.aM dC) sM sM).mono (λ_ h=>oU h),(x.out.keep (ts:=[some 256,some 314,some 30]) (b.aM dC) sM sM sM).mono (λ_ h=>oU h)⟩,oU Q⟩,b⟩
  have A:=zH z;clear z y u v x;by_cases D:g<a.length
  ·have N:decide ((g:Int)<(a.length:Int))=true:=by simp;omega
   go_enter Tryz.func17,Tryz.ntmps17;go_wp2_with fail;refine(B.out).mono ?_;rintro i T ⟨rfl,f,b⟩;have o:=zH f;have n:=zH b;clear f b;go_wp2_with fail;go_ret2;exact⟨rfl,(A.out _ _ ⟨7,rfl,by rw[aB D]⟩ o.out n.out).2⟩
  ·have N:decide ((g:Int)<(a.length:Int))=false:=by simp;omega
   go_enter Tryz.func17,Tryz.ntmps17;go_wp2_with fail;refine(B.out).mono ?_;rintro i T ⟨rfl,f,b⟩;have o:=zH f;have n:=zH b;clear f b;go_wp2_with fail;go_ret2;exact⟨rfl,(A.out _ _ ⟨0,rfl,by rw[Ww D]⟩ o.out n.out).2⟩
 ·have l:fU e a=⟨0,9,e⟩:=by unfold fU;rw[aB j]
  rw[l];obtain⟨L,m,K,J,d,_⟩:=h.ex;have E:=d.Wu 18;(have V:(e.aS !=1)=true:=by simp[j]);have M:=zH h;clear h d s hb l;generalize R:e.aS=W at*
  clear R;go_enter Tryz.func17,Tryz.ntmps17;go_wp2_with fail;go_ret2;exact⟨rfl,M.out.mono (λ_ h=>oU h),aV _ _ _⟩
theorem Lh (k:Nat) (S:Nat->Prop) (p:Nat) (e:En) (w:World) (h:eB w S p e) (A:dG k e):
  Calls Tryz.prog 36 #[pT p] w λC L=>C=.returned (jI (kF e).err)/\eB L S p (kF e).en/\Mod S [some 154] w L:=by
 have I:=h.mem;by_cases o:e.aS=1
 ·obtain⟨j,i,g,f,c,t,u,v,x⟩:=h.ex
  obtain⟨F,U⟩:=c.cz 18;have Q:=c.lt;rw[o]at F;(have q:kF e=⟨0,0,{e with aS:=if rC e then 3 else 2}⟩:=by unfold kF;rw[Ww (by simp[o])]);rw[q];have K:∀(a:World) (d:En) (b:Int),(∀j i g f,Blk a p 154 (enC d j i g f)->Blk (a.setCell ⟨p,18,none⟩ (jI b)) p 154 (enC {d with aS:=b} j i g f)):=λa d b j i g f z=>z.bF 18 (jI b);have B:∀(a:World) (d:En) (b:Int),eB a S p d->eB (a.setCell ⟨p,18,none⟩ (jI b)) S p {d with aS:=b}/\Mod S [some 154] a (a.setCell ⟨p,18,none⟩ (jI b)):=by
   intro a d b h;obtain⟨j,i,g,f,c,t,u,v,x⟩:=h.ex;have n:Mod S [some 154] a (a.setCell ⟨p,18,none⟩ (jI b)):=(aV S _ a).setCell c (λ_=>I) sM 18 _;exact⟨⟨⟨j,i,g,f,K a d b _ _ _ _ c,t.keep (ts:=[some 232,some 30]) (n.aM dC) sM sM,u.keep (ts:=[some 234,some 5,some 272]) (n.aM dC) sM sM sM,
    v.keep (ts:=[some 236,some 177]) (n.aM dC) sM sM,x.keep (ts:=[some 256,some 314,some 30]) (n.aM dC) sM sM sM⟩,I⟩,n⟩
  have N:=zH B;obtain⟨y,J⟩:=B w e 2 h;have l:=zH (JJ S p {e with aS:=2} _ y A.qu);have D:=zH y;have E:=zH J;have H:rC {e with aS:=2}=rC e:=rfl;rw[H]at l;clear H h c t u v x A o q K B y J;simp only;cases hd:rC e with
  |true=>
   rw[hd]at l;go_enter Tryz.func36,Tryz.ntmps36;go_wp2_with fail;refine(l.out).mono ?_;rintro C P ⟨rfl,r,rfl⟩;have m:eB ((w.setCell ⟨p,18,none⟩ (jI 2)).drewN r) S p {e with aS:=2}:=D.out.below (by have z:=aj (w.setCell ⟨p,18,none⟩ (jI 2)).heap.size (w.setCell ⟨p,18,none⟩ (jI 2));exact BEL);have s:=zH m;clear m;go_wp2_with fail;go_ret;have G:=N.out _ _ 3 s.out;exact⟨rfl,G.1,((E.out.drewN r).trans G.2)⟩
  |false=>
   rw[hd]at l;go_enter Tryz.func36,Tryz.ntmps36;go_wp2_with fail;refine(l.out).mono ?_;rintro C P ⟨rfl,r,rfl⟩;have m:eB ((w.setCell ⟨p,18,none⟩ (jI 2)).drewN r) S p {e with aS:=2}:=D.out.below (by have z:=aj (w.setCell ⟨p,18,none⟩ (jI 2)).heap.size (w.setCell ⟨p,18,none⟩ (jI 2));exact BEL);have s:=zH m;clear m;go_wp2_with fail;go_ret;exact⟨rfl,s.out,E.out.drewN r⟩
 ·have q:kF e=⟨0,9,e⟩:=by unfold kF;rw[aB o]
  rw[q];obtain⟨j,i,g,f,c,_⟩:=h.ex;have F:=c.Wu 18;(have R:(e.aS !=1)=true:=by simp[o]);have M:=zH h;clear h c A q;generalize O:e.aS=T at*
  clear O;go_enter Tryz.func36,Tryz.ntmps36;go_wp2_with fail;go_ret;exact⟨rfl,M.out,aV _ _ _⟩
theorem Ob (k:Nat) (S:Nat->Prop) (p:Nat) (e:En) (w:World) (h:eB w S p e) (i:dG k e):
  Calls Tryz.prog 27 #[pT p] w λl c=>∃a b,l=.returned (.slice a e.led.kept.length b)/\e.led.kept.length<=b/\Ses c (λk=>w.heap.size<=k/\k<c.heap.size) a e.led.kept/\bW w c:=by
 obtain⟨z,y,u,x,d,q,r,f,s⟩:=h.ex;have v:=d.Wu 21;have m:=zH (sU S u e.led w f i.le);clear h d q r f s i;go_enter Tryz.func27,Tryz.ntmps27;go_wp2_with fail;refine(m.out).mono ?_;rintro l A ⟨a,b,rfl,t,j,g⟩;have o:=zH j;have n:=zH g;clear j g;go_wp2_with fail;go_ret;exact⟨a,b,rfl,t,o.out,n.out⟩
theorem Lu (S:Nat->Prop) (a:Option Addr) (c:Nat) (l:List Sp) (n:Int) (w:World) (h:Sps w S a l) (H:l.length<=1000000000):
  Calls Tryz.prog 123 #[.slice a l.length c,uI n] w λB D=>B=.returned (bV (dI l n))/\bW w D:=by
 have y:=zH h;clear h;obtain⟨f,m⟩:=eX (dI l n);rw[<-m];have s:=zH m;clear m;go_enter Tryz.func123,Tryz.ntmps123;go_wp2_with fail;go_loopw [9,6,11,12] (λp M K L wr=>∃(d:Nat),d<=l.length/\p=jI d/\Hid (dI (l.drop d) n=f)/\Hid (bW w wr)) (λp _ _ _ _=>l.length -(intOf p).toNat);(case atStart=>exact⟨0,oM,rfl,s.out.symm,aj _ _⟩);case round=>
  obtain⟨d,G,rfl,r,e⟩:=hrel;clear s;have I:=e.out.size;by_cases x:d<l.length
  ·obtain⟨E,J,rfl,F,z,A⟩:=Sps.at_ y.out e.out x
   have b:=r.out;rw[aR x,CX]at b;generalize l[d]=C at*
   obtain⟨q,o⟩:=C;simp only[nV]at z A b;by_cases t:q<=n
   ·have g:decide (q<=n)=true:=by simpa using t
    by_cases u:n<=o
    ·have k:decide (n<=o)=true:=by simpa using u
     have j:Hid (f=true):=zH (by rw[<-b,g,k];rfl);clear b;go_wp2_with fail;go_ret;exact⟨eF j.out.symm,by have v:=e.out;exact BEL⟩
    ·have k:decide (n<=o)=false:=by simpa using u
     have i:Hid (dI (l.drop (d+1)) n=f):=zH (by rw[<-b,g,k];rfl);clear b;go_wp2_with fail;go_roundw;(case rel=>exact⟨d+1,oM,by go_num,i,zH (by have v:=e.out;exact BEL)⟩);case measure=>simp[intOf];omega
   ·have g:decide (q<=n)=false:=by simpa using t
    have i:Hid (dI (l.drop (d+1)) n=f):=zH (by rw[<-b,g];rfl);clear b;go_wp2_with fail;go_roundw;(case rel=>exact⟨d+1,oM,by go_num,i,zH (by have v:=e.out;exact BEL)⟩);case measure=>simp[intOf];omega
  ·obtain rfl:d=l.length:=oM
   have b:=r.out;rw[List.drop_length]at b;have j:Hid (f=false):=zH b.symm;clear b;go_wp2_with fail;go_ret;exact⟨eF j.out.symm,e.out⟩
theorem eB.set1 {a:World} {S:Nat->Prop} {p:Nat} {e:En} (h:eB a S p e) (i:Nat) (u:Value) (e':En) (q:∀g f d c,(enC e g f d c).setIfInBounds i u=enC e' g f d c)
  (l:e'.words=e.words) (m:e'.dH=e.dH) (n:e'.led=e.led) (o:e'.gu=e.gu):eB (a.setCell ⟨p,i,none⟩ u) S p e'/\Mod S [some 154] a (a.setCell ⟨p,i,none⟩ u):=by
 have j:=h.mem;obtain⟨g,f,d,c,k,r,s,t,v⟩:=h.ex;have b:Mod S [some 154] a (a.setCell ⟨p,i,none⟩ u):=(aV S _ a).setCell k (λ_=>j) sM i _;refine⟨⟨⟨g,f,d,c,?_,?_,?_,?_,?_⟩,j⟩,b⟩
 ·rw[<-q];exact k.bF i u
 ·rw[l];exact r.keep (ts:=[some 232,some 30]) (b.aM dC) sM sM
 ·rw[m];exact s.keep (ts:=[some 234,some 5,some 272]) (b.aM dC) sM sM sM
 ·rw[n];exact t.keep (ts:=[some 236,some 177]) (b.aM dC) sM sM
 ·rw[o];exact v.keep (ts:=[some 256,some 314,some 30]) (b.aM dC) sM sM sM
theorem qG {n:Nat} (h:n<=1000000):wrap64 (n:Int)=n:=by
 unfold wrap64;omega
theorem GX (t:List Int) (y:Int) (b:(y::t).length<=256):wrap64 (t.length:Int)=t.length:=qG (by have a:=b;simp only[aY]at a;omega)
theorem EY (k:Nat) (S:Nat->Prop) (p:Nat) (e:En) (w:World) (h:eB w S p e) (a:dG k e) (a4:Bd S w):
  Calls Tryz.prog 59 #[pT p] w λP n=>P=.returned (.tuple #[uI (iB e).lost,bV (iB e).some_])/\eB n (grow S w n) p (iB e).en/\Mod S [some 154,some 236,some 177,some 234,some 5] w n:=by
 have g2:=h.mem;have K:=a.cf.Cx;have J:=a.cf.Gz;have N:=wY a.rtt K J;obtain⟨I,H,a8⟩:=Jz (dm:=e.dm) (now:=e.now) a.le N;(have f4:e.led.kept.length<=256:=by have:=a.le.len;have:=a.le.lW;omega);obtain⟨h0,g9,f7,g8,c,e5,e6,a3,e7⟩:=h.ex;have d7:=c.Wu 21;have e3:=c.Wu 43;have d6:=c.Wu 17;have d8:=c.Wu 23;have d9:=c.Wu 24;have e0:=c.Wu 25;have e1:=c.Wu 26;have e2:=c.Wu 27;have d4:=c.Wu 10;have d5:=c.Wu 11;have g3:=c.lt;have x:=zH (Kg e.rtt e.c.first e.c.jc a.rtt.bK a.rtt.mJ K J);have v:=zH (λn (e8:bW w n)=>QJ S f7 e.led e.dm e.now (lJ e.rtt e.c.first e.c.jc) n (a3.below e8) a.le a.dm a.now N);have b4:iB e=⟨(qE e.led e.dm e.now (lJ e.rtt e.c.first e.c.jc)).lost.getLastD 0,decide (0<(qE e.led e.dm e.now (lJ e.rtt e.c.first e.c.jc)).lost.length),(qE e.led e.dm e.now (lJ e.rtt e.c.first e.c.jc)).lost.foldl jT {e with gU:=(qE e.led e.dm e.now (lJ e.rtt e.c.first e.c.jc)).next}⟩:=rfl;rw[b4];clear b4 c e5 e6 a3 e7;generalize qE e.led e.dm e.now (lJ e.rtt e.c.first e.c.jc)=d2 at*
 obtain⟨b,next⟩:=d2;simp only at I H a8 v|-;have a9:dG k {e with gU:=next}:={a with gU:=H};have c3:=zH a9;have R:=zH h;have c8:=zH a4;have f9:=zH I;have b1:b.length<=256:=oM;obtain⟨d1,C⟩:=eX (b.getLastD 0);obtain⟨g0,F⟩:=eX (decide (0<b.length));rw[<-C,<-F];have Y:=zH C;have a0:=zH F;clear C F;obtain⟨t,z⟩:∃t,t=b.foldl jT {e with gU:=next}:=⟨_,rfl⟩;rw[<-z];have U:=zH z;clear a a9 h a4 z I H a8 K J N f4;generalize lJ e.rtt e.c.first e.c.jc=h6 at*
 go_enter Tryz.func59,Tryz.ntmps59;go_wp2_with fail;refine dQ 27 kR kR ?_;refine mD ?_;(repeat (first|go_big_quiet_step ((go_at_call 137;exact bU _ (x.out _)))|quiet_step ((go_at_call 137;exact bU _ (x.out _)))));refine aK ?_;refine bwI ?_;intro Q a5;have o:=zH (show bW w Q from a5);clear a5;refine dA rfl rfl ?_;go_simp;go_at_call 136;refine(v.out _ o.out).mono ?_;rintro P r ⟨a2,g1,rfl,f0,b6,a6⟩;have G:=o.out.trans (a6.mono o.out.size);have A:=R.out.below G;obtain⟨h4,h3,h2,h1,y,_⟩:=A.ex;have f8:=y.frozen 42;have e4:=y.Wu 42;have u:=zH G;have T:=zH A;have a1:=zH b6;have g4:=o.out.size;clear a6 G A b6 y;go_simp;refine mR ?_;go_wp2_with fail;obtain⟨g,l⟩:=eX (r.setCell ⟨p,42,none⟩ (uI next));rw[<-l];obtain⟨B,D⟩:=T.out.set1 42 (uI next) {e with gU:=next} (λ_ _ _ _=>rfl) rfl rfl rfl rfl;(have b5:Wos g (λk=>Q.heap.size<=k/\k<r.heap.size) a2 b:=by rw[l];exact aG a1.out (ts:=[some 30]) (D.aM dC) sM);have E:Mod S [some 154,some 236,some 177,some 234,some 5] w g:=by
  rw[l];exact(aH u.out:Mod S [some 154,some 236,some 177,some 234,some 5] w r).then (D.mono (λ_ _ h=>h) sM) (λ_ _ h=>h)
 rw[<-l]at B;have g5:=u.out.size;have b2:w.heap.size<=g.heap.size:=E.size;(have g6:r.heap.size=g.heap.size:=by rw[l];simp[World.setCell]);have c2:=zH B;have c7:=zH E;have d0:=zH b5;have c9:=zH (c8.out.later b2);clear l B D b5 E f8 e4 T a1 u d7 e3 d6 d8 d9 e0 e1 e2 d4 d5 R o v x;go_loopw [45,7,47,48] (λO h9 h7 h8 wr=>∃(f:Nat) (i:En),f<=b.length/\O=jI f/\Hid (dG k i)/\Hid ((b.drop f).foldl jT i=t)/\Hid (eB wr (grow S g wr) p i)/\Hid (Mod S [some 236,some 177,some 234,some 5] g wr)) (λO _ _ _ _=>b.length -(intOf O).toNat);(case atStart=>exact⟨0,_,oM,rfl,c3,U.out.symm,c2.out.mono (λ_ h=>oU h),aV _ _ _⟩);case round=>
  obtain⟨f,i,f1,rfl,X,Z,V,s⟩:=hrel;clear U;have b3:=s.out.size;have q:Wos wr (λk=>Q.heap.size<=k/\k<r.heap.size) a2 b:=aG d0.out (ts:=[some 30]) (s.out.aM dC) sM;by_cases L:f<b.length
  ·obtain⟨d3,f6,rfl,e9,b7⟩:=q.at_ (aj _ _) L
   have m:=Z.out;rw[aR L,List.foldl_cons]at m;generalize b[f]=b8 at*
   have c0:=zH m;have c5:=zH (EX k (grow S g wr) p i b8 wr V.out X.out (c9.out.grow b3));have c4:=zH (wP X.out b8);clear m q;go_wp2_with fail;refine(c5.out).mono ?_;rintro P h5 ⟨rfl,a7,M⟩;have f5:=M.size;have c1:=zH (a7.mono (λ_ h=>grow_grow b3 f5 h));have c6:=zH (s.out.grow M);clear a7 M;go_wp2_with fail;go_roundw;(case rel=>exact⟨f+1,_,oM,by go_num,c4,c0,c1,c6⟩);case measure=>simp[intOf];omega
  ·obtain rfl:f=b.length:=oM
   have m:=Z.out;rw[List.drop_length,List.foldl_nil]at m;subst m;have W:Hid (eB wr (grow S w wr) p i/\Mod S [some 154,some 236,some 177,some 234,some 5] w wr):=zH ⟨V.out.mono (λk a=>a.elim .inl (λh=>.inr ⟨ay b2 h.1,h.2⟩)),c7.out.then (s.out.mono (λ_ _ h=>h) sM) (λ_ _ h=>h)⟩;rcases b with _|⟨b9,d⟩
   ·clear q
    go_wp2_with fail;go_ret2;exact⟨by rw[Y.out,a0.out];rfl,W.out⟩
   ·obtain⟨d3,f6,rfl,e9,b7⟩:=q.at_ (aj _ _) (j:=d.length) sM
    have f2:((d.length:Int)+1 -1)=(d.length:Int):=oM;(have f3:((d.length:Int)+1==0)=false:=by simp;omega);have b0:d1=(b9::d)[d.length]:=by
     rw[Y.out,List.getLastD_eq_getLast?,List.getLast?_eq_getElem?];simp only[aY,Nat.add_sub_cancel];rw[aL sM];rfl
    rw[<-b0]at b7;clear q b0;have g7:wrap64 (d.length:Int)=d.length:=GX d b9 b1;clear f2 f3 L f1 f0 b1;go_wp2_with fail;go_ret2;exact⟨by rw[a0.out];rfl,W.out⟩
theorem eB.Ij {i:World} {S:Nat->Prop} {p:Nat} {e:En} (h:eB i S p e) (z:Cc):eB (((((((((i.setCell ⟨p,30,none⟩ (uI z.win.cr)).setCell ⟨p,31,none⟩ (uI z.win.dL)).setCell ⟨p,32,none⟩ (uI z.win.acc)).setCell ⟨p,33,none⟩ (uI z.win.jF)).setCell ⟨p,34,none⟩ (uI z.win.gX)).setCell ⟨p,35,none⟩ (uI z.win.k)).setCell ⟨p,36,none⟩ (uI z.win.fair)).setCell ⟨p,37,none⟩ (uI z.round.iO)).setCell ⟨p,38,none⟩ (uI z.round.mX)) S p {e with cc:=z}/\Mod S [some 154] i (((((((((i.setCell ⟨p,30,none⟩ (uI z.win.cr)).setCell ⟨p,31,none⟩ (uI z.win.dL)).setCell ⟨p,32,none⟩ (uI z.win.acc)).setCell ⟨p,33,none⟩ (uI z.win.jF)).setCell ⟨p,34,none⟩ (uI z.win.gX)).setCell ⟨p,35,none⟩ (uI z.win.k)).setCell ⟨p,36,none⟩ (uI z.win.fair)).setCell ⟨p,37,none⟩ (uI z.round.iO)).setCell ⟨p,38,none⟩ (uI z.round.mX)):=by
 obtain⟨⟨a,b,c,d,f,g,j⟩,⟨k,l⟩⟩:=z;obtain⟨m,w⟩:=h.set1 30 (uI a) {e with cc:=⟨⟨a,e.cc.win.dL,e.cc.win.acc,e.cc.win.jF,e.cc.win.gX,e.cc.win.k,e.cc.win.fair⟩,⟨e.cc.round.iO,e.cc.round.mX⟩⟩} (λ_ _ _ _=>rfl) rfl rfl rfl rfl;obtain⟨n,x⟩:=m.set1 31 (uI b) {e with cc:=⟨⟨a,b,e.cc.win.acc,e.cc.win.jF,e.cc.win.gX,e.cc.win.k,e.cc.win.fair⟩,⟨e.cc.round.iO,e.cc.round.mX⟩⟩} (λ_ _ _ _=>rfl) rfl rfl rfl rfl;obtain⟨o,y⟩:=n.set1 32 (uI c) {e with cc:=⟨⟨a,b,c,e.cc.win.jF,e.cc.win.gX,e.cc.win.k,e.cc.win.fair⟩,⟨e.cc.round.iO,e.cc.round.mX⟩⟩} (λ_ _ _ _=>rfl) rfl rfl rfl rfl;obtain⟨q,A⟩:=o.set1 33 (uI d) {e with cc:=⟨⟨a,b,c,d,e.cc.win.gX,e.cc.win.k,e.cc.win.fair⟩,⟨e.cc.round.iO,e.cc.round.mX⟩⟩} (λ_ _ _ _=>rfl) rfl rfl rfl rfl;obtain⟨r,B⟩:=q.set1 34 (uI f) {e with cc:=⟨⟨a,b,c,d,f,e.cc.win.k,e.cc.win.fair⟩,⟨e.cc.round.iO,e.cc.round.mX⟩⟩} (λ_ _ _ _=>rfl) rfl rfl rfl rfl;obtain⟨s,C⟩:=r.set1 35 (uI g) {e with cc:=⟨⟨a,b,c,d,f,g,e.cc.win.fair⟩,⟨e.cc.round.iO,e.cc.round.mX⟩⟩} (λ_ _ _ _=>rfl) rfl rfl rfl rfl;obtain⟨t,D⟩:=s.set1 36 (uI j) {e with cc:=⟨⟨a,b,c,d,f,g,j⟩,⟨e.cc.round.iO,e.cc.round.mX⟩⟩} (λ_ _ _ _=>rfl) rfl rfl rfl rfl;obtain⟨u,E⟩:=t.set1 37 (uI k) {e with cc:=⟨⟨a,b,c,d,f,g,j⟩,⟨k,e.cc.round.mX⟩⟩} (λ_ _ _ _=>rfl) rfl rfl rfl rfl;obtain⟨v,F⟩:=u.set1 38 (uI l) {e with cc:=⟨⟨a,b,c,d,f,g,j⟩,⟨k,l⟩⟩} (λ_ _ _ _=>rfl) rfl rfl rfl rfl;exact⟨v,((((((((w.trans x).trans y).trans A).trans B).trans C).trans D).trans E).trans F)⟩
end Go.Proofs.YtiflndepmgnojaaGreat
