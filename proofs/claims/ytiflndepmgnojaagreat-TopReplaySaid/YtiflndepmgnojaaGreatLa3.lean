import Derived.Laws.BitsAllLaws
import Derived.Test.YtiflndepmgnojaaGreatDra
import Derived.Test.YtiflndepmgnojaaGreatPtn
namespace Go.Proofs.YtiflndepmgnojaaGreat
open Go.RowKit
set_option linter.unusedSimpArgs false
set_option linter.unusedVariables false
set_option maxHeartbeats 2000000
set_option maxRecDepth 100000
attribute[local go_sem] BW.cell BW.frozen
theorem Cw {k:Type} {f:k->List Value} {m:Nat} (g:∀j,(f j).length=m):∀(i:List k) (b a:Nat) (d:k) (c:Value) (e:b<i.length),a<m->f d=(f i[b]).set a c->(i.set b d).flatMap f=(i.flatMap f).set (b*m+a) c
 |[],b,a,d,c,e,_,_=>by simp at e
 |j::t,0,a,d,c,e,hc,h=>by
  simp only[List.set_cons_zero,List.flatMap_cons,Nat.zero_mul,Nat.zero_add];rw[List.set_append_left _ _ (by rw[g];exact hc)];simp at h;rw[h]
 |j::t,b+1,a,d,c,e,hc,h=>by
  have l:=Cw g t b a d c (by simpa using e) hc (by simpa using h);simp only[List.set_cons_succ,List.flatMap_cons];rw[l,List.set_append_right _ _ (by rw[g,Nat.add_mul];omega)];rw[g,show(b+1)*m+a -m=b*m+a by rw[Nat.add_mul];omega]
theorem sU (S:Nat->Prop) (p:Nat) (l:Le) (w:World) (h:iJ w S p l) (c:gM l):
  Calls Tryz.prog 75 #[pT p] w λu d=>∃a b,u=.returned (.slice a l.kept.length b)/\l.kept.length<=b/\Ses d (λn=>w.heap.size<=n/\n<d.heap.size) a l.kept/\bW w d:=by
 obtain⟨a,b,e,f⟩:=h.ex;have x:=e.Wu 3;(have y:l.kept.length<=1000:=by have:=c.len;have:=c.lW;omega);have s:=zH (show Ses w S a l.kept from f.row);clear h e f c;go_enter Tryz.func75,Tryz.ntmps75;go_wp2_with (at_builtin;refine pZ.wpList rfl _ (.tmp 8) rfl w.heap.size none 0 [] (by rfl) (iq _ _ _ _) a b l.kept (by rfl) s.out sO dC (av _) ?_;intro o t v m j;have g:bW w v:=(aj w.heap.size w).grown j (av _) (by simp[Value.ownBlock]);have r:=zH m;have q:=zH g;clear m j g);go_ret;have k:=r.out;rw[List.nil_append]at k;have i:=OwnAt.fresh (w:=w) k;exact⟨o,t,rfl,i.cap_,i.row,q.out⟩
theorem uy (S:Nat->Prop) (p:Nat) (l:Le) (a:Int) (w:World) (h:iJ w S p l) (i:gM l) (b:pN l a=none):
  Calls Tryz.prog 185 #[pT p,uI a] w λd k=>d=.returned (.pointer none)/\∃e,k=w.drewN e:=by
 obtain⟨n,o,g,_⟩:=h.ex;have q:=g.Wu 2;have f:=zH (qY S p l w h i);have t:a<gT l\/l.next<=a:=by
  unfold pN at b;split at b
  ·assumption
  ·cases b
 clear h g i b;generalize gT l=c at*
 by_cases r:a<c
 ·have j:decide (a<c)=true:=by simp;omega
  go_enter Tryz.func185,Tryz.ntmps185;go_wp2_with fail;refine(f.out).mono ?_;rintro d m ⟨rfl,e,rfl⟩;go_wp2_with fail;go_ret;exact⟨rfl,_,rfl⟩
 ·have j:decide (a<c)=false:=by simp;omega
  (have s:decide (l.next<=a)=true:=by simp;omega);go_enter Tryz.func185,Tryz.ntmps185;go_wp2_with fail;refine(f.out).mono ?_;rintro d m ⟨rfl,e,rfl⟩;go_wp2_with fail;go_ret;exact⟨rfl,_,rfl⟩
theorem uw (S:Nat->Prop) (p:Nat) (l:Le) (i g c:Nat) (w:World) (h:iJ w S p l) (b:gM l) (u:i<l.kept.length) (j:Blk w p 236 #[jI l.ring,uI l.dO,uI l.next,.slice (some ⟨g,0,none⟩) l.kept.length c]):
  Calls Tryz.prog 185 #[pT p,uI (gT l+i)] w λo e=>o=.returned (.pointer (some ⟨g,i*8,none⟩))/\∃k,e=w.drewN k:=by
 have r:=j.Wu 2;have s:=j.Wu 3;have f:=zH (λe (t:bW w e)=>qY S p l e (h.below t) b);have C:=b.ut;have B:=b.KN;(have D:l.next<=4611686018427387904:=by have:=b.nI;have:=b.mh;omega);clear h j b;generalize gT l=a at*
 (have y:decide (a+(i:Int)<a)=false:=by simp;omega);(have z:decide (l.next<=a+(i:Int))=false:=by simp;omega);have E:a+(i:Int) -a=i:=oM;have A:i<l.kept.length:=u;have G:a<=a+(i:Int):=oM;have F:(i:Int)<18446744073709551616:=oM;go_enter Tryz.func185,Tryz.ntmps185;go_wp2_with fail;refine(f.out _ (aj _ _)).mono ?_;rintro o m ⟨rfl,k,d⟩;(have v:m.cell? ⟨p,2,none⟩=some (uI l.next):=by rw[d];exact r);(have x:m.cell? ⟨p,3,none⟩=some (.slice (some ⟨g,0,none⟩) l.kept.length c):=by rw[d];exact s);have q:=zH d;have n:=zH (show bW w m by rw[d];exact aA (aj _ _) _);clear d;go_wp2_with fail;refine bN kR kR ?_;(repeat (first|go_big_quiet_step (((go_at_call 70;exact dn (f.out _ (aA n.out _)))))|quiet_step (((go_at_call 70;exact dn (f.out _ (aA n.out _)))))));refine aK ?_;rintro _ ⟨nq,rfl⟩;go_wp2_with fail;go_ret;exact⟨sM,k+nq,by rw[q.out,World.drewN_drewN]⟩
def Lem (S:Nat->Prop) (w w':World):Prop:=Mod S [some 236,some 177] w w'
theorem iJ.drewN {w:World} {S:Nat->Prop} {p:Nat} {l:Le} (h:iJ w S p l) (n:Nat):iJ (w.drewN n) S p l:=h.below (aA (aj _ _) n)
theorem IZ (S:Nat->Prop) (p:Nat) (l:Le) (n:Int) (w:World) (h:iJ w S p l) (j:gM l):
  Calls Tryz.prog 114 #[pT p,uI n] w λe G=>(∃C,e=.returned (bV C))/\iJ G S p (lX l n)/\Lem S w G:=by
 cases hf:pN l n with
 |none=>
  (have k:lX l n=l:=by unfold lX;rw[hf]);rw[k];have c:=zH (uy S p l n w h j hf);have d:=zH h;clear hf k h j;go_enter Tryz.func114,Tryz.ntmps114;go_wp2_with fail;refine(c.out).mono ?_;rintro e A ⟨rfl,a,rfl⟩;go_wp2_with fail;go_ret;exact⟨⟨_,rfl⟩,d.out.drewN a,(aV _ _ _).drewN a⟩
 |some i=>
  obtain⟨r,rfl⟩:=pM j hf;obtain⟨a0,D,u,q⟩:=h.ex;have k:lX l (gT l+i)=if l.kept[i].aS=4\/l.kept[i].used=true then l else{l with kept:=l.kept.set i {l.kept[i]with used:=true}}:=by
   unfold lX;rw[hf];simp only[aW,aL r,Option.getD_some]
  rw[k];clear k;obtain⟨b,a1,rfl,N,x,O,F⟩:=q.bF (i:=i*8+6) (by rw[sZ (m:=8) (λ_=>rfl)];omega);have c:=zH (uw S p l i b D w h j r u);have d:=zH h;obtain⟨C,a5,y,a3,R,T,U,V,W,X,z,Y⟩:=(show Ses w S (some ⟨b,0,none⟩) l.kept from q.row).at_ (aj _ _) r;injection y with y;injection y with K L;subst K L;simp only[Nat.zero_add]at z Y;have a2:w.frozen? ⟨b,i*8+6,none⟩=false:=x.frozen _;have P:l.kept.set i {l.kept[i]with used:=true}=l.kept.set i {l.kept[i]with used:=true}:=rfl;have E:=Cw (f:=seV) (m:=8) (λ_=>rfl) l.kept i 6 {l.kept[i]with used:=true} (bV true) r oM rfl;have H:=zH E;have I:=zH F;have t:=zH u;have Z:=zH q;have B:=zH x;clear hf u q O F x E R T U V W X h j P;generalize a4:l.kept[i]=s at*
  by_cases o:s.aS=4
  ·have J:(s.aS==4)=true:=by simp[o]
   rw[aB (.inl o)];go_enter Tryz.func114,Tryz.ntmps114;go_wp2_with fail;refine(c.out).mono ?_;rintro e A ⟨rfl,a,rfl⟩;go_wp2_with fail;go_ret;exact⟨⟨_,rfl⟩,d.out.drewN a,(aV _ _ _).drewN a⟩
  ·have J:(s.aS==4)=false:=by simp[o]
   cases hu:s.used with
   |true=>
    rw[aB (.inr rfl)];rw[hu]at z;go_enter Tryz.func114,Tryz.ntmps114;go_wp2_with fail;refine(c.out).mono ?_;rintro e A ⟨rfl,a,rfl⟩;go_wp2_with fail;go_ret;exact⟨⟨_,rfl⟩,d.out.drewN a,(aV _ _ _).drewN a⟩
   |false=>
    rw[Ww (by simp[o])];rw[hu]at z;go_enter Tryz.func114,Tryz.ntmps114;go_wp2_with fail;refine(c.out).mono ?_;rintro e A ⟨rfl,a,rfl⟩;go_wp2_with fail;go_ret;refine⟨⟨_,rfl⟩,⟨⟨some ⟨b,0,none⟩,D,?_,?_⟩,d.out.mem⟩,?_⟩
    ·simp only[List.length_set]
     exact(t.out.drewN a).far (by intro Q;have:=B.out;unfold Blk at this;rw[<-show b=p from Q.symm]at t;have g:=t.out;unfold Blk at g;rw[this]at g;injection g with g;injection g with _ M;cases M) _
    ·have v:=(I.out (bV true))
     rw[<-H.out]at v;simp only[List.length_set];exact⟨(show((w.setCell ⟨b,i*8+6,none⟩ (bV true)).drewN a).ownsRow 0 177 8 _ _ _ from v.own),v.mem⟩
    ·exact((aV S [some 236,some 177] w).drewN a).setCell (B.out.drewN a) (λ_=>N) sM _ _
theorem iJ.at_ {w:World} {S:Nat->Prop} {p:Nat} {l:Le} {i:Nat} (h:iJ w S p l) (u:i<l.kept.length):
  ∃a g,Blk w p 236 #[jI l.ring,uI l.dO,uI l.next,.slice (some ⟨a,0,none⟩) l.kept.length g]/\a<w.heap.size/\a≠p/\(∀b,w.frozen? ⟨a,b,none⟩=false)/\
   w.cell? ⟨a,i*8,none⟩=some (uI l.kept[i].pn)/\w.cell? ⟨a,i*8+1,none⟩=some (uI l.kept[i].off)/\w.cell? ⟨a,i*8+2,none⟩=some (uI l.kept[i].len)/\
   w.cell? ⟨a,i*8+3,none⟩=some (uI l.kept[i].bX)/\w.cell? ⟨a,i*8+4,none⟩=some (uI l.kept[i].sat)/\w.cell? ⟨a,i*8+5,none⟩=some (bV l.kept[i].rE)/\
   w.cell? ⟨a,i*8+6,none⟩=some (bV l.kept[i].used)/\w.cell? ⟨a,i*8+7,none⟩=some (jI l.kept[i].aS)/\
   ∀(d b:Nat) (k:Se) (c:Value),b<8->seV k=(seV l.kept[i]).set b c->iJ ((w.drewN d).setCell ⟨a,i*8+b,none⟩ c) S p {l with kept:=l.kept.set i k}/\Lem S w ((w.drewN d).setCell ⟨a,i*8+b,none⟩ c):=by
 obtain⟨N,g,j,o⟩:=h.ex;obtain⟨a,P,rfl,H,r,T,_⟩:=o.bF (i:=i*8) (by rw[sZ (m:=8) (λ_=>rfl)];omega);obtain⟨O,U,s,I,x,y,z,A,B,C,D,E⟩:=(show Ses w S (some ⟨a,0,none⟩) l.kept from o.row).at_ (aj _ _) u;injection s with s;injection s with n F;subst n F;simp only[Nat.zero_add]at x y z A B C D E;have v:a≠p:=by
  intro J;subst J;have e:=r;unfold Blk at e j;rw[j]at e;injection e with e;injection e with _ G;cases G
 refine⟨a,g,j,I,v,λb=>r.frozen b,x,y,z,A,B,C,D,E,λd b k c K M=>⟨⟨⟨some ⟨a,0,none⟩,g,?_,?_⟩,h.mem⟩,?_⟩⟩
 ·simp only[List.length_set]
  exact(j.drewN d).far v.symm c
 ·obtain⟨R,Q,t,_,_,_,L⟩:=o.bF (i:=i*8+b) (by rw[sZ (m:=8) (λ_=>rfl)];omega)
  injection t with t;injection t with n;subst n;have q:=L c;rw[<-Cw (f:=seV) (m:=8) (λ_=>rfl) l.kept i b k c u K M]at q;simp only[List.length_set];exact⟨(show((w.setCell ⟨a,i*8+b,none⟩ c).drewN d).ownsRow 0 177 8 _ _ _ from q.own),q.mem⟩
 ·exact((aV S [some 236,some 177] w).drewN d).setCell (r.drewN d) (λ_=>H) sM _ _
theorem Gp (S:Nat->Prop) (p:Nat) (l:Le) (j:Int) (w:World) (h:iJ w S p l) (f:gM l):
  Calls Tryz.prog 143 #[pT p,uI j,jI 2] w λe x=>(∃y,e=.returned (bV y))/\iJ x S p (gH l j 2)/\Lem S w x:=by
 cases hf:pN l j with
 |none=>
  (have g:gH l j 2=l:=by unfold gH;rw[hf]);rw[g];have c:=zH (uy S p l j w h f hf);have n:=zH h;clear hf g h f;go_enter Tryz.func143,Tryz.ntmps143;go_wp2_with fail;refine(c.out).mono ?_;rintro e q ⟨rfl,a,rfl⟩;go_wp2_with fail;go_ret;exact⟨⟨_,rfl⟩,n.out.drewN a,(aV _ _ _).drewN a⟩
 |some i=>
  obtain⟨o,rfl⟩:=pM f hf;have g:gH l (gT l+i) 2=if settles 2 l.kept[i].aS then{l with kept:=l.kept.set i {l.kept[i]with aS:=2}}else l:=by
   unfold gH;rw[hf];simp only[aW,aL o,Option.getD_some]
  rw[g];clear g;obtain⟨B,z,t,K,L,s,C,D,E,F,G,H,I,N,v⟩:=h.at_ o;have c:=zH (uw S p l i B z w h f o t);have n:=zH h;have u:=λa=>v a 7 {l.kept[i]with aS:=2} (jI 2) oM rfl;have k:=zH u;have J:=s (i*8+7);clear hf t v u C D E F G H I h f s;generalize M:l.kept[i]=b at*
  by_cases d:b.aS=1
  ·have A:(b.aS==1)=true:=by simp[d]
   (have r:(b.aS==3)=false:=by simp[d]);rw[aB (by simp[settles,d])];go_enter Tryz.func143,Tryz.ntmps143;go_wp2_with fail;refine(c.out).mono ?_;rintro e q ⟨rfl,a,rfl⟩;go_wp2_with fail;go_ret;exact⟨⟨_,rfl⟩,(k.out a).1,(k.out a).2⟩
  ·have A:(b.aS==1)=false:=by simp[d]
   by_cases m:b.aS=3
   ·have r:(b.aS==3)=true:=by simp[m]
    rw[aB (by simp[settles,m])];go_enter Tryz.func143,Tryz.ntmps143;go_wp2_with fail;refine(c.out).mono ?_;rintro e q ⟨rfl,a,rfl⟩;go_wp2_with fail;go_ret;exact⟨⟨_,rfl⟩,(k.out a).1,(k.out a).2⟩
   ·have r:(b.aS==3)=false:=by simp[m]
    rw[Ww (by simp[settles,d,m])];go_enter Tryz.func143,Tryz.ntmps143;go_wp2_with fail;refine(c.out).mono ?_;rintro e q ⟨rfl,a,rfl⟩;go_wp2_with fail;go_ret;exact⟨⟨_,rfl⟩,n.out.drewN a,(aV _ _ _).drewN a⟩
theorem Gn (S:Nat->Prop) (p:Nat) (l:Le) (j:Int) (w:World) (h:iJ w S p l) (f:gM l):
  Calls Tryz.prog 143 #[pT p,uI j,jI 3] w λe x=>(∃y,e=.returned (bV y))/\iJ x S p (gH l j 3)/\Lem S w x:=by
 cases hf:pN l j with
 |none=>
  (have g:gH l j 3=l:=by unfold gH;rw[hf]);rw[g];have c:=zH (uy S p l j w h f hf);have k:=zH h;clear hf g h f;go_enter Tryz.func143,Tryz.ntmps143;go_wp2_with fail;refine(c.out).mono ?_;rintro e o ⟨rfl,a,rfl⟩;go_wp2_with fail;go_ret;exact⟨⟨_,rfl⟩,k.out.drewN a,(aV _ _ _).drewN a⟩
 |some i=>
  obtain⟨n,rfl⟩:=pM f hf;have g:gH l (gT l+i) 3=if settles 3 l.kept[i].aS then{l with kept:=l.kept.set i {l.kept[i]with aS:=3}}else l:=by
   unfold gH;rw[hf];simp only[aW,aL n,Option.getD_some]
  rw[g];clear g;obtain⟨B,z,t,K,L,s,C,D,E,F,G,H,I,N,v⟩:=h.at_ n;have c:=zH (uw S p l i B z w h f n t);have k:=zH h;have u:=λa=>v a 7 {l.kept[i]with aS:=3} (jI 3) oM rfl;have q:=zH u;have J:=s (i*8+7);clear hf t v u C D E F G H I h f s;generalize M:l.kept[i]=b at*
  by_cases d:b.aS=1
  ·have A:(b.aS==1)=true:=by simp[d]
   (have r:(b.aS==3)=false:=by simp[d]);rw[aB (by simp[settles,d])];go_enter Tryz.func143,Tryz.ntmps143;go_wp2_with fail;refine(c.out).mono ?_;rintro e o ⟨rfl,a,rfl⟩;go_wp2_with fail;go_ret;exact⟨⟨_,rfl⟩,(q.out a).1,(q.out a).2⟩
  ·have A:(b.aS==1)=false:=by simp[d]
   by_cases m:b.aS=3
   ·have r:(b.aS==3)=true:=by simp[m]
    rw[Ww (by simp[settles,m])];go_enter Tryz.func143,Tryz.ntmps143;go_wp2_with fail;refine(c.out).mono ?_;rintro e o ⟨rfl,a,rfl⟩;go_wp2_with fail;go_ret;exact⟨⟨_,rfl⟩,k.out.drewN a,(aV _ _ _).drewN a⟩
   ·have r:(b.aS==3)=false:=by simp[m]
    rw[Ww (by simp[settles,d,m])];go_enter Tryz.func143,Tryz.ntmps143;go_wp2_with fail;refine(c.out).mono ?_;rintro e o ⟨rfl,a,rfl⟩;go_wp2_with fail;go_ret;exact⟨⟨_,rfl⟩,k.out.drewN a,(aV _ _ _).drewN a⟩
theorem Qq (S:Nat->Prop) (p:Nat) (l:Le) (a:Int) (w:World) (h:iJ w S p l) (b:gM l):
  Calls Tryz.prog 142 #[pT p,uI a] w λe r=>(∃j,e=.returned (.tuple #[.agg #[uI (mH l a).pn,uI (mH l a).off,uI (mH l a).len,uI (mH l a).bX,uI (mH l a).sat,bV (mH l a).rE,bV (mH l a).used,jI (mH l a).aS],bV j]))/\bW w r:=by
 cases hf:pN l a with
 |none=>
  (have c:mH l a=seZ:=by unfold mH;rw[hf]);rw[c];have d:=zH (uy S p l a (w.alloc (.cells #[uI 0,uI 0,uI 0,uI 0,uI 0,bV false,bV false,jI 0] 177)) (h.below BEL) b hf);clear hf c h b;go_enter Tryz.func142,Tryz.ntmps142;go_wp2_with fail;refine(d.out).mono ?_;rintro e s ⟨rfl,q,rfl⟩;go_wp2_with fail;refine mZ ?_;exact⟨⟨_,rfl⟩,BEL⟩
 |some i=>
  obtain⟨f,rfl⟩:=pM b hf;have c:mH l (gT l+i)=l.kept[i]:=by
   unfold mH;rw[hf];simp only[aW,aL f,Option.getD_some]
  rw[c];clear c;obtain⟨n,k,g,t,u,m,v,x,y,z,A,B,C,D,o⟩:=h.at_ f;have d:=zH (uw S p l i n k (w.alloc (.cells #[uI 0,uI 0,uI 0,uI 0,uI 0,bV false,bV false,jI 0] 177)) (h.below BEL) b f (g.alloc _));clear hf g o h b m;generalize l.kept[i]=E at*
  go_enter Tryz.func142,Tryz.ntmps142;go_wp2_with fail;refine(d.out).mono ?_;rintro e s ⟨rfl,q,rfl⟩;go_wp2_with fail;refine mZ ?_;exact⟨⟨_,rfl⟩,BEL⟩
theorem Jc (S:Nat->Prop) (p:Nat) (l:Le) (s:Se) (w:World) (h:iJ w S p l) (e:gM l) (k:l.dO<l.next\/eu l<1):
  Calls Tryz.prog 217 #[pT p,.agg #[uI s.pn,uI s.off,uI s.len,uI s.bX,uI s.sat,bV s.rE,bV s.used,jI s.aS]] w λg d=>g=.returned (.tuple #[uI 0,jI (gG l s).err])/\(gG l s).val=0/\(gG l s).led=l/\bW w d:=by
 obtain⟨u,v,a,i⟩:=h.ex;have x:=a.Wu 1;have y:=a.Wu 2;have r:=a.lt;obtain⟨_,A,_⟩:=rU r;have n:=zH (λd (c:bW w d)=>zK S p l d (h.below c) e);by_cases f:l.dO<l.next
 ·have b:gG l s=⟨0,8,l⟩:=by unfold gG;rw[aB f]
  rw[b];(have q:decide (l.dO<l.next)=true:=by simp;omega);clear b h a i e k;go_enter Tryz.func217,Tryz.ntmps217;go_wp2_with fail;refine mQ ?_;rintro _ ⟨nq,rfl⟩;go_wp2_with fail;go_ret2;exact⟨rfl,sM,sM,BEL⟩
 ·have o:eu l<1:=oM
  (have b:gG l s=⟨0,7,l⟩:=by unfold gG;rw[Ww f,aB o]);rw[b];(have q:decide (l.dO<l.next)=false:=by simp;omega);(have z:decide (eu l<1)=true:=by simp;omega);clear b h a i e k;generalize eu l=B at*
  go_enter Tryz.func217,Tryz.ntmps217;go_wp2_with fail;refine mQ ?_;rintro _ ⟨nq,rfl⟩;go_wp2_with fail;refine(n.out _ BEL).mono ?_;rintro g t ⟨rfl,c⟩;have j:bW w t:=by
   refine bD ?_ (c.mono ?_)
   ·exact BEL
   ·first|(simp;done)|(simp;omega)
  have m:=zH j;clear c j;go_wp2_with fail;go_ret2;exact⟨rfl,sM,sM,m.out⟩
theorem NM (S:Nat->Prop) (p:Nat) (l:Le) (s:Se) (w:World) (h:iJ w S p l) (x:gM l) (c7:¬(l.dO<l.next)) (d5:¬(eu l<1)):
  Calls Tryz.prog 217 #[pT p,.agg #[uI s.pn,uI s.off,uI s.len,uI s.bX,uI s.sat,bV s.rE,bV s.used,jI s.aS]] w λR B=>R=.returned (.tuple #[uI l.next,jI 0])/\iJ B (grow S w B) p (gG l s).led/\Lem S w B:=by
 have K:=h.mem;have e3:=zH (λB (A:bW w B)=>zK S p l B (h.below A) x);obtain⟨E,F,H,c2⟩:=h.ex;have l0:=H.Wu 1;have l1:=H.Wu 2;have f8:=H.lt;obtain⟨_,l8,_⟩:=rU f8;have d1:¬(w.heap.size=p):=oM;have d2:¬(p=w.heap.size):=oM;(have l5:l.kept.length<=1000:=by have:=x.len;have:=x.lW;omega);have l6:=x.pE;(have l7:l.next+1<18446744073709551616:=by have:=x.nI;have:=x.mh;omega);(have l3:decide (l.dO<l.next)=false:=by simp;omega);(have l2:decide (eu l<1)=false:=by simp;omega);(have d6:(gG l s).led={l with next:=l.next+1,kept:=if l.ring<(l.kept.length:Int)+1 then(l.kept++[{s with pn:=l.next}]).drop 1 else l.kept++[{s with pn:=l.next}]}:=by unfold gG;rw[Ww c7,Ww d5]);rw[d6];have N:=zH c2;clear d6 h x c7 d5 c2;obtain⟨j0,n,g,f,m,j,o,e⟩:=s;obtain⟨r,Q,next,a⟩:=l;simp only at*
 generalize eu ⟨r,Q,next,a⟩=m6 at*
 go_enter Tryz.func217,Tryz.ntmps217;go_wp2_with fail;refine mQ ?_;rintro _ ⟨nq,rfl⟩;go_wp2_with fail;refine(e3.out _ BEL).mono ?_;rintro R C ⟨rfl,A⟩;have c6:bW w C:=by
  refine bD ?_ (A.mono ?_)
  ·exact BEL
  ·first|(simp;done)|(simp;omega)
 have Y:Blk C (w.heap.size) 177 #[uI j0,uI n,uI g,uI f,uI m,bV j,bV o,jI e]:=iK A;have W:Blk C (p) 236 #[jI r,uI Q,uI next,.slice E a.length F]:=iK A;obtain⟨h0,h8,h1,h9,h2,i0,h3,i1,h4,i2,h5,i3,h6,i4,h7,i5⟩:=Y.c8;have m2:w.heap.size<C.heap.size:=Y.lt;have e4:=zH Y;clear Y;obtain⟨f9,g3,g0,g4,g1,g5,g2,g6⟩:=W.c4;have l9:p<C.heap.size:=W.lt;have c0:=zH W;clear W;have b1:=zH c6;clear A c6;go_wp2_with fail;obtain⟨t,z⟩:=eX ((C.setCell ⟨w.heap.size,0,none⟩ (uI next)).setCell ⟨p,2,none⟩ (uI (next+1)));rw[<-z];have Z:Blk t w.heap.size 177 #[uI next,uI n,uI g,uI f,uI m,bV j,bV o,jI e]:=by
  rw[z];exact(e4.out.bF 0 (uI next)).far d1 _
 have L:Blk t p 236 #[jI r,uI Q,uI (next+1),.slice E a.length F]:=by
  rw[z];exact(c0.out.far d2 _).bF 2 (uI (next+1))
 have c3:Lem S w t:=by
  rw[z];exact(Mod.setNew (aH b1.out) (av _) 0 _).setCell (c0.out.far d2 _) (λ_=>K) sM 2 _
 have c4:OwnAt t S 177 8 E a.length F (a.flatMap seV):=by
  rw[z];exact((N.out.below b1.out).far λf0 f4=>by have:=N.out.lt f0 f4;omega).far (N.out.pI H dC)
 have e7:=L.Wu 0;obtain⟨e8,f1⟩:=L.cz 3;obtain⟨j2,k0,j3,k1,j4,k2,j5,k3,j6,k4,j7,k5,j8,k6,j9,k7⟩:=Z.c8;have m8:=Z.lt;have m5:=L.lt;have b8:=zH Z;have b6:=zH L;have a2:=zH c3;have b4:=zH c4;clear z Z L c3 c4 h0 h1 h2 h3 h4 h5 h6 h7 h8 h9 i0 i1 i2 i3 i4 i5 f9 g0 g1 g2 g3 g4 g5 g6 H;go_region_law (refine pZ.Br rfl (.tmp 34) (.tmp 36) rfl E F a (by simp[Act.eval]) (b4.out.below BEL) (some ⟨t.heap.size,0,none⟩) 1 [(⟨next,n,g,f,m,j,o,e⟩:Se)] (by simp[Act.eval]) (pZ.single _ (Wx _ _ _) rfl) sO dC ?_;intro c b b0 d3 a6 c8;have X:=Blk.mod (by have h:=b6.out;first|exact h.alloc _|exact(h.drew.alloc _)|exact((h.drewN _).alloc _)) a6 dC;have c1:=X.cell 3;have e0:=X.frozen 3;have d7:=Blk.grown (row:=(Value.slice E a.length F).ownBlock) (by have h:=b8.out;first|exact h.alloc _|exact(h.drew.alloc _)|exact((h.drewN _).alloc _)) c8 (λR=>by have:=zI N.out.own _ R.symm;omega);have b9:=zH d7;have O:=zH X;have a3:=zH d3;have b3:=zH a6;clear X d3 a6 c8 d7);all_goals (
  obtain⟨d,v⟩:=eX (b0.setCell ⟨p,3,none⟩ (.slice c (a.length+1) b));rw[<-v];(have M:Blk d p 236 #[jI r,uI Q,uI (next+1),.slice c (a.length+1) b]:=by rw[v];exact O.out.bF 3 (.slice c (a.length+1) b));(have a0:Blk d w.heap.size 177 #[uI next,uI n,uI g,uI f,uI m,bV j,bV o,jI e]:=by rw[v];exact b9.out.far d1 _);(have g7:d.heap.size=b0.heap.size:=by rw[v];simp[World.setCell]);have U:=a3.out.far (q:=p) (i:=3) (u:=.slice c (a.length+1) b) (a3.out.pI O.out dC);rw[<-v]at U;have a4:Lem S w d:=by
   rw[v];refine Mod.setCell (Mod.trans (a2.out) (Mod.mono (T:=[some 177]) ?_ (λ_ _ h=>h) sM:Mod S [some 236,some 177] t b0)) O.out (λ_=>K) sM 3 _;exact Mod.then (S':=S) (by have:=aV S [some 177] t;first|exact this.alloc _|exact(this.alloc _).drew|exact(this.drew).alloc _|exact(this.drewN _).alloc _) b3.out (λ_ _ h=>h)
  have m4:=M.Wu 0;obtain⟨i9,k8⟩:=M.cz 3;have j1:=a0.Wu 0;(have f3:a.length+1<=b:=by have:=U.cap_;simpa using this);have a7:=M.lt;have g9:=a0.lt;have m1:w.heap.size<=d.heap.size:=a4.size;have c5:OwnAt d (grow S w d) 177 8 c (a++[(⟨next,n,g,f,m,j,o,e⟩:Se)]).length b ((a++[(⟨next,n,g,f,m,j,o,e⟩:Se)]).flatMap seV):=by
   refine U.mono λi8 J=>?_;rcases J with J|⟨f5,f6⟩
   ·exact .inl J
   ·refine .inr ⟨?_,by rw[g7];exact f6⟩
    have:=a2.out.size;first|(simp at f5;omega)|omega
  have b7:=zH M;have k9:=zH a0;have b5:=zH c5;have b2:=zH a4;clear v M a0 U c5 a4 b9 O a3 b3 b4 a2 b6 b8 c1 e7 e8 f1 j2 j3 j4 j5 j6 j7 j8 j9 k0 k1 k2 k3 k4 k5 k6 k7 e0;by_cases e6:r<(a.length:Int)+1
  ·have e9:decide (r<(a.length:Int)+1)=true:=by simp;omega
   obtain⟨m3,d0,i6,d8,i7⟩:=info_parts (show(Tryz.prog.info? 177).map (λa9=>(a9.zero,a9.size,a9.bytes))=some (some (.agg #[uI 0,uI 0,uI 0,uI 0,uI 0,bV false,bV false,jI 0]),8,56) by kernel_rfl);have hcut:∀w,(Instr.slice 87 (.slice c (a.length+1) b) (some (jI 1)) none none).run Tryz.prog w=.ok (.slice (fE c b 1 8) a.length (b -1)) w:=λw=>by
    have:=gI (P:=Tryz.prog) Tryz.underlying87 d0 c (a.length+1) b 1 oM w;rw[d8]at this;exact this
   have e1:=zH (pZ.drop b5.out.row (k:=1) sM (by simpa using f3));generalize fE c b 1 8=e5 at*
   clear d0 i6 d8 i7;go_wp2_with fail;refine mQ ?_;rintro _ ⟨nq,rfl⟩;go_wp2_with (at_builtin;refine pZ.wpList rfl _ (.tmp 55) rfl d.heap.size none 0 [] (by rfl) (iq _ _ _ _) e5 (b -1) ((a++[(⟨next,n,g,f,m,j,o,e⟩:Se)]).drop 1) (by simp[Act.eval]) (aD e1.out BEL) sO dC (av _) ?_;intro D G y d4 c9;have I:bW d y:=bD (aA (aj _ _) _) ((aj _ _).grown c9 (av _) (by simp[Value.ownBlock]));have c1:y.cell? ⟨p,3,none⟩=some (.slice c (a.length+1) b):=(I.cell (p:=⟨p,3,none⟩) a7).trans i9;have e0:y.frozen? ⟨p,3,none⟩=false:=(I.frozen (p:=⟨p,3,none⟩) a7).trans k8;have m7:y.cell? ⟨w.heap.size,0,none⟩=some (uI next):=(I.cell (p:=⟨w.heap.size,0,none⟩) g9).trans j1;have e2:=zH d4;have a1:=zH I;clear d4 c9 I);go_ret2;have V:=e2.out;rw[List.nil_append]at V;have a5:=OwnAt.fresh (w:=w) V;have a8:=b7.out.below a1.out a7;(have g8:∀d9,(y.setCell ⟨p,3,none⟩ d9).heap.size=y.heap.size:=λd9=>by simp[World.setCell]);have m0:=a1.out.size;have f7:((a++[(⟨next,n,g,f,m,j,o,e⟩:Se)]).drop 1).length=a.length:=sM;rw[f7]at a5;(try rw[aB e6]);refine⟨rfl,⟨⟨D,G,?_,?_⟩,.inl K⟩,?_⟩
   ·have:=a8.bF 3 (.slice D a.length G)
    simpa using this
   ·have f2:=(a5.far (q:=p) (i:=3) (u:=.slice D a.length G) (a5.pI a8 dC)).mono (S':=grow S w (y.setCell ⟨p,3,none⟩ (.slice D a.length G))) (λi8 J=>.inr ⟨oM,by rw[g8];exact J.2⟩)
    simpa using f2
   ·have:=Mod.setCell (Mod.then (S':=S) b2.out (aH a1.out) (λ_ _ h=>h)) a8 (λ_=>K) sM 3 (.slice D a.length G)
    first|exact this|(show Mod _ _ _ _;simpa using this)
  ·have e9:decide (r<(a.length:Int)+1)=false:=by simp;omega
   go_wp2_with fail;refine mQ ?_;rintro _ ⟨nq,rfl⟩;go_wp2_with fail;go_ret2;have l4:(a++[(⟨next,n,g,f,m,j,o,e⟩:Se)]).length=a.length+1:=sM;have V:=b5.out;(try rw[Ww (show¬r<(a.length:Int)+1 by omega)]);refine⟨rfl,⟨⟨c,b,?_,?_⟩,.inl K⟩,?_⟩
   ·have:=b7.out.drewN nq
    simpa using this
   ·exact V.below (aA (aj _ _) _)
   ·exact b2.out.drewN _)
theorem ED (S:Nat->Prop) (p:Nat) (l:Le) (s:Se) (w:World) (h:iJ w S p l) (i:gM l):
  Calls Tryz.prog 217 #[pT p,.agg #[uI s.pn,uI s.off,uI s.len,uI s.bX,uI s.sat,bV s.rE,bV s.used,jI s.aS]] w λc b=>c=.returned (.tuple #[uI (gG l s).val,jI (gG l s).err])/\iJ b (grow S w b) p (gG l s).led/\Lem S w b:=by
 by_cases f:l.dO<l.next
 ·refine(Jc S p l s w h i (.inl f)).mono ?_
  rintro c b ⟨rfl,d,e,a⟩;rw[d,e];exact⟨rfl,(h.below a).mono λm g=>.inl g,aH a⟩
 ·by_cases j:eu l<1
  ·refine(Jc S p l s w h i (.inr j)).mono ?_
   rintro c b ⟨rfl,d,e,a⟩;rw[d,e];exact⟨rfl,(h.below a).mono λm g=>.inl g,aH a⟩
  ·have k:(gG l s).val=l.next/\(gG l s).err=0:=by unfold gG;rw[Ww f,Ww j];exact⟨rfl,rfl⟩
   rw[k.1,k.2];exact NM S p l s w h i f j
theorem NK (S:Nat->Prop) (p:Nat) (l:Le) (w:World) (h:iJ w S p l) (f:gM l):
  Calls Tryz.prog 166 #[pT p] w λc a=>c=.returned (.tuple #[uI (og l).val,jI (og l).err])/\iJ a (grow S w a) p (og l).led/\Lem S w a:=by
 have b:=zH (ED S p l {seZ with aS:=4} w h f);have g:og l=gG l {seZ with aS:=4}:=rfl;rw[g];simp only[seZ]at b|-;clear h f g;generalize gG l _=k at*
 go_enter Tryz.func166,Tryz.ntmps166;go_wp2_with fail;refine(b.out).mono ?_;rintro c m ⟨rfl,d,e⟩;have i:=zH d;have j:=zH e;clear d e;go_wp2_with fail;go_ret2;exact⟨rfl,i.out,j.out⟩
theorem Xz (S:Nat->Prop) (p:Nat) (l:Le) (s:Se) (w:World) (h:iJ w S p l) (g:gM l) (q:1<=s.len) (b:s.len<=1500) (c:s.off<=4611686018427387903):
  Calls Tryz.prog 169 #[pT p,.agg #[uI s.pn,uI s.off,uI s.len,uI s.bX,uI s.sat,bV s.rE,bV s.used,jI s.aS]] w λf a=>f=.returned (.tuple #[uI (jG l s).val,jI (jG l s).err])/\iJ a (grow S w a) p (jG l s).led/\Lem S w a:=by
 have e:=zH (λa (r:bW w a)=>ED S p l {s with aS:=1,used:=false} a (h.below r) g);(have i:jG l s=gG l {s with aS:=1,used:=false}:=by unfold jG;rw[Ww oM]);rw[i];(have m:decide (s.len<1)=false:=by simp;omega);(have n:decide (1500<s.len)=false:=by simp;omega);(have o:decide (4611686018427387903<s.off)=false:=by simp;omega);obtain⟨A,E,z,x,D,C,F,v⟩:=s;simp only at e m n o|-;clear h g i q b c;generalize gG l _=B at*
 go_enter Tryz.func169,Tryz.ntmps169;go_wp2_with fail;refine(e.out _ BEL).mono ?_;rintro f G ⟨rfl,b,c⟩;have j:=zH b;have k:=zH c;clear b c;go_wp2_with fail;go_ret2;refine⟨rfl,j.out.mono λy d=>?_,Mod.then (S':=S) (aH BEL) k.out (λ_ _ h=>h)⟩;rcases d with d|⟨t,u⟩
 ·exact .inl d
 ·exact .inr ⟨by simp at t;omega,u⟩
theorem Qo (e c:Int) (w:World):
  Calls Tryz.prog 45 #[jI e,uI c] w λf b=>∃a,f=.returned ((pT a))/\w.heap.size<=a/\iJ b (λd=>w.heap.size<=d/\d<b.heap.size) a (qZ e c)/\bW w b:=by
 go_enter Tryz.func45,Tryz.ntmps45;go_wp2_with fail;go_ret;refine⟨w.heap.size,rfl,av _,⟨⟨none,0,?_,OwnAt.WH⟩,⟨av _,sM⟩⟩,BEL⟩;exact Wx w 236 _
def boV (x:Bool):List Value:=[bV x]
theorem Mx:(Tryz.prog.info? 4).map (λa=>(a.zero,a.size,a.bytes))=some (some (bV false),1,1):=by kernel_rfl
theorem oW (l:List Bool):l.flatMap boV=l.map Value.bool:=by
 induction l with
 |nil=>rfl
 |cons x t ih=>simp[boV,ih]
def Bos (w:World) (S:Nat->Prop) (a:Option Addr) (l:List Bool):Prop:=Row w S 4 1 a l.length (l.flatMap boV)
theorem Bos.at_ {w w':World} {S:Nat->Prop} {a:Option Addr} {l:List Bool} {j:Nat} (h:Bos w S a l) (hb:bW w w') (g:j<l.length):
  ∃b c,a=some ⟨b,c,none⟩/\b<w.heap.size/\w'.cell? ⟨b,c+j,none⟩=some (bV l[j]):=by
 obtain⟨b,c,e,i,d,f⟩:=Row.at_ h oM;refine⟨b,c,e,d,(hb.cell (p:=⟨b,c+j,none⟩) d).trans (f j _ ?_)⟩;rw[oW];simp[g]
theorem pJ (z:Value) (b:z.cells= #[z]):∀a:Nat,(madeCells z.cells (a*1)).toList=List.replicate a z:=by
 intro a;rw[b];unfold madeCells;apply List.ext_getElem
 ·simp
 ·intro e c d
  simp[Nat.mod_one]
theorem AY:∀(b:List Int) (a:Int),(rT a b).length=b.length
 |[],a=>rfl
 |w::t,a=>by simp[rT,AY t]
theorem GU (l:List Int):(kI l).length=l.length+1:=by simp[kI,AY]
theorem BZ:∀(b:List Bool) (a:Bool),(Xd a b).length=b.length
 |[],a=>rfl
 |w::t,a=>by simp[Xd,BZ t]
theorem IM (l:List Bool):(kW l).length=l.length+1:=by simp[kW,BZ]
theorem Dy:∀(c:List Int) (a:Int) (b:Nat) (d:b<c.length),(a::rT a c)[b+1]?=some (WN ((a::rT a c).getD b 0) c[b])
 |w::t,a,0,d=>by simp[rT]
 |w::t,a,b+1,d=>by
  have:=Dy t (WN a w) b (by simpa using d);simpa[rT]using this
theorem Ew:∀(c:List Bool) (a:Bool) (b:Nat) (d:b<c.length),(a::Xd a c)[b+1]?=some ((a::Xd a c).getD b false !=c[b])
 |w::t,a,0,d=>by simp[Xd]
 |w::t,a,b+1,d=>by
  have:=Ew t (a !=w) b (by simpa using d);simpa[Xd]using this
theorem wm {a b:Int} (c:Word a) (hb:Word b):Word (WN a b):=by
 obtain⟨d,e⟩:=c;obtain⟨f,g⟩:=hb;have:a.toNat^^^b.toNat<2^64:=Nat.xor_lt_two_pow oM oM;unfold WN Word;omega
theorem MG (l:List Int) (j:Nat) (c:j<l.length) (a:j<(kI l).length) (b:j+1<(kI l).length):(kI l)[j+1]=WN (kI l)[j] l[j]:=by
 have h:=Dy l 0 j c;rw[show(0::rT 0 l)=kI l from rfl,aL b,aW,aL a]at h;injection h
theorem NG (l:List Bool) (j:Nat) (c:j<l.length) (a:j<(kW l).length) (b:j+1<(kW l).length):(kW l)[j+1]=((kW l)[j]!=l[j]):=by
 have h:=Ew l false j c;rw[show(false::Xd false l)=kW l from rfl,aL b,aW,aL a]at h;injection h
theorem Fq:∀(d:List Int) (b:Int),Word b->rG d->rG (rT b d)
 |[],b,_,_=>λe a=>by cases a
 |w::t,b,hx,hl=>λe a=>by
  have c:=wm hx (hl w sM);rcases bT.1 a with rfl|a
  ·exact c
  ·exact Fq t _ c (λg f=>hl g (by simp[f])) e a
def fill {a:Type} (z:a) (P:List a) (j:Nat):List a:=P.take (j+1)++List.replicate (P.length -(j+1)) z
theorem JC {a:Type} (z:a) (P:List a) (j:Nat) (b:j<P.length):(fill z P j).length=P.length:=by simp[fill];omega
theorem Mj {a:Type} (z:a) (P:List a) (j:Nat) (b:j<P.length):(fill z P j)[j]?=some P[j]:=by
 unfold fill;rw[List.getElem?_append_left (by rw[aT];omega),List.getElem?_take,aB oM,aL b]
theorem JB {a:Type} (z:a) (P:List a) (j:Nat) (b:j+1<P.length):(fill z P j).set (j+1) P[j+1]=fill z P (j+1):=by
 unfold fill;(have c:(P.take (j+1)).length=j+1:=by rw[aT];omega);rw[List.set_append_right _ _ oM,c,Nat.sub_self,show P.length -(j+1)=(P.length -(j+1+1))+1 by omega,List.replicate_succ,List.set_cons_zero,bB b,List.append_assoc];rfl
theorem JD {a:Type} (z:a) (P:List a) (j:Nat) (b:P.length=j+1):fill z P j=P:=by simp[fill,b,List.take_of_length_le]
theorem yt {a b:Int} (c:Word a) (hb:Word b):bits BinOp.xor IntKind.u64 a b=WN a b:=u64_xor a b c.1 c.2 hb.1 hb.2
theorem OL (S:Nat->Prop) (a:Option Addr) (c:Nat) (l:List Int) (w:World) (h:Wos w S a l) (b7:l.length<=100000) (P:rG l):
  Calls Tryz.prog 232 #[.slice a l.length c] w λZ z=>∃C Y,Z=.returned (.slice C (kI l).length Y)/\Wos z (λm=>w.heap.size<=m/\m<z.heap.size) C (kI l)/\bW w z:=by
 have W:=zH h;have k:=GU l;have j:(kI l)[0]?=some 0:=rfl;obtain⟨a6,H,Q,R,T⟩:=info_parts Fv;go_enter Tryz.func232,Tryz.ntmps232;go_wp2_with (at_make;refine wpList_make_full _ rfl (.tmp 8) (.tmp 8) 23 rfl w.heap.size 30 a6 (uI 0) 1 Tryz.underlying23 H Q R .i64 .i64 ((l.length:Int)+1) ((l.length:Int)+1) (l.length+1) (by rfl) (by rfl) oM oM (by rw[T];omega) (by simp only[maxLen];omega) (av _) ?_;intro V L G;have D:bW w V:=(aj _ _).grown G (av _) (λp d=>by cases d);have g:=zH L;have e:=zH D;clear L G D);have u:=g.out;rw[pJ (uI 0) rfl]at u;have F:fill 0 (kI l) 0=List.replicate (l.length+1) 0:=by
  unfold fill;rw[k];cases hq:kI l with
  |nil=>rw[hq]at j;cases j
  |cons a7 t=>rw[hq]at j;simp at j;rw[j];simp[List.replicate_succ]
 have K:V.ownsRow w.heap.size 30 1 (.slice (some ⟨w.heap.size,0,none⟩) (l.length+1) (l.length+1)) (l.length+1) ((fill 0 (kI l) 0).flatMap woV):=by
  rw[F,oD,List.map_replicate];exact u
 have A:=zH (OwnAt.fresh (w:=w) K);clear g u K F H Q R T;go_loopw [12,4,5] (λy c4 c5 wr=>∃(b:Nat),b<=l.length/\y=jI b/\Hid (OwnAt wr (λm=>w.heap.size<=m/\m<wr.heap.size) 30 1 (some ⟨w.heap.size,0,none⟩) (l.length+1) (l.length+1) ((fill 0 (kI l) b).flatMap woV))/\Hid (bW w wr)) (λy _ _ _=>l.length -(intOf y).toNat);(case atStart=>exact⟨0,oM,rfl,A,e⟩);case round=>
  clear A e;obtain⟨b,b6,rfl,g,e⟩:=hrel;by_cases s:b<l.length
  ·obtain⟨b0,c1,rfl,b4,c0⟩:=W.out.at_ e.out s
   have o:b<(kI l).length:=oM;have I:b+1<(kI l).length:=oM;(have r:(fill 0 (kI l) b).length=l.length+1:=by rw[JC _ _ _ o,k]);obtain⟨p,b1,d,b2,f,q,M⟩:=g.out.bF (i:=b+1) (by rw[oD,bR,r];omega);injection d with d;injection d with d;subst d;have a3:wr.cell? ⟨w.heap.size,b,none⟩=some (uI (kI l)[b]):=by
    rw[f.cell];refine q b _ ?_;rw[oD,List.getElem?_map,Mj _ _ _ o];rfl
   have b5:wr.frozen? ⟨w.heap.size,b+1,none⟩=false:=f.frozen _;have N:(wr.cell? ⟨w.heap.size,b+1,none⟩).isSome=true:=by
    rw[f.cell];have a2:((fill 0 (kI l) b).flatMap woV)[b+1]?=some ((((fill 0 (kI l) b).flatMap woV))[b+1]'(by rw[oD,bR,r];omega)):=aL _;rw[q _ _ a2];rfl
   obtain⟨c2,b8⟩:=Option.isSome_iff_exists.1 N;clear N;have b9:=f.lt;have a4:=P _ (aN s);have a5:Word (kI l)[b]:=by
    have a1:rG (kI l):=λa8 x=>by
     rcases bT.1 x with rfl|x
     ·exact⟨dC,dC⟩
     ·exact Fq l 0 ⟨dC,dC⟩ P a8 x
    exact a1 _ (aN o)
   have E:=(yt a5 a4).trans (MG l b s o I).symm;have X:=zH M;have a9:=zH f;clear M f q r;obtain⟨c3,O⟩:=eX ((kI l)[b]);obtain⟨U,v⟩:=eX ((kI l)[b+1]);have B:=zH v;rw[<-O]at a3 E;rw[<-v]at E;clear O v;generalize l[b]=a7 at*
   go_wp2_with fail;go_roundw;case rel=>
    refine⟨b+1,oM,by go_num,?_,?_⟩
    ·have n:=X.out (uI U)
     have a0:=JB 0 (kI l) b I;rw[oD,show(uI U)=(uI (kI l)[b+1]) by rw[B.out],<-List.map_set,a0,<-oD]at n;rw[<-B.out]at n;exact⟨n.own,λp d=>by have:=n.mem p d;simpa[World.setCell]using this⟩
    ·have b3:=e.out;exact zH BEL
   case measure=>simp[intOf];omega
  ·obtain rfl:b=l.length:=oM
   have J:=g.out;rw[JD _ _ _ k]at J;go_wp2_with fail;go_ret;refine⟨some ⟨w.heap.size,0,none⟩,l.length+1,by rw[k];rfl,?_,e.out⟩;have:=J.row;unfold Wos;rw[k];exact this
theorem Qd (S:Nat->Prop) (a:Option Addr) (c:Nat) (l:List Bool) (w:World) (h:Bos w S a l) (b1:l.length<=100000):
  Calls Tryz.prog 233 #[.slice a l.length c] w λX x=>∃A W,X=.returned (.slice A (kW l).length W)/\Bos x (λm=>w.heap.size<=m/\m<x.heap.size) A (kW l)/\bW w x:=by
 have U:=zH h;have k:=IM l;have j:(kW l)[0]?=some false:=rfl;obtain⟨a1,F,O,P,Q⟩:=info_parts Mx;go_enter Tryz.func233,Tryz.ntmps233;go_wp2_with (at_make;refine wpList_make_full _ rfl (.tmp 8) (.tmp 8) 341 rfl w.heap.size 4 a1 (bV false) 1 Tryz.underlying341 F O P .i64 .i64 ((l.length:Int)+1) ((l.length:Int)+1) (l.length+1) (by rfl) (by rfl) oM oM (by rw[Q];omega) (by simp only[maxLen];omega) (av _) ?_;intro T K E;have B:bW w T:=(aj _ _).grown E (av _) (λo d=>by cases d);have g:=zH K;have e:=zH B;clear K E B);have s:=g.out;rw[pJ (bV false) rfl]at s;have D:fill false (kW l) 0=List.replicate (l.length+1) false:=by
  unfold fill;rw[k];cases hq:kW l with
  |nil=>rw[hq]at j;cases j
  |cons a2 t=>rw[hq]at j;simp at j;rw[j];simp[List.replicate_succ]
 have J:T.ownsRow w.heap.size 4 1 (.slice (some ⟨w.heap.size,0,none⟩) (l.length+1) (l.length+1)) (l.length+1) ((fill false (kW l) 0).flatMap boV):=by
  rw[D,oW,List.map_replicate];exact s
 have y:=zH (OwnAt.fresh (w:=w) J);clear g s J D F O P Q;go_loopw [12,4,5] (λv b8 b9 wr=>∃(b:Nat),b<=l.length/\v=jI b/\Hid (OwnAt wr (λm=>w.heap.size<=m/\m<wr.heap.size) 4 1 (some ⟨w.heap.size,0,none⟩) (l.length+1) (l.length+1) ((fill false (kW l) b).flatMap boV))/\Hid (bW w wr)) (λv _ _ _=>l.length -(intOf v).toNat);(case atStart=>exact⟨0,oM,rfl,y,e⟩);case round=>
  clear y e;obtain⟨b,b0,rfl,g,e⟩:=hrel;by_cases H:b<l.length
  ·obtain⟨a4,b5,rfl,a8,b4⟩:=U.out.at_ e.out H
   have r:b<(kW l).length:=oM;have G:b+1<(kW l).length:=oM;(have q:(fill false (kW l) b).length=l.length+1:=by rw[JC _ _ _ r,k]);obtain⟨o,a5,d,a6,f,p,L⟩:=g.out.bF (i:=b+1) (by rw[oW,bR,q];omega);injection d with d;injection d with d;subst d;have a0:wr.cell? ⟨w.heap.size,b,none⟩=some (bV (kW l)[b]):=by
    rw[f.cell];refine p b _ ?_;rw[oW,List.getElem?_map,Mj _ _ _ r];rfl
   have a9:wr.frozen? ⟨w.heap.size,b+1,none⟩=false:=f.frozen _;have M:(wr.cell? ⟨w.heap.size,b+1,none⟩).isSome=true:=by
    rw[f.cell];have Z:((fill false (kW l) b).flatMap boV)[b+1]?=some ((((fill false (kW l) b).flatMap boV))[b+1]'(by rw[oW,bR,q];omega)):=aL _;rw[p _ _ Z];rfl
   obtain⟨b6,b2⟩:=Option.isSome_iff_exists.1 M;clear M;have b3:=f.lt;have C:(!((kW l)[b]==l[b]))=(kW l)[b+1]:=(NG l b H r G).symm;have V:=zH L;have a3:=zH f;clear L f p q;obtain⟨b7,N⟩:=eX ((kW l)[b]);obtain⟨R,u⟩:=eX ((kW l)[b+1]);have z:=zH u;rw[<-N]at a0 C;rw[<-u]at C;clear N u;generalize l[b]=a2 at*
   go_wp2_with fail;go_roundw;case rel=>
    refine⟨b+1,oM,by go_num,?_,?_⟩
    ·have n:=V.out (bV R)
     have Y:=JB false (kW l) b G;rw[oW,show(bV R)=(bV (kW l)[b+1]) by rw[z.out],<-List.map_set,Y,<-oW]at n;rw[<-z.out]at n;exact⟨n.own,λo d=>by have:=n.mem o d;simpa[World.setCell]using this⟩
    ·have a7:=e.out;exact zH BEL
   case measure=>simp[intOf];omega
  ·obtain rfl:b=l.length:=oM
   have I:=g.out;rw[JD _ _ _ k]at I;go_wp2_with fail;go_ret;refine⟨some ⟨w.heap.size,0,none⟩,l.length+1,by rw[k];rfl,?_,e.out⟩;have:=I.row;unfold Bos;rw[k];exact this
theorem P5 (S:Nat->Prop) (a:Option Addr) (c:Nat) (l:List Int) (i j:Nat) (w:World) (h:Wos w S a l) (y:l.length<=1000000) (x:i<=j) (d:j<l.length) (g:rG l):
  Calls Tryz.prog 234 #[.slice a l.length c,jI i,jI j] w λk p=>k=.returned (.tuple #[uI (WN (l.getD j 0) (l.getD i 0)),bV true])/\bW w p:=by
 obtain⟨q,C,rfl,v,A⟩:=Wos.at_ h (aj _ _) (j:=i) oM;obtain⟨r,D,b,_,B⟩:=Wos.at_ h (aj _ _) d;injection b with b;injection b with m n;subst m n;have o:=yt (g _ (aN d)) (g _ (aN (show i<l.length by omega)));(have e:l.getD j 0=l[j]:=by simp[aW,aL d]);(have f:l.getD i 0=l[i]:=by simp[aW,aL (show i<l.length by omega)]);rw[e,f];have s:decide ((i:Int)<0)=false:=sM;(have t:decide ((j:Int)<(i:Int))=false:=by simp;omega);(have u:decide ((l.length:Int)<=(j:Int))=false:=by simp;omega);have z:i<l.length:=oM;clear e f h;generalize l[i]=E at*
 generalize l[j]=F at*
 go_enter Tryz.func234,Tryz.ntmps234;go_wp2_with fail;refine mQ ?_;rintro _ ⟨nq,rfl⟩;go_wp2_with fail;go_ret2;exact⟨by rw[<-o];rfl,BEL⟩
theorem RY (S:Nat->Prop) (a:Option Addr) (c:Nat) (l:List Bool) (i j:Nat) (w:World) (h:Bos w S a l) (v:l.length<=1000000) (u:i<=j) (f:j<l.length):
  Calls Tryz.prog 235 #[.slice a l.length c,jI i,jI j] w λg n=>g=.returned (.tuple #[bV (l.getD j false !=l.getD i false),bV true])/\bW w n:=by
 obtain⟨o,A,rfl,t,y⟩:=Bos.at_ h (aj _ _) (j:=i) oM;obtain⟨p,B,b,_,z⟩:=Bos.at_ h (aj _ _) f;injection b with b;injection b with k m;subst k m;(have d:l.getD j false=l[j]:=by simp[aW,aL f]);(have e:l.getD i false=l[i]:=by simp[aW,aL (show i<l.length by omega)]);rw[d,e];have q:decide ((i:Int)<0)=false:=sM;(have r:decide ((j:Int)<(i:Int))=false:=by simp;omega);(have s:decide ((l.length:Int)<=(j:Int))=false:=by simp;omega);have x:i<l.length:=oM;clear d e h;generalize l[i]=C at*
 generalize l[j]=D at*
 go_enter Tryz.func235,Tryz.ntmps235;go_wp2_with fail;refine mQ ?_;rintro _ ⟨nq,rfl⟩;go_wp2_with fail;go_ret2;exact⟨rfl,BEL⟩
def SL (s:St):St:={s with dh:=⟨0,0,0,0,0⟩}
theorem Tg (s:St) (w:World):Calls Tryz.prog 25 #[.agg #[jI s.aS,uI s.now,uI s.cr,uI s.dL,uI s.jS,uI s.bK,uI s.gU,uI s.next,uI s.low,uI s.fG,uI s.gP,uI s.dh.dB,uI s.dh.eT,uI s.dh.fI,uI s.dh.bE,uI s.dh.late]] w λJ L=>J=.returned (.agg #[jI (SL s).aS,uI (SL s).now,uI (SL s).cr,uI (SL s).dL,uI (SL s).jS,uI (SL s).bK,uI (SL s).gU,uI (SL s).next,uI (SL s).low,uI (SL s).fG,uI (SL s).gP,uI (SL s).dh.dB,uI (SL s).dh.eT,uI (SL s).dh.fI,uI (SL s).dh.bE,uI (SL s).dh.late])/\bW w L:=by
 obtain⟨i,d,a,j,b,g,k,e,c,l,f,⟨r,t,u,v,x⟩⟩:=s;simp only[SL];go_enter Tryz.func25,Tryz.ntmps25;have nq:¬(w.heap.size+1=w.heap.size):=oM;obtain⟨m,n⟩:=eX (w.heap.size+1);have M:w.heap.size≠m:=oM;have K:w.heap.size<=m:=oM;repeat ((fail_if_success (with_reducible apply eG));first
  |(refine iG 36 (.tmp 4) (.tmp 3) rfl rfl rfl w.heap.size 11 #[uI 0,uI 0,uI 0,uI 0,uI 0] kR kR (Blk.thereO ((Wx w 38 #[jI i,uI d,uI a,uI j,uI b,uI g,uI k,uI e,uI c,uI l,uI f,uI r,uI t,uI u,uI v,uI x]).alloc _) 11 _ sM) kR (by simp[Value.oneCell']) ?_;intro q o;have A:Blk q w.heap.size 38 #[jI i,uI d,uI a,uI j,uI b,uI g,uI k,uI e,uI c,uI l,uI f,uI 0,uI 0,uI 0,uI 0,uI 0]:=(by rw[o];exact Blk.Px [uI 0,uI 0,uI 0,uI 0,uI 0] 11 _ #[jI i,uI d,uI a,uI j,uI b,uI g,uI k,uI e,uI c,uI l,uI f,uI r,uI t,uI u,uI v,uI x] ((Wx w 38 #[jI i,uI d,uI a,uI j,uI b,uI g,uI k,uI e,uI c,uI l,uI f,uI r,uI t,uI u,uI v,uI x]).alloc _) sM);have B:Blk q m 38 #[jI 0,uI 0,uI 0,uI 0,uI 0,uI 0,uI 0,uI 0,uI 0,uI 0,uI 0,uI 0,uI 0,uI 0,uI 0,uI 0]:=(by rw[o,n];exact Blk.gy oM _ _ _ (Blk.qN w _ 38 #[jI 0,uI 0,uI 0,uI 0,uI 0,uI 0,uI 0,uI 0,uI 0,uI 0,uI 0,uI 0,uI 0,uI 0,uI 0,uI 0]));have D:bW w q:=(by rw[o];exact Below.bZ (av _) _ _ _ BEL);have F:=zH A;have y:=zH B;have H:=zH D;clear o A B D)
  |(refine kP 38 (.tmp 1) rfl rfl (some 5) rfl w.heap.size kR #[jI i,uI d,uI a,uI j,uI b,uI g,uI k,uI e,uI c,uI l,uI f,uI 0,uI 0,uI 0,uI 0,uI 0] F.out _ Tryz.underlying38 kR kR ?_)
  |(refine iG 38 (.tmp 2) (.tmp 5) rfl rfl rfl (w.heap.size+1) 0 #[jI i,uI d,uI a,uI j,uI b,uI g,uI k,uI e,uI c,uI l,uI f,uI 0,uI 0,uI 0,uI 0,uI 0] kR kR (by rw[<-n];exact y.out.there _ sM) kR (by simp[Value.oneCell']) ?_;intro z p;rw[<-n]at p;have C:Blk z m 38 #[jI i,uI d,uI a,uI j,uI b,uI g,uI k,uI e,uI c,uI l,uI f,uI 0,uI 0,uI 0,uI 0,uI 0]:=(by rw[p];exact Blk.gF y.out [jI i,uI d,uI a,uI j,uI b,uI g,uI k,uI e,uI c,uI l,uI f,uI 0,uI 0,uI 0,uI 0,uI 0] rfl);have G:=zH C;have E:bW w z:=(by rw[p];exact Below.bZ K _ _ _ H.out);have I:=zH E;clear p C E)
  |go_values|go_skip|go_guarded|go_step|go_upon|go_back|go_simp)
 (try simp only[Exit.inBlock,Exit.then])
 refine iZ 2 38 (w.heap.size+1) #[jI i,uI d,uI a,uI j,uI b,uI g,uI k,uI e,uI c,uI l,uI f,uI 0,uI 0,uI 0,uI 0,uI 0] kR kR (by rw[<-n];exact G.out) _ Tryz.underlying38 kR kR rfl ?_;exact⟨rfl,I.out⟩
structure Dw (w:World) (S:Nat->Prop) (p:Nat) (ring dO:Int) (L:List Se):Prop where
 ex:∃a c,Blk w p 166 #[jI ring,uI dO,.slice a L.length c]/\Ses w S a L/\L.length<=c
theorem Dw.below {w w':World} {S:Nat->Prop} {p:Nat} {d b:Int} {a:List Se} (h:Dw w S p d b a) (hb:bW w w'):Dw w' S p d b a:=by
 obtain⟨e,f,c,g,i⟩:=h.ex;exact⟨e,f,c.below hb c.lt,aD g hb,i⟩
theorem Nh (c b:Int) (w:World):Calls Tryz.prog 57 #[jI c,uI b] w λe d=>∃a,e=.returned ((pT a))/\w.heap.size<=a/\Blk d a 166 #[jI (max 4 (min c 256)),uI (min b 4611686018427387903),.slice none 0 0]/\bW w d:=by
 go_enter Tryz.func57,Tryz.ntmps57;go_wp2_with fail;refine mV ?_;exact⟨_,rfl,av _,Wx _ _ _,BEL⟩
theorem BI (S:Nat->Prop) (p:Nat) (e c:Int) (a:List Se) (w:World) (h:Dw w S p e c a) (k:a.length<=1000000000):
  Calls Tryz.prog 132 #[pT p] w λd f=>d=.returned (uI a.length)/\w=f:=by
 obtain⟨g,i,b,_⟩:=h.ex;have j:=b.Wu 2;have l:(0:Int)<=(a.length:Int):=oM;have m:(a.length:Int)<18446744073709551616:=oM;clear h b;go_enter Tryz.func132,Tryz.ntmps132;go_wp2_with fail;go_ret;exact⟨rfl,rfl⟩
theorem wE (S:Nat->Prop) (p:Nat) (a d:Int) (b:List Se) (w:World) (h:Dw w S p a d b) (m:b.length<=1000000000) (n:0<=a) (o:a<=1000000):
  Calls Tryz.prog 128 #[pT p] w λe g=>e=.returned (uI (max 0 ((b.length:Int) -a)))/\∃f,g=w.drewN f:=by
 obtain⟨i,j,c,_⟩:=h.ex;have l:=c.Wu 2;have k:=c.Wu 0;have q: -9223372036854775808<=(b.length:Int) -a:=oM;have r:(b.length:Int) -a<9223372036854775808:=oM;have s:0<=max 0 ((b.length:Int) -a):=oM;have t:max 0 ((b.length:Int) -a)<18446744073709551616:=oM;clear h c;go_enter Tryz.func128,Tryz.ntmps128;go_wp2_with fail;refine mQ ?_;rintro _ ⟨nq,rfl⟩;go_wp2_with fail;go_ret;exact⟨rfl,_,rfl⟩
end Go.Proofs.YtiflndepmgnojaaGreat
