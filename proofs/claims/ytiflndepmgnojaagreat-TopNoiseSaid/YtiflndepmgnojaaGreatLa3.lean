import Derived.Test.YtiflndepmgnojaaGreatFol
import Derived.Test.YtiflndepmgnojaaGreatLa4
namespace Go.Proofs.YtiflndepmgnojaaGreat
open Go.RowKit Tryz
set_option linter.unusedSimpArgs false
set_option linter.unusedVariables false
set_option maxHeartbeats 4000000
set_option maxRecDepth 100000
variable {p:Nat} {w w':World} {x y:Int} {H:List Se}
attribute[local go_sem] BW.cell BW.frozen
theorem Cw {k:Type} {f:k->List Value} {m:Nat} (g:∀j,(f j).length=m):∀(i:List k) (b a:Nat) (d:k) (c:Value) (e:b<i.length),a<m->f d=(f i[b]).set a c->(i.set b d).flatMap f=(i.flatMap f).set (b*m+a) c
 |[],b,a,d,c,e,_,_=>by simp at e
 |j::t,0,a,d,c,e,hc,h=>by
  simp only[List.set_cons_zero,List.flatMap_cons,Nat.zero_mul,Nat.zero_add];rw[List.set_append_left _ _ (by rw[g];exact hc)];simp at h;rw[h]
 |j::t,b+1,a,d,c,e,hc,h=>by
  have l:=Cw g t b a d c (by simpa using e) hc (by simpa using h);simp only[List.set_cons_succ,List.flatMap_cons];rw[l,List.set_append_right _ _ (by rw[g,Nat.add_mul];omega)];rw[g,show(b+1)*m+a -m=b*m+a by rw[Nat.add_mul];omega]
theorem sU (S:X4) (p:Nat) (l:Le) (w:World) (h:iJ w S p l) (c:gM l):
  Yk 75 #[pT p] w λu d=>∃a b,u=.returned (.slice a l.kept.length b)/\l.kept.length<=b/\Ses d (λn=>w.heap.size<=n/\n<d.heap.size) a l.kept/\bW w d:=by
 obtain⟨a,b,e,f⟩:=h.ex;have x:=e.Wu 3;(have y:l.kept.length<=1000:=by have:=c.len;have:=c.lW;omega);have s:=zH (show Ses w S a l.kept from f.row);clear h e f c;go_enter Tryz.func75,Tryz.ntmps75;go_wp2_with (at_builtin;refine pZ.wpList rfl _ (.tmp 8) rfl w.heap.size none 0 [] (by rfl) (iq _ _ _ _) a b l.kept (by rfl) s.o sO dC (av _) ?_;intro o t v m j;have g:bW w v:=(aj w.heap.size w).grown j (av _) XI;have r:=zH m;have q:=zH g;clear m j g);go_ret;have k:=r.o;rw[List.nil_append]at k;have i:=OwnAt.fresh k;exact⟨o,t,rfl,i.cap_,i.row,q.o⟩
theorem uy (S:X4) (p:Nat) (l:Le) (a:Int) (w:World) (h:iJ w S p l) (g:gM l) (b:pN l a=none):
  Yk 185 #[pT p,uI a] w λj k=>j=.returned (.pointer none)/\∃d,k=w.drewN d:=by
 obtain⟨n,o,f,_⟩:=h.ex;have q:=f.Wu 2;have e:=zH (qY S p l w h g);have t:a<gT l\/l.next<=a:=by
  unfold pN at b;split at b
  .assumption
  .cases b
 clear h f g b;generalize gT l=c at*
 by_cases r:a<c
 .have i:decide (a<c)=true:=sO
  go_enter Tryz.func185,Tryz.ntmps185;go_wp2_with fail;refine Yd e.o ?_;rintro m ⟨d,rfl⟩;go_wp2;go_ret;exact⟨rfl,_,rfl⟩
 .have i:decide (a<c)=false:=sO
  have s:decide (l.next<=a)=true:=sO;go_enter Tryz.func185,Tryz.ntmps185;go_wp2_with fail;refine Yd e.o ?_;rintro m ⟨d,rfl⟩;go_wp2;go_ret;exact⟨rfl,_,rfl⟩
theorem uw (S:X4) (p:Nat) (l:Le) (i g c:Nat) (w:World) (h:iJ w S p l) (b:gM l) (u:i<l.kept.length) (f:Blk w p 236 #[jI l.ring,uI l.dO,uI l.next,.slice (some ⟨g,0,none⟩) l.kept.length c]):
  Yk 185 #[pT p,uI (gT l+i)] w λs e=>s=.returned (.pointer (some ⟨g,i*8,none⟩))/\∃j,e=w.drewN j:=by
 obtain⟨q,r⟩:=f.e2 2 3;have m:=zH (λe (t:bW w e)=>qY S p l e (h.below t) b);have C:=b.ut;have B:=b.KN;(have D:l.next<=4611686018427387904:=by have:=b.nI;have:=b.mh;omega);clear h f b;generalize gT l=a at*
 have y:decide (a+(i:Int)<a)=false:=sO;have z:decide (l.next<=a+(i:Int))=false:=sO;have E:a+(i:Int) -a=i:=oM;have A:i<l.kept.length:=u;have G:a<=a+(i:Int):=oM;have F:(i:Int)<18446744073709551616:=oM;go_enter Tryz.func185,Tryz.ntmps185;go_wp2_with fail;refine Yd (m.o _ (aj _ _)) ?_;rintro k ⟨j,d⟩;(have v:k.cell? ⟨p,2,none⟩=some (uI l.next):=by rw[d];exact q);(have x:k.cell? ⟨p,3,none⟩=some (.slice (some ⟨g,0,none⟩) l.kept.length c):=by rw[d];exact r);obtain⟨o,n⟩:=yx d (show bW w k by rw[d];exact aA (aj _ _) _);clear d;go_wp2;refine bN kR kR ?_;(repeat (go_big_quiet_step (((go_at_call 70;exact dn (m.o _ (aA n.o _)))))));refine aK ?_;rintro _ ⟨nq,rfl⟩;go_wp2;go_ret;exact⟨sM,j+nq,by rw[o.o,World.drewN_drewN]⟩
def Lem (S:X4) (w w':World):Prop:=Mod S [some 236,some 177] w w'
theorem iJ.drewN {S:X4} {l:Le} (h:iJ w S p l) (n:Nat):iJ (w.drewN n) S p l:=h.below (aA (aj _ _) n)
theorem IZ (S:X4) (p:Nat) (l:Le) (k:Int) (w:World) (h:iJ w S p l) (g:gM l):
  Yk 114 #[pT p,uI k] w λJ F=>(∃B,J=.returned (bV B))/\iJ F S p (lX l k)/\Lem S w F:=by
 cases hf:pN l k with
 |none=>
  (have j:lX l k=l:=by unfold lX;rw[hf]);rw[j];obtain⟨c,d⟩:=yx (uy S p l k w h g hf) h;clear hf j h g;go_enter Tryz.func114,Tryz.ntmps114;go_wp2_with fail;refine Yd c.o ?_;rintro z ⟨a,rfl⟩;go_wp2;go_ret;exact⟨⟨_,rfl⟩,d.o.drewN a,(aV _ _ _).drewN a⟩
 |some i=>
  obtain⟨q,rfl⟩:=pM g hf;obtain⟨a0,C,t,o⟩:=h.ex;have j:lX l (gT l+i)=if l.kept[i].aS=4\/l.kept[i].used=true then l else{l with kept:=l.kept.set i {l.kept[i]with used:=true}}:=by
   unfold lX;rw[hf];simp only[aW,aL q,Option.getD_some]
  rw[j];clear j;obtain⟨b,a1,rfl,N,v,O,E⟩:=o.bF (i:=i*8+6) (by rw[sZ (m:=8) (λ_=>rfl)];omega);obtain⟨c,d⟩:=yx (uw S p l i b C w h g q t) h;obtain⟨B,a5,x,a3,R,T,U,V,W,X,y,Y⟩:=(show Ses w S (some ⟨b,0,none⟩) l.kept from o.row).at_ (aj _ _) q;injection x with x;injection x with K L;subst K L;simp only[Nat.zero_add]at y Y;have a2:w.frozen? ⟨b,i*8+6,none⟩=false:=v.frozen _;have P:l.kept.set i {l.kept[i]with used:=true}=l.kept.set i {l.kept[i]with used:=true}:=rfl;have D:=Cw (f:=seV) (m:=8) (λ_=>rfl) l.kept i 6 {l.kept[i]with used:=true} (bV true) q oM rfl;obtain⟨G,H,s,Z,A⟩:=BF D E t o v;clear hf t o O E v D R T U V W X h g P;generalize a4:l.kept[i]=r at*
  by_cases n:r.aS=4
  .have I:(r.aS==4)=true:=by simp[n]
   rw[aB (.inl n)];go_enter Tryz.func114,Tryz.ntmps114;go_wp2_with fail;refine Yd c.o ?_;rintro z ⟨a,rfl⟩;go_wp2;go_ret;exact⟨⟨_,rfl⟩,d.o.drewN a,(aV _ _ _).drewN a⟩
  .have I:(r.aS==4)=false:=by simp[n]
   cases hu:r.used with
   |true=>
    rw[aB (.inr rfl)];rw[hu]at y;go_enter Tryz.func114,Tryz.ntmps114;go_wp2_with fail;refine Yd c.o ?_;rintro z ⟨a,rfl⟩;go_wp2;go_ret;exact⟨⟨_,rfl⟩,d.o.drewN a,(aV _ _ _).drewN a⟩
   |false=>
    rw[Ww (by simp[n])];rw[hu]at y;go_enter Tryz.func114,Tryz.ntmps114;go_wp2_with fail;refine Yd c.o ?_;rintro z ⟨a,rfl⟩;go_wp2;go_ret;refine⟨⟨_,rfl⟩,⟨⟨some ⟨b,0,none⟩,C,?_,?_⟩,d.o.mem⟩,?_⟩
    .simp only[List.length_set]
     exact(s.o.drewN a).far (by intro Q;have:=A.o;unfold Blk at this;rw[<-show b=p from Q.symm]at s;have e:=s.o;unfold Blk at e;rw[this]at e;injection e with e;injection e with _ M;cases M) _
    .have u:=(H.o (bV true))
     rw[<-G.o]at u;simp only[List.length_set];exact⟨(show((w.setCell ⟨b,i*8+6,none⟩ (bV true)).drewN a).ownsRow 0 177 8 _ _ _ from u.own),u.mem⟩
    .exact((aV S [some 236,some 177] w).drewN a).setCell (A.o.drewN a) (λ_=>N) sM _ _
theorem iJ.at_ {S:X4} {l:Le} {i:Nat} (h:iJ w S p l) (u:i<l.kept.length):
  ∃a g,Blk w p 236 #[jI l.ring,uI l.dO,uI l.next,.slice (some ⟨a,0,none⟩) l.kept.length g]/\a<w.heap.size/\a≠p/\(∀b,w.frozen? ⟨a,b,none⟩=false)/\
   w.cell? ⟨a,i*8,none⟩=some (uI l.kept[i].pn)/\w.cell? ⟨a,i*8+1,none⟩=some (uI l.kept[i].off)/\w.cell? ⟨a,i*8+2,none⟩=some (uI l.kept[i].len)/\
   w.cell? ⟨a,i*8+3,none⟩=some (uI l.kept[i].bX)/\w.cell? ⟨a,i*8+4,none⟩=some (uI l.kept[i].sat)/\w.cell? ⟨a,i*8+5,none⟩=some (bV l.kept[i].rE)/\
   w.cell? ⟨a,i*8+6,none⟩=some (bV l.kept[i].used)/\w.cell? ⟨a,i*8+7,none⟩=some (jI l.kept[i].aS)/\
   ∀(d b:Nat) (k:Se) (c:Value),b<8->seV k=(seV l.kept[i]).set b c->iJ ((w.drewN d).setCell ⟨a,i*8+b,none⟩ c) S p {l with kept:=l.kept.set i k}/\Lem S w ((w.drewN d).setCell ⟨a,i*8+b,none⟩ c):=by
 obtain⟨N,g,j,o⟩:=h.ex;obtain⟨a,P,rfl,H,r,T,_⟩:=o.bF (i:=i*8) (by rw[sZ (m:=8) (λ_=>rfl)];omega);obtain⟨O,U,s,I,x,y,z,A,B,C,D,E⟩:=(show Ses w S (some ⟨a,0,none⟩) l.kept from o.row).at_ (aj _ _) u;injection s with s;injection s with n F;subst n F;simp only[Nat.zero_add]at x y z A B C D E;have v:a≠p:=by
  intro J;subst J;have e:=r;unfold Blk at e j;rw[j]at e;injection e with e;injection e with _ G;cases G
 refine⟨a,g,j,I,v,λb=>r.frozen b,x,y,z,A,B,C,D,E,λd b k c K M=>⟨⟨⟨some ⟨a,0,none⟩,g,?_,?_⟩,h.mem⟩,?_⟩⟩
 .simp only[List.length_set]
  exact(j.drewN d).far v.symm c
 .obtain⟨R,Q,t,_,_,_,L⟩:=o.bF (i:=i*8+b) (by rw[sZ (m:=8) (λ_=>rfl)];omega)
  injection t with t;injection t with n;subst n;have q:=L c;rw[<-Cw (f:=seV) (m:=8) (λ_=>rfl) l.kept i b k c u K M]at q;simp only[List.length_set];exact⟨(show((w.setCell ⟨a,i*8+b,none⟩ c).drewN d).ownsRow 0 177 8 _ _ _ from q.own),q.mem⟩
 .exact((aV S [some 236,some 177] w).drewN d).setCell (r.drewN d) (λ_=>H) sM _ _
theorem Gp (S:X4) (p:Nat) (l:Le) (g:Int) (w:World) (h:iJ w S p l) (e:gM l):
  Yk 143 #[pT p,uI g,jI 2] w λA v=>(∃x,A=.returned (bV x))/\iJ v S p (gH l g 2)/\Lem S w v:=by
 cases hf:pN l g with
 |none=>
  (have f:gH l g 2=l:=by unfold gH;rw[hf]);rw[f];obtain⟨c,m⟩:=yx (uy S p l g w h e hf) h;clear hf f h e;go_enter Tryz.func143,Tryz.ntmps143;go_wp2_with fail;refine Yd c.o ?_;rintro o ⟨a,rfl⟩;go_wp2;go_ret;exact⟨⟨_,rfl⟩,m.o.drewN a,(aV _ _ _).drewN a⟩
 |some i=>
  obtain⟨n,rfl⟩:=pM e hf;have f:gH l (gT l+i) 2=if settles 2 l.kept[i].aS then{l with kept:=l.kept.set i {l.kept[i]with aS:=2}}else l:=by
   unfold gH;rw[hf];simp only[aW,aL n,Option.getD_some]
  rw[f];clear f;obtain⟨B,y,s,K,L,r,C,D,E,F,G,H,I,N,u⟩:=h.at_ n;obtain⟨c,m⟩:=yx (uw S p l i B y w h e n s) h;have t:=λa=>u a 7 {l.kept[i]with aS:=2} (jI 2) oM rfl;have j:=zH t;have J:=r (i*8+7);clear hf s u t C D E F G H I h e r;generalize M:l.kept[i]=b at*
  by_cases d:b.aS=1
  .have z:(b.aS==1)=true:=by simp[d]
   (have q:(b.aS==3)=false:=by simp[d]);rw[aB (by simp[settles,d])];go_enter Tryz.func143,Tryz.ntmps143;go_wp2_with fail;refine Yd c.o ?_;rintro o ⟨a,rfl⟩;go_wp2;go_ret;exact⟨⟨_,rfl⟩,(j.o a).1,(j.o a).2⟩
  .have z:(b.aS==1)=false:=by simp[d]
   by_cases k:b.aS=3
   .have q:(b.aS==3)=true:=by simp[k]
    rw[aB (by simp[settles,k])];go_enter Tryz.func143,Tryz.ntmps143;go_wp2_with fail;refine Yd c.o ?_;rintro o ⟨a,rfl⟩;go_wp2;go_ret;exact⟨⟨_,rfl⟩,(j.o a).1,(j.o a).2⟩
   .have q:(b.aS==3)=false:=by simp[k]
    rw[Ww (by simp[settles,d,k])];go_enter Tryz.func143,Tryz.ntmps143;go_wp2_with fail;refine Yd c.o ?_;rintro o ⟨a,rfl⟩;go_wp2;go_ret;exact⟨⟨_,rfl⟩,m.o.drewN a,(aV _ _ _).drewN a⟩
theorem Gn (S:X4) (p:Nat) (l:Le) (g:Int) (w:World) (h:iJ w S p l) (e:gM l):
  Yk 143 #[pT p,uI g,jI 3] w λA v=>(∃x,A=.returned (bV x))/\iJ v S p (gH l g 3)/\Lem S w v:=by
 cases hf:pN l g with
 |none=>
  (have f:gH l g 3=l:=by unfold gH;rw[hf]);rw[f];obtain⟨c,j⟩:=yx (uy S p l g w h e hf) h;clear hf f h e;go_enter Tryz.func143,Tryz.ntmps143;go_wp2_with fail;refine Yd c.o ?_;rintro n ⟨a,rfl⟩;go_wp2;go_ret;exact⟨⟨_,rfl⟩,j.o.drewN a,(aV _ _ _).drewN a⟩
 |some i=>
  obtain⟨m,rfl⟩:=pM e hf;have f:gH l (gT l+i) 3=if settles 3 l.kept[i].aS then{l with kept:=l.kept.set i {l.kept[i]with aS:=3}}else l:=by
   unfold gH;rw[hf];simp only[aW,aL m,Option.getD_some]
  rw[f];clear f;obtain⟨B,y,s,K,L,r,C,D,E,F,G,H,I,N,u⟩:=h.at_ m;obtain⟨c,j⟩:=yx (uw S p l i B y w h e m s) h;have t:=λa=>u a 7 {l.kept[i]with aS:=3} (jI 3) oM rfl;have o:=zH t;have J:=r (i*8+7);clear hf s u t C D E F G H I h e r;generalize M:l.kept[i]=b at*
  by_cases d:b.aS=1
  .have z:(b.aS==1)=true:=by simp[d]
   (have q:(b.aS==3)=false:=by simp[d]);rw[aB (by simp[settles,d])];go_enter Tryz.func143,Tryz.ntmps143;go_wp2_with fail;refine Yd c.o ?_;rintro n ⟨a,rfl⟩;go_wp2;go_ret;exact⟨⟨_,rfl⟩,(o.o a).1,(o.o a).2⟩
  .have z:(b.aS==1)=false:=by simp[d]
   by_cases k:b.aS=3
   .have q:(b.aS==3)=true:=by simp[k]
    rw[Ww (by simp[settles,k])];go_enter Tryz.func143,Tryz.ntmps143;go_wp2_with fail;refine Yd c.o ?_;rintro n ⟨a,rfl⟩;go_wp2;go_ret;exact⟨⟨_,rfl⟩,j.o.drewN a,(aV _ _ _).drewN a⟩
   .have q:(b.aS==3)=false:=by simp[k]
    rw[Ww (by simp[settles,d,k])];go_enter Tryz.func143,Tryz.ntmps143;go_wp2_with fail;refine Yd c.o ?_;rintro n ⟨a,rfl⟩;go_wp2;go_ret;exact⟨⟨_,rfl⟩,j.o.drewN a,(aV _ _ _).drewN a⟩
theorem Qq (S:X4) (p:Nat) (l:Le) (a:Int) (w:World) (h:iJ w S p l) (b:gM l):
  Yk 142 #[pT p,uI a] w λk r=>(∃g,k=.returned (.tuple #[.agg #[uI (mH l a).pn,uI (mH l a).off,uI (mH l a).len,uI (mH l a).bX,uI (mH l a).sat,bV (mH l a).rE,bV (mH l a).used,jI (mH l a).aS],bV g]))/\bW w r:=by
 cases hf:pN l a with
 |none=>
  (have c:mH l a=seZ:=by unfold mH;rw[hf]);rw[c];have d:=zH (uy S p l a (w.alloc (.cells #[uI 0,uI 0,uI 0,uI 0,uI 0,bV false,bV false,jI 0] 177)) (h.below BEL) b hf);clear hf c h b;go_enter Tryz.func142,Tryz.ntmps142;go_wp2_with fail;refine Yd d.o ?_;rintro s ⟨q,rfl⟩;go_wp2;refine mZ ?_;exact⟨⟨_,rfl⟩,BEL⟩
 |some i=>
  obtain⟨e,rfl⟩:=pM b hf;have c:mH l (gT l+i)=l.kept[i]:=by
   unfold mH;rw[hf];simp only[aW,aL e,Option.getD_some]
  rw[c];clear c;obtain⟨n,j,f,t,u,m,v,x,y,z,A,B,C,D,o⟩:=h.at_ e;have d:=zH (uw S p l i n j (w.alloc (.cells #[uI 0,uI 0,uI 0,uI 0,uI 0,bV false,bV false,jI 0] 177)) (h.below BEL) b e (f.alloc _));clear hf f o h b m;generalize l.kept[i]=E at*
  go_enter Tryz.func142,Tryz.ntmps142;go_wp2_with fail;refine Yd d.o ?_;rintro s ⟨q,rfl⟩;go_wp2;refine mZ ?_;exact⟨⟨_,rfl⟩,BEL⟩
theorem Jc (S:X4) (p:Nat) (l:Le) (s:Se) (w:World) (h:iJ w S p l) (e:gM l) (j:l.dO<l.next\/eu l<1):
  Yk 217 #[pT p,.agg #[uI s.pn,uI s.off,uI s.len,uI s.bX,uI s.sat,bV s.rE,bV s.used,jI s.aS]] w λq d=>q=.returned (.tuple #[uI 0,jI (gG l s).err])/\(gG l s).val=0/\(gG l s).led=l/\bW w d:=by
 obtain⟨u,v,a,g⟩:=h.ex;obtain⟨x,y⟩:=a.e2 1 2;have r:=a.lt;obtain⟨_,A,_⟩:=rU r;have m:=zH (λd (c:bW w d)=>zK S p l d (h.below c) e);by_cases f:l.dO<l.next
 .have b:gG l s=⟨0,8,l⟩:=by unfold gG;rw[aB f]
  rw[b];have o:decide (l.dO<l.next)=true:=sO;clear b h a g e j;go_enter Tryz.func217,Tryz.ntmps217;go_wp2;refine mQ ?_;rintro _ ⟨nq,rfl⟩;go_wp2;go_ret2;exact⟨rfl,sM,sM,BEL⟩
 .have n:eu l<1:=oM
  (have b:gG l s=⟨0,7,l⟩:=by unfold gG;rw[Ww f,aB n]);rw[b];have o:decide (l.dO<l.next)=false:=sO;have z:decide (eu l<1)=true:=sO;clear b h a g e j;generalize eu l=B at*
  go_enter Tryz.func217,Tryz.ntmps217;go_wp2;refine mQ ?_;rintro _ ⟨nq,rfl⟩;go_wp2_with fail;refine Yd (m.o _ BEL) ?_;intro t c;have i:bW w t:=by
   refine bD ?_ (c.mono ?_)
   .exact BEL
   .first|(simp;done)|(simp;omega)
  have k:=zH i;clear c i;go_wp2;go_ret2;exact⟨rfl,sM,sM,k.o⟩
theorem NM (S:X4) (p:Nat) (l:Le) (s:Se) (w:World) (h:iJ w S p l) (x:gM l) (c7:¬(l.dO<l.next)) (d5:¬(eu l<1)):
  Yk 217 #[pT p,.agg #[uI s.pn,uI s.off,uI s.len,uI s.bX,uI s.sat,bV s.rE,bV s.used,jI s.aS]] w λa3 B=>a3=.returned (.tuple #[uI l.next,jI 0])/\iJ B (grow S w B) p (gG l s).led/\Lem S w B:=by
 have K:=h.mem;have e3:=zH (λB (A:bW w B)=>zK S p l B (h.below A) x);obtain⟨E,F,H,c2⟩:=h.ex;obtain⟨l0,l1⟩:=H.e2 1 2;have f8:=H.lt;obtain⟨_,l8,_⟩:=rU f8;have d1:¬(w.heap.size=p):=oM;have d2:¬(p=w.heap.size):=oM;(have l5:l.kept.length<=1000:=by have:=x.len;have:=x.lW;omega);have l6:=x.pE;(have l7:l.next+1<18446744073709551616:=by have:=x.nI;have:=x.mh;omega);have l3:decide (l.dO<l.next)=false:=sO;have l2:decide (eu l<1)=false:=sO;(have d6:(gG l s).led={l with next:=l.next+1,kept:=if l.ring<(l.kept.length:Int)+1 then(l.kept++[{s with pn:=l.next}]).drop 1 else l.kept++[{s with pn:=l.next}]}:=by unfold gG;rw[Ww c7,Ww d5]);rw[d6];have N:=zH c2;clear d6 h x c7 d5 c2;obtain⟨j0,n,g,f,m,j,o,e⟩:=s;obtain⟨r,Q,next,a⟩:=l;simp only at*
 generalize eu ⟨r,Q,next,a⟩=m6 at*
 go_enter Tryz.func217,Tryz.ntmps217;go_wp2;refine mQ ?_;rintro _ ⟨nq,rfl⟩;go_wp2_with fail;refine Yd (e3.o _ BEL) ?_;intro C A;have c6:bW w C:=by
  refine bD ?_ (A.mono ?_)
  .exact BEL
  .first|(simp;done)|(simp;omega)
 have X:Blk C (w.heap.size) 177 #[uI j0,uI n,uI g,uI f,uI m,bV j,bV o,jI e]:=iK A;have V:Blk C (p) 236 #[jI r,uI Q,uI next,.slice E a.length F]:=iK A;obtain⟨h0,h8,h1,h9,h2,i0,h3,i1,h4,i2,h5,i3,h6,i4,h7,i5⟩:=X.c8;have m2:w.heap.size<C.heap.size:=X.lt;have e4:=zH X;clear X;obtain⟨f9,g3,g0,g4,g1,g5,g2,g6⟩:=V.c4;have l9:p<C.heap.size:=V.lt;have c0:=zH V;clear V;have b1:=zH c6;clear A c6;go_wp2_with fail;obtain⟨t,z⟩:=eX ((C.setCell ⟨w.heap.size,0,none⟩ (uI next)).setCell ⟨p,2,none⟩ (uI (next+1)));rw[<-z];have Y:Blk t w.heap.size 177 #[uI next,uI n,uI g,uI f,uI m,bV j,bV o,jI e]:=by
  rw[z];exact(e4.o.bF 0 (uI next)).far d1 _
 have L:Blk t p 236 #[jI r,uI Q,uI (next+1),.slice E a.length F]:=by
  rw[z];exact(c0.o.far d2 _).bF 2 (uI (next+1))
 have c3:Lem S w t:=by
  rw[z];exact(Mod.setNew (aH b1.o) (av _) 0 _).setCell (c0.o.far d2 _) (λ_=>K) sM 2 _
 have c4:OwnAt t S 177 8 E a.length F (a.flatMap seV):=by
  rw[z];exact((N.o.below b1.o).far λf0 f4=>by have:=N.o.lt f0 f4;omega).far (N.o.pI H dC)
 have e7:=L.Wu 0;obtain⟨e8,f1⟩:=L.cz 3;obtain⟨j2,k0,j3,k1,j4,k2,j5,k3,j6,k4,j7,k5,j8,k6,j9,k7⟩:=Y.c8;have m8:=Y.lt;have m5:=L.lt;obtain⟨b8,b6,a1,b4⟩:=Bq Y L c3 c4;clear z Y L c3 c4 h0 h1 h2 h3 h4 h5 h6 h7 h8 h9 i0 i1 i2 i3 i4 i5 f9 g0 g1 g2 g3 g4 g5 g6 H;go_region_law (refine pZ.Br rfl (.tmp 34) (.tmp 36) rfl E F a XG (b4.o.below BEL) (some ⟨t.heap.size,0,none⟩) 1 [(⟨next,n,g,f,m,j,o,e⟩:Se)] XG (pZ.single _ (Wx _ _ _) rfl) sO dC ?_;intro c b b0 d3 a6 c8;have W:=Blk.mod (by have h:=b6.o;first|exact h.alloc _|exact(h.drew.alloc _)|exact((h.drewN _).alloc _)) a6 dC;have c1:=W.cell 3;have e0:=W.frozen 3;have d7:=Blk.grown (row:=(Value.slice E a.length F).ownBlock) (by have h:=b8.o;first|exact h.alloc _|exact(h.drew.alloc _)|exact((h.drewN _).alloc _)) c8 (λa3=>by have:=zI N.o.own _ a3.symm;omega);have b9:=zH d7;have O:=zH W;have a2:=zH d3;have b3:=zH a6;clear W d3 a6 c8 d7);all_goals (
  obtain⟨d,v⟩:=eX (b0.setCell ⟨p,3,none⟩ (.slice c (a.length+1) b));rw[<-v];(have M:Blk d p 236 #[jI r,uI Q,uI (next+1),.slice c (a.length+1) b]:=by rw[v];exact O.o.bF 3 (.slice c (a.length+1) b));(have Z:Blk d w.heap.size 177 #[uI next,uI n,uI g,uI f,uI m,bV j,bV o,jI e]:=by rw[v];exact b9.o.far d1 _);(have g7:d.heap.size=b0.heap.size:=by rw[v];simp[World.setCell]);have R:=a2.o.far (q:=p) (i:=3) (u:=.slice c (a.length+1) b) (a2.o.pI O.o dC);rw[<-v]at R;have a4:Lem S w d:=by
   rw[v];refine Mod.setCell (Mod.trans (a1.o) (Mod.mono (T:=[some 177]) ?_ (λ_ _ h=>h) sM:Mod S [some 236,some 177] t b0)) O.o (λ_=>K) sM 3 _;exact Mod.then (S':=S) (by have:=aV S [some 177] t;first|exact this.alloc _|exact(this.alloc _).drew|exact(this.drew).alloc _|exact(this.drewN _).alloc _) b3.o (λ_ _ h=>h)
  have m4:=M.Wu 0;obtain⟨i9,k8⟩:=M.cz 3;have j1:=Z.Wu 0;(have f3:a.length+1<=b:=by have:=R.cap_;simpa using this);have a7:=M.lt;have g9:=Z.lt;have m1:w.heap.size<=d.heap.size:=a4.size;have c5:OwnAt d (grow S w d) 177 8 c (a++[(⟨next,n,g,f,m,j,o,e⟩:Se)]).length b ((a++[(⟨next,n,g,f,m,j,o,e⟩:Se)]).flatMap seV):=by
   refine R.mono λi8 J=>?_;rcases J with J|⟨f5,f6⟩
   .exact .inl J
   .refine .inr ⟨?_,by rw[g7];exact f6⟩
    have:=a1.o.size;first|(simp at f5;omega)|omega
  obtain⟨b7,k9,b5,b2⟩:=Bq M Z c5 a4;clear v M Z R c5 a4 b9 O a2 b3 b4 a1 b6 b8 c1 e7 e8 f1 j2 j3 j4 j5 j6 j7 j8 j9 k0 k1 k2 k3 k4 k5 k6 k7 e0;by_cases e6:r<(a.length:Int)+1
  .have e9:decide (r<(a.length:Int)+1)=true:=sO
   obtain⟨m3,d0,i6,d8,i7⟩:=info_parts (show(prog.info? 177).map (λa9=>(a9.zero,a9.size,a9.bytes))=some (some (.agg #[uI 0,uI 0,uI 0,uI 0,uI 0,bV false,bV false,jI 0]),8,56) by kernel_rfl);have hcut:∀w,(Instr.slice 87 (.slice c (a.length+1) b) (some (jI 1)) none none).run prog w=.ok (.slice (fE c b 1 8) a.length (b -1)) w:=λw=>by
    have:=gI (P:=prog) Tryz.underlying87 d0 c (a.length+1) b 1 oM w;rw[d8]at this;exact this
   have e1:=zH (pZ.drop b5.o.row (k:=1) sM (by simpa using f3));generalize fE c b 1 8=e5 at*
   clear d0 i6 d8 i7;go_wp2;refine mQ ?_;rintro _ ⟨nq,rfl⟩;go_wp2_with (at_builtin;refine pZ.wpList rfl _ (.tmp 55) rfl d.heap.size none 0 [] (by rfl) (iq _ _ _ _) e5 (b -1) ((a++[(⟨next,n,g,f,m,j,o,e⟩:Se)]).drop 1) XG (aD e1.o BEL) sO dC (av _) ?_;intro D G y d4 c9;have I:bW d y:=bD (aA (aj _ _) _) ((aj _ _).grown c9 (av _) XI);have c1:y.cell? ⟨p,3,none⟩=some (.slice c (a.length+1) b):=(I.cell (p:=⟨p,3,none⟩) a7).trans i9;have e0:y.frozen? ⟨p,3,none⟩=false:=(I.frozen (p:=⟨p,3,none⟩) a7).trans k8;have m7:y.cell? ⟨w.heap.size,0,none⟩=some (uI next):=(I.cell (p:=⟨w.heap.size,0,none⟩) g9).trans j1;have e2:=zH d4;have a0:=zH I;clear d4 c9 I);go_ret2;have U:=e2.o;rw[List.nil_append]at U;have a5:=OwnAt.fresh U;have a8:=b7.o.below a0.o a7;(have g8:∀d9,(y.setCell ⟨p,3,none⟩ d9).heap.size=y.heap.size:=λd9=>by simp[World.setCell]);have m0:=a0.o.size;have f7:((a++[(⟨next,n,g,f,m,j,o,e⟩:Se)]).drop 1).length=a.length:=sM;rw[f7]at a5;(try rw[aB e6]);refine⟨rfl,⟨⟨D,G,?_,?_⟩,.inl K⟩,?_⟩
   .have:=a8.bF 3 (.slice D a.length G)
    simpa using this
   .have f2:=(a5.far (q:=p) (i:=3) (u:=.slice D a.length G) (a5.pI a8 dC)).mono (S':=grow S w (y.setCell ⟨p,3,none⟩ (.slice D a.length G))) (λi8 J=>.inr ⟨oM,by rw[g8];exact J.2⟩)
    simpa using f2
   .have:=Mod.setCell (Mod.then (S':=S) b2.o (aH a0.o) (λ_ _ h=>h)) a8 (λ_=>K) sM 3 (.slice D a.length G)
    first|exact this|(show Mod _ _ _ _;simpa using this)
  .have e9:decide (r<(a.length:Int)+1)=false:=sO
   go_wp2;refine mQ ?_;rintro _ ⟨nq,rfl⟩;go_wp2;go_ret2;have l4:(a++[(⟨next,n,g,f,m,j,o,e⟩:Se)]).length=a.length+1:=sM;have U:=b5.o;(try rw[Ww (show¬r<(a.length:Int)+1 by omega)]);refine⟨rfl,⟨⟨c,b,?_,?_⟩,.inl K⟩,?_⟩
   .have:=b7.o.drewN nq
    simpa using this
   .exact U.below (aA (aj _ _) _)
   .exact b2.o.drewN _)
theorem ED (S:X4) (p:Nat) (l:Le) (s:Se) (w:World) (h:iJ w S p l) (i:gM l):
  Yk 217 #[pT p,.agg #[uI s.pn,uI s.off,uI s.len,uI s.bX,uI s.sat,bV s.rE,bV s.used,jI s.aS]] w λc b=>c=.returned (.tuple #[uI (gG l s).val,jI (gG l s).err])/\iJ b (grow S w b) p (gG l s).led/\Lem S w b:=by
 by_cases f:l.dO<l.next
 .refine(Jc S p l s w h i (.inl f)).mono ?_
  rintro c b ⟨rfl,d,e,a⟩;rw[d,e];exact⟨rfl,(h.below a).mono λm g=>.inl g,aH a⟩
 .by_cases j:eu l<1
  .refine(Jc S p l s w h i (.inr j)).mono ?_
   rintro c b ⟨rfl,d,e,a⟩;rw[d,e];exact⟨rfl,(h.below a).mono λm g=>.inl g,aH a⟩
  .have k:(gG l s).val=l.next/\(gG l s).err=0:=by unfold gG;rw[Ww f,Ww j];exact⟨rfl,rfl⟩
   rw[k.1,k.2];exact NM S p l s w h i f j
theorem NK (S:X4) (p:Nat) (l:Le) (w:World) (h:iJ w S p l) (e:gM l):
  Yk 166 #[pT p] w λj a=>j=.returned (.tuple #[uI (og l).val,jI (og l).err])/\iJ a (grow S w a) p (og l).led/\Lem S w a:=by
 have b:=zH (ED S p l {seZ with aS:=4} w h e);have f:og l=gG l {seZ with aS:=4}:=rfl;rw[f];simp only[seZ]at b|-;clear h e f;generalize gG l _=k at*
 go_enter Tryz.func166,Tryz.ntmps166;go_wp2_with fail;refine Yd b.o ?_;rintro m ⟨c,d⟩;obtain⟨g,i⟩:=yx c d;clear c d;go_wp2;go_ret2;exact⟨rfl,g.o,i.o⟩
theorem Xz (S:X4) (p:Nat) (l:Le) (s:Se) (w:World) (h:iJ w S p l) (f:gM l) (q:1<=s.len) (b:s.len<=1500) (c:s.off<=4611686018427387903):
  Yk 169 #[pT p,.agg #[uI s.pn,uI s.off,uI s.len,uI s.bX,uI s.sat,bV s.rE,bV s.used,jI s.aS]] w λo a=>o=.returned (.tuple #[uI (jG l s).val,jI (jG l s).err])/\iJ a (grow S w a) p (jG l s).led/\Lem S w a:=by
 have e:=zH (λa (r:bW w a)=>ED S p l {s with aS:=1,used:=false} a (h.below r) f);(have g:jG l s=gG l {s with aS:=1,used:=false}:=by unfold jG;rw[Ww oM]);rw[g];have k:decide (s.len<1)=false:=sO;have m:decide (1500<s.len)=false:=sO;have n:decide (4611686018427387903<s.off)=false:=sO;obtain⟨A,E,z,x,D,C,F,v⟩:=s;simp only at e k m n|-;clear h f g q b c;generalize gG l _=B at*
 go_enter Tryz.func169,Tryz.ntmps169;go_wp2_with fail;refine Yd (e.o _ BEL) ?_;rintro G ⟨b,c⟩;obtain⟨i,j⟩:=yx b c;clear b c;go_wp2;go_ret2;refine⟨rfl,i.o.mono λy d=>?_,Mod.then (S':=S) (aH BEL) j.o (λ_ _ h=>h)⟩;rcases d with d|⟨t,u⟩
 .exact .inl d
 .exact .inr ⟨by simp at t;omega,u⟩
theorem Qo (e c:Int) (w:World):
  Yk 45 #[jI e,uI c] w λf b=>∃a,f=.returned ((pT a))/\w.heap.size<=a/\iJ b (λd=>w.heap.size<=d/\d<b.heap.size) a (qZ e c)/\bW w b:=by
 go_enter Tryz.func45,Tryz.ntmps45;go_wp2;go_ret;refine⟨w.heap.size,rfl,av _,⟨⟨none,0,?_,OwnAt.WH⟩,⟨av _,sM⟩⟩,BEL⟩;exact Wx w 236 _
theorem JA (a now b:Int) (c:List Int) (next:Int) (s:Se) (t:List Se):om a now b c next (s::t)=
 if a<=s.pn\/s.aS≠1 then om a now b c next t else
 if 3<=a -s.pn\/b<=WU now s.sat then om a now b (c++[s.pn]) next t else
 om a now b c (min next (WI s.sat b)) t:=rfl
theorem NV {a b:Int} (h:Word a):vL [a,b]=min a b:=by
 have:=h.2;simp only[vL,List.foldl_cons,List.foldl_nil];omega
theorem Xg {g:Nat} (h:Blk w g 30 #[uI x]):Row w (λa=>a=g) 30 1 (some ⟨g,0,none⟩) [x].length ([x].flatMap woV):=qH.single _ h rfl
theorem Rz {g:Nat} (h:Blk w g 30 #[uI x,uI y]):Wos w (λa=>a=g) (some ⟨g,0,none⟩) [x,y]:=yG (size:=1) (n:=2) h rfl
theorem gM.pnw_ {l:Le} (h:gM l):∀a∈l.kept,Word a.pn:=λa b=>by
 obtain⟨c,d,e,f⟩:=Hl (h.mem b) h.KN h.nI h.mh;exact⟨oM,oM⟩
theorem QJ (S:X4) (p:Nat) (l:Le) (dm now c:Int) (w:World) (h:iJ w S p l) (v:gM l) (d2:Word dm) (a7:Word now) (a8:Word c):
  Yk 136 #[pT p,uI dm,uI now,uI c] w λZ x=>∃W Y,Z=.returned (.tuple #[.slice W (qE l dm now c).lost.length Y,uI (qE l dm now c).next])/\(qE l dm now c).lost.length<=Y/\
   Wos x (λd=>w.heap.size<=d/\d<x.heap.size) W (qE l dm now c).lost/\bW w x:=by
 obtain⟨O,b2,b4⟩:=Av (sU S p l w h v) v.ok v.pnw_;(have e5:l.kept.length<=1000:=by have:=v.len;have:=v.lW;omega);have a5:qE l dm now c=om dm now c [] 18446744073709551615 l.kept:=rfl;rw[a5];generalize l.kept=s at*
 obtain⟨V,K⟩:=eX (om dm now c [] 18446744073709551615 s);rw[<-K];have T:=zH K;clear K a5 h v;go_enter Tryz.func136,Tryz.ntmps136;go_wp2_with fail;refine(O.o).mono ?_;rintro Z y ⟨d6,e0,rfl,e3,a2,a0⟩;obtain⟨b5,P⟩:=yx a2 a0;clear a2 a0 O;go_wp2;go_loopw [17,10,11,13,19,20] (λN d4 d5 f7 f8 f9 wr=>∃(e:Nat) (f:List Int) (j:X5) (k:Nat) (g:Int),e<=s.length/\N=jI e/\d4=.slice j f.length k/\d5=uI g/\f.length<=e/\X3 (Word g)/\
  X3 (OwnAt wr (λd=>y.heap.size<=d/\d<wr.heap.size) 30 1 j f.length k (f.flatMap woV))/\X3 (om dm now c f g (s.drop e)=V)/\X3 (bW y wr)) (λN _ _ _ _ _ _=>s.length -(intOf N).toNat)
 (case atStart=>exact⟨0,[],none,0,_,oM,rfl,rfl,rfl,av _,⟨dC,dC⟩,OwnAt.WH,T.o.symm,aj _ _⟩);case round=>
  obtain⟨e,f,j,k,g,e4,rfl,rfl,rfl,e1,u,q,R,o⟩:=hrel;clear T;have e7:=o.o.size;have a4:=P.o.size;by_cases D:e<s.length
  .obtain⟨d7,f1,rfl,e2,c3,c4,c5,c6,c7,c8,c9,d0⟩:=b5.o.at_ o.o D
   have b:=R.o;rw[aR D,JA]at b;have a3:=b2.o _ (aN D);have a1:=b4.o _ (aN D);generalize s[e]=d1 at*
   have C:=a3.sat;clear a3;obtain⟨n,f5,f0,d8,t,f4,f6,X⟩:=d1;simp only at c3 c4 c5 c6 c7 c8 c9 d0 b a1 C;obtain⟨f2,f3⟩:=a1;obtain⟨e8,e9⟩:=id d2;by_cases b6:dm<=n
   .have b7:decide (n≥dm)=true:=sO
    rw[aB (.inl b6)]at b;have i:=zH b;clear b;go_wp2;go_roundw;(case rel=>exact⟨e+1,f,j,k,g,oM,by go_num,rfl,rfl,oM,u,zH ((q.o.below (by have m:=aj wr.heap.size wr;exact BEL)).mono (λd a=>⟨a.1,by simp;omega⟩)),i,zH (by have m:=o.o;exact BEL)⟩);case measure=>exact Yl
   have b7:decide (dm<=n)=false:=sO;by_cases H:X=1
   .subst H
    rw[Ww oM]at b;have e6:0<=dm -n:=oM;by_cases b8:3<=dm -n
    .have b9:decide (3<=dm -n)=true:=sO
     rw[aB (.inl b8)]at b;have i:=zH b;clear b;go_wp2_with ((at_builtin;refine qH.jO rfl (.tmp 43) (.tmp 46) rfl j k f XG (q.o.below (BEL)) (some ⟨wr.heap.size+1,0,none⟩) 1 [n] (by rfl) (by first|exact Xg (Wx _ _ _)|exact Xg (Blk.qN _ _ _ _)) sO dC ?_;intro E I d3 A r M;have G:=zH A;have z:=(show bW y _ from(by have m:=o.o;exact BEL)).trans (r.cZ (B:=y.heap.size) sO (λd a h=>by have:=h.1;omega));have F:=zH z;have L:=r.size;simp at L;clear A r M z));go_roundw;(case rel=>exact⟨e+1,_,E,I,g,oM,by go_num,sM,rfl,by simp;omega,u,zH (G.o.mono (λd a=>by rcases a with a|a;exact⟨a.1,oM⟩;exact⟨by have:=a.1;simp at this;omega,a.2⟩)),i,F⟩);case measure=>exact Yl
    .have b9:decide (3<=dm -n)=false:=sO
     have U:=zH (sI now t a7 C);have c2:=nC a7 C;by_cases c0:c<=WU now t
     .have c1:decide (c<=WU now t)=true:=sO
      rw[aB (.inr c0)]at b;have i:=zH b;clear b;go_wp2_with fail;refine Yd (U.o _) ?_;intro a9 rfl;go_wp2_with ((at_builtin;refine qH.jO rfl (.tmp 43) (.tmp 46) rfl j k f XG (q.o.below (BEL)) (some ⟨wr.heap.size+1,0,none⟩) 1 [n] (by rfl) (by first|exact Xg (Wx _ _ _)|exact Xg (Blk.qN _ _ _ _)) sO dC ?_;intro E I d3 A r M;have G:=zH A;have z:=(show bW y _ from(by have m:=o.o;exact BEL)).trans (r.cZ (B:=y.heap.size) sO (λd a h=>by have:=h.1;omega));have F:=zH z;have L:=r.size;simp at L;clear A r M z));go_roundw;(case rel=>exact⟨e+1,_,E,I,g,oM,by go_num,sM,rfl,by simp;omega,u,zH (G.o.mono (λd a=>by rcases a with a|a;exact⟨a.1,oM⟩;exact⟨by have:=a.1;simp at this;omega,a.2⟩)),i,F⟩);case measure=>exact Yl
     .have c1:decide (c<=WU now t)=false:=sO
      rw[Ww oM]at b;have b0:=zH (lT t c C a8);have a6:=fB C a8;have Q:=zH (λ(x:World) (J:Nat) (m:Blk x J 30 #[uI g,uI (WI t c)])=>ES (λd=>d=J) (some ⟨J,0,none⟩) 2 [g,WI t c] x (Rz m) sM);rw[NV u.o]at Q;obtain⟨b3,i⟩:=yx (qo u.o a6) b;clear b c2 a6;go_wp2_with fail;refine Yd (U.o _) ?_;intro a9 rfl;go_wp2_with fail;refine Yd (b0.o _) ?_;intro a9 rfl;go_wp2_with fail;refine Yg (Q.o _ _ (by first|exact Wx _ _ _|exact Blk.qN _ _ _ _)) ?_;go_wp2;go_roundw;(case rel=>exact⟨e+1,f,j,k,_,oM,by go_num,rfl,rfl,oM,b3,zH ((q.o.below (by have m:=aj wr.heap.size wr;exact BEL)).mono (λd a=>⟨a.1,by simp;omega⟩)),i,zH (by have m:=o.o;exact BEL)⟩);case measure=>exact Yl
   .have d9:(X !=1)=true:=by simp[H]
    rw[aB (.inr H)]at b;have i:=zH b;clear b;go_wp2;go_roundw;(case rel=>exact⟨e+1,f,j,k,g,oM,by go_num,rfl,rfl,oM,u,zH ((q.o.below (by have m:=aj wr.heap.size wr;exact BEL)).mono (λd a=>⟨a.1,by simp;omega⟩)),i,zH (by have m:=o.o;exact BEL)⟩);case measure=>exact Yl
  .obtain rfl:e=s.length:=oM
   have b:=R.o;rw[List.drop_length]at b;have b1:X3 (V=⟨f,g⟩):=zH b.symm;clear b;go_wp2;go_ret2;rw[b1.o];exact⟨j,k,rfl,q.o.cap_,aF q.o.row (λd a=>⟨ay a4 a.1,a.2⟩),P.o.trans (o.o.mono a4)⟩
theorem ND (p:Pa) (a now b:Int) (j:Word p.fC) (k:Word p.pat) (l:Word p.gP) (m:Word a) (n:Word now) (w:World):
  Yk 139 #[.agg #[uI p.fC,uI p.pat,uI p.gP],uI a,uI now,uI b] w λr x=>r=.returned (.agg #[uI (xq p a now b).fC,uI (xq p a now b).pat,uI (xq p a now b).gP])/\bW w x:=by
 have i:=zH (JE p a now j k l m n);have o:xq p a now b={lM p a now with gP:=min b 4294967296}:=rfl;rw[o];clear o j k l m n;generalize lM p a now=s at*
 obtain⟨A,B,C⟩:=s;obtain⟨t,u,v⟩:=p;simp only at i|-;go_enter Tryz.func139,Tryz.ntmps139;go_wp2_with fail;refine Yd (i.o _) ?_;intro c d;have g:bW w c:=by
  refine bD ?_ (d.mono ?_)
  .exact BEL
  .first|(simp;done)|(simp;omega)
 have e:Blk c (w.heap.size) 134 #[uI t,uI u,uI v]:=iK d;have f:Blk c (w.heap.size+1) 134 #[uI 0,uI 0,uI 0]:=iK d;obtain⟨D,G,E,H,F,I⟩:=e.c3;have J:w.heap.size<c.heap.size:=e.lt;have y:=zH e;clear e;obtain⟨K,N,L,O,M,P⟩:=f.c3;have Q:w.heap.size+1<c.heap.size:=f.lt;have z:=zH f;clear f;have q:=zH g;clear d g;go_wp2;refine mZ ?_;have g:=q.o;exact⟨rfl,BEL⟩
theorem KH (p:Pa) (a now size:Int) (i:Word p.fC) (j:Word p.pat) (k:Word p.gP) (l:Word a) (m:Word now) (n:Word size) (w:World):
  Yk 92 #[.agg #[uI p.fC,uI p.pat,uI p.gP],uI a,uI now,uI size] w λy G=>y=.returned (.tuple #[.agg #[uI (if vw p a now size then WR p a now size else lM p a now).fC,uI (if vw p a now size then WR p a now size else lM p a now).pat,uI (if vw p a now size then WR p a now size else lM p a now).gP],bV (vw p a now size)])/\bW w G:=by
 have q:=zH (JE p a now i j k l m);have u:=Cv size n;have A:Word (lM p a now).fC:=by
  have:=fB i (kN k (nC m j));have:=pO l;exact qo (by assumption) (by assumption)
 have s:WR p a now size={lM p a now with fC:=(lM p a now).fC -xu size}:=rfl;have t:vw p a now size= !decide ((lM p a now).fC<xu size):=rfl;have L:=(pO n).1;have b:=(pO n).2;rw[s,t];clear s t i j k l m;generalize xu size=g at*
 generalize lM p a now=z at*
 obtain⟨b,M,N⟩:=z;obtain⟨B,C,D⟩:=p;obtain⟨E,F⟩:=A;have x:=zH u;clear u;simp only at q E F|-;by_cases J:b<g
 case' pos=>
  have r:decide (b<g)=true:=sO
 case' neg=>
  have r:decide (b<g)=false:=sO;have K:g<=b:=oM
 all_goals
  rw[r];go_enter Tryz.func92,Tryz.ntmps92;go_wp2_with fail;refine Yd (q.o _) ?_;intro c d;have o:bW w c:=by
   refine bD ?_ (d.mono ?_)
   .exact BEL
   .first|(simp;done)|(simp;omega)
  have e:Blk c (w.heap.size) 134 #[uI B,uI C,uI D]:=iK d;have f:Blk c (w.heap.size+1) 134 #[uI 0,uI 0,uI 0]:=iK d;obtain⟨O,R,P,S,Q,T⟩:=e.c3;have U:w.heap.size<c.heap.size:=e.lt;have H:=zH e;clear e;obtain⟨V,Y,W,Z,X,a0⟩:=f.c3;have a1:w.heap.size+1<c.heap.size:=f.lt;have I:=zH f;clear f;have v:=zH o;clear d o;go_wp2_with fail;refine Yg (x.o _) ?_;go_wp2;refine mZ ?_;have o:=v.o;exact⟨rfl,BEL⟩
theorem Fe (c:Cf) (x:Wi) (g f e d:Int) (k:c.pX=1\/c.pX=2) (i:oz x) (J:Word g) (K:Word f) (L:Word e) (M:Word d) (w:World):
  Yk 145 #[.agg (cfV c),.agg #[uI x.cr,uI x.dL,uI x.acc,uI x.jF,uI x.gX,uI x.k,uI x.fair],uI g,uI f,uI e,uI d] w λa4 g8=>a4=.returned (.agg #[uI (vM c x g f e d).cr,uI (vM c x g f e d).dL,uI (vM c x g f e d).acc,uI (vM c x g f e d).jF,uI (vM c x g f e d).gX,uI (vM c x g f e d).k,uI (vM c x g f e d).fair])/\bW w g8:=by
 obtain⟨u,v⟩:=yx (Oo x e d i L M) (Nl x g f i J K);have N:vM c x g f e d={held c (if c.pX=2 then rD x e d else sJ x g f)with dL:=max (held c (if c.pX=2 then rD x e d else sJ x g f)).dL c.bn}:=rfl;rw[N];clear N i J K L M;obtain⟨E,R,S,G,T,Q,O,a,o,h6,first,P,F,I,C,D,H⟩:=c;generalize rD x e d=g9 at*
 generalize sJ x g f=h0 at*
 obtain⟨U,V,W,X,Y,Z,a0⟩:=x;simp only at k u v|-;rcases k with rfl|rfl
 .clear u
  obtain⟨t,j,h1,h2,h3,h4,h5⟩:=h0;simp only[held]at v|-;have p:=zH (zS t a o);obtain⟨s,q⟩:∃s,rF t a o=s:=⟨_,rfl⟩;rw[q]at p;by_cases c:j<a
  case' pos=>
   have z:decide (j<a)=true:=sO;have r:max j a=a:=oM
  case' neg=>
   have z:decide (j<a)=false:=sO;have r:max j a=j:=oM
  all_goals
   go_enter Tryz.func145,Tryz.ntmps145;go_wp2_with fail;refine Yd (v.o _) ?_;intro b l;have n:bW w b:=by
    refine bD ?_ (l.mono ?_)
    .exact BEL
    .first|(simp;done)|(simp;omega)
   have k:Blk b (w.heap.size) 32 (cfV ((⟨E,R,S,G,T,Q,O,a,o,1,first,P,F,I,C,D,H⟩:Cf))):=iK l;have i:Blk b (w.heap.size+1) 128 #[uI U,uI V,uI W,uI X,uI Y,uI Z,uI a0]:=iK l;have m:Blk b (w.heap.size+1+1) 128 #[uI 0,uI 0,uI 0,uI 0,uI 0,uI 0,uI 0]:=iK l;obtain⟨a5,c0,a6,c1,b4,c9,b5,d0,b6,d1,b7,d2,b8,d3,A,d4,B,d5,b9,d6,a7,c2,a8,c3,a9,c4,b0,c5,b1,c6,b2,c7,b3,c8⟩:=k.c17;have d7:w.heap.size<b.heap.size:=k.lt;have a1:=zH k;clear k;obtain⟨f3,g0,f4,g1,f5,g2,f6,g3,f7,g4,f8,g5,f9,g6⟩:=i.c7;have g7:w.heap.size+1<b.heap.size:=i.lt;have a3:=zH i;clear i;obtain⟨d8,e5,d9,e6,e0,e7,e1,e8,e2,e9,e3,f0,e4,f1⟩:=m.c7;have f2:w.heap.size+1+1<b.heap.size:=m.lt;have a2:=zH m;clear m;have y:=zH n;clear l n;simp only at A B;go_wp2_with fail;refine Yd (p.o _) ?_;intro h7 rfl
   iterate 49 (first|go_values|go_skip|go_guarded|go_step|go_upon|go_back|go_simp)
   refine mZ ?_;have n:=y.o;refine⟨?_,BEL⟩;simp[q,r]
 .clear v
  obtain⟨t,j,h1,h2,h3,h4,h5⟩:=g9;simp only[held]at u|-;have p:=zH (zS t a o);obtain⟨s,q⟩:∃s,rF t a o=s:=⟨_,rfl⟩;rw[q]at p;by_cases c:j<a
  case' pos=>
   have z:decide (j<a)=true:=sO;have r:max j a=a:=oM
  case' neg=>
   have z:decide (j<a)=false:=sO;have r:max j a=j:=oM
  all_goals
   go_enter Tryz.func145,Tryz.ntmps145;go_wp2_with fail;refine Yd (u.o _) ?_;intro b l;have n:bW w b:=by
    refine bD ?_ (l.mono ?_)
    .exact BEL
    .first|(simp;done)|(simp;omega)
   have k:Blk b (w.heap.size) 32 (cfV ((⟨E,R,S,G,T,Q,O,a,o,2,first,P,F,I,C,D,H⟩:Cf))):=iK l;have i:Blk b (w.heap.size+1) 128 #[uI U,uI V,uI W,uI X,uI Y,uI Z,uI a0]:=iK l;have m:Blk b (w.heap.size+1+1) 128 #[uI 0,uI 0,uI 0,uI 0,uI 0,uI 0,uI 0]:=iK l;obtain⟨a5,c0,a6,c1,b4,c9,b5,d0,b6,d1,b7,d2,b8,d3,A,d4,B,d5,b9,d6,a7,c2,a8,c3,a9,c4,b0,c5,b1,c6,b2,c7,b3,c8⟩:=k.c17;have d7:w.heap.size<b.heap.size:=k.lt;have a1:=zH k;clear k;obtain⟨f3,g0,f4,g1,f5,g2,f6,g3,f7,g4,f8,g5,f9,g6⟩:=i.c7;have g7:w.heap.size+1<b.heap.size:=i.lt;have a3:=zH i;clear i;obtain⟨d8,e5,d9,e6,e0,e7,e1,e8,e2,e9,e3,f0,e4,f1⟩:=m.c7;have f2:w.heap.size+1+1<b.heap.size:=m.lt;have a2:=zH m;clear m;have y:=zH n;clear l n;simp only at A B;go_wp2_with fail;refine Yg (p.o _) ?_
   iterate 49 (first|go_values|go_skip|go_guarded|go_step|go_upon|go_back|go_simp)
   refine mZ ?_;have n:=y.o;refine⟨?_,BEL⟩;simp[q,r]
structure Dw (w:World) (S:X4) (p:Nat) (ring dO:Int) (L:List Se):Prop where
 ex:∃a c,Blk w p 166 #[jI ring,uI dO,.slice a L.length c]/\Ses w S a L/\L.length<=c
theorem Dw.below {S:X4} (h:Dw w S p x y H) (hb:bW w w'):Dw w' S p x y H:=by
 obtain⟨b,c,a,d,e⟩:=h.ex;exact⟨b,c,a.below hb a.lt,aD d hb,e⟩
theorem Nh (c b:Int) (w:World):Yk 57 #[jI c,uI b] w λe d=>∃a,e=.returned ((pT a))/\w.heap.size<=a/\Blk d a 166 #[jI (max 4 (min c 256)),uI (min b 4611686018427387903),zzN]/\bW w d:=by
 go_enter Tryz.func57,Tryz.ntmps57;go_wp2_with fail;refine mV ?_;exact⟨_,rfl,av _,Wx _ _ _,BEL⟩
theorem BI (S:X4) (p:Nat) (e c:Int) (a:List Se) (w:World) (h:Dw w S p e c a) (k:a.length<=1000000000):
  Yk 132 #[pT p] w λd f=>d=.returned (uI a.length)/\w=f:=by
 obtain⟨g,i,b,_⟩:=h.ex;have j:=b.Wu 2;have l:(0:Int)<=(a.length:Int):=oM;have m:(a.length:Int)<18446744073709551616:=oM;clear h b;go_enter Tryz.func132,Tryz.ntmps132;go_wp2;go_ret;exact⟨rfl,rfl⟩
theorem Yu (S:X4) (p:Nat) (a d:Int) (b:List Se) (w:World) (h:Dw w S p a d b) (m:b.length<=1000000000) (n:0<=a) (o:a<=1000000):
  Yk 128 #[pT p] w λe g=>e=.returned (uI (max 0 ((b.length:Int) -a)))/\∃f,g=w.drewN f:=by
 obtain⟨i,j,c,_⟩:=h.ex;obtain⟨l,k⟩:=c.e2 2 0;have q: -9223372036854775808<=(b.length:Int) -a:=oM;have r:(b.length:Int) -a<9223372036854775808:=oM;have s:0<=max 0 ((b.length:Int) -a):=oM;have t:max 0 ((b.length:Int) -a)<18446744073709551616:=oM;clear h c;go_enter Tryz.func128,Tryz.ntmps128;go_wp2;refine mQ ?_;rintro _ ⟨nq,rfl⟩;go_wp2;go_ret;exact⟨rfl,_,rfl⟩
end Go.Proofs.YtiflndepmgnojaaGreat
