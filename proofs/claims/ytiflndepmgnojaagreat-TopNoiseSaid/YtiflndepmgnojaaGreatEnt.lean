import Derived.Test.YtiflndepmgnojaaGreatEnh
import Derived.Test.YtiflndepmgnojaaGreatGue
namespace Go.Proofs.YtiflndepmgnojaaGreat
open Go.RowKit Tryz
set_option linter.unusedSimpArgs false
set_option linter.unusedVariables false
set_option maxHeartbeats 8000000
set_option maxRecDepth 100000
variable {b k m n q p:Nat} {w w' W:World} {O:List Oper}
section
variable {w w':World} {S:X4} {p:Nat} {e:En}
theorem eB.cells (h:eB w S p e):∃f d c a,w.cell? ⟨p,19,none⟩=some ((pT f))/\w.cell? ⟨p,20,none⟩=some ((pT d))/\w.cell? ⟨p,21,none⟩=some ((pT c))/\w.cell? ⟨p,22,none⟩=some ((pT (PgQ.n a)))/\Blk w p 154 (enC e f d c a)/\SoW w S f a.q e.words/\mG w S d e.dH/\iJ w S c e.led/\GuW w S a.n a.q e.gu:=by
 obtain⟨f,d,c,a,b,g,i,j,k⟩:=h.ex;exact⟨f,d,c,a,b.cell 19,b.cell 20,b.cell 21,b.cell 22,b,g,i,j,k⟩
theorem eB.zt (h:eB w S p e) (l:w.cell? ⟨p,21,none⟩=some ((pT b))):iJ w S b e.led/\∀w' d,iJ w' S b d->Mod S [some 236,some 177] w w'->eB w' S p {e with led:=d}:=by
 have n:=h.mem;obtain⟨r,q,s,o,f,g,i,j,k⟩:=h.ex;have a:=f.Wu 21;rw[l]at a;injection a with a;injection a with a;injection a with a;injection a with a;subst a;exact⟨j,λw' d m c=>⟨⟨r,q,b,o,f.mod c dC,g.keep (ts:=[some 232,some 30]) (c.aM dC) sM sM,i.keep (ts:=[some 234,some 5,some 272]) (c.aM dC) sM sM sM,m,k.keep (ts:=[some 256,some 314,some 30]) (c.aM dC) sM sM sM⟩,n⟩⟩
theorem eB.atQu (h:eB w S p e) (l:w.cell? ⟨p,20,none⟩=some ((pT b))):mG w S b e.dH/\∀w' d,mG w' (grow S w w') b d->Mod S [some 234,some 5] w w'->eB w' (grow S w w') p {e with dH:=d}:=by
 have n:=h.mem;obtain⟨r,s,q,o,f,g,i,j,k⟩:=h.ex;have a:=f.Wu 20;rw[l]at a;injection a with a;injection a with a;injection a with a;injection a with a;subst a;refine⟨i,λw' d m c=>⟨⟨r,b,q,o,f.mod c dC,?_,m,?_,?_⟩,.inl n⟩⟩
 .exact(g.keep (ts:=[some 232,some 30]) (c.aM dC) sM sM).mono (λ_ h=>.inl h)
 .exact(j.keep (ts:=[some 236,some 177]) (c.aM dC) sM sM).mono (λ_ h=>.inl h)
 .exact(k.keep (ts:=[some 256,some 314,some 30]) (c.aM dC) sM sM sM).mono (λ_ h=>.inl h)
theorem eB.next (h:eB w S p e) (f:dG k e) (y:k<=100000000) {ps:Nat} (q:w.cell? ⟨p,19,none⟩=some ((pT ps))):
  Yk 165 #[pT ps] w λl w'=>l=.returned (uI (jg e))/\eB w' S p (WG e)/\Mod S [some 232] w w':=by
 have s:=h.mem;obtain⟨z,x,v,j,d,c,m,n,o⟩:=h.ex;have a:=d.Wu 19;rw[q]at a;injection a with a;injection a with a;injection a with a;injection a with a;subst a;refine(Kr _ ps e.words w c.1 (by have:=f.wl;omega) (by have:=f.wt;omega)).mono ?_;rintro l w' ⟨r,u,b⟩;exact⟨r,⟨⟨ps,x,v,j,d.mod b dC,⟨u,c.2.1,c.2.2.imp id (λ⟨i,t,g⟩=>⟨i,(b.aM (S':=S) (ts:=[some 30]) dC) j.q i c.2.1 t (by rw[g];simp),g⟩)⟩,m.keep (ts:=[some 234,some 5,some 272]) (b.aM dC) sM sM sM,n.keep (ts:=[some 236,some 177]) (b.aM dC) sM sM,o.keep (ts:=[some 256,some 314,some 30]) (b.aM dC) sM sM sM⟩,s⟩,b.mono (λ_ _ h=>h.1) (λ_ h=>h)⟩
theorem RV {S:X4} {e:TypeId} {size n c q:Nat} {a:X5} {xs:List Value} (h:OwnAt w S e size a n c xs) {o:Obj} (k:w.heap[q]?=some o) (l:nH o≠some e):OwnAt w (λi=>S i/\i≠q) e size a n c xs:=
 ⟨h.own,λj f=>⟨h.mem j f,λd=>by
  subst d;rcases h.own.2 with⟨g,_⟩|⟨s,m,r,g,_,d,_⟩
  .injection g with b;rw[b]at f;cases f
  .injection g with b
   rw[f]at b;injection b with b;injection b with b;subst b;rw[k]at d;injection d with d;subst d;exact l rfl⟩⟩
theorem iJ.off {S:X4} {l:Le} (h:iJ w S b l) {o:Obj} (c:w.heap[q]?=some o) (j:nH o≠some 236) (k:nH o≠some 177):iJ w (λd=>S d/\d≠q) b l:=by
 obtain⟨f,i,a,g⟩:=h.ex;refine⟨⟨f,i,a,RV g c k⟩,⟨h.mem,λm=>?_⟩⟩;subst m;unfold Blk at a;rw[c]at a;injection a with a;subst a;exact j rfl
theorem eB.take (h:eB w S p e) (i:dG k e) (b4:k<=100000000) (Q:Bd S w) (X:w.cell? ⟨p,21,none⟩=some ((pT n))) (Y:w.cell? ⟨p,22,none⟩=some ((pT m)))
  {A:X4} {tb:TypeId} (a:X5) (c:Nat) (b:List Int) (hb:Byt tb w A a b) (T:b.length<=140737488355328) (W:dP b):
  Yk 52 #[pT m,pT n,.slice a b.length c,uI e.now] w λH w'=>∃s d t f,H=.returned (.tuple #[.agg #[jI (dN e.gu e.led b e.now).ver.kind,jI (dN e.gu e.led b e.now).ver.why,uI (dN e.gu e.led b e.now).ver.pn,bV (dN e.gu e.led b e.now).ver.dU],.agg #[.slice s (dN e.gu e.led b e.now).ack.cu.length d,.slice t (dN e.gu e.led b e.now).ack.aO.length f,uI (dN e.gu e.led b e.now).ack.dw,uI (dN e.gu e.led b e.now).ack.xor,bV (dN e.gu e.led b e.now).ack.kZ]])/\
   nu w' (λk=>w.heap.size<=k/\k<w'.heap.size) s d t f (dN e.gu e.led b e.now).ack/\eB w' (grow S w w') p {e with gu:=(dN e.gu e.led b e.now).gu,led:=(dN e.gu e.led b e.now).led}/\Mod S gtT w w':=by
 have a2:=h.mem;obtain⟨G,b0,b7,l,x,r,M,N,P⟩:=h.ex;have d:=x.Wu 21;rw[X]at d;injection d with d;injection d with d;injection d with d;injection d with d;subst d;have f:=x.Wu 22;rw[Y]at f;injection f with f;injection f with f;injection f with f;injection f with f;have a6:∃g,w.heap[l.q]?=some g/\nH g≠some 236/\nH g≠some 177/\(nH g=some 30\/nH g=some 232):=by
  rcases r.2.2 with a5|⟨g,j,y⟩
  .obtain⟨B,D,q,_⟩:=r.1.ex
   exact⟨_,by rw[a5];exact q,by simp[nH],by simp[nH],by simp[nH]⟩
  .exact⟨g,j,by rw[y];simp,by rw[y];simp,.inl y⟩
 obtain⟨g,j,b1,b2,b8⟩:=a6;have O:=N.off j b1 b2;subst f;refine(NS k oM (λk=>S k/\k≠l.q) A l.n n e.gu e.led a c b e.now w P i.gu O i.le hb T W i.now (λk i=>Q k i.1)).mono ?_;rintro H w' ⟨s,d,t,f,Z,R,a0,a1,o⟩;have b5:=o.size;have F:w'.heap[l.q]?=some g:=by
  rcases o.block l.q (WT j)with z|⟨z,_⟩
  .exact z.trans j
  .exact Wy rfl z.2
 have a7:SoW w' S G l.q e.words:=by
  obtain⟨⟨B,D,q,C⟩,a3⟩:=r.1;refine⟨⟨⟨B,D,?_,?_⟩,a3⟩,r.2.1,r.2.2.imp id (λ⟨b6,u,a8⟩=>⟨g,F,by rw[j]at u;injection u with u;subst u;exact a8⟩)⟩
  .exact q.mod o dC
  .refine⟨C.1,λa4=>?_⟩
   obtain⟨b,a9,I,L,J,E,v,K⟩:=C.2 a4;refine⟨b,a9,I,L,J,E,?_,K⟩;rcases E.2 with U|V
   .subst U
    unfold Blk at q;rw[q]at v;cases v
   .subst V
    rw[F,<-j];exact v
 refine⟨s,d,t,f,Z,R,⟨⟨G,b0,n,l,x.mod o dC,a7.mono (λ_ h=>.inl h),(M.keep (ts:=[some 234,some 5,some 272]) (o.aM dC) sM sM sM).za (λ_ h=>.inl h),a1.mono (λk i=>i.imp (λh=>h.1) id),?_⟩,.inl a2⟩,o.mono (λ_ _ h=>h.1) (λ_ h=>h)⟩;exact mI.mono a0 (λk i=>i.elim (λh=>⟨.inl h.1,h.2⟩) (λh=>⟨.inr h,λb3=>by have:=WT j;omega⟩))
end
attribute[local go_sem] BW.cell BW.frozen
def stT:List (Option TypeId):=[some 236,some 177,some 234,some 5]
def Kps (vs:X4) (w w':World):Prop:=w.heap.size<=w'.heap.size/\∀a b c,(vs a\/some b∉stT)->Blk w a b c->Blk w' a b c
theorem Kps.of {vs X:X4} {T:X8} (h:Mod X T w w') (e:∀d∈T,d∈stT) (g:∀b,vs b->¬X b):Kps vs w w':=
 ⟨h.size,λb d i a c=>a.elim (λa=>c.o h (g b a)) (λa=>c.mod h (λf=>a (e _ f)))⟩
structure StI (k:Nat) (S:X4) (w:World) (p:Nat) (aX:X5) (kept:List Se) (vs:X4) (wr:World) (r:Rse) (af:X5) (cf:Nat):Prop where
 ex:∃F G:Nat->Prop,(∀k,S k->F k)/\(∀k,F k->grow S w wr k)/\Bd F wr/\Bd G wr/\(∀k,G k->¬F k/\w.heap.size<=k)/\eB wr F p r.en/\OwnAt wr G 177 8 af r.fresh.length cf (r.fresh.flatMap seV)/\Ses wr (λk=>¬F k/\¬G k/\k<wr.heap.size) aX kept/\∀k,vs k->¬F k/\¬G k/\k<wr.heap.size
 ok:dG k r.en
 m:Mod S stT w wr
section
variable {k p cf:Nat} {S vs vs':X4} {w wr w':World} {aX af:X5} {kept:List Se} {r:Rse}
theorem StI.less (h:StI k S w p aX kept vs wr r af cf) (o:∀k,vs' k->vs k):StI k S w p aX kept vs' wr r af cf:=by
 obtain⟨a,b,c,d,e,f,g,i,j,l,m⟩:=h.ex;exact⟨⟨a,b,c,d,e,f,g,i,j,l,λk n=>m k (o k n)⟩,h.ok,h.m⟩
theorem StI.below (h:StI k S w p aX kept vs wr r af cf) (hb:bW wr w') (u:∀k,vs' k->vs k\/(wr.heap.size<=k/\k<w'.heap.size)):StI k S w p aX kept vs' w' r af cf:=by
 obtain⟨g,i,j,l,d,e,m,n,o,q,c⟩:=h.ex;have f:=hb.size;exact⟨⟨g,i,j,λk b=>(l k b).imp id (λa=>⟨a.1,by have:=a.2;omega⟩),d.later f,e.later f,m,n.below hb,o.below hb,aF (aD q hb) (λk b=>⟨b.1,b.2.1,by have:=b.2.2;omega⟩),
  λk b=>(u k b).elim (λa=>⟨(c k a).1,(c k a).2.1,by have:=(c k a).2.2;omega⟩) (λa=>⟨λs=>by have:=d k s;omega,λt=>by have:=e k t;omega,a.2⟩)⟩,h.ok,h.m.trans (aH hb)⟩
theorem StI.settle (h:StI k S w p aX kept vs wr r af cf) (f:Int) (D:wr.cell? ⟨p,21,none⟩=some ((pT b))):
  Yk 143 #[pT b,uI f,jI 2] wr λl w'=>(∃t,l=.returned (bV t))/\StI k S w p aX kept vs w' {r with en:={r.en with led:=gH r.en.led f 2}} af cf/\Kps vs wr w':=by
 obtain⟨j,s,v,m,x,y,n,z,A,B,e⟩:=h.ex;obtain⟨F,C⟩:=z.zt D;refine(Gp j b r.en.led f wr F h.ok.le).mono ?_;rintro l w' ⟨E,G,c⟩;have q:=c.size;have o:=rV r.en.led f 2;refine⟨E,⟨⟨j,s,v,λk a=>(m k a).imp id (λg=>⟨g.1,by have:=g.2;omega⟩),x.later q,y.later q,n,C _ _ G c,A.keep (ts:=[some 177]) (c.iD (λk i d=>(n k i).1 d)) sM,aF (aG B (ts:=[some 177]) (c.iD (λk H d=>H.1 d)) sM) (λk a=>⟨a.1,a.2.1,by have:=a.2.2;omega⟩),λk a=>⟨(e k a).1,(e k a).2.1,by have:=(e k a).2.2;omega⟩⟩,?_,h.m.then (c.mono (T':=stT) (λ_ _ h=>h) (by simp[stT])) (λk a d=>(m k d).elim id (λg=>Wy g.1 oM))⟩,Kps.of c (by simp[stT]) (λu i=>(e u i).1)⟩;exact{h.ok with le:=vC h.ok.le _ _ (.inl rfl),lr:=o.1.trans h.ok.lr,ll:=o.2.1.trans h.ok.ll,lm:=uz h.ok.lm}
theorem StI.dX (h:StI k S w p aX kept vs wr r af cf) (g n:Int) (s:Word g) (G:Word n) (E:wr.cell? ⟨p,20,none⟩=some ((pT b))):
  Yk 190 #[pT b,uI g,uI n] wr λl w'=>(∃v,l=.returned (bV v))/\StI k S w p aX kept vs w' {r with en:={r.en with dH:=kS r.en.dH g n}} af cf/\Kps vs wr w':=by
 obtain⟨i,u,y,m,z,o,q,A,B,C,f⟩:=h.ex;obtain⟨H,D⟩:=A.atQu E;refine(Ir i b r.en.dH g n wr H h.ok.qu s G).mono ?_;rintro l w' ⟨F,I,e⟩;have t:=e.size;have j:∀k,grow i wr w' k->grow S w w' k:=λk a=>a.elim (λd=>(m k d).imp id (λc=>⟨c.1,by have:=c.2;omega⟩)) (λc=>.inr ⟨ay h.m.size c.1,c.2⟩);refine⟨F,⟨⟨grow i wr w',u,λk a=>.inl (y k a),j,z.grow t,o.later t,λk a=>⟨λd=>d.elim (q k a).1 (λc=>by have:=o k a;omega),(q k a).2⟩,D _ _ I e,B.keep (ts:=[some 177]) (e.aM dC) sM,aF (aG C (ts:=[some 177]) (e.aM dC) sM) (λk a=>⟨λd=>d.elim a.1 (λc=>by have:=a.2.2;omega),a.2.1,by have:=a.2.2;omega⟩),λk a=>⟨λd=>d.elim (f k a).1 (λc=>by have:=(f k a).2.2;omega),(f k a).2.1,by have:=(f k a).2.2;omega⟩⟩,?_,h.m.then (e.mono (T':=stT) (λ_ _ h=>h) (by simp[stT])) (λk a d=>(m k d).elim id (λc=>Wy c.1 oM))⟩,Kps.of e (by simp[stT]) (λx j=>(f x j).1)⟩;exact{h.ok with qu:=xM h.ok.qu _ _ s.1,qb:=Ef h.ok.qb,qr:=(yK _ _ _).trans h.ok.qr}
theorem StI.app {ops:Array Oper} {o:Oper} {a:Act} {Q:X7} (N:o.guard=none) (s x:Operand) (P:o.op=.call {callee:=.builtin .append,args:= #[s,x],argTypes:= #[87,87]})
  (h:StI k S w p aX kept vs wr r af cf) (U:a.eval s=.slice af r.fresh.length cf) (y:Se) (B:X5) (c:Nat) {z:X4} (n:a.eval x=.slice B [y].length c) (T:Row wr z 177 8 B [y].length ([y].flatMap seV)) (Z:r.fresh.length<=1000000)
  (M:∀i j w',StI k S w p aX kept vs w' {r with fresh:=r.fresh++[y]} i j->Kps vs wr w'->Go.wpList prog ops Q O (a.put o.dst (.slice i (r.fresh++[y]).length j)) w'):Go.wpList prog ops Q (o::O) a wr:=by
 obtain⟨q,t,H,I,u,J,l,m,K,L,f⟩:=h.ex;refine pZ.jO N s x P af cf r.fresh U K B c [y] n T sO dC ?_;intro i j w' R g e;have v:=g.size;refine M i j w' ⟨⟨q,grow t wr w',H,λk b=>(I k b).imp id (λx=>⟨x.1,by have:=x.2;omega⟩),u.later v,J.grow v,λk b=>b.elim (l k) (λx=>⟨λd=>by have:=u k d;omega,ay h.m.size x.1⟩),?_,R,aF (aG L (ts:=[some 177]) (g.iD (λk n d=>n.2.1 d)) sM) (λk b=>⟨b.1,λd=>d.elim b.2.1 (λx=>by have:=b.2.2;omega),by have:=b.2.2;omega⟩),λk b=>⟨(f k b).1,λd=>d.elim (f k b).2.1 (λx=>by have:=(f k b).2.2;omega),by have:=(f k b).2.2;omega⟩⟩,h.ok,?_⟩ (Kps.of g (by simp[stT]) (λA e=>(f A e).2.1))
 .obtain⟨Y,X,W,V,C,D,E,F,G⟩:=m.ex
  have b:bQ q [some 154,some 232,some 30,some 234,some 5,some 272,some 236,some 177,some 256,some 314] wr w':=g.iD (λk d e=>(l k e).1 d);exact⟨⟨Y,X,W,V,C.keep b m.mem sM,D.keep b sM sM,E.keep b sM sM sM,F.keep b sM sM,G.keep b sM sM sM⟩,m.mem⟩
 .exact h.m.then (g.mono (S':=t) (T':=stT) (λ_ _ h=>h) (by simp[stT])) (λk b e=>Wy (l k e).2 oM)
theorem StI.start {e:En} (h:eB w S p e) (a:dG k e) (b:Bd S w) {wr:World} (hb:bW w wr) {X:X4} (f:Ses wr X aX kept) (c:∀k,X k->w.heap.size<=k/\k<wr.heap.size):StI k S w p aX kept (λ_=>False) wr ⟨[],false,e⟩ none 0:=
 ⟨⟨S,λ_=>False,λ_ h=>h,λk a=>.inl a,b.later hb.size,λ_ h=>h.elim,λ_ h=>h.elim,h.below hb,OwnAt.WH,aF f (λk a=>⟨λd=>by have:=b k d;have:=(c k a).1;omega,λh=>h,(c k a).2⟩),λ_ h=>h.elim⟩,a,aH hb⟩
theorem StI.ptrs (h:StI k S w p aX kept vs wr r af cf):∃b a,wr.cell? ⟨p,20,none⟩=some ((pT b))/\wr.cell? ⟨p,21,none⟩=some ((pT a))/\p<wr.heap.size:=by
 obtain⟨f,g,l,m,n,o,q,c,s,t,u⟩:=h.ex;obtain⟨x,b,a,v,i,d,e,j,_⟩:=c.cells;exact⟨b,a,d,e,c.lt⟩
theorem StI.row (h:StI k S w p aX kept vs wr r af cf):Ses wr (λ_=>True) aX kept:=by
 obtain⟨b,c,d,e,f,g,i,j,l,a,m⟩:=h.ex;exact aF a (λ_ _=>trivial)
theorem StI.late (h:StI k S w p aX kept vs wr r af cf) (b:Bool):StI k S w p aX kept vs wr {r with late:=b} af cf:=⟨h.ex,h.ok,h.m⟩
end
structure StF (S:X4) (w:World) (p:Nat) (wr:World) (r:Rse) (af:X5) (cf:Nat):Prop where
 ex:∃F:Nat->Prop,(∀k,S k->F k)/\(∀k,F k->grow S w wr k)/\Bd F wr/\eB wr F p r.en/\Ses wr (λk=>¬F k/\k<wr.heap.size) af r.fresh
 m:Mod S stT w wr
theorem StI.fin {k p cf:Nat} {S vs:X4} {w wr:World} {aX af:X5} {kept:List Se} {r:Rse} (h:StI k S w p aX kept vs wr r af cf):StF S w p wr r af cf/\r.fresh.length<=cf:=by
 obtain⟨c,l,d,e,f,g,i,j,a,m,n⟩:=h.ex;exact⟨⟨⟨c,d,e,f,j,aF a.row (λk b=>⟨(i k b).1,g k b⟩)⟩,h.m⟩,a.cap_⟩
theorem GH (k:Nat) (S i2:X4) (p:Nat) (e:En) (a1:X5) (c1:Nat) (a2:X5) (c2:Nat) (a:Ak) (w:World) (h:eB w S p e) (o:dG k e) (i7:Bd S w) (f1:Sps w i2 a1 a.cu) (m3:a.cu.length<=32)
  (e7:∀d∈a.cu,gT e.led<=d.lo/\d.lo<=d.hi/\d.hi<e.led.next):
  Yk 120 #[pT p,.agg #[.slice a1 a.cu.length c1,.slice a2 a.aO.length c2,uI a.dw,uI a.xor,bV a.kZ]] w λr w'=>∃af cf,r=.returned (.tuple #[.slice af (ed e a).fresh.length cf,bV (ed e a).late])/\StF S w p w' (ed e a) af cf/\(ed e a).fresh.length<=cf:=by
 obtain⟨q,e0,g6,h6,g3⟩:=a;simp only at f1 m3 e7|-;(have m5:e.led.kept.length<=256:=by have:=o.le.len;have:=o.le.lW;omega);have e8:=o.le.ut;have m4:=o.le.KN;obtain⟨c,b2⟩:=eX (gT e.led);obtain⟨kept,c6⟩:=eX e.led.kept;have m6:=o.le.nI;have q8:=o.le.mh;obtain⟨a3,e2⟩:=eX (ed e ⟨q,e0,g6,h6,g3⟩);rw[<-e2];(have i6:(q.flatMap (partOf c kept)).foldl fH ⟨[],false,e⟩=a3:=by rw[e2,b2,c6];rfl);obtain⟨i0,k8,d4,d0⟩:=Bq i6 (show∀d∈kept,vX d/\d.len<=e.c.mss from λd J=>by rw[c6]at J;exact⟨⟨o.le.ok d J,o.le.pnw d J⟩,o.lm d J⟩) (λw' (a9:bW w w') (L:Nat) (e5:w'.cell? ⟨p,21,none⟩=some ((pT L)))=>qY S L e.led w' ((h.below a9).zt e5).1 o.le) (λw' (a9:bW w w') (L:Nat) (e5:w'.cell? ⟨p,21,none⟩=some ((pT L)))=>sU S L e.led w' ((h.below a9).zt e5).1 o.le);rw[<-b2]at d4 e8 m4;rw[<-c6]at d0 e8 m5;obtain⟨r6,k0,L,r5,_,z,u,_⟩:=h.cells;have j1:=h.lt;obtain⟨i1,l0,k7⟩:=Av (λ(wr:World) (a9:bW w wr) (aX:X5) (i3:X4) (f2:Ses wr i3 aX kept) (m1:∀k,i3 k->w.heap.size<=k/\k<wr.heap.size)=>StI.start (k:=k) h o i7 a9 f2 m1) f1 (show∀d∈q,c<=d.lo/\d.lo<=d.hi/\d.hi<c+kept.length from λd J=>by have:=e7 d J;rw[b2];rw[b2]at e8;omega);clear h o i7 f1 e7 e2 i6 b2 c6 z m6;go_enter Tryz.func120,Tryz.ntmps120;go_wp2_with fail;obtain⟨c3,c4⟩:=eX (w.alloc (.cells #[.slice a1 q.length c1,.slice a2 e0.length c2,uI g6,uI h6,bV g3] 92));rw[<-c4];(have c5:bW w c3:=by rw[c4];exact BEL);(have j6:Blk c3 w.heap.size 92 #[.slice a1 q.length c1,.slice a2 e0.length c2,uI g6,uI h6,bV g3]:=by rw[c4];exact Wx _ _ _);have F:=(c5.cell (p:=⟨p,21,none⟩) j1).trans u;have j2:=aC j1 c5.size;obtain⟨c0,d6⟩:=yx c5 j6;clear c4 u c5 j6;refine(d4.o c3 c0.o L F).mono ?_;rintro r k1 ⟨rfl,r2,b6⟩;(have b0:bW c3 k1:=by rw[b6];exact aA (aj _ _) _);have i4:=(b0.cell (p:=⟨p,21,none⟩) j2).trans F;have q9:=aC j2 b0.size;obtain⟨d7,T⟩:=yx (d6.o.below b0 d6.o.lt) (c0.o.trans (b0.mono c0.o.size));clear b6 b0 d6 c0 F;go_wp2_with fail;refine(d0.o k1 T.o L i4).mono ?_;rintro r n9 ⟨aX,p9,rfl,m2,j4,e4⟩;have f3:=d7.o.below e4 d7.o.lt;have l5:=f3.Wu 0;have q5:=f3.lt;have h7:=zH (i1.o n9 (T.o.trans (e4.mono T.o.size)) aX _ j4 (λk o=>⟨ay T.o.size o.1,o.2⟩));clear e4 j4 f3 d7 T i1 d4 d0 i4;go_wp2;go_loopw [25,4,5,9,27,28] (λO h4 h5 s6 s2 s3 wr=>∃(s:Nat) (r:Rse) (af:X5) (cf:Nat),s<=q.length/\O=jI s/\h4=.slice af r.fresh.length cf/\h5=bV r.late/\X3 (((q.drop s).flatMap (partOf c kept)).foldl fH r=a3)/\X3 (StI k S w p aX kept (λ_=>False) wr r af cf)/\r.fresh.length<=s*256) (λO _ _ _ _ _ _=>q.length -(intOf O).toNat);(case atStart=>exact⟨0,⟨[],false,e⟩,none,0,oM,rfl,rfl,rfl,i0,h7,sM⟩);case round=>
  clear i0 l5 h7;obtain⟨s,r,af,cf,q4,rfl,rfl,rfl,d5,V,q2⟩:=hrel;by_cases c7:s<q.length
  .obtain⟨p7,r3,rfl,q0,j7,j8⟩:=Sps.at_ (show Sps wr i2 a1 q from aG l0.o (ts:=[some 272]) (V.o.m.aM dC) sM) (aj _ _) c7
   have v:=d5.o;rw[aR c7,List.flatMap_cons,iA]at v;have J:=k7.o _ (aN c7);generalize q[s]=d at*
   obtain⟨j9,j0⟩:=d;simp only at j7 j8 J;obtain⟨f,rfl⟩:∃f:Nat,j9=c+f:=⟨(j9 -c).toNat,oM⟩;obtain⟨g,rfl⟩:∃g:Nat,j0=c+g:=⟨(j0 -c).toNat,oM⟩;have q3:f<=g:=oM;have n0:g<kept.length:=oM;have j3:partOf c kept ⟨c+f,c+g⟩=(kept.take (g+1)).drop f:=by
    unfold partOf;rw[show(c+(g:Int) -c+1).toNat=g+1 by omega,show(c+(f:Int) -c).toNat=f by omega]
   rw[j3]at v;have r0:c+(f:Int) -c=f:=oM;have r1:c+(g:Int) -c=g:=oM;obtain⟨e1,g2,rfl,_⟩:=Ses.at_ V.o.row (aj _ _) n0;(have b4:((kept.take (g+1)).drop f).length=g+1 -f:=by rw[bI,aT];omega);have h9:=zH (λh0 (m9:Ses h0 (λ_=>True) (some ⟨e1,g2,none⟩) kept)=>pZ.part (k:=f) (m:=g+1) m9 oM oM m2);rw[lD oM]at h9;have k9:=zH (show∀c9∈(kept.take (g+1)).drop f,vX c9/\c9.len<=e.c.mss from λc9 f2=>k8.o c9 (bf (dW f2)));generalize(kept.take (g+1)).drop f=g4 at*
   have U:=zH v;clear v j3 J;go_wp2_with fail;obtain⟨l1,e3⟩:=eX (wr.alloc (.cells #[uI (c+f),uI (c+g)] 272));rw[<-e3];(have i8:bW wr l1:=by rw[e3];exact BEL);have h8:=zH (V.o.below (vs':=λ_=>False) i8 (λ_ h=>h.elim));clear e3 i8 j7 j8 V d5;go_loopw [41,4,5,11,43,44] (λO h4 h5 s1 s4 s5 h0=>∃(t:Nat) (b:Rse) (Q:X5) (R:Nat),t<=g+1 -f/\O=jI t/\h4=.slice Q b.fresh.length R/\h5=bV b.late/\X3 (((q.drop (s+1)).flatMap (partOf c kept)).foldl fH ((g4.drop t).foldl fH b)=a3)/\X3 (StI k S w p (some ⟨e1,g2,none⟩) kept (λ_=>False) h0 b Q R)/\b.fresh.length<=s*256+t) (λO _ _ _ _ _ _=>(g+1 -f) -(intOf O).toNat);(case atStart=>exact⟨0,r,af,cf,oM,rfl,rfl,rfl,U,h8,oM⟩);case round=>
    clear U h8;obtain⟨t,b,Q,R,q6,rfl,rfl,rfl,U,Y,q1⟩:=hrel;by_cases b3:t<g+1 -f
    .obtain⟨p8,r4,e6,i9,f4,f5,f6,f7,f8,f9,g0,g1⟩:=Ses.at_ (show Ses wr (λ_=>True) (some ⟨e1,g2+f*8,none⟩) g4 from h9.o _ Y.o.row) (aj _ _) (j:=t) (by rw[b4];exact b3)
     injection e6 with e6;injection e6 with l6 l7;subst l6 l7;have D:=U.o;rw[aR (by rw[b4];exact b3),List.foldl_cons]at D;have m8:=k9.o _ (aN (by rw[b4];exact b3));generalize g4[t]'(by rw[b4];exact b3)=d at*
     have q7:(t:Int)<((g+1 -f:Nat):Int):=Int.ofNat_lt.2 b3;obtain⟨n,l,i,y,B,A,C,P⟩:=d;obtain⟨⟨b5,m7⟩,_⟩:=m8;have j5:Word l:=⟨b5.vz,by have:=b5.off1;simp only at this;omega⟩;have b6:Word i:=⟨b5.yQ,by have:=b5.Dr;simp only at this;omega⟩;simp only at f4 f5 f6 f7 f8 f9 g0 g1 m7;clear b5;have p6:=zH (show s+1<=q.length from c7);by_cases c8:P=1
     .subst c8
      have K:fH b ⟨n,l,i,y,B,A,C,1⟩=⟨b.fresh++[⟨n,l,i,y,B,A,C,1⟩],b.late,{b.en with led:=gH b.en.led n 2,dH:=kS b.en.dH l i}⟩:=rfl;rw[K]at D;have Z:=zH D;clear D K;go_wp2_with fail;obtain⟨M,G⟩:=eX (wr.alloc (.cells #[uI n,uI l,uI i,uI y,uI B,bV A,bV C,jI 1] 177));rw[<-G];(have b1:bW wr M:=by rw[G];exact BEL);(have N:Blk M wr.heap.size 177 #[uI n,uI l,uI i,uI y,uI B,bV A,bV C,jI 1]:=by rw[G];exact Wx _ _ _);have X:=zH (Y.o.below (vs':=λk=>k=wr.heap.size) b1 (λk h=>.inr ⟨oM,by have:=N.lt;omega⟩));generalize wr.heap.size=b9 at*
      have E:=zH N;clear G b1 N f4 f5 f6 f7 f8 f9 g0 g1 i9;obtain⟨k0,n6,z,u,f0⟩:=X.o.ptrs;have h1:=E.o.Wu 0;have n1:=E.o.lt;refine bP 6 kR kR ?_;refine mD ?_;refine mR ?_;rintro g7 ⟨n4,b7⟩;(have H:bW M g7:=by rw[b7];exact aA (aj _ _) _);obtain⟨d1,d8⟩:=yx (X.o.below (vs':=λk=>k=b9) H (λk h=>.inl h)) (E.o.below H E.o.lt);have F:=(H.cell (p:=⟨p,21,none⟩) f0).trans u;clear b7 H z u h1;refine dA rfl rfl ?_;go_simp;go_at_call 143;refine(d1.o.settle n F).mono ?_;rintro l8 g8 ⟨⟨l2,rfl⟩,a5,a7⟩;obtain⟨W,x⟩:=yx a5 (a7.2 _ _ _ (.inl rfl) d8.o);clear a5 a7 F;go_simp;refine aK ?_;go_wp2_with fail;obtain⟨n8,n7,z,u,e9⟩:=W.o.ptrs;obtain⟨h2,h3⟩:=x.o.e2 1 2;have n2:=x.o.lt;refine bP 8 kR kR ?_;refine mD ?_;refine mR ?_;rintro g9 ⟨n5,b8⟩;(have I:bW g8 g9:=by rw[b8];exact aA (aj _ _) _);obtain⟨d2,d9⟩:=yx (W.o.below (vs':=λk=>k=b9) I (λk h=>.inl h)) (x.o.below I x.o.lt);have a4:=(I.cell (p:=⟨p,20,none⟩) e9).trans z;clear b8 I z u h2 h3;refine dA rfl rfl ?_;go_simp;go_at_call 190;refine(d2.o.dX l i j5 b6 a4).mono ?_;rintro l9 k2 ⟨⟨l3,rfl⟩,a6,a8⟩;obtain⟨d3,a0⟩:=yx a6 (a8.2 _ _ _ (.inl rfl) d9.o);clear a6 a8 a4;go_simp;refine aK ?_;obtain⟨o0,o8,o1,o9,o2,p0,o3,p1,o4,p2,o5,p3,o6,p4,o7,p5⟩:=a0.o.c8;have n3:=a0.o.lt;go_wp2_with (at_builtin;refine StI.app rfl (.tmp 72) (.tmp 74) rfl (d3.o.below (vs':=λ_=>False) BEL (λ_ h=>h.elim)) XG ⟨n,l,i,y,B,A,C,1⟩ (some ⟨k2.heap.size,0,none⟩) 1 (by rfl) (pZ.single ⟨n,l,i,y,B,A,C,1⟩ (Wx _ _ _) rfl) (by simp only;omega) ?_;intro k3 l4 s0 i5 m0;have k6:=zH i5;clear i5 m0);go_roundw;(case rel=>exact⟨t+1,⟨b.fresh++[⟨n,l,i,y,B,A,C,1⟩],b.late,{b.en with led:=gH b.en.led n 2,dH:=kS b.en.dH l i}⟩,k3,l4,oM,by go_num,by first|rfl|simp,rfl,Z,k6,by simp;omega⟩);case measure=>exact Yl
     .have r7:(P !=1)=true:=by simp[c8]
      (have r8:(P==1)=false:=by simp[c8]);by_cases g5:P=3
      .subst g5
       have K:fH b ⟨n,l,i,y,B,A,C,3⟩=⟨b.fresh,true,{b.en with led:=gH b.en.led n 2,dH:=kS b.en.dH l i}⟩:=rfl;rw[K]at D;have Z:=zH D;clear D K;go_wp2_with fail;obtain⟨M,G⟩:=eX (wr.alloc (.cells #[uI n,uI l,uI i,uI y,uI B,bV A,bV C,jI 3] 177));rw[<-G];(have b1:bW wr M:=by rw[G];exact BEL);(have N:Blk M wr.heap.size 177 #[uI n,uI l,uI i,uI y,uI B,bV A,bV C,jI 3]:=by rw[G];exact Wx _ _ _);have X:=zH (Y.o.below (vs':=λk=>k=wr.heap.size) b1 (λk h=>.inr ⟨oM,by have:=N.lt;omega⟩));generalize wr.heap.size=b9 at*
       have E:=zH N;clear G b1 N f4 f5 f6 f7 f8 f9 g0 g1 i9;obtain⟨k0,n6,z,u,f0⟩:=X.o.ptrs;have h1:=E.o.Wu 0;have n1:=E.o.lt;refine bP 6 kR kR ?_;refine mD ?_;refine mR ?_;rintro g7 ⟨n4,b7⟩;(have H:bW M g7:=by rw[b7];exact aA (aj _ _) _);obtain⟨d1,d8⟩:=yx (X.o.below (vs':=λk=>k=b9) H (λk h=>.inl h)) (E.o.below H E.o.lt);have F:=(H.cell (p:=⟨p,21,none⟩) f0).trans u;clear b7 H z u h1;refine dA rfl rfl ?_;go_simp;go_at_call 143;refine(d1.o.settle n F).mono ?_;rintro l8 g8 ⟨⟨l2,rfl⟩,a5,a7⟩;obtain⟨W,x⟩:=yx a5 (a7.2 _ _ _ (.inl rfl) d8.o);clear a5 a7 F;go_simp;refine aK ?_;go_wp2_with fail;obtain⟨n8,n7,z,u,e9⟩:=W.o.ptrs;obtain⟨h2,h3⟩:=x.o.e2 1 2;have n2:=x.o.lt;refine bP 8 kR kR ?_;refine mD ?_;refine mR ?_;rintro g9 ⟨n5,b8⟩;(have I:bW g8 g9:=by rw[b8];exact aA (aj _ _) _);obtain⟨d2,d9⟩:=yx (W.o.below (vs':=λk=>k=b9) I (λk h=>.inl h)) (x.o.below I x.o.lt);have a4:=(I.cell (p:=⟨p,20,none⟩) e9).trans z;clear b8 I z u h2 h3;refine dA rfl rfl ?_;go_simp;go_at_call 190;refine(d2.o.dX l i j5 b6 a4).mono ?_;rintro l9 k2 ⟨⟨l3,rfl⟩,a6,a8⟩;obtain⟨d3,a0⟩:=yx a6 (a8.2 _ _ _ (.inl rfl) d9.o);clear a6 a8 a4;go_simp;refine aK ?_;obtain⟨o0,o8,o1,o9,o2,p0,o3,p1,o4,p2,o5,p3,o6,p4,o7,p5⟩:=a0.o.c8;have n3:=a0.o.lt;go_wp2;go_roundw;(case rel=>exact⟨t+1,{b with late:=true,en:={b.en with led:=gH b.en.led n 2,dH:=kS b.en.dH l i}},Q,R,oM,by go_num,rfl,rfl,Z,zH ((d3.o.late true).less (λ_ h=>h.elim)),by simp only;omega⟩);case measure=>exact Yl
      .have r9:(P !=3)=true:=by simp[g5]
       (have K:fH b ⟨n,l,i,y,B,A,C,P⟩=b:=by unfold fH;rw[aB ⟨c8,g5⟩]);rw[K]at D;have Z:=zH D;clear D K;go_wp2;go_roundw;(case rel=>exact⟨t+1,b,Q,R,oM,by go_num,rfl,rfl,Z,zH (Y.o.below (vs':=λ_=>False) BEL (λ_ h=>h.elim)),oM⟩);case measure=>exact Yl
    .obtain rfl:t=g+1 -f:=oM
     have v:=U.o;rw[List.drop_eq_nil_of_le (by rw[b4];omega)]at v;have k4:=zH (show((q.drop (s+1)).flatMap (partOf c kept)).foldl fH b=a3 from v);clear v;go_wp2;go_roundw;(case rel=>exact⟨s+1,b,Q,R,oM,by go_num,rfl,rfl,k4,Y,oM⟩);case measure=>exact Yl
  .obtain rfl:s=q.length:=oM
   have v:=d5.o;rw[List.drop_length]at v;have k5:X3 (r=a3):=zH v;clear v;go_wp2;go_ret2;rw[<-k5.o];exact⟨af,cf,rfl,V.o.fin⟩
def tkT:List (Option TypeId):=[some 154,some 236,some 177,some 234,some 5]
structure TkI (k:Nat) (S:X4) (w:World) (p:Nat) (af:X5) (fresh:List Se) (wr:World) (e:En):Prop where
 ex:∃F:Nat->Prop,(∀k,S k->F k)/\(∀k,F k->grow S w wr k)/\Bd F wr/\eB wr F p e/\Ses wr (λk=>¬F k/\k<wr.heap.size) af fresh
 ok:dG k e
 m:Mod S tkT w wr
section
variable {k p:Nat} {S:X4} {w wr w':World} {af:X5} {fresh:List Se} {e e':En}
theorem TkI.of {a:Rse} (h:StF S w p wr a af b) (l:dG k a.en):TkI k S w p af a.fresh wr a.en:=by
 obtain⟨c,d,f,g,i,j⟩:=h.ex;exact⟨⟨c,d,f,g,i,j⟩,l,h.m.mono (λ_ _ h=>h) (by simp[stT,tkT])⟩
theorem TkI.step {T:X8} (h:TkI k S w p af fresh wr e) (o:∀v∈T,v∈tkT) (s:∀b,Bd b wr->eB wr b p e->eB w' (grow b wr w') p e'/\Mod b T wr w') (r:dG k e'):TkI k S w p af fresh w' e':=by
 obtain⟨b,l,g,i,m,n⟩:=h.ex;obtain⟨j,f⟩:=s b i m;have u:=f.size;have q:=h.m.size;exact⟨⟨grow b wr w',λk d=>.inl (l k d),λk d=>d.elim (λc=>(g k c).imp id (λa=>⟨a.1,by have:=a.2;omega⟩)) (λa=>.inr ⟨ay q a.1,a.2⟩),i.grow u,j,
  aF (aG n (ts:=[some 177]) (f.iD (λk t c=>t.1 c)) sM) (λk d=>⟨λc=>c.elim d.1 (λa=>by have:=d.2;omega),by have:=d.2;omega⟩)⟩,r,
  h.m.then (f.mono (λ_ _ h=>h) o) (λk x c=>(g k c).elim id (λa=>Wy a.1 oM))⟩
theorem TkI.own (h:TkI k S w p af fresh wr e) (c:∀a,eB wr a p e->eB w' a p e'/\Mod a [some 154] wr w') (d:dG k e'):TkI k S w p af fresh w' e':=
 h.step (T:=[some 154]) (by simp[tkT]) (λa _ b=>⟨(c a b).1.mono (λ_ h=>.inl h),(c a b).2⟩) d
theorem TkI.below (h:TkI k S w p af fresh wr e) (hb:bW wr w'):TkI k S w p af fresh w' e:=
 h.step (T:=[]) sM (λb _ a=>⟨(a.below hb).mono (λ_ h=>.inl h),aH hb⟩) h.ok
theorem TkI.en (h:TkI k S w p af fresh wr e):∃a:Nat->Prop,Bd a wr/\eB wr a p e:=by
 obtain⟨a,d,f,b,c,g⟩:=h.ex;exact⟨a,b,c⟩
theorem TkI.row (h:TkI k S w p af fresh wr e):Ses wr (λ_=>True) af fresh:=by
 obtain⟨b,c,d,f,g,a⟩:=h.ex;exact aF a (λ_ _=>trivial)
theorem TkI.find (h:TkI k S w p af fresh wr e):Yk 59 #[pT p] wr λj w'=>j=.returned (.tuple #[uI (iB e).lost,bV (iB e).some_])/\TkI k S w p af fresh w' (iB e).en/\∃d:Nat->Prop,Mod d tkT wr w':=by
 obtain⟨d,l,g,i,m,n⟩:=h.ex;have a:=(tC h.ok).1;refine(EY k d p e wr m h.ok i).mono ?_;rintro j w' ⟨q,o,f⟩;refine⟨q,?_,d,f.mono (λ_ _ h=>h) (by simp[tkT])⟩;have t:=f.size;have r:=h.m.size;exact⟨⟨grow d wr w',λk c=>.inl (l k c),λk c=>c.elim (λa=>(g k a).imp id (λb=>⟨b.1,by have:=b.2;omega⟩)) (λb=>.inr ⟨ay r b.1,b.2⟩),i.grow t,o,
  aF (aG n (ts:=[some 177]) (f.iD (λk s a=>s.1 a)) sM) (λk c=>⟨λa=>a.elim c.1 (λb=>by have:=c.2;omega),by have:=c.2;omega⟩)⟩,a,
  h.m.then (f.mono (λ_ _ h=>h) (by simp[tkT])) (λk u a=>(g k a).elim id (λb=>Wy b.1 oM))⟩
theorem TkI.paced (h:TkI k S w p af fresh wr e):Yk 62 #[pT p] wr λi w'=>i=.returned (.tuple #[])/\TkI k S w p af fresh w' (jm e)/\∃a:Nat->Prop,Mod a tkT wr w':=by
 obtain⟨a,j,g,l,m,n⟩:=h.ex;have f:=uH h.ok;refine(rz k a p e wr m h.ok).mono ?_;rintro i w' ⟨q,o,c⟩;refine⟨q,?_,a,c.mono (λ_ _ h=>h) (by simp[tkT])⟩;have r:=c.size;have t:=h.m.size;exact⟨⟨a,j,λk b=>(g k b).imp id (λd=>⟨d.1,by have:=d.2;omega⟩),l.later r,o,
  aF (aG n (ts:=[some 177]) (c.aM dC) sM) (λk b=>⟨b.1,by have:=b.2;omega⟩)⟩,f,
  h.m.then (c.mono (λ_ _ h=>h) (by simp[tkT])) (λk s f=>(g k f).elim id (λd=>Wy d.1 oM))⟩
theorem TkI.fin (h:TkI k S w p af fresh wr e):eB wr (grow S w wr) p e/\Mod S tkT w wr:=by
 obtain⟨c,d,a,f,b,g⟩:=h.ex;exact⟨b.mono a,h.m⟩
end
theorem eB.setrt {S:X4} {e:En} (h:eB W S p e) (z:Rt):eB (((((W.setCell ⟨p,23,none⟩ (bV z.has)).setCell ⟨p,24,none⟩ (uI z.mJ)).setCell ⟨p,25,none⟩ (uI z.bK)).setCell ⟨p,26,none⟩ (uI z.var)).setCell ⟨p,27,none⟩ (uI z.bn)) S p {e with rtt:=z}/\Mod S [some 154] W (((((W.setCell ⟨p,23,none⟩ (bV z.has)).setCell ⟨p,24,none⟩ (uI z.mJ)).setCell ⟨p,25,none⟩ (uI z.bK)).setCell ⟨p,26,none⟩ (uI z.var)).setCell ⟨p,27,none⟩ (uI z.bn)):=by
 obtain⟨a,b,c,d,f⟩:=z;obtain⟨g,n⟩:=h.set1 23 (bV a) {e with rtt:=⟨a,e.rtt.mJ,e.rtt.bK,e.rtt.var,e.rtt.bn⟩} (λ_ _ _ _=>rfl) rfl rfl rfl rfl;obtain⟨i,o⟩:=g.set1 24 (uI b) {e with rtt:=⟨a,b,e.rtt.bK,e.rtt.var,e.rtt.bn⟩} (λ_ _ _ _=>rfl) rfl rfl rfl rfl;obtain⟨j,q⟩:=i.set1 25 (uI c) {e with rtt:=⟨a,b,c,e.rtt.var,e.rtt.bn⟩} (λ_ _ _ _=>rfl) rfl rfl rfl rfl;obtain⟨l,r⟩:=j.set1 26 (uI d) {e with rtt:=⟨a,b,c,d,e.rtt.bn⟩} (λ_ _ _ _=>rfl) rfl rfl rfl rfl;obtain⟨m,s⟩:=l.set1 27 (uI f) {e with rtt:=⟨a,b,c,d,f⟩} (λ_ _ _ _=>rfl) rfl rfl rfl rfl;exact⟨m,((((n.trans o).trans q).trans r).trans s)⟩
end Go.Proofs.YtiflndepmgnojaaGreat
