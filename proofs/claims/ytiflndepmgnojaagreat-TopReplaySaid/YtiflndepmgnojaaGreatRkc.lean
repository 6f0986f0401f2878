import Derived.Test.YtiflndepmgnojaaGreatWod
namespace Go.Proofs.YtiflndepmgnojaaGreat
open Go.RowKit
set_option linter.unusedSimpArgs false
set_option linter.unusedVariables false
set_option maxHeartbeats 8000000
set_option maxRecDepth 100000
structure Eg (W0 w:World) (S:Nat->Prop) (p:Nat) (e:En):Prop where
 en:eB w S p e
 bd:Bd S w
 lo:∀k,S k->W0.heap.size<=k
 bl:bW W0 w
structure Stp (w w':World) (S S':Nat->Prop):Prop where
 sub:∀k,S' k->S k\/w.heap.size<=k
 m:∃T,Mod S T w w'
section
variable {W0 w w' w2:World} {S S' S2 F:Nat->Prop} {p p2:Nat} {e e' e2:En} {T:List (Option TypeId)}
theorem Stp.of_below (hb:bW w w'):Stp w w' S S:=⟨λ_ h=>.inl h,[],aH hb⟩
theorem Stp.size (h:Stp w w' S S'):w.heap.size<=w'.heap.size:=by obtain⟨T,a⟩:=h.m;exact a.size
theorem Stp.trans (h:Stp w w' S S') (d:Stp w' w2 S' S2) (j:∀a,S' a->a<w'.heap.size):Stp w w2 S S2:=by
 obtain⟨T,g⟩:=h.m;obtain⟨i,k⟩:=d.m;refine⟨λa b=>?_,T++i,?_⟩
 ·rcases d.sub a b with b|b
  ·exact h.sub a b
  ·exact .inr (ay g.size b)
 ·refine(g.mono (λ_ _ h=>h) (λl c=>List.mem_append_left _ c)).grow (k.mono (λa b f=>?_) (λl c=>List.mem_append_right _ c))
  exact(h.sub a f).imp id (λm=>⟨m,j a f⟩)
theorem Eg.low (h:Eg W0 w S p e) (a:Mod S T w w'):bW W0 w':=h.bl.trans (a.cZ h.bl.size (λc d b=>by have:=h.lo c b;omega))
theorem Eg.step (h:Eg W0 w S p e) (d:∀a,F a->grow S w w' a) (g:Bd F w') (i:eB w' F p e') (f:Mod S T w w'):Eg W0 w' F p e'/\Stp w w' S F:=
 ⟨⟨i,g,λa b=>(d a b).elim (h.lo a) (λc=>ay h.bl.size c.1),h.low f⟩,λa b=>(d a b).imp id (λc=>c.1),_,f⟩
theorem Eg.grown (h:Eg W0 w S p e) (b:eB w' (grow S w w') p e') (a:Mod S T w w'):Eg W0 w' (grow S w w') p e'/\Stp w w' S (grow S w w'):=
 h.step (λ_ h=>h) (h.bd.grow a.size) b a
theorem Eg.below (h:Eg W0 w S p e) (hb:bW w w'):Eg W0 w' S p e:=⟨h.en.below hb,h.bd.later hb.size,h.lo,h.bl.trans (hb.mono h.bl.size)⟩
theorem Stp.other (h:Stp w w' S S') (b:Eg W0 w S2 p2 e2) (d:∀a,S a->¬S2 a) (hb:bW W0 w'):Eg W0 w' S2 p2 e2/\∀a,S' a->¬S2 a:=by
 obtain⟨T,g⟩:=h.m;refine⟨⟨b.en.keep (g.iD (λa b c=>d a c b)),b.bd.later g.size,b.lo,hb⟩,λa i f=>?_⟩
 ·rcases h.sub a i with c|c
  ·exact d a c f
  ·have:=b.bd a f;omega
theorem Eg.write (h:Eg W0 w S p e) {k:Nat} (j:dG k e) {b:Option Addr} {a:List Int} {c:Nat} (hb:Bys w S2 b a) (g:a.length<=c) (i:a.length<=1000000000):
  Calls Tryz.prog 17 #[pT p,.slice b a.length c] w λd w'=>d=.returned (.tuple #[jI (fU e a).n,jI (fU e a).err])/\∃F,Eg W0 w' F p (fU e a).en/\Stp w w' S F:=by
 refine(Cz k S S2 p e b a c w h.en j hb g i).mono ?_;rintro d w' ⟨m,f,l⟩;exact⟨m,_,h.grown f l⟩
theorem Eg.tick (h:Eg W0 w S p e) {k:Nat} (c:dG k e) {now:Int} (f:Word now):
  Calls Tryz.prog 23 #[pT p,uI now] w λa w'=>a=.returned (.tuple #[])/\∃F,Eg W0 w' F p (kr e now)/\Stp w w' S F:=by
 refine(Ay k S p e now w h.en c h.bd f).mono ?_;rintro a w' ⟨g,b,d⟩;exact⟨g,_,h.grown b d⟩
theorem Eg.on (h:Eg W0 w S p e) {k:Nat} (j:dG k e) (l:k<=90000000) {now:Int} (n:Word now) {tb:TypeId} {a:Option Addr} {c:Nat} {b:List Int} (hb:Byt tb w S2 a b) (g:b.length<=100000) (i:dP b) (q:tb≠154\/¬S2 p):
  Calls Tryz.prog 20 #[pT p,.slice a b.length c,uI now] w λd w'=>d=.returned (.agg #[jI (lU e b now).ver.kind,jI (lU e b now).ver.why,uI (lU e b now).ver.pn,bV (lU e b now).ver.dU])/\∃F,Eg W0 w' F p (lU e b now).en/\Stp w w' S F:=by
 refine(GI k S S2 p e a c b now w h.en j l h.bd n hb g i q).mono ?_;rintro d w' ⟨o,f,m⟩;exact⟨o,_,h.grown f m⟩
theorem Eg.poll (h:Eg W0 w S p e) {k:Nat} (l:dG k e) (m:k<=80000000) {now:Int} (o:Word now):
  Calls Tryz.prog 37 #[pT p,uI now] w λc w'=>∃a b F,c=.returned (.tuple #[.slice a (fD e now).b.length b,jI (fD e now).err])/\(fD e now).b.length<=b/\Eg W0 w' F p (fD e now).en/\Stp w w' S F/\Bys w' (λk=>¬F k/\w.heap.size<=k/\k<w'.heap.size) a (fD e now).b:=by
 refine(EU k S p e now w h.en l m h.bd o).mono ?_;rintro c w' ⟨a,b,F,q,j,t,d,f,g,i,n⟩;obtain⟨r,s⟩:=h.step d f g n;exact⟨a,b,F,q,j,r,s,i⟩
theorem Eg.aS (h:Eg W0 w S p e) {k:Nat} (a:dG k e):
 Calls Tryz.prog 24 #[pT p] w λb w'=>b=.returned (.agg #[jI (cK e).aS,uI (cK e).now,uI (cK e).cr,uI (cK e).dL,uI (cK e).jS,uI (cK e).bK,uI (cK e).gU,uI (cK e).next,uI (cK e).low,uI (cK e).fG,uI (cK e).gP,uI (cK e).dh.dB,uI (cK e).dh.eT,uI (cK e).dh.fI,uI (cK e).dh.bE,uI (cK e).dh.late])/\bW w w':=CB k S p e w h.en a
theorem Eg.sent (h:Eg W0 w S p e) {k:Nat} (c:dG k e):
 Calls Tryz.prog 27 #[pT p] w λd w'=>∃a b,d=.returned (.slice a e.led.kept.length b)/\e.led.kept.length<=b/\Ses w' (λk=>w.heap.size<=k/\k<w'.heap.size) a e.led.kept/\bW w w':=Ob k S p e w h.en c
end
def NxOut (W0:World) (S:Nat->Prop) (w:World) (p:Nat) (R:Rpo) (d:Ending) (w':World):Prop:=∃b c F,d=.returned (.tuple #[.slice b R.b.length c,jI R.err])/\Eg W0 w' F p R.en/\Stp w w' S F/\Bys w' (λa=>¬F a/\w.heap.size<=a/\a<w'.heap.size) b R.b
theorem Qf (W0:World) (k:Nat) (S:Nat->Prop) (p:Nat) (e:En) (now:Int) (w:World) (h:Eg W0 w S p e) (l:dG k e) (a0:k<=70000000) (I:Word now):
  Calls Tryz.prog 19 #[pT p,uI now] w λL w'=>NxOut W0 S w p (WK 200 e now) L w':=by
 have g:=zH h;have n:=zH l;obtain⟨E,q⟩:=eX (WK 200 e now);rw[<-q];have o:=zH q.symm;have W:=zH h.bd;clear h l q;go_enter Tryz.func19,Tryz.ntmps19;go_wp2_with fail;go_loopg [6,7,8] 200 (λb V a5 a6 wr=>∃d F,V=jI ((200:Int) -b)/\b<=200/\Hid (Eg W0 wr F p d)/\Hid (Stp w wr S F)/\Hid (dG (k+(200 -b)) d)/\Hid (WK b d now=E));(case atStart=>exact⟨e,S,rfl,av _,g,zH (Stp.of_below (aj _ _)),n,o⟩);case round=>
  obtain⟨d,F,rfl,Z,g,t,n,o⟩:=hrel;by_cases a3:0<gk
  ·have O:decide ((200:Int) -gk<200)=true:=bM oM
   obtain⟨b,rfl⟩:∃b,gk=b+1:=⟨gk -1,oM⟩;have a:=o.out;rw[WK]at a;go_wp2_with fail;refine(g.out.poll n.out oM I).mono ?_;rintro L w2 ⟨v,x,m,rfl,P,y,G,H⟩;have C:dG (k+(200 -(b+1))+1) (fD d now).en:=wO n.out I;have u:=zH (t.out.trans G g.out.bd);have z:Bys w2 (λk=>¬m k/\w.heap.size<=k/\k<w2.heap.size) v (fD d now).b:=aF H (λk l=>⟨l.1,ay t.out.size l.2.1,l.2.2⟩);generalize fD d now=N at*
   obtain⟨c,K,U⟩:=N;dsimp only at a P y C z|-;have s:=zH y;have r:=zH z;have M:=zH C;clear y G H z C g t n o;by_cases A:K=0
   ·subst A
    by_cases D:c.length=0
    ·rw[aB (.inr (.inl D))]at a
     have R:c=[]:=dV D;subst R;have f:=zH a;clear a;go_wp2_with fail;go_ret2;rw[<-f.out];exact⟨v,x,m,rfl,s.out,u.out,r.out⟩
    ·obtain⟨X,a4,rfl,Y,J⟩:=r.out.at_ (aj _ _) (j:=0) (show 0<c.length by omega)
     rw[Nat.add_zero]at J;(have B:c.getD 0 0=c[0]'oM:=by rw[aW,aL (show 0<c.length by omega)];rfl);rw[B]at a;have a2:((c.length:Int)==0)=false:=beq_eq_false_iff_ne.2 oM;have a1:(0:Int)<c.length:=oM;by_cases i:c[0]'oM=3
     ·rw[Ww (by rintro(h|h|h);exact h rfl;exact D h;exact h i)]at a
      rw[i]at J;have f:=zH a;clear a B i;go_wp2_with fail;go_roundg b;(case measure=>omega);case rel=>exact⟨U,m,by congr 1;omega,oM,s,u,zH (by have:=M.out;rwa [show k+(200 -(b+1))+1=k+(200 -b) by omega]at this),f⟩
     ·rw[aB (.inr (.inr i))]at a
      (have Q:((c[0]'oM)!=3)=true:=by simpa using i);generalize(c[0]'oM)=a7 at*
      have f:=zH a;clear a B i;go_wp2_with fail;go_ret2;rw[<-f.out];exact⟨_,x,m,rfl,s.out,u.out,r.out⟩
   ·rw[aB (.inl A)]at a
    (have Q:(K !=0)=true:=by simpa using A);have f:=zH a;clear a;go_wp2_with fail;go_ret2;rw[<-f.out];exact⟨v,x,m,rfl,s.out,u.out,r.out⟩
  ·have O:decide ((200:Int) -gk<200)=false:=bJ oM
   obtain rfl:gk=0:=oM;go_wp2_with fail;go_ret2;have q:(⟨[],10,d⟩:Rpo)=E:=o.out;rw[<-q];exact⟨none,0,F,rfl,g.out,t.out,Bys.WH⟩
theorem EC {i:Type} {f:i->List Value} {m:Nat} (x:i) (a:Array Value) (g:a.toList=f x) (c:a.size=m):∀b:Nat,(madeCells a (b*m)).toList=(List.replicate b x).flatMap f
 |0=>by simp[madeCells]
 |b+1=>by
  have l:=EC x a g c b;rw[List.replicate_succ',iE,<-l,Nat.succ_mul];unfold madeCells;simp only[Array.toList_map,Array.toList_range,List.range_add,List.map_append,List.map_map];congr 1;rw[List.flatMap_singleton,<-g];apply List.ext_getElem
  ·simp[c]
  ·intro d e n
   simp at e;have j:d<a.size:=oM;(have k:(b*m+d)%a.size=d:=by rw[c,Nat.mul_comm,Nat.mul_add_mod];exact Nat.mod_eq_of_lt e);simp[k,j]
structure Ka (w:World) (p:Nat):Prop where
 ex:∃ring dO L S,Dw w S p ring dO L/\L.length<=1000000000/\0<=ring/\ring<=1000000/\∀s∈L,Word s.bX
theorem Ka.below {w w':World} {p:Nat} (h:Ka w p) (hb:bW w w'):Ka w' p:=by
 obtain⟨b,c,d,a,e,f⟩:=h.ex;exact⟨b,c,d,a,e.below hb,f⟩
theorem KM {a b:World} {m:Nat} (h:b.ownsRow a.heap.size 177 8 (.slice (some ⟨a.heap.size,0,none⟩) m m) m (madeCells (Value.cells (.agg #[uI 0,uI 0,uI 0,uI 0,uI 0,bV false,bV false,jI 0])) (m*8)).toList):
  OwnAt b (λd=>a.heap.size<=d/\d<b.heap.size) 177 8 (some ⟨a.heap.size,0,none⟩) (List.replicate m seZ).length m ((List.replicate m seZ).flatMap seV):=by
 have c:b.ownsRow a.heap.size 177 8 (.slice (some ⟨a.heap.size,0,none⟩) m m) m (madeCells #[uI 0,uI 0,uI 0,uI 0,uI 0,bV false,bV false,jI 0] (m*8)).toList:=h;rw[EC (f:=seV) (m:=8) seZ #[uI 0,uI 0,uI 0,uI 0,uI 0,bV false,bV false,jI 0] rfl rfl m]at c;rw[List.length_replicate];exact OwnAt.fresh (w:=a) c
theorem Gq (e2:World) (k:Nat) (S:Nat->Prop) (p:Nat) (e:En) (c:Cf) (w:World) (h:Eg e2 w S p e) (V:dG k e):
  Calls Tryz.prog 22 #[pT p,.agg (cfV c)] w λM c7=>∃b,M=.returned (.agg #[.pointer none,pT b])/\Ka c7 b/\bW w c7:=by
 have a0:=zH h;have C:=zH V;obtain⟨e3,D⟩:=eX ((w.alloc (.cells (cfV c) 32)).alloc (.cells #[.pointer none,.pointer none] 80));obtain⟨L,z⟩:=sG w (cfV c) 32 #[.pointer none,.pointer none] 80;rw[<-D]at L z;(have b6:bW w e3:=by rw[D];exact BEL);obtain⟨e4,E⟩:=eX w.heap.size;obtain⟨j,F⟩:=eX (e4+1);rw[<-E]at L z;rw[<-F]at z;have a7:=zH L;have a9:=zH z;have O:=zH b6;have a2:=zH D;have Z:=zH (And.intro E F);clear h V D L z b6;go_enter Tryz.func22,Tryz.ntmps22;go_upto_region 1 with fail;rw[<-a2.out,<-E,<-F];clear E F a2;go_wp2_with fail;refine((a0.out.below O.out).sent C.out).mono ?_;rintro M i2 ⟨T,e5,rfl,h3,c5,G⟩;have d9:=zH c5;have P:=zH (O.out.trans (G.mono O.out.size));have a8:=zH (a7.out.below G a7.out.lt);have b0:=zH (a9.out.below G a9.out.lt);clear c5 G;go_wp2_with fail;refine((a0.out.below P.out).aS C.out).mono ?_;rintro M c8 ⟨rfl,v⟩;have e0:=zH (show Ses c8 _ T e.led.kept from aD d9.out v);have Q:=zH (P.out.trans (v.mono P.out.size));have a5:=zH (a8.out.below v a8.out.lt);have a6:=zH (b0.out.below v b0.out.lt);have e6:=a5.out.cell 2;have e7:=a5.out.cell 3;clear v;have q:=C.out.le;have f6:=q.pE;have f7:=q.nI;have h6:=q.mh;(have U:∀w,(Instr.field 38 (.agg #[jI (cK e).aS,uI (cK e).now,uI (cK e).cr,uI (cK e).dL,uI (cK e).jS,uI (cK e).bK,uI (cK e).gU,uI (cK e).next,uI (cK e).low,uI (cK e).fG,uI (cK e).gP,uI (cK e).dh.dB,uI (cK e).dh.eT,uI (cK e).dh.fI,uI (cK e).dh.bE,uI (cK e).dh.late]) 7).run Tryz.prog w=.ok (uI (cK e).next) w:=λw=>by kernel_rfl);have X:(cK e).next=e.led.next:=rfl;rw[X]at U;have b9:=q.len;have i0:=q.lW;obtain⟨f,g⟩:∃f:Nat,e.led.next=f:=⟨e.led.next.toNat,oM⟩;rw[g]at U b9 f7 X;have I:e.led.kept.length<=f:=oM;have h4:e.led.kept.length<=256:=oM;clear g b9 q f6;go_wp2_with fail;refine(Nh c.ring c.dO c8).mono ?_;rintro M A ⟨b,rfl,W,c6,H⟩;have t:=zH c6;have R:=zH (Q.out.trans (H.mono Q.out.size));have e1:=zH (show Ses A _ T e.led.kept from aD e0.out H);have o:=zH (a6.out.below H a6.out.lt);have d7:=zH W;clear c6 H W e6 e7 U X;have d6:=zH (λN i=>(C.out.le.ok N i).bX);generalize e.led.kept=d at*
 obtain⟨c9,d0,d1,d2⟩:=o.out.c2;have b8:=o.out.lt;by_cases n:(100000:Int)<f
 ·have b1:decide ((100000:Int)<(f:Int))=true:=bM n
  clear n;go_wp2_with fail;refine iZ 4 80 j #[.pointer none,pT b] kR kR ((o.out.bF 0 _).bF 1 _) _ Tryz.underlying80 kR kR rfl ?_;have f0:=Z.out;(have g:b≠j:=λx=>by have l:=t.out;have m:=o.out;rw[x]at l;unfold Blk at l m;rw[l]at m;cases m);exact⟨b,rfl,⟨_,_,[],λ_=>True,⟨none,0,(t.out.far g _).far g _,Row.WH,av _⟩,jV _,oM,oM,λN i=>by cases i⟩,bG (bG R.out (show w.heap.size<=j by omega) _) (show w.heap.size<=j by omega) _⟩
 ·have b1:decide ((100000:Int)<(f:Int))=false:=bJ n
  have e8:decide ((f:Int)<(d.length:Int))=false:=bJ oM;have e9:decide (f<d.length)=false:=bJ oM;have d5:=zH I;have d4:=zH n;clear I n;go_upto_region 5 with fail;have I:=d5.out;have n:=d4.out;clear b1 e8 e9;obtain⟨a,c1⟩:∃a:Nat,a=f -d.length:=⟨_,rfl⟩;have c2:(f:Int) -d.length=(a:Int):=oM;(have h8:IntKind.i64.wrap ((f:Int) -d.length)=(a:Int):=by rw[c2];exact eP _ ⟨oM,oM⟩);have h7:a<=100000:=oM;have h9:(f:Int)<9223372036854775808:=oM;obtain⟨g4,f5,g1,g2,g3⟩:=info_parts (show(Tryz.prog.info? 177).map (λY=>(Y.zero,Y.size,Y.bytes))=some (some (.agg #[uI 0,uI 0,uI 0,uI 0,uI 0,bV false,bV false,jI 0]),8,56) by kernel_rfl);have h5:=t.out.lt;have h2:=d7.out;have i1:=R.out.size;have g7:=zH c1;clear c2 c1 n I c9 d0 d1 d2 b8;go_wp2_with (first|(at_builtin;refine pZ.jO rfl (.tmp 35) (.tmp 36) rfl (some ⟨A.heap.size,0,none⟩) a (List.replicate a seZ) (by simp[Act.eval]) d8.out T e5 d (by rfl) (aD e1.out s.out) sO dC ?_;intro r u g6 c3 J f4;have a1:=zH c3;have y:=(t.out.below s.out t.out.lt).mod J dC;have a3:=zH y;have K:=(o.out.below s.out o.out.lt).mod J dC;have a4:=zH K;have d3:=zH (J.cZ (B:=A.heap.size) s.out.size (λk V x=>by have:=x.1;omega));have g8:=y.cell 2;have g9:=y.frozen 2;have h0:=y.lt;obtain⟨c9,d0,d1,d2⟩:=K.c2;have b8:=K.lt;have g:¬(j=b):=(λx=>by have l:=a3.out;have m:=a4.out;rw[<-x]at l;unfold Blk at l m;rw[l]at m;cases m);clear c3 J f4 y K)|(at_make;refine wpList_make_full _ rfl (.tmp 34) (.tmp 34) 87 rfl A.heap.size 177 g4 (.agg #[uI 0,uI 0,uI 0,uI 0,uI 0,bV false,bV false,jI 0]) 8 Tryz.underlying87 f5 g1 g2 .i64 .i64 (a:Int) (a:Int) a (by rfl) (by rfl) rfl rfl (by rw[g3];omega) (by simp only[maxLen];omega) (av _) ?_;intro g5 c4 b7;have b5:bW A g5:=(aj _ _).grown b7 (av _) (λh1 f3=>by cases f3);have d8:=zH (KM c4);have s:=zH b5;clear c4 b7 b5))
  have b3:=a3.out;have f2:=a4.out;have f8:=a1.out.row;have c0:(List.replicate a seZ++d).length=a+d.length:=sM;have f0:=Z.out;(have f1:Blk (g6.setCell ⟨b,2,none⟩ (.slice r (a+d.length) u)) b 166 #[jI (max 4 (min c.ring 256)),uI (min c.dO 4611686018427387903),.slice r (List.replicate a seZ++d).length u]:=by rw[c0];exact b3.bF 2 _);have b4:=f2.far (p:=⟨b,2,none⟩) g (.slice r (a+d.length) u);have f9:=Row.S9 (t':=166) f8 b3 dC [.slice r (a+d.length) u] 2;have g0:=Row.S9 (t':=80) f9 b4 dC [.pointer none,pT b] 0;refine iZ 4 80 j #[.pointer none,pT b] kR kR ((b4.bF 0 _).bF 1 _) _ Tryz.underlying80 kR kR rfl ?_;refine⟨b,rfl,⟨_,_,List.replicate a seZ++d,_,⟨r,u,(f1.far (λh=>g h.symm) _).far (λh=>g h.symm) _,g0,a1.out.cap_⟩,by rw[c0];omega,oM,oM,λN i=>?_⟩,?_⟩
  ·rcases WB.1 i with i|i
   ·rw[List.eq_of_mem_replicate i];exact⟨dC,dC⟩
   ·exact d6.out N i
  ·have b2:=R.out
   have W:=Q.out.size;exact bG (bG (bG (b2.trans ((s.out.trans d3.out).mono b2.size)) (show w.heap.size<=b by omega) _) (show w.heap.size<=j by omega) _) (show w.heap.size<=j by omega) _
structure Mv where
 kind:Int
 n:Int
 zD:Sh
def mvV (m:Mv):List Value:=.int .u8 m.kind::.int .u32 m.n::shV m.zD
structure T9 (w:World) (S:Nat->Prop) (m:Mv):Prop where
 kind:0<=m.kind/\m.kind<256
 n:0<=m.n/\m.n<4294967296
 zD:zW w S m.zD
theorem T9.below {w w':World} {S:Nat->Prop} {m:Mv} (h:T9 w S m) (hb:bW w w'):T9 w' S m:=⟨h.kind,h.n,h.zD.below hb⟩
structure Ry (w w':World) (S:Nat->Prop) (hon:Bool) (kind en:Int) (a:Option Addr) (c:Nat) (b:List Int):Prop where
 hk:1<=kind/\kind<=6
 hh:hon=true->kind≠3
 hn:Word en
 fr:FrAt w w' S a c b
 five:kind=1->Bys w' (λk=>w.heap.size<=k/\k<w'.heap.size) a b
theorem Row.setD {w:World} {S:Nat->Prop} {t:TypeId} {size n g:Nat} {a:Option Addr} {xs:List Value} (h:Row w S t size a n xs) (l:∀d,S d->d≠g) (e:List Value) (o:Nat):Row (w.setCells g o e) S t size a n xs:=
 ⟨h.1,λp=>by
  obtain⟨b,q,f,j,i,c,m,k⟩:=h.2 p;exact⟨b,q,f,j,i,c,(WW (l b c) e o w).trans m,k⟩⟩
theorem zW.lt_ {w:World} {S:Nat->Prop} {s:Sh} (h:zW w S s):zW w (λa=>S a/\a<w.heap.size) s:=
 {h with ex:=by obtain⟨c,b⟩:=h.ex;exact⟨c,Row.lt_ b⟩}
theorem tu (w w':World) (S:Nat->Prop) (d:Bool) {k n:Int} (b:1<=k/\k<=6) (a:k≠3) (c:Word n):Ry w w' S d k n none 0 []:=
 ⟨b,λ_=>a,c,⟨⟨5,Row.WH⟩,av _,(λf e=>by cases e),jV _⟩,λ_=>Bys.WH⟩
theorem Oa (b4:Bool) (S:Nat->Prop) (m:Mv) (z s l:Nat) (w:World) (d7:T9 w S m) (P:w.cell? ⟨z,0,none⟩=some ((pT s))) (a7:w.cell? ⟨s,20,none⟩=some ((pT l))) (d3:Ka w l):
  Calls Tryz.prog 12 #[.agg (mvV m).toArray,pT z,bV b4] w λg6 T=>(∃y e6 c3 c4 a1,g6=.returned (.agg #[jI y,uI e6,.slice c3 a1.length c4])/\Ry w T S b4 y e6 c3 c4 a1)/\bW w T:=by
 obtain⟨y,c,H,J,L,K,D,E,F,G,N,right,M⟩:=m;have e1:=d7.zD;obtain⟨⟨j3,j4⟩,⟨k6,k7⟩,-⟩:=d7;dsimp only[mvV,shV]at*
 have g0:=zH e1.lt_;have f8:=zH (And.intro (dY w _ P) (dY w _ a7));have f6:=zH d3;clear e1 d3;obtain⟨c2,a2⟩:=eX ((w.alloc (.cells #[.int .u8 y,.int .u32 c,jI H,.slice J K.length L,.int .u16 D,.int .u16 E,.int .u16 F,.int .u16 G,uI N,bV right,.int .u16 M] 55)).alloc (.cells #[jI 0,uI 0,.slice none 0 0] 49));obtain⟨R,I⟩:=sG w #[.int .u8 y,.int .u32 c,jI H,.slice J K.length L,.int .u16 D,.int .u16 E,.int .u16 F,.int .u16 G,uI N,bV right,.int .u16 M] 55 #[jI 0,uI 0,.slice none 0 0] 49;rw[<-a2]at R I;(have a4:bW w c2:=by rw[a2];exact BEL);obtain⟨V,a5⟩:=eX w.heap.size;obtain⟨n,a6⟩:=eX (V+1);rw[<-a5]at R I;rw[<-a6]at I;have a0:=zH R;have r:=zH I;have k:=zH a4;have c1:=zH a2;have e0:=(a4.cell (p:=⟨z,0,none⟩) (dY w _ P)).trans P;have c8:=(a4.cell (p:=⟨s,20,none⟩) (dY w _ a7)).trans a7;have c0:=zH (And.intro e0 c8);have b8:=zH (And.intro a5 a6);clear P a7 a2 a4 e0 c8;go_enter Tryz.func12,Tryz.ntmps12;go_upto_region 1 with fail;rw[<-c1.out,<-a5,<-a6];clear a5 a6 c1;have i5:=R.Wu 0;have i6:=R.Wu 1;obtain⟨e8,e9,f0,f1,f2,f3⟩:=I.c3;have d4:=I.lt;clear R I;(repeat ((fail_if_success (with_reducible (change Code.wp _ (Code.seq (Code.region 2 _ _) _) _ _ _)));first|go_values|go_skip|go_guarded|go_step|go_upon|go_back|go_simp));(have b:w.heap.size<=n:=by have:=b8.out;omega);go_cut [12] (λi3 wx=>(∃a1:Bool,i3=bV a1)/\wx=c2);case first=>
  go_upto_if 12 with fail;generalize((_:Int)==0)=q;cases q with
  |true=>
   go_wp2_with fail;go_meet;exact⟨⟨_,rfl⟩,rfl⟩
  |false=>
   go_upto_region 3 with fail;go_upto_if 12 with fail;generalize((_:Int)==1)=q;cases q with
   |true=>
    go_wp2_with fail;go_meet;exact⟨⟨_,rfl⟩,rfl⟩
   |false=>
    go_wp2_with fail;go_meet;exact⟨⟨_,rfl⟩,rfl⟩
 case rest=>
  obtain⟨⟨g4,rfl⟩,rfl⟩:=hcut;go_step;cases g4 with
  |true=>
   go_upto_region 5 with fail;obtain⟨h8,h3,h5,h6,h7⟩:=info_parts lF;obtain⟨a,k3⟩:∃a:Nat,c%200=a:=⟨(c%200).toNat,oM⟩;have k4:a<200:=oM;obtain⟨A,k1⟩:∃A:Int,c%251=A:=⟨_,rfl⟩;have k2:0<=A/\A<251:=oM;obtain⟨v,c9⟩:∃v:Nat->Int,v=λ(f:Nat)=>(A+3*(f:Int))%256:=⟨_,rfl⟩;have Z:=zH c9;have b1:=zH (show w.heap.size<=wc.heap.size from k.out.size);clear c9 e8 e9 f0 f1 f2 f3 d4;go_wp2_with (at_make;refine wpList_make_full _ rfl (.tmp 19) (.tmp 19) 47 rfl wc.heap.size 5 h8 (.int .u8 0) 1 Tryz.underlying47 h3 h5 h6 .i64 .i64 (a:Int) (a:Int) a (by rfl) (by rfl) rfl rfl (by rw[h7];omega) (by simp only[maxLen];omega) (av _) ?_;intro l9 d8 d1;have f4:=zH (Fil.new v a d8 d1);clear d8 d1);go_loopg [8,23] a (λb7 l8 i4 wr=>i4=jI ((a:Int) -b7)/\b7<=a/\Hid (Fil wc wr v a (a -b7)));(case atStart=>exact⟨by congr 1;omega,av _,by rw[Nat.sub_self];exact f4⟩);case round=>
    obtain⟨rfl,j8,W⟩:=hrel;by_cases k5:0<gk
    ·have c5:decide ((a:Int) -gk<a)=true:=bM oM
     go_upto_region 8 with fail;obtain⟨f,b3⟩:=eX (a -gk);have d2:(a:Int) -gk=(f:Int):=oM;rw[d2];obtain⟨⟨l7,h9⟩,i0,j9,a8⟩:=W.out.put (j:=a -gk) oM;rw[<-b3]at h9 i0 a8;have i7:wr.cell? ⟨V,1,none⟩=some (.int .u32 c):=(a0.out.below W.out.lo a0.out.lt).cell 1;have i8:(f:Int)<a:=oM;have i9:IntKind.i64.wrap (3*(f:Int))=3*f:=eP _ ⟨oM,oM⟩;have j0:IntKind.i64.wrap (A+3*(f:Int))=A+3*f:=eP _ ⟨oM,oM⟩;have j1:IntKind.i64.wrap ((f:Int)+1)=(f:Int)+1:=eP _ ⟨oM,oM⟩;(have d0:v f=(A+3*(f:Int))%256:=by rw[Z.out]);rw[d0]at a8;have f9:=zH a8;have f5:=zH b3;clear d0 a8 b3 d2 c5 W;go_wp2_with fail;go_roundg (gk -1);(case measure=>omega);case rel=>have:=f5.out;exact⟨by congr 1;omega,oM,by rw[show a -(gk -1)=f+1 by omega];exact f9⟩
    ·have c5:decide ((a:Int) -gk<a)=false:=bJ oM
     have a9:=r.out.below W.out.lo r.out.lt;obtain⟨e8,e9,f0,f1,f2,f3⟩:=a9.c3;have d4:=a9.lt;have b9:=zH a9;clear a9;go_wp2_with fail;have b2:=W.out;rw[show a -gk=a by omega]at b2;have Y:(nJ v a a).length=a:=wL _ _ _;have P:=b2.own.row;have d9:=Row.S9 (t':=49) P b9.out dC [jI 1,uI 0,.slice (some ⟨wc.heap.size,0,none⟩) a a] 0;have h2:dP (nJ v a a):=QK (λf=>by rw[Z.out];exact⟨iQ _ dC,iN _ dC⟩) _ _;refine iZ 6 49 n #[jI 1,uI 0,.slice (some ⟨wc.heap.size,0,none⟩) a a] kR kR (((b9.out.bF 0 _).bF 1 _).bF 2 _) _ Tryz.underlying49 kR kR rfl ?_;refine⟨⟨1,0,some ⟨wc.heap.size,0,none⟩,a,nJ v a a,by rw[Y],⟨dC,λ_=>by decide,⟨dC,dC⟩,⟨⟨5,?_⟩,by rw[Y];exact av _,h2,by rw[Y];omega⟩,λ_=>?_⟩⟩,bG (bG (bG (k.out.trans (b2.lo.mono b1.out)) b _) b _) b _⟩
     ·unfold Byt;rw[Y];exact aF d9 (λC e=>.inr ⟨ay b1.out e.1,by simpa[World.setCell]using e.2⟩)
     ·unfold Bys;rw[Y];exact aF d9 (λC e=>⟨ay b1.out e.1,by simpa[World.setCell]using e.2⟩)
  |false=>
   go_upto_if 40 with fail;generalize((_:Int)==3)=q;cases q with
   |true=>
    cases b4 with
    |true=>
     go_wp2_with fail;refine iZ 6 49 n #[jI 2,uI (c%3000),.slice none 0 0] kR kR (((r.out.bF 0 _).bF 1 _).bF 2 _) _ Tryz.underlying49 kR kR rfl ?_;exact⟨⟨2,(c%3000),none,0,[],rfl,tu _ _ _ _ dC dC ⟨oM,oM⟩⟩,bG (bG (bG k.out b _) b _) b _⟩
    |false=>
     go_upto_region 15 with fail;have x:bW wc wc.drew:=bA (aj _ _);have d:Blk wc.drew V 55 #[.int .u8 y,.int .u32 c,jI H,.slice J K.length L,.int .u16 D,.int .u16 E,.int .u16 F,.int .u16 G,uI N,bV right,.int .u16 M]/\wc.drew.cell? ⟨z,0,none⟩=some ((pT s))/\wc.drew.cell? ⟨s,20,none⟩=some ((pT l)):=⟨a0.out.below x a0.out.lt,c0.out.1,c0.out.2⟩;refine aZ (S:=λT=>Blk T V 55 #[.int .u8 y,.int .u32 c,jI H,.slice J K.length L,.int .u16 D,.int .u16 E,.int .u16 F,.int .u16 G,uI N,bV right,.int .u16 M]/\T.cell? ⟨z,0,none⟩=some ((pT s))/\T.cell? ⟨s,20,none⟩=some ((pT l))) kR d (λg7=>?_);clear g7;refine tK 0 48 d ?_;refine tk 1 (some 49) d (hy:=by intro w o;have k9:=o.1.Wu 2;have l0:=o.1.Wu 3;have l1:=o.1.Wu 4;have l2:=o.1.Wu 5;have l3:=o.1.Wu 6;have l4:=o.1.Wu 7;have l5:=o.1.Wu 8;have l6:=o.1.Wu 9;have k8:=o.1.Wu 10;exact gS) (h:=?_);refine tK 2 50 d ?_;refine tK 3 51 d ?_;refine tK 4 52 d ?_;refine tk 5 (some 53) d (hy:=by intro w o;have i2:=o.2.1;exact gS) (h:=?_);refine tK 6 54 d ?_;refine tK 7 55 d ?_;refine tk 8 (some 56) d (hy:=by intro w o;have i2:=o.2.2;exact gS) (h:=?_);refine tK 9 57 d ?_;refine nrm 13 1023 ?_;refine aI 10 kR ?_;obtain⟨i1,g5,g2,g3,h4,g8,g9,h0,h1⟩:=((f6.out.below k.out).below x).ex;have e2:=(g0.out.below k.out).below x;refine WE (op:=_) rfl kR (some 58) kR 21 #[.agg (shV ⟨H,J,L,K,D,E,F,G,N,right,M⟩).toArray,.agg #[.pointer none,pT l]] kR ((ER g3 _ l (.pointer none) i1 g5 g2 ⟨H,J,L,K,D,E,F,G,N,right,M⟩ _ h4 g8 g9 h0 h1 e2).mono ?_);rintro j2 b0 ⟨t,B,u,c7,X,O⟩;have Q:Blk b0 V 55 #[.int .u8 y,.int .u32 c,jI H,.slice J K.length L,.int .u16 D,.int .u16 E,.int .u16 F,.int .u16 G,uI N,bV right,.int .u16 M]/\b0.cell? ⟨z,0,none⟩=some ((pT s))/\b0.cell? ⟨s,20,none⟩=some ((pT l)):=⟨d.1.below O d.1.lt,(O.cell (p:=⟨z,0,none⟩) (dY _ _ d.2.1)).trans d.2.1,(O.cell (p:=⟨s,20,none⟩) (dY _ _ d.2.2)).trans d.2.2⟩;refine⟨_,c7,Q,?_⟩;refine mP ?_;refine tK 11 59 Q ?_;refine nrm 13 4095 ?_;have b5:=r.out.below (x.trans (O.mono x.size)) r.out.lt;refine dJ (i:=12) 49 (.tmp 6) (.tmp 59) n 0 #[jI 3,uI 0,.slice t u.length B] rfl kR kR kR kR kR kR (b5.there _ sM) kR (by simp[Value.oneCell']) (?_) ?_
     ·have c6:=Below.bZ (av n) [jI 3,uI 0,.slice t u.length B] 0 _ (aj n b0)
      have d6:=f8.out;have j5:=b8.out;exact⟨Q.1.gy oM _ _ _,(c6.cell (p:=⟨z,0,none⟩) (aC d6.1 b)).trans Q.2.1,(c6.cell (p:=⟨s,20,none⟩) (aC d6.2 b)).trans Q.2.2⟩
     intro U a3;have b6:=Blk.gF b5 [jI 3,uI 0,.slice t u.length B] rfl;rw[<-show U=_ from a3]at b6;(have d5:bW w U:=by rw[a3];exact Below.bZ b _ _ _ (k.out.trans ((x.trans (O.mono x.size)).mono k.out.size)));obtain⟨e7,e3⟩:=X.ex;have j6:=r.out.lt;have j7:=x.size;have e4:=Row.setD (g:=n) e3 (λC e=>by rcases e with e|e;have:=e.2;omega;have:=e.1;omega) [jI 3,uI 0,.slice t u.length B] 0;have k0:=k.out.size;have e5:Byt e7 U (λC=>S C\/w.heap.size<=C/\C<U.heap.size) t u:=by
      rw[a3];exact aF (Row.lt_ e4) (λC e=>by rcases e.1 with h|h;exact .inl h.1;exact .inr ⟨oM,e.2⟩)
     have Z:=zH (show FrAt w U S t B u from⟨⟨e7,e5⟩,X.cap,X.by_,X.len⟩);have g1:=zH b6;have f7:=zH d5;clear a3 b6 d5 e3 e4 e5 X b5 Q d O e2 c7;refine mP ?_;refine bg kR ?_ _;go_wp2_with fail;refine iZ 6 49 n #[jI 3,uI 0,.slice t u.length B] kR kR g1.out _ Tryz.underlying49 kR kR rfl ?_;exact⟨⟨3,0,t,B,u,rfl,⟨dC,λh=>Wy h dC,⟨dC,dC⟩,Z.out,λh=>Wy h dC⟩⟩,f7.out⟩
   |false=>
    go_upto_if 60 with fail;generalize((_:Int)==4)=q;cases q with
    |true=>
     go_wp2_with fail;refine iZ 6 49 n #[jI (4+c%2),uI 0,.slice none 0 0] kR kR (((r.out.bF 0 _).bF 1 _).bF 2 _) _ Tryz.underlying49 kR kR rfl ?_;exact⟨⟨(4+c%2),0,none,0,[],rfl,tu _ _ _ _ ⟨oM,oM⟩ oM ⟨dC,dC⟩⟩,bG (bG (bG k.out b _) b _) b _⟩
    |false=>
     go_upto_if 68 with fail;generalize((_:Int)==5)=q;cases q with
     |true=>
      go_upto_if 73 with fail;generalize((_:Int)==0)=q;cases q with
      |true=>
       go_wp2_with fail;refine iZ 6 49 n #[jI 6,uI 0,.slice none 0 0] kR kR (((r.out.bF 0 _).bF 1 _).bF 2 _) _ Tryz.underlying49 kR kR rfl ?_;exact⟨⟨6,0,none,0,[],rfl,tu _ _ _ _ dC dC ⟨dC,dC⟩⟩,bG (bG (bG k.out b _) b _) b _⟩
      |false=>
       go_wp2_with fail;refine iZ 6 49 n #[jI 2,uI (c%20000),.slice none 0 0] kR kR (((r.out.bF 0 _).bF 1 _).bF 2 _) _ Tryz.underlying49 kR kR rfl ?_;exact⟨⟨2,(c%20000),none,0,[],rfl,tu _ _ _ _ dC dC ⟨oM,oM⟩⟩,bG (bG (bG k.out b _) b _) b _⟩
     |false=>
      go_upto_if 75 with fail;generalize((_:Int)==6)=q;cases q with
      |true=>
       go_wp2_with fail;refine iZ 6 49 n #[jI 2,uI c,.slice none 0 0] kR kR (((r.out.bF 0 _).bF 1 _).bF 2 _) _ Tryz.underlying49 kR kR rfl ?_;exact⟨⟨2,c,none,0,[],rfl,tu _ _ _ _ dC dC ⟨oM,oM⟩⟩,bG (bG (bG k.out b _) b _) b _⟩
      |false=>
       go_wp2_with fail;refine iZ 6 49 n #[jI 2,uI (c%20000),.slice none 0 0] kR kR (((r.out.bF 0 _).bF 1 _).bF 2 _) _ Tryz.underlying49 kR kR rfl ?_;exact⟨⟨2,(c%20000),none,0,[],rfl,tu _ _ _ _ dC dC ⟨oM,oM⟩⟩,bG (bG (bG k.out b _) b _) b _⟩
end Go.Proofs.YtiflndepmgnojaaGreat
