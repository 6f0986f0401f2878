import Derived.Test.YtiflndepmgnojaaGreatEob
import Derived.Test.YtiflndepmgnojaaGreatPef
namespace Go.Proofs.YtiflndepmgnojaaGreat
open Go.RowKit Tryz
set_option linter.unusedSimpArgs false
set_option linter.unusedVariables false
set_option maxHeartbeats 8000000
set_option maxRecDepth 100000
variable {b c k m p n:Nat} {l:List Int} {W w w':World} {t:TypeId}
def Own (w:World) (own:Nat->Nat) (i:Nat):Nat->Prop:=λk=>k<w.heap.size/\own k=i
def ext (w:World) (own:Nat->Nat) (i:Nat):Nat->Nat:=λk=>if k<w.heap.size then own k else i
section
variable {w w':World} {own:Nat->Nat} {i j k:Nat}
theorem qX:Bd (Own w own i) w:=λ_ h=>h.1
theorem nE (h:k<w.heap.size):ext w own i k=own k:=aB h
theorem uG (h:w.heap.size<=k):ext w own i k=i:=Ww oM
theorem fw (a:w.heap.size<=w'.heap.size) (h:Own w own j k):Own w' (ext w own i) j k:=⟨by have:=h.1;omega,by rw[nE h.1];exact h.2⟩
theorem sN (b:w.heap.size<=w'.heap.size) (h:grow (Own w own i) w w' k):Own w' (ext w own i) i k:=h.elim (fw b) (λa=>⟨a.2,uG a.1⟩)
theorem NE (h:i≠j):Apart (Own w own i) (Own w own j):=λk a b=>h (a.2.symm.trans b.2)
end
structure Wp where
 (e pe a b:Nat)
abbrev Six:={l:List Value//l.length=6/\∀u∈l,u.oneCell'=true}
def woC (x:Wo) (r:Wp) (a1:X5) (n1 c1:Nat) (a2:X5) (c c2:Nat) (a:X5) (d b:Nat):Array Value:=
 #[(pT r.e),(pT r.pe),(pT r.a),(pT r.b),uI x.now,bV x.mute,uI x.eO,.slice a1 n1 c1,.slice a2 c c2,.slice a d b]
structure WoL (w:World) (S:X4) (p:Nat) (r:Wp) (x:Wo):Prop where
 ex:∃a1 c1 a2 c2 a3 c3,∃ds hs:List Six,∃sv:List Bv,Blk w p 110 (woC x r a1 ds.length c1 a2 hs.length c2 a3 sv.length c3)/\
  OwnAt w S 115 6 a1 ds.length c1 (ds.flatMap (·.1))/\OwnAt w S 201 6 a2 hs.length c2 (hs.flatMap (·.1))/\OwnAt w S 47 1 a3 sv.length c3 (sv.flatMap bvV)/\(∀y∈sv,Bys w S y.a y.b/\y.b.length<=y.c/\y.b.length<=100000)/\
  ds.length=x.fu/\hs.length=x.heard/\sv.length=x.sent
 mem:S p
structure iW (w:World) (own:Nat->Nat) (p:Nat) (r:Wp) (k:Nat) (x:Wo):Prop where
 l:WoL w (Own w own 0) p r x
 e:eB w (Own w own 1) r.e x.en
 pe:ic w (Own w own 2) r.pe k x.pe
 a:rH w (Own w own 3) r.a x.ahead
 b:rH w (Own w own 4) r.b x.back
def woT:List (Option TypeId):=[some 110,some 115,some 201,some 47,some 154,some 236,some 177,some 234,some 5,some 256,some 314,some 30,some 232,some 226,none,some 203,some 218,some 222]
section
variable {w w':World} {S S':X4} {p k:Nat} {r:Wp} {x:Wo} {ts:X8}
theorem eB.keep {e:En} (h:eB w S p e) (a:bQ S enT w w'):eB w' S p e:=by
 have b:=h.mem;obtain⟨q,o,n,m,c,d,f,g,l⟩:=h.ex;exact⟨⟨q,o,n,m,c.keep a b (by simp[enT]),d.keep a (by simp[enT]) (by simp[enT]),f.keep a (by simp[enT]) (by simp[enT]) (by simp[enT]),g.keep a (by simp[enT]) (by simp[enT]),l.keep a (by simp[enT]) (by simp[enT]) (by simp[enT])⟩,b⟩
theorem WoL.keep (h:WoL w S p r x) (a:bQ S [some 110,some 115,some 201,some 47,some 5] w w'):WoL w' S p r x:=by
 obtain⟨e,l,f,m,g,n,o,y,z,q,s,t,u,b,v⟩:=h.ex;exact⟨⟨e,l,f,m,g,n,o,y,z,q.keep a h.mem sM,s.keep a sM,t.keep a sM,u.keep a sM,λd c=>⟨aG (b d c).1 a sM,(b d c).2⟩,v⟩,h.mem⟩
theorem WoL.mono (h:WoL w S p r x) (a:∀k,S k->S' k):WoL w S' p r x:=by
 obtain⟨e,l,f,m,g,n,o,y,z,q,s,t,u,b,v⟩:=h.ex;exact⟨⟨e,l,f,m,g,n,o,y,z,q,s.mono a,t.mono a,u.mono a,λd c=>⟨aF (b d c).1 a,(b d c).2⟩,v⟩,a _ h.mem⟩
theorem WoL.of {x':Wo} (h:WoL w S p r x) (A:x'.now=x.now) (B:x'.mute=x.mute) (C:x'.eO=x.eO) (D:x'.fu=x.fu) (E:x'.heard=x.heard) (F:x'.sent=x.sent):WoL w S p r x':=by
 obtain⟨a,d,b,e,c,f,g,l,m,o,q,s,t,u,v,y,z⟩:=h.ex;(have n:woC x' r a g.length d b l.length e c m.length f=woC x r a g.length d b l.length e c m.length f:=by unfold woC;rw[A,B,C]);exact⟨⟨a,d,b,e,c,f,g,l,m,by rw[n];exact o,q,s,t,u,v.trans D.symm,y.trans E.symm,z.trans F.symm⟩,h.mem⟩
end
structure dD (own:Nat->Nat) (w:World) (p:Nat) (r:Wp) (k:Nat) (x:Wo) (W:World):Prop where
 ex:∃own',(∀k,k<w.heap.size->own' k=own k)/\iW W own' p r k x
 m:Mod (λk=>own k<=4) woT w W
section
variable {own:Nat->Nat} {w W W':World} {p k k':Nat} {r:Wp} {x x':Wo}
theorem dD.refl (h:iW w own p r k x):dD own w p r k x w:=⟨⟨own,λ_ _=>rfl,h⟩,aV _ _ _⟩
theorem dD.step (h:dD own w p r k x W) (m:∀a,iW W a p r k x->dD a W p r k' x' W'):dD own w p r k' x' W':=by
 obtain⟨a,c,g⟩:=h.ex;obtain⟨⟨n,d,e⟩,f⟩:=m a g;have o:=h.m.size;exact⟨⟨n,λk b=>(d k oM).trans (c k b),e⟩,h.m.then f (λk b l=>by rw[<-c k b];exact l)⟩
theorem iW.keeps {i:Nat} {T:X8} (b:Mod (Own w own i) T w W) {j:Nat} (a:j≠i) (ts:X8):bQ (Own w own j) ts w W:=b.iD (NE a)
theorem iW.below (h:iW w own p r k x) (hb:bW w W):iW W (ext w own 9) p r k x:=
 have a:=hb.size
 ⟨(h.l.keep (bQ.below hb)).mono (λ_=>fw a),(h.e.keep (bQ.below hb)).mono (λ_=>fw a),(h.pe.below hb).mono (λ_=>fw a),(h.a.below hb).mono (λ_=>fw a),(h.b.below hb).mono (λ_=>fw a)⟩
theorem dD.below (h:dD own w p r k x W) (hb:bW W W'):dD own w p r k x W':=
 h.step λc a=>⟨⟨_,λ_ b=>nE b,a.below hb⟩,aH hb⟩
theorem Xc {i:Nat} {T:X8} (c:Mod (Own w own i) T w W) (b:i<=4) (a:∀d∈T,d∈woT):Mod (λk=>own k<=4) woT w W:=c.mono (λ_ _ h=>by rw[h.2];exact b) a
theorem iW.onE (h:iW w own p r k x) {F:X4} {T:X8} {e:En} (d:∀k,F k->grow (Own w own 1) w W k) (g:eB W F r.e e) (a:Mod (Own w own 1) T w W) (f:∀l∈T,l∈woT):dD own w p r k {x with en:=e} W:=
 have b:=a.size
 ⟨⟨ext w own 1,λ_ c=>nE c,((h.l.keep (iW.keeps a dC _)).mono (λ_=>fw b)).of rfl rfl rfl rfl rfl rfl,g.mono (λk c=>sN b (d k c)),(h.pe.keep (ts:=uV) (iW.keeps a dC _) (λ_ h=>h)).mono (λ_=>fw b),
   (h.a.keep (ts:=[some 218,some 187,some 222,some 5]) (iW.keeps a dC _) sM sM sM sM).mono (λ_=>fw b),(h.b.keep (ts:=[some 218,some 187,some 222,some 5]) (iW.keeps a dC _) sM sM sM sM).mono (λ_=>fw b)⟩,Xc a dC f⟩
theorem iW.onP (h:iW w own p r k x) {F:X4} {T:X8} {q:Pe} (d:∀k,F k->grow (Own w own 2) w W k) (f:ic W F r.pe k' q) (a:Mod (Own w own 2) T w W) (e:∀g∈T,g∈woT):dD own w p r k' {x with pe:=q} W:=
 have b:=a.size
 ⟨⟨ext w own 2,λ_ c=>nE c,((h.l.keep (iW.keeps a dC _)).mono (λ_=>fw b)).of rfl rfl rfl rfl rfl rfl,(h.e.keep (iW.keeps a dC _)).mono (λ_=>fw b),f.mono (λk c=>sN b (d k c)),
   (h.a.keep (ts:=[some 218,some 187,some 222,some 5]) (iW.keeps a dC _) sM sM sM sM).mono (λ_=>fw b),(h.b.keep (ts:=[some 218,some 187,some 222,some 5]) (iW.keeps a dC _) sM sM sM sM).mono (λ_=>fw b)⟩,Xc a dC e⟩
theorem iW.onA (h:iW w own p r k x) {F:X4} {T:X8} {q:Pp} (d:∀k,F k->grow (Own w own 3) w W k) (f:rH W F r.a q) (a:Mod (Own w own 3) T w W) (e:∀g∈T,g∈woT):dD own w p r k {x with ahead:=q} W:=
 have b:=a.size
 ⟨⟨ext w own 3,λ_ c=>nE c,((h.l.keep (iW.keeps a dC _)).mono (λ_=>fw b)).of rfl rfl rfl rfl rfl rfl,(h.e.keep (iW.keeps a dC _)).mono (λ_=>fw b),(h.pe.keep (ts:=uV) (iW.keeps a dC _) (λ_ h=>h)).mono (λ_=>fw b),
   f.mono (λk c=>sN b (d k c)),(h.b.keep (ts:=[some 218,some 187,some 222,some 5]) (iW.keeps a dC _) sM sM sM sM).mono (λ_=>fw b)⟩,Xc a dC e⟩
theorem iW.onB (h:iW w own p r k x) {F:X4} {T:X8} {q:Pp} (d:∀k,F k->grow (Own w own 4) w W k) (f:rH W F r.b q) (a:Mod (Own w own 4) T w W) (e:∀g∈T,g∈woT):dD own w p r k {x with back:=q} W:=
 have b:=a.size
 ⟨⟨ext w own 4,λ_ c=>nE c,((h.l.keep (iW.keeps a dC _)).mono (λ_=>fw b)).of rfl rfl rfl rfl rfl rfl,(h.e.keep (iW.keeps a dC _)).mono (λ_=>fw b),(h.pe.keep (ts:=uV) (iW.keeps a dC _) (λ_ h=>h)).mono (λ_=>fw b),
   (h.a.keep (ts:=[some 218,some 187,some 222,some 5]) (iW.keeps a dC _) sM sM sM sM).mono (λ_=>fw b),f.mono (λk c=>sN b (d k c))⟩,Xc a dC e⟩
theorem iW.onL (h:iW w own p r k x) {F:X4} {T:X8} {y:Wo} (l:∀k,F k->grow (Own w own 0) w W k) (n:WoL W F p r y) (a:Mod (Own w own 0) T w W) (m:∀o∈T,o∈woT) (d:y.en=x.en) (e:y.pe=x.pe) (f:y.ahead=x.ahead) (g:y.back=x.back):dD own w p r k y W:=
 have b:=a.size
 ⟨⟨ext w own 0,λ_ c=>nE c,n.mono (λk c=>sN b (l k c)),by rw[d];exact(h.e.keep (iW.keeps a dC _)).mono (λ_=>fw b),by rw[e];exact(h.pe.keep (ts:=uV) (iW.keeps a dC _) (λ_ h=>h)).mono (λ_=>fw b),
   by rw[f];exact(h.a.keep (ts:=[some 218,some 187,some 222,some 5]) (iW.keeps a dC _) sM sM sM sM).mono (λ_=>fw b),by rw[g];exact(h.b.keep (ts:=[some 218,some 187,some 222,some 5]) (iW.keeps a dC _) sM sM sM sM).mono (λ_=>fw b)⟩,Xc a dC m⟩
theorem WoL.set1 {S:X4} (h:WoL w S p r x) (i:Nat) (u:Value) (y:Wo) (J:∀a s d b t e c v f,(woC x r a s d b t e c v f).setIfInBounds i u=woC y r a s d b t e c v f)
  (G:y.fu=x.fu) (H:y.heard=x.heard) (I:y.sent=x.sent):WoL (w.setCell ⟨p,i,none⟩ u) S p r y/\Mod S [some 110] w (w.setCell ⟨p,i,none⟩ u):=by
 have n:=h.mem;obtain⟨a,d,b,e,c,f,z,K,L,l,A,B,C,m,D,E,F⟩:=h.ex;have q:Mod S [some 110] w (w.setCell ⟨p,i,none⟩ u):=(aV S _ w).setCell l (λ_=>n) sM i _;have g:bQ S [some 115,some 201,some 47,some 5] w (w.setCell ⟨p,i,none⟩ u):=q.aM dC;exact⟨⟨⟨a,d,b,e,c,f,z,K,L,by rw[<-J];exact l.bF i u,A.keep g sM,B.keep g sM,C.keep g sM,λy o=>⟨aG (m y o).1 g sM,(m y o).2⟩,D.trans G.symm,E.trans H.symm,F.trans I.symm⟩,n⟩,q⟩
theorem dD.set1 (h:dD own w p r k x W) (i:Nat) (u:Value) (y:Wo) (D:∀a l d b m e c n f,(woC x r a l d b m e c n f).setIfInBounds i u=woC y r a l d b m e c n f)
  (A:y.fu=x.fu) (B:y.heard=x.heard) (C:y.sent=x.sent) (o:y.en=x.en) (q:y.pe=x.pe) (s:y.ahead=x.ahead) (t:y.back=x.back):dD own w p r k y (W.setCell ⟨p,i,none⟩ u):=
 h.step λE g=>by
  obtain⟨v,z⟩:=g.l.set1 i u y D A B C;exact g.onL (λ_ h=>.inl h) v z (by simp[woT]) o q s t
theorem dD.blk (h:dD own w p r k x W):∃a d b e c f,Blk W p 110 (woC x r a x.fu d b x.heard e c x.sent f):=by
 obtain⟨z,_,g⟩:=h.ex;obtain⟨a,d,b,e,c,f,q,y,A,l,s,t,u,v,m,n,o⟩:=g.l.ex;exact⟨a,d,b,e,c,f,by rw[<-m,<-n,<-o];exact l⟩
end
structure Eg (W0 w:World) (S:X4) (p:Nat) (e:En):Prop where
 en:eB w S p e
 bd:Bd S w
 lo:∀k,S k->W0.heap.size<=k
 bl:bW W0 w
structure Stp (w w':World) (S S':X4):Prop where
 sub:∀k,S' k->S k\/w.heap.size<=k
 m:∃T,Mod S T w w'
section
variable {W0 w w' w2:World} {S S' S2 F:X4} {p p2:Nat} {e e' e2:En} {T:X8}
theorem Stp.of_below (hb:bW w w'):Stp w w' S S:=⟨λ_ h=>.inl h,[],aH hb⟩
theorem Stp.size (h:Stp w w' S S'):w.heap.size<=w'.heap.size:=by obtain⟨T,a⟩:=h.m;exact a.size
theorem Stp.trans (h:Stp w w' S S') (d:Stp w' w2 S' S2) (j:∀a,S' a->a<w'.heap.size):Stp w w2 S S2:=by
 obtain⟨T,g⟩:=h.m;obtain⟨i,k⟩:=d.m;refine⟨λa b=>?_,T++i,?_⟩
 .rcases d.sub a b with b|b
  .exact h.sub a b
  .exact .inr (ay g.size b)
 .refine(g.mono (λ_ _ h=>h) (λl c=>List.mem_append_left _ c)).grow (k.mono (λa b f=>?_) (λl c=>List.mem_append_right _ c))
  exact(h.sub a f).imp id (λm=>⟨m,j a f⟩)
theorem Eg.low (h:Eg W0 w S p e) (a:Mod S T w w'):bW W0 w':=h.bl.trans (a.cZ h.bl.size (λc d b=>by have:=h.lo c b;omega))
theorem Eg.step (h:Eg W0 w S p e) (d:∀a,F a->grow S w w' a) (g:Bd F w') (i:eB w' F p e') (f:Mod S T w w'):Eg W0 w' F p e'/\Stp w w' S F:=
 ⟨⟨i,g,λa b=>(d a b).elim (h.lo a) (λc=>ay h.bl.size c.1),h.low f⟩,λa b=>(d a b).imp id (λc=>c.1),_,f⟩
theorem Eg.grown (h:Eg W0 w S p e) (b:eB w' (grow S w w') p e') (a:Mod S T w w'):Eg W0 w' (grow S w w') p e'/\Stp w w' S (grow S w w'):=
 h.step (λ_ h=>h) (h.bd.grow a.size) b a
theorem Eg.below (h:Eg W0 w S p e) (hb:bW w w'):Eg W0 w' S p e:=⟨h.en.below hb,h.bd.later hb.size,h.lo,h.bl.trans (hb.mono h.bl.size)⟩
theorem Stp.other (h:Stp w w' S S') (b:Eg W0 w S2 p2 e2) (d:∀a,S a->¬S2 a) (hb:bW W0 w'):Eg W0 w' S2 p2 e2/\∀a,S' a->¬S2 a:=by
 obtain⟨T,g⟩:=h.m;refine⟨⟨b.en.keep (g.iD (λa b c=>d a c b)),b.bd.later g.size,b.lo,hb⟩,λa i f=>?_⟩
 .rcases h.sub a i with c|c
  .exact d a c f
  .have:=b.bd a f;omega
theorem Eg.write (h:Eg W0 w S p e) (i:dG k e) {a:X5} (hb:Bys w S2 a l) (f:l.length<=b) (g:l.length<=1000000000):
  Yk 17 #[pT p,.slice a l.length b] w λc w'=>c=.returned (.tuple #[jI (fU e l).n,jI (fU e l).err])/\∃F,Eg W0 w' F p (fU e l).en/\Stp w w' S F:=by
 refine(Cz k S S2 p e a l b w h.en i hb f g).mono ?_;rintro c w' ⟨m,d,j⟩;exact⟨m,_,h.grown d j⟩
theorem Eg.tick (h:Eg W0 w S p e) (c:dG k e) {now:Int} (f:Word now):
  Yk 23 #[pT p,uI now] w λa w'=>a=.returned (.tuple #[])/\∃F,Eg W0 w' F p (kr e now)/\Stp w w' S F:=by
 refine(Ay k S p e now w h.en c h.bd f).mono ?_;rintro a w' ⟨g,b,d⟩;exact⟨g,_,h.grown b d⟩
theorem Eg.on (h:Eg W0 w S p e) (j:dG k e) (l:k<=90000000) {now:Int} (n:Word now) {tb:TypeId} {a:X5} {b:List Int} (hb:Byt tb w S2 a b) (g:b.length<=100000) (i:dP b) (q:tb≠154\/¬S2 p):
  Yk 20 #[pT p,.slice a b.length c,uI now] w λd w'=>d=.returned (.agg #[jI (lU e b now).ver.kind,jI (lU e b now).ver.why,uI (lU e b now).ver.pn,bV (lU e b now).ver.dU])/\∃F,Eg W0 w' F p (lU e b now).en/\Stp w w' S F:=by
 refine(GI k S S2 p e a c b now w h.en j l h.bd n hb (by omega) i q).mono ?_;rintro d w' ⟨o,f,m⟩;exact⟨o,_,h.grown f m⟩
theorem Eg.poll (h:Eg W0 w S p e) (l:dG k e) (m:k<=80000000) {now:Int} (o:Word now):
  Yk 37 #[pT p,uI now] w λc w'=>∃a b F,c=.returned (.tuple #[.slice a (fD e now).b.length b,jI (fD e now).err])/\(fD e now).b.length<=b/\Eg W0 w' F p (fD e now).en/\Stp w w' S F/\Bys w' (λk=>¬F k/\w.heap.size<=k/\k<w'.heap.size) a (fD e now).b:=by
 refine(EU k S p e now w h.en l m h.bd o).mono ?_;rintro c w' ⟨a,b,F,q,j,t,d,f,g,i,n⟩;obtain⟨r,s⟩:=h.step d f g n;exact⟨a,b,F,q,j,r,s,i⟩
theorem Eg.aS (h:Eg W0 w S p e) (a:dG k e):
 Yk 24 #[pT p] w λb w'=>b=.returned (.agg #[jI (cK e).aS,uI (cK e).now,uI (cK e).cr,uI (cK e).dL,uI (cK e).jS,uI (cK e).bK,uI (cK e).gU,uI (cK e).next,uI (cK e).low,uI (cK e).fG,uI (cK e).gP,uI (cK e).dh.dB,uI (cK e).dh.eT,uI (cK e).dh.fI,uI (cK e).dh.bE,uI (cK e).dh.late])/\bW w w':=CB k S p e w h.en a
theorem Eg.sent (h:Eg W0 w S p e) (c:dG k e):
 Yk 27 #[pT p] w λd w'=>∃a b,d=.returned (.slice a e.led.kept.length b)/\e.led.kept.length<=b/\Ses w' (λk=>w.heap.size<=k/\k<w'.heap.size) a e.led.kept/\bW w w':=Ob k S p e w h.en c
end
def NxOut (W0:World) (S:X4) (w:World) (p:Nat) (R:Rpo) (d:Ending) (w':World):Prop:=∃b c F,d=.returned (.tuple #[.slice b R.b.length c,jI R.err])/\Eg W0 w' F p R.en/\Stp w w' S F/\Bys w' (λa=>¬F a/\w.heap.size<=a/\a<w'.heap.size) b R.b
theorem Qf (W0:World) (k:Nat) (S:X4) (p:Nat) (e:En) (now:Int) (w:World) (h:Eg W0 w S p e) (l:dG k e) (a0:k<=70000000) (I:Word now):
  Yk 19 #[pT p,uI now] w λL w'=>NxOut W0 S w p (WK 200 e now) L w':=by
 obtain⟨g,n⟩:=yx h l;obtain⟨E,q⟩:=eX (WK 200 e now);rw[<-q];obtain⟨o,W⟩:=yx q.symm h.bd;clear h l q;go_enter Tryz.func19,Tryz.ntmps19;go_wp2;go_loopg [6,7,8] 200 (λb V a5 a6 wr=>∃d F,V=jI ((200:Int) -b)/\b<=200/\X3 (Eg W0 wr F p d)/\X3 (Stp w wr S F)/\X3 (dG (k+(200 -b)) d)/\X3 (WK b d now=E));(case atStart=>exact⟨e,S,rfl,av _,g,zH (Stp.of_below (aj _ _)),n,o⟩);case round=>
  obtain⟨d,F,rfl,Z,g,t,n,o⟩:=hrel;by_cases a3:0<gk
  .have O:decide ((200:Int) -gk<200)=true:=bM oM
   obtain⟨b,rfl⟩:∃b,gk=b+1:=⟨gk -1,oM⟩;have a:=o.o;rw[WK]at a;go_wp2_with fail;refine(g.o.poll n.o oM I).mono ?_;rintro L w2 ⟨v,x,m,rfl,P,y,G,H⟩;have C:dG (k+(200 -(b+1))+1) (fD d now).en:=wO n.o I;have u:=zH (t.o.trans G g.o.bd);have z:Bys w2 (λk=>¬m k/\w.heap.size<=k/\k<w2.heap.size) v (fD d now).b:=aF H (λk l=>⟨l.1,ay t.o.size l.2.1,l.2.2⟩);generalize fD d now=N at*
   obtain⟨c,K,U⟩:=N;dsimp only at a P y C z|-;obtain⟨s,r,M⟩:=Av y z C;clear y G H z C g t n o;by_cases A:K=0
   .subst A
    by_cases D:c.length=0
    .rw[aB (.inr (.inl D))]at a
     have R:c=[]:=dV D;subst R;have f:=zH a;clear a;go_wp2;go_ret2;rw[<-f.o];exact⟨v,x,m,rfl,s.o,u.o,r.o⟩
    .obtain⟨X,a4,rfl,Y,J⟩:=r.o.at_ (aj _ _) (j:=0) (show 0<c.length by omega)
     rw[Nat.add_zero]at J;(have B:c.getD 0 0=c[0]'oM:=by rw[aW,aL (show 0<c.length by omega)];rfl);rw[B]at a;have a2:((c.length:Int)==0)=false:=beq_eq_false_iff_ne.2 oM;have a1:(0:Int)<c.length:=oM;by_cases i:c[0]'oM=3
     .rw[Ww (by rintro(h|h|h);exact h rfl;exact D h;exact h i)]at a
      rw[i]at J;have f:=zH a;clear a B i;go_wp2;go_roundg b;(case measure=>omega);case rel=>exact⟨U,m,by congr 1;omega,oM,s,u,zH (by have:=M.o;rwa [show k+(200 -(b+1))+1=k+(200 -b) by omega]at this),f⟩
     .rw[aB (.inr (.inr i))]at a
      (have Q:((c[0]'oM)!=3)=true:=by simpa using i);generalize(c[0]'oM)=a7 at*
      have f:=zH a;clear a B i;go_wp2;go_ret2;rw[<-f.o];exact⟨_,x,m,rfl,s.o,u.o,r.o⟩
   .rw[aB (.inl A)]at a
    (have Q:(K !=0)=true:=by simpa using A);have f:=zH a;clear a;go_wp2;go_ret2;rw[<-f.o];exact⟨v,x,m,rfl,s.o,u.o,r.o⟩
  .have O:decide ((200:Int) -gk<200)=false:=bJ oM
   obtain rfl:gk=0:=oM;go_wp2;go_ret2;have q:(⟨[],10,d⟩:Rpo)=E:=o.o;rw[<-q];exact⟨none,0,F,rfl,g.o,t.o,Bys.WH⟩
theorem EC {i:Type} {f:i->List Value} {m:Nat} (x:i) (a:Array Value) (g:a.toList=f x) (c:a.size=m):∀b:Nat,(madeCells a (b*m)).toList=(List.replicate b x).flatMap f
 |0=>by simp[madeCells]
 |b+1=>by
  have l:=EC x a g c b;rw[List.replicate_succ',iE,<-l,Nat.succ_mul];unfold madeCells;simp only[Array.toList_map,Array.toList_range,List.range_add,List.map_append,List.map_map];congr 1;rw[List.flatMap_singleton,<-g];apply List.ext_getElem
  .simp[c]
  .intro d e n
   simp at e;have j:d<a.size:=oM;(have k:(b*m+d)%a.size=d:=by rw[c,Nat.mul_comm,Nat.mul_add_mod];exact Nat.mod_eq_of_lt e);simp[k,j]
structure Ka (w:World) (p:Nat):Prop where
 ex:∃ring dO L S,Dw w S p ring dO L/\L.length<=1000000000/\0<=ring/\ring<=1000000/\∀s∈L,Word s.bX
theorem Ka.below (h:Ka w p) (hb:bW w w'):Ka w' p:=by
 obtain⟨b,c,d,a,e,f⟩:=h.ex;exact⟨b,c,d,a,e.below hb,f⟩
theorem KM (h:W.ownsRow w'.heap.size 177 8 (.slice (some ⟨w'.heap.size,0,none⟩) m m) m (madeCells (Value.cells (.agg #[uI 0,uI 0,uI 0,uI 0,uI 0,bV false,bV false,jI 0])) (m*8)).toList):
  OwnAt W (λb=>w'.heap.size<=b/\b<W.heap.size) 177 8 (some ⟨w'.heap.size,0,none⟩) (List.replicate m seZ).length m ((List.replicate m seZ).flatMap seV):=by
 have a:W.ownsRow w'.heap.size 177 8 (.slice (some ⟨w'.heap.size,0,none⟩) m m) m (madeCells #[uI 0,uI 0,uI 0,uI 0,uI 0,bV false,bV false,jI 0] (m*8)).toList:=h;rw[EC (f:=seV) (m:=8) seZ #[uI 0,uI 0,uI 0,uI 0,uI 0,bV false,bV false,jI 0] rfl rfl m]at a;rw[List.length_replicate];exact OwnAt.fresh a
theorem Gq (e2:World) (k:Nat) (S:X4) (p:Nat) (e:En) (c:Cf) (w:World) (h:Eg e2 w S p e) (U:dG k e):
  Yk 22 #[pT p,.agg (cfV c)] w λY c7=>∃b,Y=.returned (.agg #[.pointer none,pT b])/\Ka c7 b/\bW w c7:=by
 obtain⟨a0,C⟩:=yx h U;obtain⟨e3,D⟩:=eX ((w.alloc (.cells (cfV c) 32)).alloc (.cells #[.pointer none,.pointer none] 80));obtain⟨L,z⟩:=sG w (cfV c) 32 #[.pointer none,.pointer none] 80;rw[<-D]at L z;(have b6:bW w e3:=by rw[D];exact BEL);obtain⟨e4,E⟩:=eX w.heap.size;obtain⟨j,F⟩:=eX (e4+1);rw[<-E]at L z;rw[<-F]at z;obtain⟨a7,a9,N,a2,Z⟩:=BF L z b6 D (And.intro E F);clear h U D L z b6;go_enter Tryz.func22,Tryz.ntmps22;go_upto_region 1 with fail;rw[<-a2.o,<-E,<-F];clear E F a2;go_wp2_with fail;refine((a0.o.below N.o).sent C.o).mono ?_;rintro Y i2 ⟨R,e5,rfl,h3,c5,G⟩;obtain⟨d9,O,a8,b0⟩:=Bq c5 (N.o.trans (G.mono N.o.size)) (a7.o.below G a7.o.lt) (a9.o.below G a9.o.lt);clear c5 G;go_wp2_with fail;refine Yd ((a0.o.below O.o).aS C.o) ?_;intro c8 v;obtain⟨e0,P,a5,a6⟩:=Bq (show Ses c8 _ R e.led.kept from aD d9.o v) (O.o.trans (v.mono O.o.size)) (a8.o.below v a8.o.lt) (b0.o.below v b0.o.lt);have e6:=a5.o.cell 2;have e7:=a5.o.cell 3;clear v;have q:=C.o.le;obtain⟨f6,f7,h6⟩:=FX q.pE q.nI q.mh;(have T:∀w,(Instr.field 38 (.agg #[jI (cK e).aS,uI (cK e).now,uI (cK e).cr,uI (cK e).dL,uI (cK e).jS,uI (cK e).bK,uI (cK e).gU,uI (cK e).next,uI (cK e).low,uI (cK e).fG,uI (cK e).gP,uI (cK e).dh.dB,uI (cK e).dh.eT,uI (cK e).dh.fI,uI (cK e).dh.bE,uI (cK e).dh.late]) 7).run prog w=.ok (uI (cK e).next) w:=λw=>by kernel_rfl);have W:(cK e).next=e.led.next:=rfl;rw[W]at T;have b9:=q.len;have i0:=q.lW;obtain⟨f,g⟩:∃f:Nat,e.led.next=f:=⟨e.led.next.toNat,oM⟩;rw[g]at T b9 f7 W;have I:e.led.kept.length<=f:=oM;have h4:e.led.kept.length<=256:=oM;clear g b9 q f6;go_wp2_with fail;refine(Nh c.ring c.dO c8).mono ?_;rintro Y A ⟨b,rfl,V,c6,H⟩;obtain⟨t,Q,e1,o,d7⟩:=BF c6 (P.o.trans (H.mono P.o.size)) (show Ses A _ R e.led.kept from aD e0.o H) (a6.o.below H a6.o.lt) V;clear c6 H V e6 e7 T W;have d6:=zH (λM i=>(C.o.le.ok M i).bX);generalize e.led.kept=d at*
 obtain⟨c9,d0,d1,d2⟩:=o.o.c2;have b8:=o.o.lt;by_cases n:(100000:Int)<f
 .have b1:decide ((100000:Int)<(f:Int))=true:=bM n
  clear n;go_wp2;refine iZ 4 80 j #[.pointer none,pT b] kR kR ((o.o.bF 0 _).bF 1 _) _ Tryz.underlying80 kR kR rfl ?_;have f0:=Z.o;(have g:b≠j:=λx=>by have l:=t.o;have m:=o.o;rw[x]at l;unfold Blk at l m;rw[l]at m;cases m);exact⟨b,rfl,⟨_,_,[],λ_=>True,⟨none,0,(t.o.far g _).far g _,Row.WH,av _⟩,jV _,oM,oM,λM i=>by cases i⟩,bG (bG Q.o (show w.heap.size<=j by omega) _) (show w.heap.size<=j by omega) _⟩
 .have b1:decide ((100000:Int)<(f:Int))=false:=bJ n
  have e8:decide ((f:Int)<(d.length:Int))=false:=bJ oM;have e9:decide (f<d.length)=false:=bJ oM;obtain⟨d5,d4⟩:=yx I n;clear I n;go_upto_region 5 with fail;have I:=d5.o;have n:=d4.o;clear b1 e8 e9;obtain⟨a,c1⟩:∃a:Nat,a=f -d.length:=⟨_,rfl⟩;have c2:(f:Int) -d.length=(a:Int):=oM;(have h8:IntKind.i64.wrap ((f:Int) -d.length)=(a:Int):=by rw[c2];exact eP _ ⟨oM,oM⟩);have h7:a<=100000:=oM;have h9:(f:Int)<9223372036854775808:=oM;obtain⟨g4,f5,g1,g2,g3⟩:=info_parts (show(prog.info? 177).map (λX=>(X.zero,X.size,X.bytes))=some (some (.agg #[uI 0,uI 0,uI 0,uI 0,uI 0,bV false,bV false,jI 0]),8,56) by kernel_rfl);obtain⟨h5,h2,i1⟩:=FX t.o.lt d7.o Q.o.size;have g7:=zH c1;clear c2 c1 n I c9 d0 d1 d2 b8;go_wp2_with (first|(at_builtin;refine pZ.jO rfl (.tmp 35) (.tmp 36) rfl (some ⟨A.heap.size,0,none⟩) a (List.replicate a seZ) XG d8.o R e5 d (by rfl) (aD e1.o s.o) sO dC ?_;intro r u g6 c3 J f4;have a1:=zH c3;have y:=(t.o.below s.o t.o.lt).mod J dC;have a3:=zH y;have K:=(o.o.below s.o o.o.lt).mod J dC;have a4:=zH K;have d3:=zH (J.cZ (B:=A.heap.size) s.o.size (λk U x=>by have:=x.1;omega));have g8:=y.cell 2;have g9:=y.frozen 2;have h0:=y.lt;obtain⟨c9,d0,d1,d2⟩:=K.c2;have b8:=K.lt;have g:¬(j=b):=(λx=>by have l:=a3.o;have m:=a4.o;rw[<-x]at l;unfold Blk at l m;rw[l]at m;cases m);clear c3 J f4 y K)|(at_make;refine wpList_make_full _ rfl (.tmp 34) (.tmp 34) 87 rfl A.heap.size 177 g4 (.agg #[uI 0,uI 0,uI 0,uI 0,uI 0,bV false,bV false,jI 0]) 8 Tryz.underlying87 f5 g1 g2 .i64 .i64 (a:Int) (a:Int) a (by rfl) (by rfl) rfl rfl (by rw[g3];omega) (by simp only[maxLen];omega) (av _) ?_;intro g5 c4 b7;have b5:bW A g5:=(aj _ _).grown b7 (av _) (λh1 f3=>by cases f3);have d8:=zH (KM c4);have s:=zH b5;clear c4 b7 b5))
  obtain⟨b3,f2,f8⟩:=FX a3.o a4.o a1.o.row;have c0:(List.replicate a seZ++d).length=a+d.length:=sM;have f0:=Z.o;(have f1:Blk (g6.setCell ⟨b,2,none⟩ (.slice r (a+d.length) u)) b 166 #[jI (max 4 (min c.ring 256)),uI (min c.dO 4611686018427387903),.slice r (List.replicate a seZ++d).length u]:=by rw[c0];exact b3.bF 2 _);have b4:=f2.far (p:=⟨b,2,none⟩) g (.slice r (a+d.length) u);have f9:=Row.S9 (t':=166) f8 b3 dC [.slice r (a+d.length) u] 2;have g0:=Row.S9 (t':=80) f9 b4 dC [.pointer none,pT b] 0;refine iZ 4 80 j #[.pointer none,pT b] kR kR ((b4.bF 0 _).bF 1 _) _ Tryz.underlying80 kR kR rfl ?_;refine⟨b,rfl,⟨_,_,List.replicate a seZ++d,_,⟨r,u,(f1.far (λh=>g h.symm) _).far (λh=>g h.symm) _,g0,a1.o.cap_⟩,by rw[c0];omega,oM,oM,λM i=>?_⟩,?_⟩
  .rcases WB.1 i with i|i
   .rw[List.eq_of_mem_replicate i];exact⟨dC,dC⟩
   .exact d6.o M i
  .have b2:=Q.o
   have V:=P.o.size;exact bG (bG (bG (b2.trans ((s.o.trans d3.o).mono b2.size)) (show w.heap.size<=b by omega) _) (show w.heap.size<=j by omega) _) (show w.heap.size<=j by omega) _
attribute[local go_sem] BW.cell BW.frozen
def stV (s:St):Array Value:= #[jI s.aS,uI s.now,uI s.cr,uI s.dL,uI s.jS,uI s.bK,uI s.gU,uI s.next,uI s.low,uI s.fG,uI s.gP,uI s.dh.dB,uI s.dh.eT,uI s.dh.fI,uI s.dh.bE,uI s.dh.late]
section
variable {own iU:Nat->Nat} {w W W':World} {p k k':Nat} {r:Wp} {x x':Wo}
theorem dD.via (h:dD own w p r k x W) (b:∀k,k<w.heap.size->iU k=own k) (g:dD iU W p r k' x' W'):dD own w p r k' x' W':=by
 obtain⟨⟨i,c,d⟩,e⟩:=g;have j:=h.m.size;exact⟨⟨i,λk a=>(c k oM).trans (b k a),d⟩,h.m.then e (λk a f=>by rw[<-b k a];exact f)⟩
theorem dD.row {size n:Nat} {a:X5} {xs:List Value} (h:dD own w p r k x W) (b:Row w (λk=>4<own k) t size a n xs):Row W (λk=>4<own k) t size a n xs:=
 aG b (ts:=[some t]) (h.m.iD (λk c d=>by omega)) sM
theorem dD.put (h:dD own w p r k x W) (q:n<1000000000) (t:vY n x.back) {d:X4} {a:X5} (c:Nat) {b:List Int} (hb:Bys W d a b) (j:b.length<=100000) (l:dP b) (u:Word x.now):
  Yk 39 #[(pT r.b),.slice a b.length c,uI x.now] W λe g=>e=.returned (.tuple #[])/\dD own w p r k {x with back:=qD x.back b x.now} g:=by
 obtain⟨iU,i,f⟩:=h.ex;refine(El n q (Own W iU 4) d r.b x.back a c b x.now W f.b t hb j l u qX).mono ?_;rintro e g ⟨m,s,o⟩;exact⟨m,h.via i (f.onB (λ_ h=>h) s o (by simp[woT,puT]))⟩
theorem dD.putA (h:dD own w p r k x W) (q:n<1000000000) (t:vY n x.ahead) {d:X4} {a:X5} (c:Nat) {b:List Int} (hb:Bys W d a b) (j:b.length<=100000) (l:dP b) (u:Word x.now):
  Yk 39 #[(pT r.a),.slice a b.length c,uI x.now] W λe g=>e=.returned (.tuple #[])/\dD own w p r k {x with ahead:=qD x.ahead b x.now} g:=by
 obtain⟨iU,i,f⟩:=h.ex;refine(El n q (Own W iU 3) d r.a x.ahead a c b x.now W f.a t hb j l u qX).mono ?_;rintro e g ⟨m,s,o⟩;exact⟨m,h.via i (f.onA (λ_ h=>h) s o (by simp[woT,puT]))⟩
theorem dD.on (h:dD own w p r k x W) (o:dG n x.en) (s:n<=90000000) {d:X4} {a:X5} (c:Nat) {b:List Int} (hb:Bys W d a b) (j:b.length<=100000) (l:dP b) (u:Word x.now):
  Yk 20 #[(pT r.e),.slice a b.length c,uI x.now] W λe g=>e=.returned (.agg #[jI (lU x.en b x.now).ver.kind,jI (lU x.en b x.now).ver.why,uI (lU x.en b x.now).ver.pn,bV (lU x.en b x.now).ver.dU])/\dD own w p r k {x with en:=(lU x.en b x.now).en} g:=by
 obtain⟨iU,i,f⟩:=h.ex;refine(GI n (Own W iU 1) d r.e x.en a c b x.now W f.e o s qX u hb (by omega) l).mono ?_;rintro e g ⟨m,t,q⟩;exact⟨m,h.via i (f.onE (λ_ h=>h) t q (by simp[woT,onT]))⟩
theorem dD.tick (h:dD own w p r k x W) (f:dG n x.en) (j:Word x.now):
  Yk 23 #[(pT r.e),uI x.now] W λa c=>a=.returned (.tuple #[])/\dD own w p r k {x with en:=kr x.en x.now} c:=by
 obtain⟨iU,d,b⟩:=h.ex;refine(Ay n (Own W iU 1) r.e x.en x.now W b.e f qX j).mono ?_;rintro a c ⟨e,i,g⟩;exact⟨e,h.via d (b.onE (λ_ h=>h) i g (by simp[woT,jC]))⟩
theorem dD.write (h:dD own w p r k x W) (o:dG n x.en) {d:X4} {a:X5} {b:List Int} (hb:Bys W d a b) (j:b.length<=c) (l:b.length<=1000000000):
  Yk 17 #[(pT r.e),.slice a b.length c] W λe g=>e=.returned (.tuple #[jI (fU x.en b).n,jI (fU x.en b).err])/\dD own w p r k {x with en:=(fU x.en b).en} g:=by
 obtain⟨iU,i,f⟩:=h.ex;refine(Cz n (Own W iU 1) d r.e x.en a b c W f.e o hb j l).mono ?_;rintro e g ⟨m,s,q⟩;exact⟨m,h.via i (f.onE (λ_ h=>h) s q (by simp[woT]))⟩
theorem dD.close (h:dD own w p r k x W) (f:dG n x.en):
  Yk 36 #[(pT r.e)] W λa c=>a=.returned (jI (kF x.en).err)/\dD own w p r k {x with en:=(kF x.en).en} c:=by
 obtain⟨iU,d,b⟩:=h.ex;refine(Lh n (Own W iU 1) r.e x.en W b.e f).mono ?_;rintro a c ⟨e,i,g⟩;exact⟨e,h.via d (b.onE (λ_ h=>.inl h) i g (by simp[woT]))⟩
theorem dD.poll (h:dD own w p r k x W) (m:dG n x.en) (q:n<=80000000) (t:Word x.now):
  Yk 37 #[(pT r.e),uI x.now] W λd c=>∃a b,d=.returned (.tuple #[.slice a (fD x.en x.now).b.length b,jI (fD x.en x.now).err])/\(fD x.en x.now).b.length<=b/\Bys c (λ_=>True) a (fD x.en x.now).b/\dD own w p r k {x with en:=(fD x.en x.now).en} c:=by
 obtain⟨iU,g,e⟩:=h.ex;refine(EU n (Own W iU 1) r.e x.en x.now W e.e m q qX t).mono ?_;rintro d c ⟨a,b,u,l,j,v,f,y,s,i,o⟩;exact⟨a,b,l,j,aF i (λ_ _=>trivial),h.via g (e.onE f s o (by simp[woT,sdT]))⟩
theorem dD.take (h:dD own w p r k x W) (o:jN n 32 32 x.pe) (t:n<=600000) (q:k<=1000000000) {e:X4} {a:X5} (c:Nat) {b:List Int} (hb:Bys W e a b) (j:b.length<=100000) (l:dP b) (v:Word x.now):
  Yk 86 #[(pT r.pe),.slice a b.length c,uI x.now] W λf d=>∃a c,f=.returned (.tuple #[.slice a (oN x.pe b x.now).b.length c,bV (oN x.pe b x.now).ok])/\Bys d (λ_=>True) a (oN x.pe b x.now).b/\dD own w p r (k+1) {x with pe:=(oN x.pe b x.now).pe} d:=by
 obtain⟨iU,i,g⟩:=h.ex;refine(KG (Own W iU 2) e r.pe k n x.pe a c b x.now W g.pe o t q qX hb j l v).mono ?_;rintro f d ⟨a,c,m,y,hb,u,s⟩;exact⟨a,c,m,aF hb (λ_ _=>trivial),h.via i (g.onP (λ_ h=>h) u s (by simp[woT,peT]))⟩
theorem dD.ptick (h:dD own w p r k x W) (j:jN n 32 32 x.pe):
  Yk 87 #[(pT r.pe),uI x.now] W λd c=>∃a b,d=.returned (.tuple #[.slice a (kK x.pe x.now).b.length b,bV (kK x.pe x.now).ok])/\Bys c (λ_=>True) a (kK x.pe x.now).b/\dD own w p r k {x with pe:=(kK x.pe x.now).pe} c:=by
 obtain⟨iU,f,e⟩:=h.ex;refine(KF (Own W iU 2) r.pe k n x.pe x.now W e.pe j qX).mono ?_;rintro d c ⟨a,b,i,o,g,m,l⟩;exact⟨a,b,i,aF g (λ_ _=>trivial),h.via f (e.onP (λ_ h=>.inl h) m l (by simp[woT,peT]))⟩
theorem iW.QY (g:iW w own p r k x) (A:n<=1000000000) (y:x.ahead.items.length<=2*n+1) (E:∀a∈x.ahead.items,Word a.iat/\a.b.length<=100000) (B:Word x.now):
  Yk 84 #[(pT r.a),uI x.now] w λo d=>∃f i,∃b:List Bv,o=.returned (.slice f b.length i)/\b.map (·.b)=iy x.now x.ahead.items/\Row d (λk=>4<ext w own 9 k) 47 1 f b.length (b.flatMap bvV)/\(∀a∈b,Bys d (λk=>4<ext w own 9 k) a.a a.b/\a.b.length<=a.c)/\iW d (ext w own 9) p r k {x with ahead:={x.ahead with items:=iH x.now x.ahead.items}}/\Mod (λk=>own k<=4) woT w d:=by
 refine(BQ n A (Own w own 3) r.a x.ahead x.now w g.a y E B qX).mono ?_;rintro o d ⟨f,i,b,u,z,C,s,D,j⟩;have e:=j.size;have c:∀l,l≠3->∀m,bQ (Own w own l) m w d:=λl v m=>iW.keeps j v m;(have q:∀k,w.heap.size<=k->4<ext w own 9 k:=λk c=>by rw[uG c];decide);exact⟨f,i,b,u,z,aF C.row q,λa t=>⟨aF (s a t).1 q,(s a t).2⟩,⟨((g.l.keep (c 0 dC _)).mono (λ_=>fw e)).of rfl rfl rfl rfl rfl rfl,(g.e.keep (c 1 dC _)).mono (λ_=>fw e),(g.pe.keep (ts:=uV) (c 2 dC _) (λ_ h=>h)).mono (λ_=>fw e),
  D.mono (λ_=>fw e),(g.b.keep (ts:=[some 218,some 187,some 222,some 5]) (c 4 dC _) sM sM sM sM).mono (λ_=>fw e)⟩,Xc j dC (by simp[woT])⟩
theorem iW.QX (g:iW w own p r k x) (A:n<=1000000000) (y:x.back.items.length<=2*n+1) (E:∀a∈x.back.items,Word a.iat/\a.b.length<=100000) (B:Word x.now):
  Yk 84 #[(pT r.b),uI x.now] w λo d=>∃f i,∃b:List Bv,o=.returned (.slice f b.length i)/\b.map (·.b)=iy x.now x.back.items/\Row d (λk=>4<ext w own 9 k) 47 1 f b.length (b.flatMap bvV)/\(∀a∈b,Bys d (λk=>4<ext w own 9 k) a.a a.b/\a.b.length<=a.c)/\iW d (ext w own 9) p r k {x with back:={x.back with items:=iH x.now x.back.items}}/\Mod (λk=>own k<=4) woT w d:=by
 refine(BQ n A (Own w own 4) r.b x.back x.now w g.b y E B qX).mono ?_;rintro o d ⟨f,i,b,u,z,C,s,D,j⟩;have e:=j.size;have c:∀l,l≠4->∀m,bQ (Own w own l) m w d:=λl v m=>iW.keeps j v m;(have q:∀k,w.heap.size<=k->4<ext w own 9 k:=λk c=>by rw[uG c];decide);exact⟨f,i,b,u,z,aF C.row q,λa t=>⟨aF (s a t).1 q,(s a t).2⟩,⟨((g.l.keep (c 0 dC _)).mono (λ_=>fw e)).of rfl rfl rfl rfl rfl rfl,(g.e.keep (c 1 dC _)).mono (λ_=>fw e),(g.pe.keep (ts:=uV) (c 2 dC _) (λ_ h=>h)).mono (λ_=>fw e),
  (g.a.keep (ts:=[some 218,some 187,some 222,some 5]) (c 3 dC _) sM sM sM sM).mono (λ_=>fw e),D.mono (λ_=>fw e)⟩,Xc j dC (by simp[woT])⟩
end
theorem MI (own:Nat->Nat) (w W:World) (p k n:Nat) (r:Wp) (x:Wo) (F:X4) (a:X5) (c:Nat) (b:List Int) (e:Bool) (h:dD own w p r k x W) (u:n<1000000000) (v:vY n x.back) (hb:Bys W F a b) (o:b.length<=100000) (q:dP b) (z:Word x.now):
  Yk 85 #[pT p,.slice a b.length c,bV e] W λj f=>j=.returned (.tuple #[])/\dD own w p r k (if e&& !x.mute then{x with back:=qD x.back b x.now}else x) f:=by
 obtain⟨I,L,J,M,K,N,d⟩:=h.blk;obtain⟨G,O,P⟩:=d.e3 5 3 4;have Q:=d.lt;obtain⟨g,i⟩:=yx h (λf (s:bW W f)=>(h.below s).put u v c (aD hb s) o q z);clear h d v hb o q z u;obtain⟨C,A⟩:∃C:Wo,C={x with back:=qD x.back b x.now}:=⟨_,rfl⟩;rw[<-A]at i|-;obtain⟨H,t⟩:=eX x.mute;rw[<-t]at G|-;clear t A;cases e with
 |false=>
  go_enter Tryz.func85,Tryz.ntmps85;go_wp2;refine mE ?_;exact⟨rfl,g.o⟩
 |true=>
  cases H with
  |true=>
   go_enter Tryz.func85,Tryz.ntmps85;go_wp2;refine mE ?_;exact⟨rfl,g.o⟩
  |false=>
   go_enter Tryz.func85,Tryz.ntmps85;go_wp2;refine dQ 9 kR kR ?_;refine mB ?_;refine bwI ?_;intro B l;have m:bW W B:=l;have D:=zH (i.o B m);clear l m;refine dA rfl rfl ?_;go_simp;go_at_call 39;refine(D.o).mono ?_;rintro j R ⟨rfl,y⟩;have E:=zH y;clear y;go_simp;refine mR ?_;go_wp2;refine mE ?_;exact⟨rfl,E.o⟩
def woK:List (Option TypeId):=[some 110,some 115,some 201,some 47,some 5,some 154,some 232,some 234,some 272,some 236,some 177,some 256,some 314,some 30,some 226,none,some 203,some 218,some 187,some 222]
section
variable {own iU:Nat->Nat} {w W W':World} {p k k':Nat} {r:Wp} {x x':Wo}
theorem dD.loc (h:dD own w p r k x W) {F:X4} {T:X8} (d:Mod F T W W') (i:∀j∈woK,j∉T) (g:∀k,F k->w.heap.size<=k):dD own w p r k x W':=by
 obtain⟨iU,f,b⟩:=h.ex;have c:=d.size;have l:=h.m.size;have a:∀e,bQ e woK W W':=λe=>d.aM i;exact⟨⟨ext W iU 9,λk a=>(nE oM).trans (f k a),⟨(b.l.keep ((a _).mono (λ_ h=>h) (by simp[woK]))).mono (λ_=>fw c),(b.e.keep ((a _).mono (λ_ h=>h) (by simp[woK,enT]))).mono (λ_=>fw c),(b.pe.keep (ts:=woK) (a _) (by simp[woK,uV])).mono (λ_=>fw c),
  (b.a.keep (a _) (by simp[woK]) (by simp[woK]) (by simp[woK]) (by simp[woK])).mono (λ_=>fw c),(b.b.keep (a _) (by simp[woK]) (by simp[woK]) (by simp[woK]) (by simp[woK])).mono (λ_=>fw c)⟩⟩,h.m.nA d g⟩
theorem dD.onM (h:dD own w p r k x W) (q:dG n x.en) (s:n<=90000000) {tb:TypeId} {d:X4} {a:X5} (c:Nat) {b:List Int} (hb:Byt tb W d a b) (l:b.length<=140737488355328) (m:dP b) (v:Word x.now) (u:tb≠154\/¬d r.e:=by exact .inl dC):
  Yk 20 #[(pT r.e),.slice a b.length c,uI x.now] W λf e=>f=.returned (.agg #[jI (lU x.en b x.now).ver.kind,jI (lU x.en b x.now).ver.why,uI (lU x.en b x.now).ver.pn,bV (lU x.en b x.now).ver.dU])/\dD own w p r k {x with en:=(lU x.en b x.now).en} e/\Mod (λ_=>True) woT W e:=by
 obtain⟨iU,j,g⟩:=h.ex;refine(GI n (Own W iU 1) d r.e x.en a c b x.now W g.e q s qX v hb l m u).mono ?_;rintro f e ⟨o,t,i⟩;exact⟨o,h.via j (g.onE (λ_ h=>h) t i (by simp[woT,onT])),i.mono (λ_ _ _=>trivial) (by simp[woT,onT])⟩
theorem dD.c04 (h:dD own w p r k x W):W.cell? ⟨p,0,none⟩=some ((pT r.e))/\W.cell? ⟨p,4,none⟩=some (uI x.now)/\p<W.heap.size:=by
 obtain⟨b,e,c,f,d,g,a⟩:=h.blk;exact⟨a.cell 0,a.cell 4,a.lt⟩
theorem dD.packP (h:dD own w p r k x W):∃z A,∃g:List Six,∃j o,g.length=x.fu/\Blk W p 110 j/\j.size=10/\j[7]?=some (.slice z g.length A)/\j[4]?=some (uI x.now)/\OwnAt W o 115 6 z g.length A (g.flatMap (·.1))/\
  ∀(l a:World) (b:Six) (d:X5) (e:Nat),bW W l->OwnAt a (grow o l a) 115 6 d (g++[b]).length e ((g++[b]).flatMap (·.1))->Mod o [some 115] l a->
   Blk a p 110 j/\dD own w p r k {x with fu:=x.fu+1} (a.setCell ⟨p,7,none⟩ (.slice d (g++[b]).length e)):=by
 obtain⟨iU,N,q⟩:=h.ex;have v:=q.l.mem;obtain⟨H,K,I,L,J,M,i,a1,a3,B,P,Q,S,C,D,U,V⟩:=q.l.ex;refine⟨H,K,i,_,Own W iU 0,D,B,rfl,rfl,rfl,P,?_⟩;intro l a b d e t a0 u;have a5:=t.size;have a6:=u.size;have n:bQ (Own W iU 0) [some 110,some 201,some 47,some 5] W a:=(bQ.below t).trans (u.aM dC);have s:=B.keep n v sM;refine⟨s,?_⟩;have F:Mod (Own W iU 0) [some 110] a (a.setCell ⟨p,7,none⟩ (.slice d (i++[b]).length e)):=(aV _ _ a).setCell s (λ_=>v) sM 7 _;(have a4:(a.setCell ⟨p,7,none⟩ (.slice d (i++[b]).length e)).heap.size=a.heap.size:=by simp[World.setCell]);have Y:=s.bF 7 (.slice d (i++[b]).length e);generalize a.setCell ⟨p,7,none⟩ (.slice d (i++[b]).length e)=f at*
 have m:∀y,bQ y [some 115,some 201,some 47,some 5] a f:=λy=>F.aM dC;have O:∀k,grow (Own W iU 0) W a k->grow (Own W iU 0) W f k:=λk c=>c.imp id (λb=>⟨b.1,by have:=b.2;omega⟩);have X:=(a0.keep (m _) sM).mono (S':=grow (Own W iU 0) W f) (λk c=>c.elim (λb=>.inl b) (λb=>.inr ⟨oM,oM⟩));have R:=((Q.keep n sM).keep (m _) sM).mono (S':=grow (Own W iU 0) W f) (λk c=>.inl c);have T:=((S.keep n sM).keep (m _) sM).mono (S':=grow (Own W iU 0) W f) (λk c=>.inl c);have Z:WoL f (grow (Own W iU 0) W f) p r {x with fu:=x.fu+1}:=
  ⟨⟨d,e,I,L,J,M,i++[b],a1,a3,Y,X,R,T,λG E=>⟨aF (aG (aG (C G E).1 n sM) (m _) sM) (λk c=>O _ (.inl c)),(C G E).2⟩,by rw[aU,D];rfl,U,V⟩,.inl v⟩
 have a2:Mod (Own W iU 0) [some 110,some 115] W f:=((aH t).then (u.mono (λ_ _ h=>h) sM) (λ_ _ h=>h)).trans (F.mono (λ_ _ h=>h) sM);exact h.via N (q.onL (λ_ h=>h) Z a2 (by simp[woT]) rfl rfl rfl rfl)
theorem dD.heardP (h:dD own w p r k x W):∃z A,∃g:List Six,∃j o,g.length=x.heard/\Blk W p 110 j/\j.size=10/\j[8]?=some (.slice z g.length A)/\j[4]?=some (uI x.now)/\OwnAt W o 201 6 z g.length A (g.flatMap (·.1))/\
  ∀(l a:World) (b:Six) (d:X5) (e:Nat),bW W l->OwnAt a (grow o l a) 201 6 d (g++[b]).length e ((g++[b]).flatMap (·.1))->Mod o [some 201] l a->
   Blk a p 110 j/\dD own w p r k {x with heard:=x.heard+1} (a.setCell ⟨p,8,none⟩ (.slice d (g++[b]).length e)):=by
 obtain⟨iU,O,q⟩:=h.ex;have v:=q.l.mem;obtain⟨H,K,I,L,J,M,N,i,a3,B,Q,S,T,C,V,D,X⟩:=q.l.ex;refine⟨I,L,i,_,Own W iU 0,D,B,rfl,rfl,rfl,S,?_⟩;intro l a b d e t a1 u;have a5:=t.size;have a6:=u.size;have n:bQ (Own W iU 0) [some 110,some 115,some 47,some 5] W a:=(bQ.below t).trans (u.aM dC);have s:=B.keep n v sM;refine⟨s,?_⟩;have F:Mod (Own W iU 0) [some 110] a (a.setCell ⟨p,8,none⟩ (.slice d (i++[b]).length e)):=(aV _ _ a).setCell s (λ_=>v) sM 8 _;(have a4:(a.setCell ⟨p,8,none⟩ (.slice d (i++[b]).length e)).heap.size=a.heap.size:=by simp[World.setCell]);have Z:=s.bF 8 (.slice d (i++[b]).length e);generalize a.setCell ⟨p,8,none⟩ (.slice d (i++[b]).length e)=f at*
 have m:∀y,bQ y [some 115,some 201,some 47,some 5] a f:=λy=>F.aM dC;have P:∀k,grow (Own W iU 0) W a k->grow (Own W iU 0) W f k:=λk c=>c.imp id (λb=>⟨b.1,by have:=b.2;omega⟩);have Y:=(a1.keep (m _) sM).mono (S':=grow (Own W iU 0) W f) (λk c=>c.elim (λb=>.inl b) (λb=>.inr ⟨oM,oM⟩));have R:=((Q.keep n sM).keep (m _) sM).mono (S':=grow (Own W iU 0) W f) (λk c=>.inl c);have U:=((T.keep n sM).keep (m _) sM).mono (S':=grow (Own W iU 0) W f) (λk c=>.inl c);have a0:WoL f (grow (Own W iU 0) W f) p r {x with heard:=x.heard+1}:=
  ⟨⟨H,K,d,e,J,M,N,i++[b],a3,Z,R,Y,U,λG E=>⟨aF (aG (aG (C G E).1 n sM) (m _) sM) (λk c=>P _ (.inl c)),(C G E).2⟩,V,by rw[aU,D];rfl,X⟩,.inl v⟩
 have a2:Mod (Own W iU 0) [some 110,some 201] W f:=((aH t).then (u.mono (λ_ _ h=>h) sM) (λ_ _ h=>h)).trans (F.mono (λ_ _ h=>h) sM);exact h.via O (q.onL (λ_ h=>h) a0 a2 (by simp[woT]) rfl rfl rfl rfl)
theorem dD.sentP (h:dD own w p r k x W):∃A B,∃g:List Bv,∃m s,g.length=x.sent/\Blk W p 110 m/\m.size=10/\m[9]?=some (.slice A g.length B)/\m[4]?=some (uI x.now)/\OwnAt W s 47 1 A g.length B (g.flatMap bvV)/\
  ∀(i b:World) (a:Bv) (d:X5) (e:Nat),bW W i->Bys i (λk=>W.heap.size<=k/\k<i.heap.size) a.a a.b->a.b.length<=a.c->a.b.length<=100000->OwnAt b (grow s i b) 47 1 d (g++[a]).length e ((g++[a]).flatMap bvV)->Mod s [some 47] i b->
   Blk b p 110 m/\dD own w p r k {x with sent:=x.sent+1} (b.setCell ⟨p,9,none⟩ (.slice d (g++[a]).length e)):=by
 obtain⟨iU,O,t⟩:=h.ex;have y:=t.l.mem;obtain⟨H,K,I,L,J,M,N,a2,l,C,Q,S,U,D,V,X,E⟩:=t.l.ex;refine⟨J,M,l,_,Own W iU 0,E,C,rfl,rfl,rfl,U,?_⟩;intro i b a d e v a3 a4 a5 a1 o;have a8:=v.size;have a9:=o.size;have q:bQ (Own W iU 0) [some 110,some 115,some 201,some 5] W b:=(bQ.below v).trans (o.aM dC);have u:=C.keep q y sM;refine⟨u,?_⟩;have F:Mod (Own W iU 0) [some 110] b (b.setCell ⟨p,9,none⟩ (.slice d (l++[a]).length e)):=(aV _ _ b).setCell u (λ_=>y) sM 9 _;(have a7:(b.setCell ⟨p,9,none⟩ (.slice d (l++[a]).length e)).heap.size=b.heap.size:=by simp[World.setCell]);have Z:=u.bF 9 (.slice d (l++[a]).length e);generalize b.setCell ⟨p,9,none⟩ (.slice d (l++[a]).length e)=f at*
 have n:∀z,bQ z [some 115,some 201,some 47,some 5] b f:=λz=>F.aM dC;have P:∀k,grow (Own W iU 0) W b k->grow (Own W iU 0) W f k:=λk c=>c.imp id (λa=>⟨a.1,by have:=a.2;omega⟩);have Y:=(a1.keep (n _) sM).mono (S':=grow (Own W iU 0) W f) (λk c=>c.elim (λa=>.inl a) (λa=>.inr ⟨oM,oM⟩));have R:=((Q.keep q sM).keep (n _) sM).mono (S':=grow (Own W iU 0) W f) (λk c=>.inl c);have T:=((S.keep q sM).keep (n _) sM).mono (S':=grow (Own W iU 0) W f) (λk c=>.inl c);have a0:WoL f (grow (Own W iU 0) W f) p r {x with sent:=x.sent+1}:=
  ⟨⟨H,K,I,L,d,e,N,a2,l++[a],Z,R,T,Y,λG j=>by
    rcases WB.1 j with j|j
    .exact⟨aF (aG (aG (D G j).1 q sM) (n _) sM) (λk c=>P _ (.inl c)),(D G j).2⟩
    .obtain rfl:=dZ.1 j
     exact⟨aF (aG (aG a3 (o.aM (ts:=[some 5]) dC) sM) (n _) sM) (λk c=>.inr ⟨oM,oM⟩),a4,a5⟩,V,X,by rw[aU,E];rfl⟩,.inl y⟩
 have a6:Mod (Own W iU 0) [some 110,some 47] W f:=((aH v).then (o.mono (λ_ _ h=>h) sM) (λ_ _ h=>h)).trans (F.mono (λ_ _ h=>h) sM);exact h.via O (t.onL (λ_ h=>h) a0 a6 (by simp[woT]) rfl rfl rfl rfl)
end
theorem Ii {t e b:Nat} {z:Value} (j:prog.underlying t=some (.slice e)) (i:(prog.info? e).map (λa=>(a.zero,a.size,a.bytes))=some (some z,6,b)) (l:z.cells.size=6):Elem prog t e 6 b (λx:Six=>x.1):=
 ⟨j,by
  obtain⟨a,c,d,f,g⟩:=info_parts i;exact⟨a,_,c,d,f,g,l⟩,dC,λx=>x.2.1,λx=>x.2.2⟩
abbrev YA (x:Wo) (v:Ve) (b:List Int) (aa:X5) (cc:Nat):Six:=⟨[.slice aa b.length cc,uI x.now,jI v.kind,jI v.why,uI v.pn,bV v.dU],rfl,by simp[Value.oneCell']⟩
theorem WS:Elem prog 108 201 6 64 (λb:Six=>b.1):=Ii kR (z:=.agg #[zzN,uI 0,jI 0,jI 0,uI 0,bV false]) kR rfl
section
variable {P:Program} {Q:X7} {a:Act} {w:World}
theorem yI {l:List Oper} (F:Option Addr->Nat->Nat->Option Addr->Nat->Act) (C:World->Prop) (i:∀c f e d g b,C b->Q .normal (F c f e d g) b) (h:(∀c f e d g b,C b->Q .normal (F c f e d g) b)->(Code.region p l.toArray true).wp P Q a w):(Code.region p l.toArray true).wp P Q a w:=h i
end
theorem DF {tb:TypeId} (X:Nat->Nat) (w:World) (p k n:Nat) (m:Wp) (x:Wo) (a:X5) (c:Nat) (b:List Int) (h:iW w X p m k x) (W:dG n x.en) (g1:n<=90000000) (j5:x.heard<=1000000000) (hb:Byt tb w (λk=>4<X k) a b) (f2:b.length<=140737488355328) (f3:dP b) (g3:Word x.now):
  Yk 35 #[pT p,.slice a b.length c] w λi4 N=>i4=.returned (.tuple #[])/\dD X w p m k (je x b) N:=by
 (have g2:¬(4<X m.e):=λm0=>by have:=h.e.mem.2;omega);obtain⟨d7,e0,b0,e1⟩:=Bq (dD.refl h) W hb f3;obtain⟨e6,e7,j9⟩:=(dD.refl h).c04;obtain⟨d,g6⟩:=eX ((lU x.en b x.now).ver);have e2:=zH g6;clear h W hb f3 g6;go_enter Tryz.func35,Tryz.ntmps35;go_upto_region 0 with fail;refine' uf (F:=_) (λT a6=>X3 (dD X w p m k {x with en:=(lU x.en b x.now).en} a6)/\X3 (Blk a6 T 74 #[jI d.kind,jI d.why,uI d.pn,bV d.dU])/\w.heap.size<=T) ?tl (λO=>?mn);case mn=>
  have q:bW w w.drew:=bA (aj _ _);have a4:=zH (d7.o.below q);have f4:w.drew.cell? ⟨p,0,none⟩=some ((pT m.e)):=e6;have o:w.drew.cell? ⟨p,4,none⟩=some (uI x.now):=e7;refine aZ (S:=λN=>N.cell? ⟨p,0,none⟩=some ((pT m.e))/\N.cell? ⟨p,4,none⟩=some (uI x.now)) kR (⟨f4,o⟩) (λc5=>?_);clear c5;have e:w.drew.cell? ⟨p,0,none⟩=some ((pT m.e))/\w.drew.cell? ⟨p,4,none⟩=some (uI x.now):=⟨f4,o⟩;refine tK 0 5 e ?_;refine tK 1 6 e ?_;refine tK 2 7 e ?_;refine X6 3 8 e ?_ (y:=by intro h4 I;have a3:=I.1;exact gS);refine nrm 12 15 ?_;refine tK 4 9 e ?_;refine tK 5 10 e ?_;refine tK 6 11 e ?_;refine tK 7 12 e ?_;refine nrm 12 255 ?_;refine X6 8 13 e ?_ (y:=by intro h4 I;have a3:=I.2;exact gS);refine nrm 12 511 ?_;refine fo 9 10 kR ?_ ?_
  .refine opC 14 20 #[(pT m.e),.slice a b.length c,uI x.now] ((a4.o.onM e0.o g1 c (a4.o.row b0.o) f2 e1.o g3 (.inr g2)).mono ?_)
   rintro i5 h5 ⟨K,L,a9⟩;have a5:=zH L;obtain⟨j,l,_⟩:=L.c04;have i9:h5.cell? ⟨p,0,none⟩=some ((pT m.e))/\h5.cell? ⟨p,4,none⟩=some (uI x.now):=⟨j,l⟩;rw[<-e2.o]at K;refine⟨_,K,i9,?_⟩;clear K L a9 j l;refine mP ?_;refine aI 10 kR ?_;refine opA 4 74 #[jI 0,jI 0,uI 0,bV false] ?_;intro b8 i0 g B c7;have d9:=zH (a5.o.below g);obtain⟨j,l,_⟩:=d9.o.c04;have j0:i0.cell? ⟨p,0,none⟩=some ((pT m.e))/\i0.cell? ⟨p,4,none⟩=some (uI x.now):=⟨j,l⟩;have f7:w.heap.size<=b8:=ay a5.o.m.size B;refine⟨j0,?_⟩;clear j l;clear g B;refine mP ?_;have a2:=Mod.bZ [jI d.kind,jI d.why,uI d.pn,bV d.dU] 0 _ _ c7;have M:=d9.o.loc a2 dC (λk W=>by rw[W];exact f7);obtain⟨j,l,_⟩:=M.c04;have e8:=And.intro j l;refine dJ (i:=11) 74 (.tmp 4) (.tmp 14) b8 0 #[jI d.kind,jI d.why,uI d.pn,bV d.dU] rfl kR kR kR kR kR kR (c7.there _ sM) kR XF (e8) ?_;intro k7 g9;have g7:=Blk.gF c7 [jI d.kind,jI d.why,uI d.pn,bV d.dU] rfl;rw[<-show k7=_ from g9]at g7 e8 M;have i1:=zH M;clear g9 a2 j l;refine mP ?_;refine bg kR ?_ _;exact O b8 _ ⟨i1,zH g7,f7⟩
  .refine opA 4 74 #[jI 0,jI 0,uI 0,bV false] ?_
   intro b7 h6 g B j1;have b1:=zH (a4.o.below g);obtain⟨j,l,_⟩:=b1.o.c04;have i7:h6.cell? ⟨p,0,none⟩=some ((pT m.e))/\h6.cell? ⟨p,4,none⟩=some (uI x.now):=⟨j,l⟩;have f6:w.heap.size<=b7:=ay a4.o.m.size B;refine⟨i7,?_⟩;clear j l;clear g B;refine mP ?_;refine aI 9 kR ?_;refine opC 14 20 #[(pT m.e),.slice a b.length c,uI x.now] ((b1.o.onM e0.o g1 c (b1.o.row b0.o) f2 e1.o g3 (.inr g2)).mono ?_);rintro i5 h7 ⟨K,L,a9⟩;have i2:=zH L;obtain⟨j,l,_⟩:=L.c04;have i8:h7.cell? ⟨p,0,none⟩=some ((pT m.e))/\h7.cell? ⟨p,4,none⟩=some (uI x.now):=⟨j,l⟩;have d3:=j1.mod a9 dC;rw[<-e2.o]at K;refine⟨_,K,i8,?_⟩;clear K L a9 j l;refine mP ?_;have a2:=Mod.bZ [jI d.kind,jI d.why,uI d.pn,bV d.dU] 0 _ _ d3;have M:=i2.o.loc a2 dC (λk W=>by rw[W];exact f6);obtain⟨j,l,_⟩:=M.c04;have e9:=And.intro j l;refine dJ (i:=11) 74 (.tmp 4) (.tmp 14) b7 0 #[jI d.kind,jI d.why,uI d.pn,bV d.dU] rfl kR kR kR kR kR kR (d3.there _ sM) kR XF (e9) ?_;intro k1 h1;have g8:=Blk.gF d3 [jI d.kind,jI d.why,uI d.pn,bV d.dU] rfl;rw[<-show k1=_ from h1]at g8 e9 M;have i3:=zH M;clear h1 a2 j l;refine mP ?_;refine bg kR ?_ _;exact O b7 _ ⟨i3,zH g8,f6⟩
 case tl=>
  intro T C i6;obtain⟨d8,Y,l8⟩:=i6;obtain⟨D,E,r,l4,k8,f5,d1,c9,c8,o,g4,g5⟩:=d8.o.heardP;(have l7:r.length<=1000000000:=by rw[f5];exact j5);obtain⟨f,b2,b3,d6⟩:=Bq d1 g4 g5 (d8.o.row b0.o);obtain⟨m1,d0,d4,G,l5⟩:=info_parts (show(prog.info? 201).map (λd5=>(d5.zero,d5.size,d5.bytes))=some (some (.agg #[zzN,uI 0,jI 0,jI 0,uI 0,bV false]),6,64) by kernel_rfl);have l9:=d1.lt;have l6:=Y.o.lt;clear e6 e7 j9 d1 g4 g5 f5 d7;(try simp only[]);go_upto_region 1 with fail;refine' yI (F:=_) (λa6=>X3 (dD X w p m k {x with en:=(lU x.en b x.now).en,heard:=x.heard+1} a6)) ?tl2 (λO=>?mn2);case mn2=>
   have q:bW C C.drew:=bA (aj _ _);refine aZ (S:=λN=>N.cell? ⟨p,4,none⟩=some (uI x.now)/\Blk N T 74 #[jI d.kind,jI d.why,uI d.pn,bV d.dU]) kR (⟨((f.o.below q f.o.lt).cell 4).trans o,Y.o.below q Y.o.lt⟩) (λc5=>?_);clear c5;have e:C.drew.cell? ⟨p,4,none⟩=some (uI x.now)/\Blk C.drew T 74 #[jI d.kind,jI d.why,uI d.pn,bV d.dU]:=⟨((f.o.below q f.o.lt).cell 4).trans o,Y.o.below q Y.o.lt⟩;refine tK 0 15 e ?_;refine tK 1 16 e ?_;refine tK 2 17 e ?_;refine tK 3 18 e ?_;refine nrm 18 15 ?_;refine tK 5 20 e ?_;refine tK 7 22 e ?_;refine tK 8 23 e ?_;refine tK 9 24 e ?_;refine nrm 18 943 ?_;refine X6 10 25 e ?_ (y:=by intro h4 I;have a3:=I.1;exact gS);refine iL (v:=.agg #[jI d.kind,jI d.why,uI d.pn,bV d.dU]) 11 (some 26) rfl kR kR kR kR (λ_ _ _ h=>h) (lH 74 (.tmp 4) rfl rfl T kR #[jI d.kind,jI d.why,uI d.pn,bV d.dU] (λw I=>I.2) _ Tryz.underlying74 kR kR) (e) ?_;refine mP ?_;refine nrm 18 4015 ?_;refine fo 4 6 kR ?_ ?_
   .refine iw (op:=_) rfl kR (some 19) kR (.slice D r.length E) ?_ ?_
    .have a3:C.drew.cell? ⟨p,8,none⟩=some (.slice D r.length E):=((f.o.below q f.o.lt).cell 8).trans c8
     go_simp
    refine⟨e,?_⟩;refine mP ?_;refine aI 6 kR ?_;refine jl (op:=_) rfl kR (fe.wp _ (.tmp 20) rfl C.drew.heap.size none 0 [] kR (iq _ _ _ _) a c b kR (aD d6.o q) sO dC (av _) ?_);intro R U k3 d2 u;have J:Below C.drew.heap.size C.drew k3:=(aj _ _).grown u (av _) XI;have c4:=q.trans (J.mono q.size);have a8:=And.intro (((f.o.below c4 f.o.lt).cell 4).trans o) (e.2.below J e.2.lt);rw[List.nil_append];refine⟨a8,?_⟩;clear d2 u J;refine Yf 12 27 a8 ?_;refine nrm 18 8191 ?_;refine aI 13 kR ?_;refine jX (op:=_) rfl kR (some 28) kR 108 201 1 #[(0,.tmp 27)] kR #[.slice R b.length U,uI x.now,jI d.kind,jI d.why,uI d.pn,bV d.dU] WS.ht d0 d4 (by rw[G];decide) (by rw[G];decide) (by rw[G];kernel_rfl) ?_;intro e5 k6 g B j4;have c2:=c4.trans (g.mono c4.size);have f1:=And.intro (((f.o.below c2 f.o.lt).cell 4).trans o) (a8.2.below g a8.2.lt);refine⟨f1,?_⟩;clear g B;refine mP ?_;refine aI 14 kR ?_;refine jl (op:=_) rfl kR (WS.wpO (.tmp 19) (.tmp 28) rfl D E r kR (b2.o.below c2) (some ⟨e5,0,none⟩) 1 [(YA x d b R U)] kR (WS.single (YA x d b R U) j4 rfl) (by simp only[bO];omega) dC ?_);intro b4 b9 k0 j6 f8 u;clear u;obtain⟨z,A⟩:=b3.o k6 k0 (YA x d b R U) b4 b9 c2 j6 f8;have Z:=And.intro ((z.cell 4).trans o) (f1.2.mod f8 dC);refine⟨Z,?_⟩;refine Yf 15 30 Z ?_;refine tK 16 31 Z ?_;refine nrm 18 131071 ?_;refine aI 17 kR ?_;refine fF (op:=_) rfl kR kR 108 (.tmp 31) (.tmp 29) kR p 8 (.slice b4 (r++[(YA x d b R U)]).length b9) kR kR rfl kR z (by rw[c9];decide) ?_;intro m3 h0;rw[<-h0]at A;refine⟨⟨A.c04.2.1,by rw[h0];exact Z.2.far (dF Z.2 z dC) _⟩,?_⟩;refine mP ?_;refine bg kR ?_ _;exact O R U e5 b4 b9 _ (zH A)
   .refine jl (op:=_) rfl kR (fe.wp _ (.tmp 20) rfl C.drew.heap.size none 0 [] kR (iq _ _ _ _) a c b kR (aD d6.o q) sO dC (av _) ?_)
    intro s t h8 d2 u;have J:Below C.drew.heap.size C.drew h8:=(aj _ _).grown u (av _) XI;have V:=q.trans (J.mono q.size);have H:=And.intro (((f.o.below V f.o.lt).cell 4).trans o) (e.2.below J e.2.lt);rw[List.nil_append];refine⟨H,?_⟩;clear d2 u J;refine Yf 12 27 H ?_;refine nrm 18 8175 ?_;refine fo 4 13 kR ?_ ?_
    .refine iw (op:=_) rfl kR (some 19) kR (.slice D r.length E) ?_ ?_
     .have a3:h8.cell? ⟨p,8,none⟩=some (.slice D r.length E):=((f.o.below V f.o.lt).cell 8).trans c8
      go_simp
     refine⟨H,?_⟩;refine mP ?_;refine aI 13 kR ?_;refine jX (op:=_) rfl kR (some 28) kR 108 201 1 #[(0,.tmp 27)] kR #[.slice s b.length t,uI x.now,jI d.kind,jI d.why,uI d.pn,bV d.dU] WS.ht d0 d4 (by rw[G];decide) (by rw[G];decide) (by rw[G];kernel_rfl) ?_;intro e3 k2 g B j2;have c3:=V.trans (g.mono V.size);have f0:=And.intro (((f.o.below c3 f.o.lt).cell 4).trans o) (H.2.below g H.2.lt);refine⟨f0,?_⟩;clear g B;refine mP ?_;refine aI 14 kR ?_;refine jl (op:=_) rfl kR (WS.wpO (.tmp 19) (.tmp 28) rfl D E r kR (b2.o.below c3) (some ⟨e3,0,none⟩) 1 [(YA x d b s t)] kR (WS.single (YA x d b s t) j2 rfl) (by simp only[bO];omega) dC ?_);intro b5 c0 k4 j7 f9 u;clear u;obtain⟨z,A⟩:=b3.o k2 k4 (YA x d b s t) b5 c0 c3 j7 f9;have a0:=And.intro ((z.cell 4).trans o) (f0.2.mod f9 dC);refine⟨a0,?_⟩;refine Yf 15 30 a0 ?_;refine tK 16 31 a0 ?_;refine nrm 18 131071 ?_;refine aI 17 kR ?_;refine fF (op:=_) rfl kR kR 108 (.tmp 31) (.tmp 29) kR p 8 (.slice b5 (r++[(YA x d b s t)]).length c0) kR kR rfl kR z (by rw[c9];decide) ?_;intro m4 h2;rw[<-h2]at A;refine⟨⟨A.c04.2.1,by rw[h2];exact a0.2.far (dF a0.2 z dC) _⟩,?_⟩;refine mP ?_;refine bg kR ?_ _;exact O s t e3 b5 c0 _ (zH A)
    .refine jX (op:=_) rfl kR (some 28) kR 108 201 1 #[(0,.tmp 27)] kR #[.slice s b.length t,uI x.now,jI d.kind,jI d.why,uI d.pn,bV d.dU] WS.ht d0 d4 (by rw[G];decide) (by rw[G];decide) (by rw[G];kernel_rfl) ?_
     intro e4 h9 g B j3;have a7:=V.trans (g.mono V.size);have c6:=And.intro (((f.o.below a7 f.o.lt).cell 4).trans o) (H.2.below g H.2.lt);refine⟨c6,?_⟩;clear g B;refine mP ?_;refine aI 4 kR ?_;refine iw (op:=_) rfl kR (some 19) kR (.slice D r.length E) ?_ ?_
     .have a3:h9.cell? ⟨p,8,none⟩=some (.slice D r.length E):=((f.o.below a7 f.o.lt).cell 8).trans c8
      go_simp
     refine⟨c6,?_⟩;refine mP ?_;refine aI 14 kR ?_;refine jl (op:=_) rfl kR (WS.wpO (.tmp 19) (.tmp 28) rfl D E r kR (b2.o.below a7) (some ⟨e4,0,none⟩) 1 [(YA x d b s t)] kR (WS.single (YA x d b s t) j3 rfl) (by simp only[bO];omega) dC ?_);intro b6 c1 k5 j8 g0 u;clear u;obtain⟨z,A⟩:=b3.o h9 k5 (YA x d b s t) b6 c1 a7 j8 g0;have a1:=And.intro ((z.cell 4).trans o) (c6.2.mod g0 dC);refine⟨a1,?_⟩;refine Yf 15 30 a1 ?_;refine tK 16 31 a1 ?_;refine nrm 18 131071 ?_;refine aI 17 kR ?_;refine fF (op:=_) rfl kR kR 108 (.tmp 31) (.tmp 29) kR p 8 (.slice b6 (r++[(YA x d b s t)]).length c1) kR kR rfl kR z (by rw[c9];decide) ?_;intro m5 h3;rw[<-h3]at A;refine⟨⟨A.c04.2.1,by rw[h3];exact a1.2.far (dF a1.2 z dC) _⟩,?_⟩;refine mP ?_;refine bg kR ?_ _;exact O s t e4 b6 c1 _ (zH A)
  case tl2=>
   intro k9 l2 l1 l0 l3 m2 a5;(try simp only[]);go_wp2;refine mE ?_;exact⟨rfl,a5.o⟩
structure Mv where
 (kind n:Int)
 zD:Sh
def mvV (m:Mv):List Value:=.int .u8 m.kind::.int .u32 m.n::shV m.zD
structure T9 (w:World) (S:X4) (m:Mv):Prop where
 kind:0<=m.kind/\m.kind<256
 n:0<=m.n/\m.n<4294967296
 zD:zW w S m.zD
theorem T9.below {S:X4} {m:Mv} (h:T9 w S m) (hb:bW w w'):T9 w' S m:=⟨h.kind,h.n,h.zD.below hb⟩
structure Ry (w w':World) (S:X4) (hon:Bool) (kind en:Int) (a:X5) (c:Nat) (b:List Int):Prop where
 hk:1<=kind/\kind<=6
 hh:hon=true->kind≠3
 hn:Word en
 fr:FrAt w w' S a c b
 five:kind=1->Bys w' (λk=>w.heap.size<=k/\k<w'.heap.size) a b
theorem Row.setD {S:X4} {size n g:Nat} {a:X5} {xs:List Value} (h:Row w S t size a n xs) (l:∀d,S d->d≠g) (e:List Value) (o:Nat):Row (w.setCells g o e) S t size a n xs:=
 ⟨h.1,λp=>by
  obtain⟨b,q,f,j,i,c,m,k⟩:=h.2 p;exact⟨b,q,f,j,i,c,(WW (l b c) e o w).trans m,k⟩⟩
theorem zW.lt_ {S:X4} {s:Sh} (h:zW w S s):zW w (λa=>S a/\a<w.heap.size) s:=
 {h with ex:=by obtain⟨c,b⟩:=h.ex;exact⟨c,Row.lt_ b⟩}
theorem tu (w w':World) (S:X4) (d:Bool) {k n:Int} (b:1<=k/\k<=6) (a:k≠3) (c:Word n):Ry w w' S d k n none 0 []:=
 ⟨b,λ_=>a,c,⟨⟨5,Row.WH⟩,av _,(λf e=>by cases e),jV _⟩,λ_=>Bys.WH⟩
theorem Oa (b5:Bool) (S:X4) (m:Mv) (A s l:Nat) (w:World) (d8:T9 w S m) (Q:w.cell? ⟨A,0,none⟩=some ((pT s))) (a8:w.cell? ⟨s,20,none⟩=some ((pT l))) (d4:Ka w l):
  Yk 12 #[.agg (mvV m).toArray,pT A,bV b5] w λg7 U=>(∃z e7 c4 c5 a2,g7=.returned (.agg #[jI z,uI e7,.slice c4 a2.length c5])/\Ry w U S b5 z e7 c4 c5 a2)/\bW w U:=by
 obtain⟨z,c,I,K,M,L,E,F,G,H,O,right,N⟩:=m;have e2:=d8.zD;obtain⟨⟨j4,j5⟩,⟨k7,k8⟩,-⟩:=d8;dsimp only[mvV,shV]at*
 obtain⟨g1,f9,f7⟩:=Av e2.lt_ (And.intro (dY w _ Q) (dY w _ a8)) d4;clear e2 d4;obtain⟨c3,a3⟩:=eX ((w.alloc (.cells #[.int .u8 z,.int .u32 c,jI I,.slice K L.length M,.int .u16 E,.int .u16 F,.int .u16 G,.int .u16 H,uI O,bV right,.int .u16 N] 55)).alloc (.cells #[jI 0,uI 0,zzN] 49));obtain⟨T,J⟩:=sG w #[.int .u8 z,.int .u32 c,jI I,.slice K L.length M,.int .u16 E,.int .u16 F,.int .u16 G,.int .u16 H,uI O,bV right,.int .u16 N] 55 #[jI 0,uI 0,zzN] 49;rw[<-a3]at T J;(have a5:bW w c3:=by rw[a3];exact BEL);obtain⟨W,a6⟩:=eX w.heap.size;obtain⟨n,a7⟩:=eX (W+1);rw[<-a6]at T J;rw[<-a7]at J;obtain⟨a1,r,k,c2⟩:=Bq T J a5 a3;have e1:=(a5.cell (p:=⟨A,0,none⟩) (dY w _ Q)).trans Q;have c9:=(a5.cell (p:=⟨s,20,none⟩) (dY w _ a8)).trans a8;obtain⟨c1,b9⟩:=yx (And.intro e1 c9) (And.intro a6 a7);clear Q a8 a3 a5 e1 c9;go_enter Tryz.func12,Tryz.ntmps12;go_upto_region 1 with fail;rw[<-c2.o,<-a6,<-a7];clear a6 a7 c2;obtain⟨i6,i7⟩:=T.e2 0 1;obtain⟨e9,f0,f1,f2,f3,f4⟩:=J.c3;have d5:=J.lt;clear T J;(repeat ((fail_if_success (with_reducible (change Code.wp _ (Code.seq (Code.region 2 _ _) _) _ _ _)));first|go_values|go_skip|go_guarded|go_step|go_upon|go_back|go_simp));(have b:w.heap.size<=n:=by have:=b9.o;omega);go_cut [12] (λi4 wx=>(∃a2:Bool,i4=bV a2)/\wx=c3);case first=>
  go_upto_if 12 with fail;generalize((_:Int)==0)=q;cases q with
  |true=>
   go_wp2;go_meet;exact⟨⟨_,rfl⟩,rfl⟩
  |false=>
   go_upto_region 3 with fail;go_upto_if 12 with fail;generalize((_:Int)==1)=q;cases q with
   |true=>
    go_wp2;go_meet;exact⟨⟨_,rfl⟩,rfl⟩
   |false=>
    go_wp2;go_meet;exact⟨⟨_,rfl⟩,rfl⟩
 case rest=>
  obtain⟨⟨g5,rfl⟩,rfl⟩:=hcut;go_step;cases g5 with
  |true=>
   go_upto_region 5 with fail;obtain⟨h9,h4,h6,h7,h8⟩:=info_parts lF;obtain⟨a,k4⟩:∃a:Nat,c%200=a:=⟨(c%200).toNat,oM⟩;have k5:a<200:=oM;obtain⟨B,k2⟩:∃B:Int,c%251=B:=⟨_,rfl⟩;have k3:0<=B/\B<251:=oM;obtain⟨v,d0⟩:∃v:Nat->Int,v=λ(f:Nat)=>(B+3*(f:Int))%256:=⟨_,rfl⟩;obtain⟨a0,b2⟩:=yx d0 (show w.heap.size<=wc.heap.size from k.o.size);clear d0 e9 f0 f1 f2 f3 f4 d5;go_wp2_with (at_make;refine wpList_make_full _ rfl (.tmp 19) (.tmp 19) 47 rfl wc.heap.size 5 h9 (.int .u8 0) 1 Tryz.underlying47 h4 h6 h7 .i64 .i64 (a:Int) (a:Int) a (by rfl) (by rfl) rfl rfl (by rw[h8];omega) (by simp only[maxLen];omega) (av _) ?_;intro m0 d9 d2;have f5:=zH (Fil.new v a d9 d2);clear d9 d2);go_loopg [8,23] a (λb8 l9 i5 wr=>i5=jI ((a:Int) -b8)/\b8<=a/\X3 (Fil wc wr v a (a -b8)));(case atStart=>exact⟨by congr 1;omega,av _,by rw[Nat.sub_self];exact f5⟩);case round=>
    obtain⟨rfl,j9,X⟩:=hrel;by_cases k6:0<gk
    .have c6:decide ((a:Int) -gk<a)=true:=bM oM
     go_upto_region 8 with fail;obtain⟨f,b4⟩:=eX (a -gk);have d3:(a:Int) -gk=(f:Int):=oM;rw[d3];obtain⟨⟨l8,i0⟩,i1,k0,a9⟩:=X.o.put (j:=a -gk) oM;rw[<-b4]at i0 i1 a9;have i8:wr.cell? ⟨W,1,none⟩=some (.int .u32 c):=(a1.o.below X.o.lo a1.o.lt).cell 1;have i9:(f:Int)<a:=oM;have j0:IntKind.i64.wrap (3*(f:Int))=3*f:=eP _ ⟨oM,oM⟩;have j1:IntKind.i64.wrap (B+3*(f:Int))=B+3*f:=eP _ ⟨oM,oM⟩;have j2:IntKind.i64.wrap ((f:Int)+1)=(f:Int)+1:=eP _ ⟨oM,oM⟩;(have d1:v f=(B+3*(f:Int))%256:=by rw[a0.o]);rw[d1]at a9;obtain⟨g0,f6⟩:=yx a9 b4;clear d1 a9 b4 d3 c6 X;go_wp2;go_roundg (gk -1);(case measure=>omega);case rel=>have:=f6.o;exact⟨by congr 1;omega,oM,by rw[show a -(gk -1)=f+1 by omega];exact g0⟩
    .have c6:decide ((a:Int) -gk<a)=false:=bJ oM
     have b0:=r.o.below X.o.lo r.o.lt;obtain⟨e9,f0,f1,f2,f3,f4⟩:=b0.c3;have d5:=b0.lt;have c0:=zH b0;clear b0;go_wp2_with fail;have b3:=X.o;rw[show a -gk=a by omega]at b3;have Z:(nJ v a a).length=a:=wL _ _ _;have Q:=b3.own.row;have e0:=Row.S9 (t':=49) Q c0.o dC [jI 1,uI 0,.slice (some ⟨wc.heap.size,0,none⟩) a a] 0;have h3:dP (nJ v a a):=QK (λf=>by rw[a0.o];exact⟨iQ _ dC,iN _ dC⟩) _ _;refine iZ 6 49 n #[jI 1,uI 0,.slice (some ⟨wc.heap.size,0,none⟩) a a] kR kR (((c0.o.bF 0 _).bF 1 _).bF 2 _) _ Tryz.underlying49 kR kR rfl ?_;refine⟨⟨1,0,some ⟨wc.heap.size,0,none⟩,a,nJ v a a,by rw[Z],⟨dC,λ_=>by decide,⟨dC,dC⟩,⟨⟨5,?_⟩,by rw[Z];exact av _,h3,by rw[Z];omega⟩,λ_=>?_⟩⟩,bG (bG (bG (k.o.trans (b3.lo.mono b2.o)) b _) b _) b _⟩
     .unfold Byt;rw[Z];exact aF e0 (λD e=>.inr ⟨ay b2.o e.1,by simpa[World.setCell]using e.2⟩)
     .unfold Bys;rw[Z];exact aF e0 (λD e=>⟨ay b2.o e.1,by simpa[World.setCell]using e.2⟩)
  |false=>
   go_upto_if 40 with fail;generalize((_:Int)==3)=q;cases q with
   |true=>
    cases b5 with
    |true=>
     go_wp2;refine iZ 6 49 n #[jI 2,uI (c%3000),zzN] kR kR (((r.o.bF 0 _).bF 1 _).bF 2 _) _ Tryz.underlying49 kR kR rfl ?_;exact⟨⟨2,(c%3000),none,0,[],rfl,tu _ _ _ _ dC dC ⟨oM,oM⟩⟩,bG (bG (bG k.o b _) b _) b _⟩
    |false=>
     go_upto_region 15 with fail;have x:bW wc wc.drew:=bA (aj _ _);have d:Blk wc.drew W 55 #[.int .u8 z,.int .u32 c,jI I,.slice K L.length M,.int .u16 E,.int .u16 F,.int .u16 G,.int .u16 H,uI O,bV right,.int .u16 N]/\wc.drew.cell? ⟨A,0,none⟩=some ((pT s))/\wc.drew.cell? ⟨s,20,none⟩=some ((pT l)):=⟨a1.o.below x a1.o.lt,c1.o.1,c1.o.2⟩;refine aZ (S:=λU=>Blk U W 55 #[.int .u8 z,.int .u32 c,jI I,.slice K L.length M,.int .u16 E,.int .u16 F,.int .u16 G,.int .u16 H,uI O,bV right,.int .u16 N]/\U.cell? ⟨A,0,none⟩=some ((pT s))/\U.cell? ⟨s,20,none⟩=some ((pT l))) kR d (λg8=>?_);clear g8;refine tK 0 48 d ?_;refine X6 1 49 d ?_ (y:=by intro w o;have l0:=o.1.Wu 2;have l1:=o.1.Wu 3;have l2:=o.1.Wu 4;have l3:=o.1.Wu 5;have l4:=o.1.Wu 6;have l5:=o.1.Wu 7;have l6:=o.1.Wu 8;have l7:=o.1.Wu 9;have k9:=o.1.Wu 10;exact gS);refine tK 2 50 d ?_;refine tK 3 51 d ?_;refine tK 4 52 d ?_;refine X6 5 53 d ?_ (y:=by intro w o;have i3:=o.2.1;exact gS);refine tK 6 54 d ?_;refine tK 7 55 d ?_;refine X6 8 56 d ?_ (y:=by intro w o;have i3:=o.2.2;exact gS);refine tK 9 57 d ?_;refine nrm 13 1023 ?_;refine aI 10 kR ?_;obtain⟨i2,g6,g3,g4,h5,g9,h0,h1,h2⟩:=((f7.o.below k.o).below x).ex;have e3:=(g1.o.below k.o).below x;refine opC 58 21 #[.agg (shV ⟨I,K,M,L,E,F,G,H,O,right,N⟩).toArray,.agg #[.pointer none,pT l]] ((ER g4 _ l (.pointer none) i2 g6 g3 ⟨I,K,M,L,E,F,G,H,O,right,N⟩ _ h5 g9 h0 h1 h2 e3).mono ?_);rintro j3 b1 ⟨t,C,u,c8,Y,P⟩;have R:Blk b1 W 55 #[.int .u8 z,.int .u32 c,jI I,.slice K L.length M,.int .u16 E,.int .u16 F,.int .u16 G,.int .u16 H,uI O,bV right,.int .u16 N]/\b1.cell? ⟨A,0,none⟩=some ((pT s))/\b1.cell? ⟨s,20,none⟩=some ((pT l)):=⟨d.1.below P d.1.lt,(P.cell (p:=⟨A,0,none⟩) (dY _ _ d.2.1)).trans d.2.1,(P.cell (p:=⟨s,20,none⟩) (dY _ _ d.2.2)).trans d.2.2⟩;refine⟨_,c8,R,?_⟩;refine Yf 11 59 R ?_;refine nrm 13 4095 ?_;have b6:=r.o.below (x.trans (P.mono x.size)) r.o.lt;refine dJ (i:=12) 49 (.tmp 6) (.tmp 59) n 0 #[jI 3,uI 0,.slice t u.length C] rfl kR kR kR kR kR kR (b6.there _ sM) kR XF (?_) ?_
     .have c7:=Below.bZ (av n) [jI 3,uI 0,.slice t u.length C] 0 _ (aj n b1)
      have d7:=f9.o;have j6:=b9.o;exact⟨R.1.gy oM _ _ _,(c7.cell (p:=⟨A,0,none⟩) (aC d7.1 b)).trans R.2.1,(c7.cell (p:=⟨s,20,none⟩) (aC d7.2 b)).trans R.2.2⟩
     intro V a4;have b7:=Blk.gF b6 [jI 3,uI 0,.slice t u.length C] rfl;rw[<-show V=_ from a4]at b7;(have d6:bW w V:=by rw[a4];exact Below.bZ b _ _ _ (k.o.trans ((x.trans (P.mono x.size)).mono k.o.size)));obtain⟨e8,e4⟩:=Y.ex;have j7:=r.o.lt;have j8:=x.size;have e5:=Row.setD (g:=n) e4 (λD e=>by rcases e with e|e;have:=e.2;omega;have:=e.1;omega) [jI 3,uI 0,.slice t u.length C] 0;have k1:=k.o.size;have e6:Byt e8 V (λD=>S D\/w.heap.size<=D/\D<V.heap.size) t u:=by
      rw[a4];exact aF (Row.lt_ e5) (λD e=>by rcases e.1 with h|h;exact .inl h.1;exact .inr ⟨oM,e.2⟩)
     obtain⟨a0,g2,f8⟩:=Av (show FrAt w V S t C u from⟨⟨e8,e6⟩,Y.cap,Y.by_,Y.len⟩) b7 d6;clear a4 b7 d6 e4 e5 e6 Y b6 R d P e3 c8;refine mP ?_;refine bg kR ?_ _;go_wp2;refine iZ 6 49 n #[jI 3,uI 0,.slice t u.length C] kR kR g2.o _ Tryz.underlying49 kR kR rfl ?_;exact⟨⟨3,0,t,C,u,rfl,⟨dC,λh=>Wy h dC,⟨dC,dC⟩,a0.o,λh=>Wy h dC⟩⟩,f8.o⟩
   |false=>
    go_upto_if 60 with fail;generalize((_:Int)==4)=q;cases q with
    |true=>
     go_wp2;refine iZ 6 49 n #[jI (4+c%2),uI 0,zzN] kR kR (((r.o.bF 0 _).bF 1 _).bF 2 _) _ Tryz.underlying49 kR kR rfl ?_;exact⟨⟨(4+c%2),0,none,0,[],rfl,tu _ _ _ _ ⟨oM,oM⟩ oM ⟨dC,dC⟩⟩,bG (bG (bG k.o b _) b _) b _⟩
    |false=>
     go_upto_if 68 with fail;generalize((_:Int)==5)=q;cases q with
     |true=>
      go_upto_if 73 with fail;generalize((_:Int)==0)=q;cases q with
      |true=>
       go_wp2;refine iZ 6 49 n #[jI 6,uI 0,zzN] kR kR (((r.o.bF 0 _).bF 1 _).bF 2 _) _ Tryz.underlying49 kR kR rfl ?_;exact⟨⟨6,0,none,0,[],rfl,tu _ _ _ _ dC dC ⟨dC,dC⟩⟩,bG (bG (bG k.o b _) b _) b _⟩
      |false=>
       go_wp2;refine iZ 6 49 n #[jI 2,uI (c%20000),zzN] kR kR (((r.o.bF 0 _).bF 1 _).bF 2 _) _ Tryz.underlying49 kR kR rfl ?_;exact⟨⟨2,(c%20000),none,0,[],rfl,tu _ _ _ _ dC dC ⟨oM,oM⟩⟩,bG (bG (bG k.o b _) b _) b _⟩
     |false=>
      go_upto_if 75 with fail;generalize((_:Int)==6)=q;cases q with
      |true=>
       go_wp2;refine iZ 6 49 n #[jI 2,uI c,zzN] kR kR (((r.o.bF 0 _).bF 1 _).bF 2 _) _ Tryz.underlying49 kR kR rfl ?_;exact⟨⟨2,c,none,0,[],rfl,tu _ _ _ _ dC dC ⟨oM,oM⟩⟩,bG (bG (bG k.o b _) b _) b _⟩
      |false=>
       go_wp2;refine iZ 6 49 n #[jI 2,uI (c%20000),zzN] kR kR (((r.o.bF 0 _).bF 1 _).bF 2 _) _ Tryz.underlying49 kR kR rfl ?_;exact⟨⟨2,(c%20000),none,0,[],rfl,tu _ _ _ _ dC dC ⟨oM,oM⟩⟩,bG (bG (bG k.o b _) b _) b _⟩
end Go.Proofs.YtiflndepmgnojaaGreat
