import Derived.Test.YtiflndepmgnojaaGreatEob
import Derived.Test.YtiflndepmgnojaaGreatPef
namespace Go.Proofs.YtiflndepmgnojaaGreat
open Go.RowKit
set_option linter.unusedSimpArgs false
set_option linter.unusedVariables false
set_option maxHeartbeats 8000000
set_option maxRecDepth 100000
def Own (w:World) (own:Nat->Nat) (i:Nat):Nat->Prop:=λk=>k<w.heap.size/\own k=i
def ext (w:World) (own:Nat->Nat) (i:Nat):Nat->Nat:=λk=>if k<w.heap.size then own k else i
section
variable {w w':World} {own:Nat->Nat} {i j k:Nat}
theorem qX:Bd (Own w own i) w:=λ_ h=>h.1
theorem nE (h:k<w.heap.size):ext w own i k=own k:=aB h
theorem uG (h:w.heap.size<=k):ext w own i k=i:=Ww oM
theorem fw (a:w.heap.size<=w'.heap.size) (h:Own w own j k):Own w' (ext w own i) j k:=⟨by have:=h.1;omega,by rw[nE h.1];exact h.2⟩
theorem sN (b:w.heap.size<=w'.heap.size) (h:grow (Own w own i) w w' k):Own w' (ext w own i) i k:=h.elim (fw b) (λa=>⟨a.2,uG a.1⟩)
theorem NE (h:i≠j):Apart (Own w own i) (Own w own j):=λk a b=>h (a.2.symm.trans b.2)
end
structure Wp where
 e:Nat
 pe:Nat
 a:Nat
 b:Nat
abbrev Six:={l:List Value//l.length=6/\∀u∈l,u.oneCell'=true}
def woC (x:Wo) (r:Wp) (a1:Option Addr) (n1 c1:Nat) (a2:Option Addr) (c c2:Nat) (a:Option Addr) (d b:Nat):Array Value:=
 #[(pT r.e),(pT r.pe),(pT r.a),(pT r.b),uI x.now,bV x.mute,uI x.eO,.slice a1 n1 c1,.slice a2 c c2,.slice a d b]
structure WoL (w:World) (S:Nat->Prop) (p:Nat) (r:Wp) (x:Wo):Prop where
 ex:∃a1 c1 a2 c2 a3 c3,∃ds hs:List Six,∃sv:List Bv,Blk w p 110 (woC x r a1 ds.length c1 a2 hs.length c2 a3 sv.length c3)/\
  OwnAt w S 115 6 a1 ds.length c1 (ds.flatMap (·.1))/\OwnAt w S 201 6 a2 hs.length c2 (hs.flatMap (·.1))/\OwnAt w S 47 1 a3 sv.length c3 (sv.flatMap bvV)/\(∀y∈sv,Bys w S y.a y.b/\y.b.length<=y.c/\y.b.length<=100000)/\
  ds.length=x.fu/\hs.length=x.heard/\sv.length=x.sent
 mem:S p
structure iW (w:World) (own:Nat->Nat) (p:Nat) (r:Wp) (k:Nat) (x:Wo):Prop where
 l:WoL w (Own w own 0) p r x
 e:eB w (Own w own 1) r.e x.en
 pe:ic w (Own w own 2) r.pe k x.pe
 a:rH w (Own w own 3) r.a x.ahead
 b:rH w (Own w own 4) r.b x.back
def woT:List (Option TypeId):=[some 110,some 115,some 201,some 47,some 154,some 236,some 177,some 234,some 5,some 256,some 314,some 30,some 232,some 226,none,some 203,some 218,some 222]
section
variable {w w':World} {S S':Nat->Prop} {p k:Nat} {r:Wp} {x:Wo} {ts:List (Option TypeId)}
theorem eB.keep {e:En} (h:eB w S p e) (a:bQ S enT w w'):eB w' S p e:=by
 have b:=h.mem;obtain⟨q,o,n,m,c,d,f,g,l⟩:=h.ex;exact⟨⟨q,o,n,m,c.keep a b (by simp[enT]),d.keep a (by simp[enT]) (by simp[enT]),f.keep a (by simp[enT]) (by simp[enT]) (by simp[enT]),g.keep a (by simp[enT]) (by simp[enT]),l.keep a (by simp[enT]) (by simp[enT]) (by simp[enT])⟩,b⟩
theorem WoL.keep (h:WoL w S p r x) (a:bQ S [some 110,some 115,some 201,some 47,some 5] w w'):WoL w' S p r x:=by
 obtain⟨e,l,f,m,g,n,o,y,z,q,s,t,u,b,v⟩:=h.ex;exact⟨⟨e,l,f,m,g,n,o,y,z,q.keep a h.mem sM,s.keep a sM,t.keep a sM,u.keep a sM,λd c=>⟨aG (b d c).1 a sM,(b d c).2⟩,v⟩,h.mem⟩
theorem WoL.mono (h:WoL w S p r x) (a:∀k,S k->S' k):WoL w S' p r x:=by
 obtain⟨e,l,f,m,g,n,o,y,z,q,s,t,u,b,v⟩:=h.ex;exact⟨⟨e,l,f,m,g,n,o,y,z,q,s.mono a,t.mono a,u.mono a,λd c=>⟨aF (b d c).1 a,(b d c).2⟩,v⟩,a _ h.mem⟩
theorem WoL.of {x':Wo} (h:WoL w S p r x) (A:x'.now=x.now) (B:x'.mute=x.mute) (C:x'.eO=x.eO) (D:x'.fu=x.fu) (E:x'.heard=x.heard) (F:x'.sent=x.sent):WoL w S p r x':=by
 obtain⟨a,d,b,e,c,f,g,l,m,o,q,s,t,u,v,y,z⟩:=h.ex;(have n:woC x' r a g.length d b l.length e c m.length f=woC x r a g.length d b l.length e c m.length f:=by unfold woC;rw[A,B,C]);exact⟨⟨a,d,b,e,c,f,g,l,m,by rw[n];exact o,q,s,t,u,v.trans D.symm,y.trans E.symm,z.trans F.symm⟩,h.mem⟩
end
structure dD (own:Nat->Nat) (w:World) (p:Nat) (r:Wp) (k:Nat) (x:Wo) (W:World):Prop where
 ex:∃own',(∀k,k<w.heap.size->own' k=own k)/\iW W own' p r k x
 m:Mod (λk=>own k<=4) woT w W
section
variable {own:Nat->Nat} {w W W':World} {p k k':Nat} {r:Wp} {x x':Wo}
theorem dD.refl (h:iW w own p r k x):dD own w p r k x w:=⟨⟨own,λ_ _=>rfl,h⟩,aV _ _ _⟩
theorem dD.step (h:dD own w p r k x W) (m:∀a,iW W a p r k x->dD a W p r k' x' W'):dD own w p r k' x' W':=by
 obtain⟨a,c,g⟩:=h.ex;obtain⟨⟨n,d,e⟩,f⟩:=m a g;have o:=h.m.size;exact⟨⟨n,λk b=>(d k oM).trans (c k b),e⟩,h.m.then f (λk b l=>by rw[<-c k b];exact l)⟩
theorem iW.keeps {i:Nat} {T:List (Option TypeId)} (b:Mod (Own w own i) T w W) {j:Nat} (a:j≠i) (ts:List (Option TypeId)):bQ (Own w own j) ts w W:=b.iD (NE a)
theorem iW.below (h:iW w own p r k x) (hb:bW w W):iW W (ext w own 9) p r k x:=
 have a:=hb.size
 ⟨(h.l.keep (bQ.below hb)).mono (λ_=>fw a),(h.e.keep (bQ.below hb)).mono (λ_=>fw a),(h.pe.below hb).mono (λ_=>fw a),(h.a.below hb).mono (λ_=>fw a),(h.b.below hb).mono (λ_=>fw a)⟩
theorem dD.below (h:dD own w p r k x W) (hb:bW W W'):dD own w p r k x W':=
 h.step λc a=>⟨⟨_,λ_ b=>nE b,a.below hb⟩,aH hb⟩
theorem Xc {i:Nat} {T:List (Option TypeId)} (c:Mod (Own w own i) T w W) (b:i<=4) (a:∀d∈T,d∈woT):Mod (λk=>own k<=4) woT w W:=c.mono (λ_ _ h=>by rw[h.2];exact b) a
theorem iW.onE (h:iW w own p r k x) {F:Nat->Prop} {T:List (Option TypeId)} {e:En} (d:∀k,F k->grow (Own w own 1) w W k) (g:eB W F r.e e) (a:Mod (Own w own 1) T w W) (f:∀l∈T,l∈woT):dD own w p r k {x with en:=e} W:=
 have b:=a.size
 ⟨⟨ext w own 1,λ_ c=>nE c,((h.l.keep (iW.keeps a dC _)).mono (λ_=>fw b)).of rfl rfl rfl rfl rfl rfl,g.mono (λk c=>sN b (d k c)),(h.pe.keep (ts:=uV) (iW.keeps a dC _) (λ_ h=>h)).mono (λ_=>fw b),
   (h.a.keep (ts:=[some 218,some 187,some 222,some 5]) (iW.keeps a dC _) sM sM sM sM).mono (λ_=>fw b),(h.b.keep (ts:=[some 218,some 187,some 222,some 5]) (iW.keeps a dC _) sM sM sM sM).mono (λ_=>fw b)⟩,Xc a dC f⟩
theorem iW.onP (h:iW w own p r k x) {F:Nat->Prop} {T:List (Option TypeId)} {q:Pe} (d:∀k,F k->grow (Own w own 2) w W k) (f:ic W F r.pe k' q) (a:Mod (Own w own 2) T w W) (e:∀g∈T,g∈woT):dD own w p r k' {x with pe:=q} W:=
 have b:=a.size
 ⟨⟨ext w own 2,λ_ c=>nE c,((h.l.keep (iW.keeps a dC _)).mono (λ_=>fw b)).of rfl rfl rfl rfl rfl rfl,(h.e.keep (iW.keeps a dC _)).mono (λ_=>fw b),f.mono (λk c=>sN b (d k c)),
   (h.a.keep (ts:=[some 218,some 187,some 222,some 5]) (iW.keeps a dC _) sM sM sM sM).mono (λ_=>fw b),(h.b.keep (ts:=[some 218,some 187,some 222,some 5]) (iW.keeps a dC _) sM sM sM sM).mono (λ_=>fw b)⟩,Xc a dC e⟩
theorem iW.onA (h:iW w own p r k x) {F:Nat->Prop} {T:List (Option TypeId)} {q:Pp} (d:∀k,F k->grow (Own w own 3) w W k) (f:rH W F r.a q) (a:Mod (Own w own 3) T w W) (e:∀g∈T,g∈woT):dD own w p r k {x with ahead:=q} W:=
 have b:=a.size
 ⟨⟨ext w own 3,λ_ c=>nE c,((h.l.keep (iW.keeps a dC _)).mono (λ_=>fw b)).of rfl rfl rfl rfl rfl rfl,(h.e.keep (iW.keeps a dC _)).mono (λ_=>fw b),(h.pe.keep (ts:=uV) (iW.keeps a dC _) (λ_ h=>h)).mono (λ_=>fw b),
   f.mono (λk c=>sN b (d k c)),(h.b.keep (ts:=[some 218,some 187,some 222,some 5]) (iW.keeps a dC _) sM sM sM sM).mono (λ_=>fw b)⟩,Xc a dC e⟩
theorem iW.onB (h:iW w own p r k x) {F:Nat->Prop} {T:List (Option TypeId)} {q:Pp} (d:∀k,F k->grow (Own w own 4) w W k) (f:rH W F r.b q) (a:Mod (Own w own 4) T w W) (e:∀g∈T,g∈woT):dD own w p r k {x with back:=q} W:=
 have b:=a.size
 ⟨⟨ext w own 4,λ_ c=>nE c,((h.l.keep (iW.keeps a dC _)).mono (λ_=>fw b)).of rfl rfl rfl rfl rfl rfl,(h.e.keep (iW.keeps a dC _)).mono (λ_=>fw b),(h.pe.keep (ts:=uV) (iW.keeps a dC _) (λ_ h=>h)).mono (λ_=>fw b),
   (h.a.keep (ts:=[some 218,some 187,some 222,some 5]) (iW.keeps a dC _) sM sM sM sM).mono (λ_=>fw b),f.mono (λk c=>sN b (d k c))⟩,Xc a dC e⟩
theorem iW.onL (h:iW w own p r k x) {F:Nat->Prop} {T:List (Option TypeId)} {y:Wo} (l:∀k,F k->grow (Own w own 0) w W k) (n:WoL W F p r y) (a:Mod (Own w own 0) T w W) (m:∀o∈T,o∈woT) (d:y.en=x.en) (e:y.pe=x.pe) (f:y.ahead=x.ahead) (g:y.back=x.back):dD own w p r k y W:=
 have b:=a.size
 ⟨⟨ext w own 0,λ_ c=>nE c,n.mono (λk c=>sN b (l k c)),by rw[d];exact(h.e.keep (iW.keeps a dC _)).mono (λ_=>fw b),by rw[e];exact(h.pe.keep (ts:=uV) (iW.keeps a dC _) (λ_ h=>h)).mono (λ_=>fw b),
   by rw[f];exact(h.a.keep (ts:=[some 218,some 187,some 222,some 5]) (iW.keeps a dC _) sM sM sM sM).mono (λ_=>fw b),by rw[g];exact(h.b.keep (ts:=[some 218,some 187,some 222,some 5]) (iW.keeps a dC _) sM sM sM sM).mono (λ_=>fw b)⟩,Xc a dC m⟩
theorem WoL.set1 {S:Nat->Prop} (h:WoL w S p r x) (i:Nat) (u:Value) (y:Wo) (J:∀a s d b t e c v f,(woC x r a s d b t e c v f).setIfInBounds i u=woC y r a s d b t e c v f)
  (G:y.fu=x.fu) (H:y.heard=x.heard) (I:y.sent=x.sent):WoL (w.setCell ⟨p,i,none⟩ u) S p r y/\Mod S [some 110] w (w.setCell ⟨p,i,none⟩ u):=by
 have n:=h.mem;obtain⟨a,d,b,e,c,f,z,K,L,l,A,B,C,m,D,E,F⟩:=h.ex;have q:Mod S [some 110] w (w.setCell ⟨p,i,none⟩ u):=(aV S _ w).setCell l (λ_=>n) sM i _;have g:bQ S [some 115,some 201,some 47,some 5] w (w.setCell ⟨p,i,none⟩ u):=q.aM dC;exact⟨⟨⟨a,d,b,e,c,f,z,K,L,by rw[<-J];exact l.bF i u,A.keep g sM,B.keep g sM,C.keep g sM,λy o=>⟨aG (m y o).1 g sM,(m y o).2⟩,D.trans G.symm,E.trans H.symm,F.trans I.symm⟩,n⟩,q⟩
theorem dD.set1 (h:dD own w p r k x W) (i:Nat) (u:Value) (y:Wo) (D:∀a l d b m e c n f,(woC x r a l d b m e c n f).setIfInBounds i u=woC y r a l d b m e c n f)
  (A:y.fu=x.fu) (B:y.heard=x.heard) (C:y.sent=x.sent) (o:y.en=x.en) (q:y.pe=x.pe) (s:y.ahead=x.ahead) (t:y.back=x.back):dD own w p r k y (W.setCell ⟨p,i,none⟩ u):=
 h.step λE g=>by
  obtain⟨v,z⟩:=g.l.set1 i u y D A B C;exact g.onL (λ_ h=>.inl h) v z (by simp[woT]) o q s t
theorem dD.blk (h:dD own w p r k x W):∃a d b e c f,Blk W p 110 (woC x r a x.fu d b x.heard e c x.sent f):=by
 obtain⟨z,_,g⟩:=h.ex;obtain⟨a,d,b,e,c,f,q,y,A,l,s,t,u,v,m,n,o⟩:=g.l.ex;exact⟨a,d,b,e,c,f,by rw[<-m,<-n,<-o];exact l⟩
end
attribute[local go_sem] BW.cell BW.frozen
def stV (s:St):Array Value:= #[jI s.aS,uI s.now,uI s.cr,uI s.dL,uI s.jS,uI s.bK,uI s.gU,uI s.next,uI s.low,uI s.fG,uI s.gP,uI s.dh.dB,uI s.dh.eT,uI s.dh.fI,uI s.dh.bE,uI s.dh.late]
section
variable {own iU:Nat->Nat} {w W W':World} {p k k':Nat} {r:Wp} {x x':Wo}
theorem dD.via (h:dD own w p r k x W) (b:∀k,k<w.heap.size->iU k=own k) (g:dD iU W p r k' x' W'):dD own w p r k' x' W':=by
 obtain⟨⟨i,c,d⟩,e⟩:=g;have j:=h.m.size;exact⟨⟨i,λk a=>(c k oM).trans (b k a),d⟩,h.m.then e (λk a f=>by rw[<-b k a];exact f)⟩
theorem dD.row {t:TypeId} {size n:Nat} {a:Option Addr} {xs:List Value} (h:dD own w p r k x W) (b:Row w (λk=>4<own k) t size a n xs):Row W (λk=>4<own k) t size a n xs:=
 aG b (ts:=[some t]) (h.m.iD (λk c d=>by omega)) sM
theorem dD.put (h:dD own w p r k x W) {n:Nat} (q:n<1000000000) (t:vY n x.back) {d:Nat->Prop} {a:Option Addr} (c:Nat) {b:List Int} (hb:Bys W d a b) (j:b.length<=100000) (l:dP b) (u:Word x.now):
  Calls Tryz.prog 39 #[(pT r.b),.slice a b.length c,uI x.now] W λe g=>e=.returned (.tuple #[])/\dD own w p r k {x with back:=qD x.back b x.now} g:=by
 obtain⟨iU,i,f⟩:=h.ex;refine(El n q (Own W iU 4) d r.b x.back a c b x.now W f.b t hb j l u qX).mono ?_;rintro e g ⟨m,s,o⟩;exact⟨m,h.via i (f.onB (λ_ h=>h) s o (by simp[woT,puT]))⟩
theorem dD.putA (h:dD own w p r k x W) {n:Nat} (q:n<1000000000) (t:vY n x.ahead) {d:Nat->Prop} {a:Option Addr} (c:Nat) {b:List Int} (hb:Bys W d a b) (j:b.length<=100000) (l:dP b) (u:Word x.now):
  Calls Tryz.prog 39 #[(pT r.a),.slice a b.length c,uI x.now] W λe g=>e=.returned (.tuple #[])/\dD own w p r k {x with ahead:=qD x.ahead b x.now} g:=by
 obtain⟨iU,i,f⟩:=h.ex;refine(El n q (Own W iU 3) d r.a x.ahead a c b x.now W f.a t hb j l u qX).mono ?_;rintro e g ⟨m,s,o⟩;exact⟨m,h.via i (f.onA (λ_ h=>h) s o (by simp[woT,puT]))⟩
theorem dD.on (h:dD own w p r k x W) {n:Nat} (o:dG n x.en) (s:n<=90000000) {d:Nat->Prop} {a:Option Addr} (c:Nat) {b:List Int} (hb:Bys W d a b) (j:b.length<=100000) (l:dP b) (u:Word x.now):
  Calls Tryz.prog 20 #[(pT r.e),.slice a b.length c,uI x.now] W λe g=>e=.returned (.agg #[jI (lU x.en b x.now).ver.kind,jI (lU x.en b x.now).ver.why,uI (lU x.en b x.now).ver.pn,bV (lU x.en b x.now).ver.dU])/\dD own w p r k {x with en:=(lU x.en b x.now).en} g:=by
 obtain⟨iU,i,f⟩:=h.ex;refine(GI n (Own W iU 1) d r.e x.en a c b x.now W f.e o s qX u hb j l).mono ?_;rintro e g ⟨m,t,q⟩;exact⟨m,h.via i (f.onE (λ_ h=>h) t q (by simp[woT,onT]))⟩
theorem dD.tick (h:dD own w p r k x W) {n:Nat} (f:dG n x.en) (j:Word x.now):
  Calls Tryz.prog 23 #[(pT r.e),uI x.now] W λa c=>a=.returned (.tuple #[])/\dD own w p r k {x with en:=kr x.en x.now} c:=by
 obtain⟨iU,d,b⟩:=h.ex;refine(Ay n (Own W iU 1) r.e x.en x.now W b.e f qX j).mono ?_;rintro a c ⟨e,i,g⟩;exact⟨e,h.via d (b.onE (λ_ h=>h) i g (by simp[woT,jC]))⟩
theorem dD.write (h:dD own w p r k x W) {n:Nat} (o:dG n x.en) {d:Nat->Prop} {a:Option Addr} {c:Nat} {b:List Int} (hb:Bys W d a b) (j:b.length<=c) (l:b.length<=1000000000):
  Calls Tryz.prog 17 #[(pT r.e),.slice a b.length c] W λe g=>e=.returned (.tuple #[jI (fU x.en b).n,jI (fU x.en b).err])/\dD own w p r k {x with en:=(fU x.en b).en} g:=by
 obtain⟨iU,i,f⟩:=h.ex;refine(Cz n (Own W iU 1) d r.e x.en a b c W f.e o hb j l).mono ?_;rintro e g ⟨m,s,q⟩;exact⟨m,h.via i (f.onE (λ_ h=>h) s q (by simp[woT]))⟩
theorem dD.close (h:dD own w p r k x W) {n:Nat} (f:dG n x.en):
  Calls Tryz.prog 36 #[(pT r.e)] W λa c=>a=.returned (jI (kF x.en).err)/\dD own w p r k {x with en:=(kF x.en).en} c:=by
 obtain⟨iU,d,b⟩:=h.ex;refine(Lh n (Own W iU 1) r.e x.en W b.e f).mono ?_;rintro a c ⟨e,i,g⟩;exact⟨e,h.via d (b.onE (λ_ h=>.inl h) i g (by simp[woT]))⟩
theorem dD.poll (h:dD own w p r k x W) {n:Nat} (m:dG n x.en) (q:n<=80000000) (t:Word x.now):
  Calls Tryz.prog 37 #[(pT r.e),uI x.now] W λd c=>∃a b,d=.returned (.tuple #[.slice a (fD x.en x.now).b.length b,jI (fD x.en x.now).err])/\(fD x.en x.now).b.length<=b/\Bys c (λ_=>True) a (fD x.en x.now).b/\dD own w p r k {x with en:=(fD x.en x.now).en} c:=by
 obtain⟨iU,g,e⟩:=h.ex;refine(EU n (Own W iU 1) r.e x.en x.now W e.e m q qX t).mono ?_;rintro d c ⟨a,b,u,l,j,v,f,y,s,i,o⟩;exact⟨a,b,l,j,aF i (λ_ _=>trivial),h.via g (e.onE f s o (by simp[woT,sdT]))⟩
theorem dD.take (h:dD own w p r k x W) {n:Nat} (o:jN n 32 32 x.pe) (t:n<=600000) (q:k<=1000000000) {e:Nat->Prop} {a:Option Addr} (c:Nat) {b:List Int} (hb:Bys W e a b) (j:b.length<=100000) (l:dP b) (v:Word x.now):
  Calls Tryz.prog 86 #[(pT r.pe),.slice a b.length c,uI x.now] W λf d=>∃a c,f=.returned (.tuple #[.slice a (oN x.pe b x.now).b.length c,bV (oN x.pe b x.now).ok])/\Bys d (λ_=>True) a (oN x.pe b x.now).b/\dD own w p r (k+1) {x with pe:=(oN x.pe b x.now).pe} d:=by
 obtain⟨iU,i,g⟩:=h.ex;refine(KG (Own W iU 2) e r.pe k n x.pe a c b x.now W g.pe o t q qX hb j l v).mono ?_;rintro f d ⟨a,c,m,y,hb,u,s⟩;exact⟨a,c,m,aF hb (λ_ _=>trivial),h.via i (g.onP (λ_ h=>h) u s (by simp[woT,peT]))⟩
theorem dD.ptick (h:dD own w p r k x W) {n:Nat} (j:jN n 32 32 x.pe):
  Calls Tryz.prog 87 #[(pT r.pe),uI x.now] W λd c=>∃a b,d=.returned (.tuple #[.slice a (kK x.pe x.now).b.length b,bV (kK x.pe x.now).ok])/\Bys c (λ_=>True) a (kK x.pe x.now).b/\dD own w p r k {x with pe:=(kK x.pe x.now).pe} c:=by
 obtain⟨iU,f,e⟩:=h.ex;refine(KF (Own W iU 2) r.pe k n x.pe x.now W e.pe j qX).mono ?_;rintro d c ⟨a,b,i,o,g,m,l⟩;exact⟨a,b,i,aF g (λ_ _=>trivial),h.via f (e.onP (λ_ h=>.inl h) m l (by simp[woT,peT]))⟩
theorem iW.QY (g:iW w own p r k x) {n:Nat} (A:n<=1000000000) (y:x.ahead.items.length<=2*n+1) (E:∀a∈x.ahead.items,Word a.iat/\a.b.length<=100000) (B:Word x.now):
  Calls Tryz.prog 84 #[(pT r.a),uI x.now] w λo d=>∃f i,∃b:List Bv,o=.returned (.slice f b.length i)/\b.map (·.b)=iy x.now x.ahead.items/\Row d (λk=>4<ext w own 9 k) 47 1 f b.length (b.flatMap bvV)/\(∀a∈b,Bys d (λk=>4<ext w own 9 k) a.a a.b/\a.b.length<=a.c)/\iW d (ext w own 9) p r k {x with ahead:={x.ahead with items:=iH x.now x.ahead.items}}/\Mod (λk=>own k<=4) woT w d:=by
 refine(BQ n A (Own w own 3) r.a x.ahead x.now w g.a y E B qX).mono ?_;rintro o d ⟨f,i,b,u,z,C,s,D,j⟩;have e:=j.size;have c:∀l,l≠3->∀m,bQ (Own w own l) m w d:=λl v m=>iW.keeps j v m;(have q:∀k,w.heap.size<=k->4<ext w own 9 k:=λk c=>by rw[uG c];decide);exact⟨f,i,b,u,z,aF C.row q,λa t=>⟨aF (s a t).1 q,(s a t).2⟩,⟨((g.l.keep (c 0 dC _)).mono (λ_=>fw e)).of rfl rfl rfl rfl rfl rfl,(g.e.keep (c 1 dC _)).mono (λ_=>fw e),(g.pe.keep (ts:=uV) (c 2 dC _) (λ_ h=>h)).mono (λ_=>fw e),
  D.mono (λ_=>fw e),(g.b.keep (ts:=[some 218,some 187,some 222,some 5]) (c 4 dC _) sM sM sM sM).mono (λ_=>fw e)⟩,Xc j dC (by simp[woT])⟩
theorem iW.QX (g:iW w own p r k x) {n:Nat} (A:n<=1000000000) (y:x.back.items.length<=2*n+1) (E:∀a∈x.back.items,Word a.iat/\a.b.length<=100000) (B:Word x.now):
  Calls Tryz.prog 84 #[(pT r.b),uI x.now] w λo d=>∃f i,∃b:List Bv,o=.returned (.slice f b.length i)/\b.map (·.b)=iy x.now x.back.items/\Row d (λk=>4<ext w own 9 k) 47 1 f b.length (b.flatMap bvV)/\(∀a∈b,Bys d (λk=>4<ext w own 9 k) a.a a.b/\a.b.length<=a.c)/\iW d (ext w own 9) p r k {x with back:={x.back with items:=iH x.now x.back.items}}/\Mod (λk=>own k<=4) woT w d:=by
 refine(BQ n A (Own w own 4) r.b x.back x.now w g.b y E B qX).mono ?_;rintro o d ⟨f,i,b,u,z,C,s,D,j⟩;have e:=j.size;have c:∀l,l≠4->∀m,bQ (Own w own l) m w d:=λl v m=>iW.keeps j v m;(have q:∀k,w.heap.size<=k->4<ext w own 9 k:=λk c=>by rw[uG c];decide);exact⟨f,i,b,u,z,aF C.row q,λa t=>⟨aF (s a t).1 q,(s a t).2⟩,⟨((g.l.keep (c 0 dC _)).mono (λ_=>fw e)).of rfl rfl rfl rfl rfl rfl,(g.e.keep (c 1 dC _)).mono (λ_=>fw e),(g.pe.keep (ts:=uV) (c 2 dC _) (λ_ h=>h)).mono (λ_=>fw e),
  (g.a.keep (ts:=[some 218,some 187,some 222,some 5]) (c 3 dC _) sM sM sM sM).mono (λ_=>fw e),D.mono (λ_=>fw e)⟩,Xc j dC (by simp[woT])⟩
end
theorem MI (own:Nat->Nat) (w W:World) (p k n:Nat) (r:Wp) (x:Wo) (F:Nat->Prop) (a:Option Addr) (c:Nat) (b:List Int) (e:Bool) (h:dD own w p r k x W) (u:n<1000000000) (v:vY n x.back) (hb:Bys W F a b) (o:b.length<=100000) (q:dP b) (z:Word x.now):
  Calls Tryz.prog 85 #[pT p,.slice a b.length c,bV e] W λj f=>j=.returned (.tuple #[])/\dD own w p r k (if e&& !x.mute then{x with back:=qD x.back b x.now}else x) f:=by
 obtain⟨I,L,J,M,K,N,d⟩:=h.blk;have G:=d.Wu 5;have O:=d.Wu 3;have P:=d.Wu 4;have Q:=d.lt;have g:=zH h;have i:=zH (λf (s:bW W f)=>(h.below s).put u v c (aD hb s) o q z);clear h d v hb o q z u;obtain⟨C,A⟩:∃C:Wo,C={x with back:=qD x.back b x.now}:=⟨_,rfl⟩;rw[<-A]at i|-;obtain⟨H,t⟩:=eX x.mute;rw[<-t]at G|-;clear t A;cases e with
 |false=>
  go_enter Tryz.func85,Tryz.ntmps85;go_wp2_with fail;refine mE ?_;exact⟨rfl,g.out⟩
 |true=>
  cases H with
  |true=>
   go_enter Tryz.func85,Tryz.ntmps85;go_wp2_with fail;refine mE ?_;exact⟨rfl,g.out⟩
  |false=>
   go_enter Tryz.func85,Tryz.ntmps85;go_wp2_with fail;refine dQ 9 kR kR ?_;refine mB ?_;refine bwI ?_;intro B l;have m:bW W B:=l;have D:=zH (i.out B m);clear l m;refine dA rfl rfl ?_;go_simp;go_at_call 39;refine(D.out).mono ?_;rintro j R ⟨rfl,y⟩;have E:=zH y;clear y;go_simp;refine mR ?_;go_wp2_with fail;refine mE ?_;exact⟨rfl,E.out⟩
def woK:List (Option TypeId):=[some 110,some 115,some 201,some 47,some 5,some 154,some 232,some 234,some 272,some 236,some 177,some 256,some 314,some 30,some 226,none,some 203,some 218,some 187,some 222]
section
variable {own iU:Nat->Nat} {w W W':World} {p k k':Nat} {r:Wp} {x x':Wo}
theorem dD.loc (h:dD own w p r k x W) {F:Nat->Prop} {T:List (Option TypeId)} (d:Mod F T W W') (i:∀j∈woK,j∉T) (g:∀k,F k->w.heap.size<=k):dD own w p r k x W':=by
 obtain⟨iU,f,b⟩:=h.ex;have c:=d.size;have l:=h.m.size;have a:∀e,bQ e woK W W':=λe=>d.aM i;exact⟨⟨ext W iU 9,λk a=>(nE oM).trans (f k a),⟨(b.l.keep ((a _).mono (λ_ h=>h) (by simp[woK]))).mono (λ_=>fw c),(b.e.keep ((a _).mono (λ_ h=>h) (by simp[woK,enT]))).mono (λ_=>fw c),(b.pe.keep (ts:=woK) (a _) (by simp[woK,uV])).mono (λ_=>fw c),
  (b.a.keep (a _) (by simp[woK]) (by simp[woK]) (by simp[woK]) (by simp[woK])).mono (λ_=>fw c),(b.b.keep (a _) (by simp[woK]) (by simp[woK]) (by simp[woK]) (by simp[woK])).mono (λ_=>fw c)⟩⟩,h.m.nA d g⟩
theorem dD.onM (h:dD own w p r k x W) {n:Nat} (q:dG n x.en) (s:n<=90000000) {tb:TypeId} {d:Nat->Prop} {a:Option Addr} (c:Nat) {b:List Int} (hb:Byt tb W d a b) (l:b.length<=100000) (m:dP b) (v:Word x.now) (u:tb≠154\/¬d r.e:=by exact .inl dC):
  Calls Tryz.prog 20 #[(pT r.e),.slice a b.length c,uI x.now] W λf e=>f=.returned (.agg #[jI (lU x.en b x.now).ver.kind,jI (lU x.en b x.now).ver.why,uI (lU x.en b x.now).ver.pn,bV (lU x.en b x.now).ver.dU])/\dD own w p r k {x with en:=(lU x.en b x.now).en} e/\Mod (λ_=>True) woT W e:=by
 obtain⟨iU,j,g⟩:=h.ex;refine(GI n (Own W iU 1) d r.e x.en a c b x.now W g.e q s qX v hb l m u).mono ?_;rintro f e ⟨o,t,i⟩;exact⟨o,h.via j (g.onE (λ_ h=>h) t i (by simp[woT,onT])),i.mono (λ_ _ _=>trivial) (by simp[woT,onT])⟩
theorem dD.c04 (h:dD own w p r k x W):W.cell? ⟨p,0,none⟩=some ((pT r.e))/\W.cell? ⟨p,4,none⟩=some (uI x.now)/\p<W.heap.size:=by
 obtain⟨b,e,c,f,d,g,a⟩:=h.blk;exact⟨a.cell 0,a.cell 4,a.lt⟩
theorem dD.packP (h:dD own w p r k x W):∃z A,∃g:List Six,∃j o,g.length=x.fu/\Blk W p 110 j/\j.size=10/\j[7]?=some (.slice z g.length A)/\j[4]?=some (uI x.now)/\OwnAt W o 115 6 z g.length A (g.flatMap (·.1))/\
  ∀(l a:World) (b:Six) (d:Option Addr) (e:Nat),bW W l->OwnAt a (grow o l a) 115 6 d (g++[b]).length e ((g++[b]).flatMap (·.1))->Mod o [some 115] l a->
   Blk a p 110 j/\dD own w p r k {x with fu:=x.fu+1} (a.setCell ⟨p,7,none⟩ (.slice d (g++[b]).length e)):=by
 obtain⟨iU,N,q⟩:=h.ex;have v:=q.l.mem;obtain⟨H,K,I,L,J,M,i,a1,a3,B,P,Q,S,C,D,U,V⟩:=q.l.ex;refine⟨H,K,i,_,Own W iU 0,D,B,rfl,rfl,rfl,P,?_⟩;intro l a b d e t a0 u;have a5:=t.size;have a6:=u.size;have n:bQ (Own W iU 0) [some 110,some 201,some 47,some 5] W a:=(bQ.below t).trans (u.aM dC);have s:=B.keep n v sM;refine⟨s,?_⟩;have F:Mod (Own W iU 0) [some 110] a (a.setCell ⟨p,7,none⟩ (.slice d (i++[b]).length e)):=(aV _ _ a).setCell s (λ_=>v) sM 7 _;(have a4:(a.setCell ⟨p,7,none⟩ (.slice d (i++[b]).length e)).heap.size=a.heap.size:=by simp[World.setCell]);have Y:=s.bF 7 (.slice d (i++[b]).length e);generalize a.setCell ⟨p,7,none⟩ (.slice d (i++[b]).length e)=f at*
 have m:∀y,bQ y [some 115,some 201,some 47,some 5] a f:=λy=>F.aM dC;have O:∀k,grow (Own W iU 0) W a k->grow (Own W iU 0) W f k:=λk c=>c.imp id (λb=>⟨b.1,by have:=b.2;omega⟩);have X:=(a0.keep (m _) sM).mono (S':=grow (Own W iU 0) W f) (λk c=>c.elim (λb=>.inl b) (λb=>.inr ⟨oM,oM⟩));have R:=((Q.keep n sM).keep (m _) sM).mono (S':=grow (Own W iU 0) W f) (λk c=>.inl c);have T:=((S.keep n sM).keep (m _) sM).mono (S':=grow (Own W iU 0) W f) (λk c=>.inl c);have Z:WoL f (grow (Own W iU 0) W f) p r {x with fu:=x.fu+1}:=
  ⟨⟨d,e,I,L,J,M,i++[b],a1,a3,Y,X,R,T,λG E=>⟨aF (aG (aG (C G E).1 n sM) (m _) sM) (λk c=>O _ (.inl c)),(C G E).2⟩,by rw[aU,D];rfl,U,V⟩,.inl v⟩
 have a2:Mod (Own W iU 0) [some 110,some 115] W f:=((aH t).then (u.mono (λ_ _ h=>h) sM) (λ_ _ h=>h)).trans (F.mono (λ_ _ h=>h) sM);exact h.via N (q.onL (λ_ h=>h) Z a2 (by simp[woT]) rfl rfl rfl rfl)
theorem dD.heardP (h:dD own w p r k x W):∃z A,∃g:List Six,∃j o,g.length=x.heard/\Blk W p 110 j/\j.size=10/\j[8]?=some (.slice z g.length A)/\j[4]?=some (uI x.now)/\OwnAt W o 201 6 z g.length A (g.flatMap (·.1))/\
  ∀(l a:World) (b:Six) (d:Option Addr) (e:Nat),bW W l->OwnAt a (grow o l a) 201 6 d (g++[b]).length e ((g++[b]).flatMap (·.1))->Mod o [some 201] l a->
   Blk a p 110 j/\dD own w p r k {x with heard:=x.heard+1} (a.setCell ⟨p,8,none⟩ (.slice d (g++[b]).length e)):=by
 obtain⟨iU,O,q⟩:=h.ex;have v:=q.l.mem;obtain⟨H,K,I,L,J,M,N,i,a3,B,Q,S,T,C,V,D,X⟩:=q.l.ex;refine⟨I,L,i,_,Own W iU 0,D,B,rfl,rfl,rfl,S,?_⟩;intro l a b d e t a1 u;have a5:=t.size;have a6:=u.size;have n:bQ (Own W iU 0) [some 110,some 115,some 47,some 5] W a:=(bQ.below t).trans (u.aM dC);have s:=B.keep n v sM;refine⟨s,?_⟩;have F:Mod (Own W iU 0) [some 110] a (a.setCell ⟨p,8,none⟩ (.slice d (i++[b]).length e)):=(aV _ _ a).setCell s (λ_=>v) sM 8 _;(have a4:(a.setCell ⟨p,8,none⟩ (.slice d (i++[b]).length e)).heap.size=a.heap.size:=by simp[World.setCell]);have Z:=s.bF 8 (.slice d (i++[b]).length e);generalize a.setCell ⟨p,8,none⟩ (.slice d (i++[b]).length e)=f at*
 have m:∀y,bQ y [some 115,some 201,some 47,some 5] a f:=λy=>F.aM dC;have P:∀k,grow (Own W iU 0) W a k->grow (Own W iU 0) W f k:=λk c=>c.imp id (λb=>⟨b.1,by have:=b.2;omega⟩);have Y:=(a1.keep (m _) sM).mono (S':=grow (Own W iU 0) W f) (λk c=>c.elim (λb=>.inl b) (λb=>.inr ⟨oM,oM⟩));have R:=((Q.keep n sM).keep (m _) sM).mono (S':=grow (Own W iU 0) W f) (λk c=>.inl c);have U:=((T.keep n sM).keep (m _) sM).mono (S':=grow (Own W iU 0) W f) (λk c=>.inl c);have a0:WoL f (grow (Own W iU 0) W f) p r {x with heard:=x.heard+1}:=
  ⟨⟨H,K,d,e,J,M,N,i++[b],a3,Z,R,Y,U,λG E=>⟨aF (aG (aG (C G E).1 n sM) (m _) sM) (λk c=>P _ (.inl c)),(C G E).2⟩,V,by rw[aU,D];rfl,X⟩,.inl v⟩
 have a2:Mod (Own W iU 0) [some 110,some 201] W f:=((aH t).then (u.mono (λ_ _ h=>h) sM) (λ_ _ h=>h)).trans (F.mono (λ_ _ h=>h) sM);exact h.via O (q.onL (λ_ h=>h) a0 a2 (by simp[woT]) rfl rfl rfl rfl)
theorem dD.sentP (h:dD own w p r k x W):∃A B,∃g:List Bv,∃m s,g.length=x.sent/\Blk W p 110 m/\m.size=10/\m[9]?=some (.slice A g.length B)/\m[4]?=some (uI x.now)/\OwnAt W s 47 1 A g.length B (g.flatMap bvV)/\
  ∀(i b:World) (a:Bv) (d:Option Addr) (e:Nat),bW W i->Bys i (λk=>W.heap.size<=k/\k<i.heap.size) a.a a.b->a.b.length<=a.c->a.b.length<=100000->OwnAt b (grow s i b) 47 1 d (g++[a]).length e ((g++[a]).flatMap bvV)->Mod s [some 47] i b->
   Blk b p 110 m/\dD own w p r k {x with sent:=x.sent+1} (b.setCell ⟨p,9,none⟩ (.slice d (g++[a]).length e)):=by
 obtain⟨iU,O,t⟩:=h.ex;have y:=t.l.mem;obtain⟨H,K,I,L,J,M,N,a2,l,C,Q,S,U,D,V,X,E⟩:=t.l.ex;refine⟨J,M,l,_,Own W iU 0,E,C,rfl,rfl,rfl,U,?_⟩;intro i b a d e v a3 a4 a5 a1 o;have a8:=v.size;have a9:=o.size;have q:bQ (Own W iU 0) [some 110,some 115,some 201,some 5] W b:=(bQ.below v).trans (o.aM dC);have u:=C.keep q y sM;refine⟨u,?_⟩;have F:Mod (Own W iU 0) [some 110] b (b.setCell ⟨p,9,none⟩ (.slice d (l++[a]).length e)):=(aV _ _ b).setCell u (λ_=>y) sM 9 _;(have a7:(b.setCell ⟨p,9,none⟩ (.slice d (l++[a]).length e)).heap.size=b.heap.size:=by simp[World.setCell]);have Z:=u.bF 9 (.slice d (l++[a]).length e);generalize b.setCell ⟨p,9,none⟩ (.slice d (l++[a]).length e)=f at*
 have n:∀z,bQ z [some 115,some 201,some 47,some 5] b f:=λz=>F.aM dC;have P:∀k,grow (Own W iU 0) W b k->grow (Own W iU 0) W f k:=λk c=>c.imp id (λa=>⟨a.1,by have:=a.2;omega⟩);have Y:=(a1.keep (n _) sM).mono (S':=grow (Own W iU 0) W f) (λk c=>c.elim (λa=>.inl a) (λa=>.inr ⟨oM,oM⟩));have R:=((Q.keep q sM).keep (n _) sM).mono (S':=grow (Own W iU 0) W f) (λk c=>.inl c);have T:=((S.keep q sM).keep (n _) sM).mono (S':=grow (Own W iU 0) W f) (λk c=>.inl c);have a0:WoL f (grow (Own W iU 0) W f) p r {x with sent:=x.sent+1}:=
  ⟨⟨H,K,I,L,d,e,N,a2,l++[a],Z,R,T,Y,λG j=>by
    rcases WB.1 j with j|j
    ·exact⟨aF (aG (aG (D G j).1 q sM) (n _) sM) (λk c=>P _ (.inl c)),(D G j).2⟩
    ·obtain rfl:=dZ.1 j
     exact⟨aF (aG (aG a3 (o.aM (ts:=[some 5]) dC) sM) (n _) sM) (λk c=>.inr ⟨oM,oM⟩),a4,a5⟩,V,X,by rw[aU,E];rfl⟩,.inl y⟩
 have a6:Mod (Own W iU 0) [some 110,some 47] W f:=((aH v).then (o.mono (λ_ _ h=>h) sM) (λ_ _ h=>h)).trans (F.mono (λ_ _ h=>h) sM);exact h.via O (t.onL (λ_ h=>h) a0 a6 (by simp[woT]) rfl rfl rfl rfl)
end
theorem Ii {t e b:Nat} {z:Value} (j:Tryz.prog.underlying t=some (.slice e)) (i:(Tryz.prog.info? e).map (λa=>(a.zero,a.size,a.bytes))=some (some z,6,b)) (l:z.cells.size=6):Elem Tryz.prog t e 6 b (λx:Six=>x.1):=
 ⟨j,by
  obtain⟨a,c,d,f,g⟩:=info_parts i;exact⟨a,_,c,d,f,g,l⟩,dC,λx=>x.2.1,λx=>x.2.2⟩
theorem WS:Elem Tryz.prog 108 201 6 64 (λb:Six=>b.1):=Ii kR (z:=.agg #[.slice none 0 0,uI 0,jI 0,jI 0,uI 0,bV false]) kR rfl
section
variable {P:Program} {Q:Exit->Act->World->Prop} {a:Act} {w:World}
theorem yI {i:Nat} {l:List Oper} (F:Option Addr->Nat->Nat->Option Addr->Nat->Act) (C:World->Prop) (j:∀c f e d g b,C b->Q .normal (F c f e d g) b) (h:(∀c f e d g b,C b->Q .normal (F c f e d g) b)->(Code.region i l.toArray true).wp P Q a w):(Code.region i l.toArray true).wp P Q a w:=h j
end
theorem DF {tb:TypeId} (W:Nat->Nat) (w:World) (p k n:Nat) (m:Wp) (x:Wo) (a:Option Addr) (c:Nat) (b:List Int) (h:iW w W p m k x) (V:dG n x.en) (g0:n<=90000000) (j4:x.heard<=1000000000) (hb:Byt tb w (λk=>4<W k) a b) (f1:b.length<=100000) (f2:dP b) (g2:Word x.now):
  Calls Tryz.prog 35 #[pT p,.slice a b.length c] w λi3 M=>i3=.returned (.tuple #[])/\dD W w p m k (je x b) M:=by
 (have g1:¬(4<W m.e):=λl9=>by have:=h.e.mem.2;omega);have d6:=zH (dD.refl h);have d9:=zH V;have a9:=zH hb;have e0:=zH f2;obtain⟨e5,e6,j8⟩:=(dD.refl h).c04;obtain⟨d,g5⟩:=eX ((lU x.en b x.now).ver);have e1:=zH g5;clear h V hb f2 g5;go_enter Tryz.func35,Tryz.ntmps35;go_upto_region 0 with fail;refine' uf (F:=_) (λR a5=>Hid (dD W w p m k {x with en:=(lU x.en b x.now).en} a5)/\Hid (Blk a5 R 74 #[jI d.kind,jI d.why,uI d.pn,bV d.dU])/\w.heap.size<=R) ?tl (λN=>?mn);case mn=>
  have q:bW w w.drew:=bA (aj _ _);have a3:=zH (d6.out.below q);have f3:w.drew.cell? ⟨p,0,none⟩=some ((pT m.e)):=e5;have o:w.drew.cell? ⟨p,4,none⟩=some (uI x.now):=e6;refine aZ (S:=λM=>M.cell? ⟨p,0,none⟩=some ((pT m.e))/\M.cell? ⟨p,4,none⟩=some (uI x.now)) kR (⟨f3,o⟩) (λc4=>?_);clear c4;have e:w.drew.cell? ⟨p,0,none⟩=some ((pT m.e))/\w.drew.cell? ⟨p,4,none⟩=some (uI x.now):=⟨f3,o⟩;refine tK 0 5 e ?_;refine tK 1 6 e ?_;refine tK 2 7 e ?_;refine tk 3 (some 8) e (hy:=by intro h3 H;have a2:=H.1;exact gS) (h:=?_);refine nrm 12 15 ?_;refine tK 4 9 e ?_;refine tK 5 10 e ?_;refine tK 6 11 e ?_;refine tK 7 12 e ?_;refine nrm 12 255 ?_;refine tk 8 (some 13) e (hy:=by intro h3 H;have a2:=H.2;exact gS) (h:=?_);refine nrm 12 511 ?_;refine fo 9 10 kR ?_ ?_
  ·refine WE (op:=_) rfl kR (some 14) kR 20 #[(pT m.e),.slice a b.length c,uI x.now] kR ((a3.out.onM d9.out g0 c (a3.out.row a9.out) f1 e0.out g2 (.inr g1)).mono ?_)
   rintro i4 h4 ⟨J,K,a8⟩;have a4:=zH K;obtain⟨j,l,_⟩:=K.c04;have i8:h4.cell? ⟨p,0,none⟩=some ((pT m.e))/\h4.cell? ⟨p,4,none⟩=some (uI x.now):=⟨j,l⟩;rw[<-e1.out]at J;refine⟨_,J,i8,?_⟩;clear J K a8 j l;refine mP ?_;refine aI 10 kR ?_;refine fA (op:=_) rfl kR (some 4) kR 74 kR #[jI 0,jI 0,uI 0,bV false] kR ?_;intro b7 h9 g A c6;have d8:=zH (a4.out.below g);obtain⟨j,l,_⟩:=d8.out.c04;have i9:h9.cell? ⟨p,0,none⟩=some ((pT m.e))/\h9.cell? ⟨p,4,none⟩=some (uI x.now):=⟨j,l⟩;have f6:w.heap.size<=b7:=ay a4.out.m.size A;refine⟨i9,?_⟩;clear j l;clear g A;refine mP ?_;have a1:=Mod.bZ [jI d.kind,jI d.why,uI d.pn,bV d.dU] 0 _ _ c6;have L:=d8.out.loc a1 dC (λk V=>by rw[V];exact f6);obtain⟨j,l,_⟩:=L.c04;have e7:=And.intro j l;refine dJ (i:=11) 74 (.tmp 4) (.tmp 14) b7 0 #[jI d.kind,jI d.why,uI d.pn,bV d.dU] rfl kR kR kR kR kR kR (c6.there _ sM) kR (by simp[Value.oneCell']) (e7) ?_;intro k6 g8;have g6:=Blk.gF c6 [jI d.kind,jI d.why,uI d.pn,bV d.dU] rfl;rw[<-show k6=_ from g8]at g6 e7 L;have i0:=zH L;clear g8 a1 j l;refine mP ?_;refine bg kR ?_ _;exact N b7 _ ⟨i0,zH g6,f6⟩
  ·refine fA (op:=_) rfl kR (some 4) kR 74 kR #[jI 0,jI 0,uI 0,bV false] kR ?_
   intro b6 h5 g A j0;have b0:=zH (a3.out.below g);obtain⟨j,l,_⟩:=b0.out.c04;have i6:h5.cell? ⟨p,0,none⟩=some ((pT m.e))/\h5.cell? ⟨p,4,none⟩=some (uI x.now):=⟨j,l⟩;have f5:w.heap.size<=b6:=ay a3.out.m.size A;refine⟨i6,?_⟩;clear j l;clear g A;refine mP ?_;refine aI 9 kR ?_;refine WE (op:=_) rfl kR (some 14) kR 20 #[(pT m.e),.slice a b.length c,uI x.now] kR ((b0.out.onM d9.out g0 c (b0.out.row a9.out) f1 e0.out g2 (.inr g1)).mono ?_);rintro i4 h6 ⟨J,K,a8⟩;have i1:=zH K;obtain⟨j,l,_⟩:=K.c04;have i7:h6.cell? ⟨p,0,none⟩=some ((pT m.e))/\h6.cell? ⟨p,4,none⟩=some (uI x.now):=⟨j,l⟩;have d2:=j0.mod a8 dC;rw[<-e1.out]at J;refine⟨_,J,i7,?_⟩;clear J K a8 j l;refine mP ?_;have a1:=Mod.bZ [jI d.kind,jI d.why,uI d.pn,bV d.dU] 0 _ _ d2;have L:=i1.out.loc a1 dC (λk V=>by rw[V];exact f5);obtain⟨j,l,_⟩:=L.c04;have e8:=And.intro j l;refine dJ (i:=11) 74 (.tmp 4) (.tmp 14) b6 0 #[jI d.kind,jI d.why,uI d.pn,bV d.dU] rfl kR kR kR kR kR kR (d2.there _ sM) kR (by simp[Value.oneCell']) (e8) ?_;intro k0 h0;have g7:=Blk.gF d2 [jI d.kind,jI d.why,uI d.pn,bV d.dU] rfl;rw[<-show k0=_ from h0]at g7 e8 L;have i2:=zH L;clear h0 a1 j l;refine mP ?_;refine bg kR ?_ _;exact N b6 _ ⟨i2,zH g7,f5⟩
 case tl=>
  intro R B i5;obtain⟨d7,X,l7⟩:=i5;obtain⟨C,D,r,l3,k7,f4,d0,c8,c7,o,g3,g4⟩:=d7.out.heardP;(have l6:r.length<=1000000000:=by rw[f4];exact j4);have f:=zH d0;have b1:=zH g3;have b2:=zH g4;have d5:=zH (d7.out.row a9.out);obtain⟨m0,c9,d3,E,l4⟩:=info_parts (show(Tryz.prog.info? 201).map (λd4=>(d4.zero,d4.size,d4.bytes))=some (some (.agg #[.slice none 0 0,uI 0,jI 0,jI 0,uI 0,bV false]),6,64) by kernel_rfl);have l8:=d0.lt;have l5:=X.out.lt;clear e5 e6 j8 d0 g3 g4 f4 d6;(try simp only[]);go_upto_region 1 with fail;refine' yI (F:=_) (λa5=>Hid (dD W w p m k {x with en:=(lU x.en b x.now).en,heard:=x.heard+1} a5)) ?tl2 (λN=>?mn2);case mn2=>
   have q:bW B B.drew:=bA (aj _ _);refine aZ (S:=λM=>M.cell? ⟨p,4,none⟩=some (uI x.now)/\Blk M R 74 #[jI d.kind,jI d.why,uI d.pn,bV d.dU]) kR (⟨((f.out.below q f.out.lt).cell 4).trans o,X.out.below q X.out.lt⟩) (λc4=>?_);clear c4;have e:B.drew.cell? ⟨p,4,none⟩=some (uI x.now)/\Blk B.drew R 74 #[jI d.kind,jI d.why,uI d.pn,bV d.dU]:=⟨((f.out.below q f.out.lt).cell 4).trans o,X.out.below q X.out.lt⟩;refine tK 0 15 e ?_;refine tK 1 16 e ?_;refine tK 2 17 e ?_;refine tK 3 18 e ?_;refine nrm 18 15 ?_;refine tK 5 20 e ?_;refine tK 7 22 e ?_;refine tK 8 23 e ?_;refine tK 9 24 e ?_;refine nrm 18 943 ?_;refine tk 10 (some 25) e (hy:=by intro h3 H;have a2:=H.1;exact gS) (h:=?_);refine iL (v:=.agg #[jI d.kind,jI d.why,uI d.pn,bV d.dU]) 11 (some 26) rfl kR kR kR kR (λ_ _ _ h=>h) (lH 74 (.tmp 4) rfl rfl R kR #[jI d.kind,jI d.why,uI d.pn,bV d.dU] (λw H=>H.2) _ Tryz.underlying74 kR kR) (e) ?_;refine mP ?_;refine nrm 18 4015 ?_;refine fo 4 6 kR ?_ ?_
   ·refine iw (op:=_) rfl kR (some 19) kR (.slice C r.length D) ?_ ?_
    ·have a2:B.drew.cell? ⟨p,8,none⟩=some (.slice C r.length D):=((f.out.below q f.out.lt).cell 8).trans c7
     go_simp
    refine⟨e,?_⟩;refine mP ?_;refine aI 6 kR ?_;refine jl (op:=_) rfl kR (fe.wp _ (.tmp 20) rfl B.drew.heap.size none 0 [] kR (iq _ _ _ _) a c b kR (aD d5.out q) (by simp only[List.length_nil];omega) dC (av _) ?_);intro O T k2 d1 u;have I:Below B.drew.heap.size B.drew k2:=(aj _ _).grown u (av _) (by simp[Value.ownBlock]);have c3:=q.trans (I.mono q.size);have a7:=And.intro (((f.out.below c3 f.out.lt).cell 4).trans o) (e.2.below I e.2.lt);rw[List.nil_append];refine⟨a7,?_⟩;clear d1 u I;refine mP ?_;refine tK 12 27 a7 ?_;refine nrm 18 8191 ?_;refine aI 13 kR ?_;refine jX (op:=_) rfl kR (some 28) kR 108 201 1 #[(0,.tmp 27)] kR #[.slice O b.length T,uI x.now,jI d.kind,jI d.why,uI d.pn,bV d.dU] WS.ht c9 d3 (by rw[E];decide) (by rw[E];decide) (by rw[E];kernel_rfl) ?_;intro e4 k5 g A j3;have c1:=c3.trans (g.mono c3.size);have f0:=And.intro (((f.out.below c1 f.out.lt).cell 4).trans o) (a7.2.below g a7.2.lt);refine⟨f0,?_⟩;clear g A;refine mP ?_;refine aI 14 kR ?_;refine jl (op:=_) rfl kR (WS.wpO (.tmp 19) (.tmp 28) rfl C D r kR (b1.out.below c1) (some ⟨e4,0,none⟩) 1 [(⟨[.slice O b.length T,uI x.now,jI d.kind,jI d.why,uI d.pn,bV d.dU],rfl,by simp[Value.oneCell']⟩:Six)] kR (WS.single (⟨[.slice O b.length T,uI x.now,jI d.kind,jI d.why,uI d.pn,bV d.dU],rfl,by simp[Value.oneCell']⟩:Six) j3 rfl) (by simp only[bO];omega) dC ?_);intro b3 b8 j9 j5 f7 u;clear u;obtain⟨y,z⟩:=b2.out k5 j9 (⟨[.slice O b.length T,uI x.now,jI d.kind,jI d.why,uI d.pn,bV d.dU],rfl,by simp[Value.oneCell']⟩:Six) b3 b8 c1 j5 f7;have Y:=And.intro ((y.cell 4).trans o) (f0.2.mod f7 dC);refine⟨Y,?_⟩;refine mP ?_;refine tK 15 30 Y ?_;refine tK 16 31 Y ?_;refine nrm 18 131071 ?_;refine aI 17 kR ?_;refine fF (op:=_) rfl kR kR 108 (.tmp 31) (.tmp 29) kR p 8 (.slice b3 (r++[(⟨[.slice O b.length T,uI x.now,jI d.kind,jI d.why,uI d.pn,bV d.dU],rfl,by simp[Value.oneCell']⟩:Six)]).length b8) kR kR rfl kR y (by rw[c8];decide) ?_;intro m2 g9;rw[<-g9]at z;refine⟨⟨z.c04.2.1,by rw[g9];exact Y.2.far (dF Y.2 y dC) _⟩,?_⟩;refine mP ?_;refine bg kR ?_ _;exact N O T e4 b3 b8 _ (zH z)
   ·refine jl (op:=_) rfl kR (fe.wp _ (.tmp 20) rfl B.drew.heap.size none 0 [] kR (iq _ _ _ _) a c b kR (aD d5.out q) (by simp only[List.length_nil];omega) dC (av _) ?_)
    intro s t h7 d1 u;have I:Below B.drew.heap.size B.drew h7:=(aj _ _).grown u (av _) (by simp[Value.ownBlock]);have U:=q.trans (I.mono q.size);have G:=And.intro (((f.out.below U f.out.lt).cell 4).trans o) (e.2.below I e.2.lt);rw[List.nil_append];refine⟨G,?_⟩;clear d1 u I;refine mP ?_;refine tK 12 27 G ?_;refine nrm 18 8175 ?_;refine fo 4 13 kR ?_ ?_
    ·refine iw (op:=_) rfl kR (some 19) kR (.slice C r.length D) ?_ ?_
     ·have a2:h7.cell? ⟨p,8,none⟩=some (.slice C r.length D):=((f.out.below U f.out.lt).cell 8).trans c7
      go_simp
     refine⟨G,?_⟩;refine mP ?_;refine aI 13 kR ?_;refine jX (op:=_) rfl kR (some 28) kR 108 201 1 #[(0,.tmp 27)] kR #[.slice s b.length t,uI x.now,jI d.kind,jI d.why,uI d.pn,bV d.dU] WS.ht c9 d3 (by rw[E];decide) (by rw[E];decide) (by rw[E];kernel_rfl) ?_;intro e2 k1 g A j1;have c2:=U.trans (g.mono U.size);have e9:=And.intro (((f.out.below c2 f.out.lt).cell 4).trans o) (G.2.below g G.2.lt);refine⟨e9,?_⟩;clear g A;refine mP ?_;refine aI 14 kR ?_;refine jl (op:=_) rfl kR (WS.wpO (.tmp 19) (.tmp 28) rfl C D r kR (b1.out.below c2) (some ⟨e2,0,none⟩) 1 [(⟨[.slice s b.length t,uI x.now,jI d.kind,jI d.why,uI d.pn,bV d.dU],rfl,by simp[Value.oneCell']⟩:Six)] kR (WS.single (⟨[.slice s b.length t,uI x.now,jI d.kind,jI d.why,uI d.pn,bV d.dU],rfl,by simp[Value.oneCell']⟩:Six) j1 rfl) (by simp only[bO];omega) dC ?_);intro b4 b9 k3 j6 f8 u;clear u;obtain⟨y,z⟩:=b2.out k1 k3 (⟨[.slice s b.length t,uI x.now,jI d.kind,jI d.why,uI d.pn,bV d.dU],rfl,by simp[Value.oneCell']⟩:Six) b4 b9 c2 j6 f8;have Z:=And.intro ((y.cell 4).trans o) (e9.2.mod f8 dC);refine⟨Z,?_⟩;refine mP ?_;refine tK 15 30 Z ?_;refine tK 16 31 Z ?_;refine nrm 18 131071 ?_;refine aI 17 kR ?_;refine fF (op:=_) rfl kR kR 108 (.tmp 31) (.tmp 29) kR p 8 (.slice b4 (r++[(⟨[.slice s b.length t,uI x.now,jI d.kind,jI d.why,uI d.pn,bV d.dU],rfl,by simp[Value.oneCell']⟩:Six)]).length b9) kR kR rfl kR y (by rw[c8];decide) ?_;intro m3 h1;rw[<-h1]at z;refine⟨⟨z.c04.2.1,by rw[h1];exact Z.2.far (dF Z.2 y dC) _⟩,?_⟩;refine mP ?_;refine bg kR ?_ _;exact N s t e2 b4 b9 _ (zH z)
    ·refine jX (op:=_) rfl kR (some 28) kR 108 201 1 #[(0,.tmp 27)] kR #[.slice s b.length t,uI x.now,jI d.kind,jI d.why,uI d.pn,bV d.dU] WS.ht c9 d3 (by rw[E];decide) (by rw[E];decide) (by rw[E];kernel_rfl) ?_
     intro e3 h8 g A j2;have a6:=U.trans (g.mono U.size);have c5:=And.intro (((f.out.below a6 f.out.lt).cell 4).trans o) (G.2.below g G.2.lt);refine⟨c5,?_⟩;clear g A;refine mP ?_;refine aI 4 kR ?_;refine iw (op:=_) rfl kR (some 19) kR (.slice C r.length D) ?_ ?_
     ·have a2:h8.cell? ⟨p,8,none⟩=some (.slice C r.length D):=((f.out.below a6 f.out.lt).cell 8).trans c7
      go_simp
     refine⟨c5,?_⟩;refine mP ?_;refine aI 14 kR ?_;refine jl (op:=_) rfl kR (WS.wpO (.tmp 19) (.tmp 28) rfl C D r kR (b1.out.below a6) (some ⟨e3,0,none⟩) 1 [(⟨[.slice s b.length t,uI x.now,jI d.kind,jI d.why,uI d.pn,bV d.dU],rfl,by simp[Value.oneCell']⟩:Six)] kR (WS.single (⟨[.slice s b.length t,uI x.now,jI d.kind,jI d.why,uI d.pn,bV d.dU],rfl,by simp[Value.oneCell']⟩:Six) j2 rfl) (by simp only[bO];omega) dC ?_);intro b5 c0 k4 j7 f9 u;clear u;obtain⟨y,z⟩:=b2.out h8 k4 (⟨[.slice s b.length t,uI x.now,jI d.kind,jI d.why,uI d.pn,bV d.dU],rfl,by simp[Value.oneCell']⟩:Six) b5 c0 a6 j7 f9;have a0:=And.intro ((y.cell 4).trans o) (c5.2.mod f9 dC);refine⟨a0,?_⟩;refine mP ?_;refine tK 15 30 a0 ?_;refine tK 16 31 a0 ?_;refine nrm 18 131071 ?_;refine aI 17 kR ?_;refine fF (op:=_) rfl kR kR 108 (.tmp 31) (.tmp 29) kR p 8 (.slice b5 (r++[(⟨[.slice s b.length t,uI x.now,jI d.kind,jI d.why,uI d.pn,bV d.dU],rfl,by simp[Value.oneCell']⟩:Six)]).length c0) kR kR rfl kR y (by rw[c8];decide) ?_;intro m4 h2;rw[<-h2]at z;refine⟨⟨z.c04.2.1,by rw[h2];exact a0.2.far (dF a0.2 y dC) _⟩,?_⟩;refine mP ?_;refine bg kR ?_ _;exact N s t e3 b5 c0 _ (zH z)
  case tl2=>
   intro k8 l1 l0 k9 l2 m1 a4;(try simp only[]);go_wp2_with fail;refine mE ?_;exact⟨rfl,a4.out⟩
end Go.Proofs.YtiflndepmgnojaaGreat
