import Derived.Test.YtiflndepmgnojaaGreatProg
import Derived.WalkKit
import Derived.WalkSpells
import Derived.WalkLawsBesides
import Derived.RowKit3
import Derived.Handy
import Derived.Below
import Derived.Lib.Hide
import Derived.Laws.OwnMore
import Derived.Laws.Rows
import Derived.Deep.Draws
import Derived.Maps.AppendAt
import Derived.Deep.AppendLies
import Derived.RegionTactic
import Derived.OwnWalk
import Derived.Deep.QuietTactic
import Derived.BigQuiet
import Derived.Deep.RegionHeld3
import Derived.Deep.RegionLaw
import Derived.Test.YtiflndepmgnojaaGreatModel
namespace Go.Proofs.YtiflndepmgnojaaGreat
open Go.RowKit
set_option linter.unusedSimpArgs false
set_option linter.unusedVariables false
set_option maxRecDepth 100000
theorem kR {p:Prop} (h:p:=by kernel_rfl):p:=h
theorem oM {p:Prop} (h:p:=by omega):p:=h
theorem dC {p:Prop} (h:p:=by decide):p:=h
theorem sM {p:Prop} (h:p:=by simp):p:=h
theorem zH {p:Prop} (h:p):Hid p:=Lib.hid h
theorem sO {p:Prop} (h:p:=by simp;omega):p:=h
theorem gS {p:Prop} (h:p:=by go_simp;try with_reducible rfl):p:=h
theorem eX {c:Sort _} (t:c):∃b,b=t:=⟨t,rfl⟩
abbrev bW (w w':World):Prop:=Below w.heap.size w w'
abbrev pT (b:Nat):Value:=.pointer (some ⟨b,0,none⟩)
abbrev cE (w:World) (p i:Nat) (v:Value):Prop:=w.cell? ⟨p,i,none⟩=some v
abbrev fZ (w:World) (p i:Nat):Prop:=w.frozen? ⟨p,i,none⟩=false
abbrev uI (x:Int):Value:=.int .u64 x
abbrev jI (x:Int):Value:=.int .i64 x
abbrev bV (b:Bool):Value:=.bool b
abbrev AX (x:Cc):Array Value:= #[.int .u64 x.win.cr,.int .u64 x.win.dL,.int .u64 x.win.acc,.int .u64 x.win.jF,.int .u64 x.win.gX,.int .u64 x.win.k,.int .u64 x.win.fair,.int .u64 x.round.iO,.int .u64 x.round.mX]
abbrev jK:Array Value:= #[.slice none 0 0,.slice none 0 0,.int .u64 0,.int .u64 0,.bool false]
abbrev kG (v:Ve):List Value:=[.int .i64 v.kind,.int .i64 v.why,.int .u64 v.pn,.bool v.dU]
abbrev kH (a:Option Addr) (c:Nat) (b:Option Addr) (d:Nat) (k:Ak):List Value:=[.slice a k.cu.length c,.slice b k.aO.length d,.int .u64 k.dw,.int .u64 k.xor,.bool k.kZ]
abbrev av:= @Nat.le_refl
abbrev aj:= @Below.refl
abbrev ay:= @Nat.le_trans
abbrev aC:= @Nat.lt_of_lt_of_le
abbrev fO:= @Nat.le_of_lt
abbrev gQ:= @Nat.ne_of_gt
abbrev aL:= @List.getElem?_eq_getElem
abbrev aN:= @List.getElem_mem
abbrev aJ:= @Calls.quiet_of_same
abbrev dn:= @Calls.quiet_of
abbrev Ww:= @if_neg
abbrev aB:= @if_pos
abbrev bD:= @Below.trans
abbrev bG:= @Below.setCell
abbrev bf:= @List.mem_of_mem_take
abbrev dW:= @List.mem_of_mem_drop
abbrev bB:= @List.take_succ_eq_append_getElem
abbrev aR:= @List.drop_eq_getElem_cons
abbrev aW:= @List.getD_eq_getElem?_getD
abbrev aT:= @List.length_take
abbrev aU:= @List.length_append
abbrev bI:= @List.length_drop
abbrev aY:= @List.length_cons
abbrev bR:= @List.length_map
abbrev bO:= @List.length_singleton
abbrev bC:= @Int.mul_le_mul_of_nonneg_right
abbrev bH:= @Int.eq_ofNat_of_zero_le
abbrev bY:= @Int.le_refl
abbrev bJ:= @decide_eq_false
abbrev bM:= @decide_eq_true
abbrev bT:= @List.mem_cons
abbrev WB:= @List.mem_append
abbrev dZ:= @List.mem_singleton
abbrev dx:= @List.mem_filter
abbrev Wz:= @IntWalk.u64_in
abbrev eP:= @IntWalk.i64_in
abbrev jL:= @of_decide_eq_true
abbrev jq:= @of_decide_eq_false
abbrev dK:= @Int.mul_nonneg
abbrev bg:= @wpAnyH_done
abbrev aK:= @wpQuiet_nil
abbrev eG:= @bodyPost_ret
abbrev aZ:= @wp_region_held_drew
abbrev bN:= @wp_region_quiet_lit
abbrev lY:= @congrArg
abbrev dV:= @List.eq_nil_of_length_eq_zero
abbrev dY:= @World.block_lt_of_cell?
abbrev mU:= @Bool.eq_iff_iff
abbrev dM:= @List.take_length
abbrev fJ:= @Nat.min_eq_left
abbrev kT:= @List.mem_cons_self
abbrev jQ:= @List.mem_cons_of_mem
abbrev oK:= @Int.le_trans
abbrev iQ:= @Int.emod_nonneg
abbrev iN:= @Int.emod_lt_of_pos
abbrev iA:= @List.foldl_append
abbrev iE:= @List.flatMap_append
abbrev jV:= @Nat.zero_le
abbrev Wy:= @absurd
theorem jk {k:IntKind} {a b:Int} (h:a=b):Ending.returned (.int k a)=.returned (.int k b):=by rw[h]
theorem eF {a b:Bool} (h:a=b):Ending.returned (.bool a)=.returned (.bool b):=by rw[h]
theorem rU {a b:Nat} (h:a<b):a<b/\a<b+1/\a<b+1+1/\a<b+1+1+1/\a<b+1+1+1+1/\a<b+1+1+1+1+1/\a<b+1+1+1+1+1+1/\a<b+1+1+1+1+1+1+1/\a<b+1+1+1+1+1+1+1+1:=oM
theorem JZ {w b:World} {o:Obj} (h:Below (w.alloc o).heap.size (w.alloc o) b):Below w.heap.size w b:=
 ((aj _ _).alloc (av _) o).trans (h.mono sM)
theorem below_drewN' {B:Nat} {a w:World} (h:Below B a w) (n:Nat):Below B a (w.drewN n):=⟨h.os,h.tape,h.output,h.size,h.block⟩
theorem vU {B:Nat} {a w:World} (h:Below B a w):Below B a w.drew:=⟨h.os,h.tape,h.output,h.size,h.block⟩
def Blk (w:World) (g:Nat) (t:TypeId) (cs:Array Value):Prop:=w.heap[g]?=some (.cells cs t (0,0))
section
variable {w w':World} {g:Nat} {t:TypeId} {cs:Array Value}
theorem WT {o:Obj} (h:w.heap[g]?=some o):g<w.heap.size:=by
 rcases Nat.lt_or_ge g w.heap.size with c|b
 ·exact c
 ·rw[Array.getElem?_eq_none b]at h;cases h
theorem Blk.lt (h:Blk w g t cs):g<w.heap.size:=WT h
theorem Blk.cell (h:Blk w g t cs) (i:Nat):w.cell? ⟨g,i,none⟩=cs[i]?:=cell_of_row w g i cs t (0,0) h
theorem Blk.frozen (h:Blk w g t cs) (i:Nat):w.frozen? ⟨g,i,none⟩=false:=by
 unfold Blk at h;simp[World.frozen?,h]
theorem Blk.new (w:World) (t:TypeId) (cs:Array Value):Blk (w.alloc (.cells cs t)) w.heap.size t cs:=heap_alloc_new w _
theorem Blk.qN (w:World) (o:Obj) (t:TypeId) (cs:Array Value):Blk ((w.alloc o).alloc (.cells cs t)) (w.heap.size+1) t cs:=by
 have:=heap_alloc_new (w.alloc o) (.cells cs t)
 rwa [show(w.alloc o).heap.size=w.heap.size+1 by simp]at this
theorem Blk.IV (w:World) (o b:Obj) (t:TypeId) (cs:Array Value):Blk (((w.alloc o).alloc b).alloc (.cells cs t)) (w.heap.size+1+1) t cs:=by
 have:=heap_alloc_new ((w.alloc o).alloc b) (.cells cs t)
 rwa [show((w.alloc o).alloc b).heap.size=w.heap.size+1+1 by simp]at this
theorem Blk.IU (w:World) (o b c:Obj) (t:TypeId) (cs:Array Value):Blk ((((w.alloc o).alloc b).alloc c).alloc (.cells cs t)) (w.heap.size+1+1+1) t cs:=by
 have:=heap_alloc_new (((w.alloc o).alloc b).alloc c) (.cells cs t)
 rwa [show(((w.alloc o).alloc b).alloc c).heap.size=w.heap.size+1+1+1 by simp]at this
theorem mr {k:Type} {f:k->List Value} {m:Nat} (e:∀j,(f j).length=m):∀(i:List k) (c b:Nat) (d:c<i.length),b<m->(i.flatMap f)[c*m+b]?=(f i[c])[b]?
 |[],c,b,d,_=>by simp at d
 |j::t,0,b,d,hc=>by simp[List.getElem?_append,e,hc]
 |j::t,c+1,b,d,hc=>by
  have:=mr e t c b (by simpa using d) hc;simp only[List.flatMap_cons,List.getElem?_append,e];rw[Ww (by have:=Nat.le_mul_of_pos_left m (show 0<c+1 by omega);omega)];rw[show(c+1)*m+b -m=c*m+b by rw[Nat.add_mul];omega,this];rfl
theorem sZ {c:Type} {f:c->List Value} {m:Nat} (d:∀b,(f b).length=m) (l:List c):(l.flatMap f).length=l.length*m:=by
 induction l with
 |nil=>simp
 |cons b t ih=>simp only[List.flatMap_cons,aU,d,ih,aY,Nat.add_mul];omega
theorem Blk.drew (h:Blk w g t cs):Blk w.drew g t cs:=h
theorem Blk.drewN (h:Blk w g t cs) (n:Nat):Blk (w.drewN n) g t cs:=h
theorem Blk.alloc (h:Blk w g t cs) (o:Obj):Blk (w.alloc o) g t cs:=(Below.heap_alloc w o g h.lt).trans h
theorem Blk.bF (h:Blk w g t cs) (i:Nat) (u:Value):Blk (w.setCell ⟨g,i,none⟩ u) g t (cs.setIfInBounds i u):=by
 unfold Blk at h|-;simp[World.setCell,Array.getElem?_modify,h]
theorem Blk.far (h:Blk w g t cs) {p:Addr} (b:g≠p.block) (u:Value):Blk (w.setCell p u) g t cs:=(Below.heap_setCell w p u g b).trans h
theorem Blk.below {B:Nat} (h:Blk w g t cs) (hb:Below B w w') (b:g<B):Blk w' g t cs:=(hb.block g b).trans h
theorem Blk.grown {row:Option Nat} (h:Blk w g t cs) (hb:w.grownBy w' row) (b:some g≠row):Blk w' g t cs:=(hb.block g h.lt b).trans h
theorem Blk.ne_ {g':Nat} {t':TypeId} {cs':Array Value} (h:Blk w g t cs) (b:Blk w g' t' cs') (c:t≠t'):g≠g':=by
 rintro rfl;unfold Blk at h b;rw[h]at b;injection b with b;injection b with _ d;exact c d
end
def nH:Obj->Option TypeId
 | .cells _ t _=>some t
 |_=>none
structure Mod (S:Nat->Prop) (T:List (Option TypeId)) (w w':World):Prop where
 os:w'.os=w.os
 tape:w'.tape=w.tape
 output:w'.output=w.output
 size:w.heap.size<=w'.heap.size
 block:∀k,k<w.heap.size->w'.heap[k]?=w.heap[k]?\/(S k/\∃o,w.heap[k]?=some o/\nH o∈T)
def bQ (S:Nat->Prop) (ts:List (Option TypeId)) (w w':World):Prop:=∀b c,S b->w.heap[b]?=some c->nH c∈ts->w'.heap[b]?=some c
def grow (S:Nat->Prop) (w w':World):Nat->Prop:=λb=>S b\/(w.heap.size<=b/\b<w'.heap.size)
def Bd (S:Nat->Prop) (w:World):Prop:=∀b,S b->b<w.heap.size
def Apart (S S':Nat->Prop):Prop:=∀b,S b->S' b->False
section
variable {S S':Nat->Prop} {T T' ts:List (Option TypeId)} {w w' w'':World} {p:Nat}
theorem Mod.of_below (h:Below w.heap.size w w'):Mod S T w w':=⟨h.os,h.tape,h.output,h.size,λc b=>.inl (h.block c b)⟩
theorem Mod.refl (S:Nat->Prop) (T:List (Option TypeId)) (w:World):Mod S T w w:=Mod.of_below (aj _ _)
theorem Mod.mono (h:Mod S T w w') (i:∀b,b<w.heap.size->S b->S' b) (j:∀t∈T,t∈T'):Mod S' T' w w':=
 ⟨h.os,h.tape,h.output,h.size,λb c=>(h.block b c).imp id λ⟨d,k,e,f⟩=>⟨i b c d,k,e,j _ f⟩⟩
theorem Mod.then (h:Mod S T w w') (c:Mod S' T w' w'') (k:∀b,b<w.heap.size->S' b->S b):Mod S T w w'':=by
 refine⟨c.os.trans h.os,c.tape.trans h.tape,c.output.trans h.output,ay h.size c.size,λb f=>?_⟩;rcases h.block b f with d|d
 ·rcases c.block b (aC f h.size)with e|⟨e,l,i,j⟩
  ·exact .inl (e.trans d)
  ·exact .inr ⟨k b f e,l,d▸i,j⟩
 ·exact .inr d
theorem Mod.trans (h:Mod S T w w') (b:Mod S T w' w''):Mod S T w w'':=h.then b λ_ _ h=>h
theorem Mod.grow (h:Mod S T w w') (b:Mod (grow S w w') T w' w''):Mod S T w w'':=
 h.then b λf e c=>c.elim id λ⟨d,_⟩=>by omega
theorem Mod.cZ {B:Nat} (h:Mod S T w w') (f:B<=w.heap.size) (d:∀b,b<B->¬S b):Below B w w':=
 ⟨h.os,h.tape,h.output,h.size,λb e=>(h.block b oM).elim id λ⟨c,_⟩=>Wy c (d b e)⟩
theorem Mod.drew (h:Mod S T w w'):Mod S T w w'.drew:=⟨h.os,h.tape,h.output,h.size,h.block⟩
theorem Mod.drewN (h:Mod S T w w') (n:Nat):Mod S T w (w'.drewN n):=⟨h.os,h.tape,h.output,h.size,h.block⟩
theorem Mod.alloc (h:Mod S T w w') (o:Obj):Mod S T w (w'.alloc o):=
 h.trans (Mod.of_below ((aj _ _).alloc (av _) o))
theorem Mod.setCell {g:Nat} {t:TypeId} {cs:Array Value} {fz:Nat×Nat} (h:Mod S T w w') (j:w'.heap[g]?=some (.cells cs t fz)) (f:g<w.heap.size->S g) (k:some t∈T) (i:Nat) (u:Value):Mod S T w (w'.setCell ⟨g,i,none⟩ u):=by
 refine⟨h.os,h.tape,h.output,by simp[World.setCell];exact h.size,λd c=>?_⟩;by_cases e:d=g
 ·subst e
  rcases h.block d c with b|b
  ·exact .inr ⟨f c,.cells cs t fz,b▸j,k⟩
  ·exact .inr b
 ·rcases h.block d c with b|b
  ·exact .inl ((Below.heap_setCell _ _ _ _ e).trans b)
  ·exact .inr b
theorem Mod.setNew {g:Nat} (h:Mod S T w w') (e:w.heap.size<=g) (i:Nat) (u:Value):Mod S T w (w'.setCell ⟨g,i,none⟩ u):=by
 refine⟨h.os,h.tape,h.output,by simp[World.setCell];exact h.size,λc d=>?_⟩;rcases h.block c d with b|b
 ·exact .inl ((Below.heap_setCell _ _ _ _ (by show c≠g;omega)).trans b)
 ·exact .inr b
theorem Mod.grown {row:Option Nat} (h:Mod S T w w') (d:w'.grownBy w'' row) (m:∀b,row=some b->b<w.heap.size->S b/\∃f,w'.heap[b]?=some f/\nH f∈T):Mod S T w w'':=by
 refine⟨d.os.trans h.os,d.tape.trans h.tape,d.output.trans h.output,ay h.size d.size,λb e=>?_⟩;by_cases j:some b=row
 ·obtain⟨c,f,k,l⟩:=m b j.symm e
  rcases h.block b e with i|i
  ·exact .inr ⟨c,f,i▸k,l⟩
  ·exact .inr i
 ·rcases h.block b e with c|c
  ·exact .inl ((d.block b (aC e h.size) j).trans c)
  ·exact .inr c
theorem Mod.keeps (h:Mod S T w w') (j:∀b c,S' b->S b->w.heap[b]?=some c->nH c∈ts->nH c∈T->False):bQ S' ts w w':=by
 intro b c k e l;rcases h.block b (WT e)with f|⟨f,m,d,i⟩
 ·exact f.trans e
 ·rw[e]at d;injection d with d;subst d
  exact(j b c k f e l i).elim
theorem Mod.aM (h:Mod S T w w') (d:∀t∈ts,t∉T):bQ S' ts w w':=h.keeps λ_ _ _ _ _ b c=>d _ b c
theorem Mod.iD (h:Mod S T w w') (d:Apart S' S):bQ S' ts w w':=h.keeps λe _ b c _ _ _=>d e b c
theorem bQ.below (h:Below w.heap.size w w'):bQ S ts w w':=λc _ _ b _=>(h.block c (WT b)).trans b
theorem bQ.mono (h:bQ S ts w w') {c:Nat->Prop} {d:List (Option TypeId)} (j:∀b,c b->S b) (k:∀t∈d,t∈ts):bQ c d w w':=λb l e f i=>h b l (j b e) f (k _ i)
theorem bQ.trans (h:bQ S ts w w') (f:bQ S ts w' w''):bQ S ts w w'':=λd e b i c=>f d e b (h d e b i c) c
theorem bQ.drew:bQ S ts w w.drew:=λ_ _ _ h _=>h
theorem bQ.drewN (n:Nat):bQ S ts w (w.drewN n):=λ_ _ _ h _=>h
theorem bQ.alloc (o:Obj):bQ S ts w (w.alloc o):=bQ.below ((aj _ _).alloc (av _) o)
theorem bQ.setCell {g:Nat} {t:TypeId} {cs:Array Value} {fz:Nat×Nat} (d:w.heap[g]?=some (.cells cs t fz)) (e:some t∉ts) (i:Nat) (u:Value):bQ S ts w (w.setCell ⟨g,i,none⟩ u):=by
 intro j k _ b f;by_cases c:j=g
 ·subst c;rw[d]at b;injection b with b;subst b;exact Wy f e
 ·exact(Below.heap_setCell _ _ _ _ c).trans b
theorem bQ.blk {g:Nat} {t:TypeId} {cs:Array Value} (h:bQ S ts w w') (b:S g) (c:some t∈ts) (hb:Blk w g t cs):Blk w' g t cs:=h g _ b hb c
theorem oU {k:Nat} (h:S k):grow S w w' k:=.inl h
theorem grow_grow {k:Nat} (b:w.heap.size<=w'.heap.size) (c:w'.heap.size<=w''.heap.size) (h:grow (grow S w w') w' w'' k):grow S w w'' k:=by
 rcases h with(h|h)|h
 ·exact .inl h
 ·exact .inr ⟨h.1,oM⟩
 ·exact .inr ⟨oM,h.2⟩
theorem Bd.grow (h:Bd S w) (d:w.heap.size<=w'.heap.size):Bd (grow S w w') w':=λe c=>c.elim (λb=>aC (h e b) d) (λb=>b.2)
theorem Bd.later (h:Bd S w) (c:w.heap.size<=w'.heap.size):Bd S w':=λd b=>aC (h d b) c
theorem Apart.grow (h:Apart S S') (hb:Bd S' w):Apart (grow S w w') S':=λd e b=>e.elim (λc=>h d c b) (λc=>by have:=hb d b;omega)
theorem Apart.symm (h:Apart S S'):Apart S' S:=λd b c=>h d c b
end
def Row (w:World) (S:Nat->Prop) (t:TypeId) (size:Nat) (a:Option Addr) (n:Nat) (xs:List Value):Prop:=
 xs.length=n*size/\(0<n->∃b d cs f,a=some ⟨b,d,none⟩/\S b/\w.heap[b]?=some (.cells cs t f)/\∀c e,xs[c]?=some e->cs[d+c]?=some e)
section
variable {S S':Nat->Prop} {t:TypeId} {size n:Nat} {a:Option Addr} {xs:List Value} {w w':World} {ts:List (Option TypeId)}
theorem Row.WH:Row w S t size a 0 []:=⟨sM,λh=>Wy h oM⟩
theorem Row.keep (h:Row w S t size a n xs) (j:bQ S ts w w') (l:some t∈ts):Row w' S t size a n xs:=by
 refine⟨h.1,λk=>?_⟩;obtain⟨b,m,cs,e,d,c,i,f⟩:=h.2 k;exact⟨b,m,cs,e,d,c,j b _ c i l,f⟩
theorem Row.mono (h:Row w S t size a n xs) (i:∀b,S b->S' b):Row w S' t size a n xs:=by
 refine⟨h.1,λl=>?_⟩;obtain⟨c,m,cs,e,d,f,k,j⟩:=h.2 l;exact⟨c,m,cs,e,d,i _ f,k,j⟩
theorem Row.below (h:Row w S t size a n xs) (hb:Below w.heap.size w w'):Row w' S t size a n xs:=h.keep (ts:=[some t]) (bQ.below hb) sM
theorem Row.at_ (h:Row w S t size a n xs) (o:0<n):∃b d,a=some ⟨b,d,none⟩/\S b/\b<w.heap.size/\∀c e,xs[c]?=some e->w.cell? ⟨b,d+c,none⟩=some e:=by
 obtain⟨b,d,cs,j,i,k,f,l⟩:=h.2 o;exact⟨b,d,i,k,WT f,λc e m=>(cell_of_row w b (d+c) cs t j f).trans (l c e m)⟩
theorem Row.drop (h:Row w S t size a n xs) {k:Nat} (q:k<=n) {a':Option Addr} (i:k<n->∀b c,a=some ⟨b,c,none⟩->a'=some ⟨b,c+k*size,none⟩):Row w S t size a' (n -k) (xs.drop (k*size)):=by
 refine⟨by rw[bI,h.1,Nat.sub_mul],λr=>?_⟩;obtain⟨b,c,cs,e,d,f,l,j⟩:=h.2 oM;refine⟨b,c+k*size,cs,e,i oM b c d,f,l,λs o m=>?_⟩;rw[Nat.add_assoc];exact j _ o (by rw[<-m,List.getElem?_drop])
theorem Row.take (h:Row w S t size a n xs) {k:Nat} (l:k<=n):Row w S t size a k (xs.take (k*size)):=by
 refine⟨by rw[aT,h.1];exact fJ (Nat.mul_le_mul_right _ l),λr=>?_⟩;obtain⟨c,o,cs,e,d,f,j,i⟩:=h.2 oM;refine⟨c,o,cs,e,d,f,j,λm q b=>i m q ?_⟩;rw[List.getElem?_take]at b;split at b
 ·exact b
 ·cases b
theorem Row.Xt {base c:Nat} (h:w.ownsRow base t size (.slice a n c) n xs) (k:∀g,a=some ⟨g,0,none⟩->S g):Row w S t size a n xs:=by
 refine⟨h.1,λs=>?_⟩;rcases h.2 with⟨f,q⟩|⟨g,o,d,f,r,e,_,_,_,u⟩
 ·omega
 ·have j:a=some ⟨g,0,none⟩:=by injection f
  subst j;refine⟨g,0,d,_,rfl,k g rfl,e,λb m l=>?_⟩;have:=h.cells (g:=g) rfl b m l;rw[Nat.zero_add];(have i:w.cell? ((⟨g,0,none⟩:Addr).add b)=w.cell? ⟨g,0+b,none⟩:=by rw[Go.WideShapes.add_plain]);rw[i,cell_of_row w g (0+b) d t _ e,Nat.zero_add]at this;exact this
end
theorem BEL {B:Nat} {a w:World} (h:Below B a w:=by
 (repeat (first|with_reducible exact aj _ _|with_reducible assumption|with_reducible refine below_drewN' ?_ _|with_reducible refine vU ?_|with_reducible refine bG ?_ ?_ _|with_reducible refine Below.alloc ?_ ?_ _));all_goals (first|with_reducible exact av _|omega|(simp;done)|(simp;omega)|omega)):Below B a w:=h
theorem pY {B b:Nat} {a w w':World} (hb:Below b w w') (h:Below B a w:=by
 (repeat (first|with_reducible exact aj _ _|with_reducible assumption|with_reducible refine below_drewN' ?_ _|with_reducible refine vU ?_|with_reducible refine bG ?_ ?_ _|with_reducible refine Below.alloc ?_ ?_ _));all_goals (first|with_reducible exact av _|omega|(simp;done)|(simp;omega)|omega)) (c:B<=b:=by first|(simp;done)|(simp;omega)):Below B a w':=h.trans (hb.mono c)
section
variable {w w':World} {g:Nat} {t:TypeId} {cs:Array Value}
theorem iK {B:Nat} (hb:Below B w w') (h:∃b,Blk w g t b/\b=cs:=by
  apply Exists.intro;apply And.intro
  ·repeat (first|with_reducible exact Blk.new _ _ _|with_reducible exact Blk.qN _ _ _ _|with_reducible exact Blk.IV _ _ _ _ _|with_reducible exact Blk.IU _ _ _ _ _ _|with_reducible assumption|with_reducible apply Blk.bF|with_reducible apply Blk.drewN|with_reducible apply Blk.drew|with_reducible apply Blk.alloc|with_reducible apply Blk.far)
   all_goals (first|(simp;done)|(simp;omega)|omega)
  ·simp) (c:g<B:=by first|(simp;done)|(simp;omega)|omega):Blk w' g t cs:=by
 obtain⟨_,d,rfl⟩:=h;exact d.below hb c
theorem BLKA (c:w=w') (h:∃b,Blk w g t b/\b=cs:=by
  apply Exists.intro;apply And.intro
  ·repeat (first|with_reducible exact Blk.new _ _ _|with_reducible exact Blk.qN _ _ _ _|with_reducible exact Blk.IV _ _ _ _ _|with_reducible exact Blk.IU _ _ _ _ _ _|with_reducible assumption|with_reducible apply Blk.bF|with_reducible apply Blk.drewN|with_reducible apply Blk.drew|with_reducible apply Blk.alloc|with_reducible apply Blk.far)
   all_goals (first|(simp;done)|(simp;omega)|omega)
  ·simp):Blk w' g t cs:=by
 subst c;obtain⟨_,d,rfl⟩:=h;exact d
end
theorem Blk.c1 {w:World} {g:Nat} {t:TypeId} {b:Value} (h:Blk w g t #[b]):w.cell? ⟨g,0,none⟩=some b/\w.frozen? ⟨g,0,none⟩=false:=⟨h.cell 0,h.frozen 0⟩
theorem Blk.c2 {w:World} {g:Nat} {t:TypeId} {b c:Value} (h:Blk w g t #[b,c]):w.cell? ⟨g,0,none⟩=some b/\w.frozen? ⟨g,0,none⟩=false/\w.cell? ⟨g,1,none⟩=some c/\w.frozen? ⟨g,1,none⟩=false:=⟨h.cell 0,h.frozen 0,h.cell 1,h.frozen 1⟩
theorem Blk.c3 {w:World} {g:Nat} {t:TypeId} {b c d:Value} (h:Blk w g t #[b,c,d]):w.cell? ⟨g,0,none⟩=some b/\w.frozen? ⟨g,0,none⟩=false/\w.cell? ⟨g,1,none⟩=some c/\w.frozen? ⟨g,1,none⟩=false/\w.cell? ⟨g,2,none⟩=some d/\w.frozen? ⟨g,2,none⟩=false:=⟨h.cell 0,h.frozen 0,h.cell 1,h.frozen 1,h.cell 2,h.frozen 2⟩
theorem Blk.c4 {w:World} {g:Nat} {t:TypeId} {b c d e:Value} (h:Blk w g t #[b,c,d,e]):w.cell? ⟨g,0,none⟩=some b/\w.frozen? ⟨g,0,none⟩=false/\w.cell? ⟨g,1,none⟩=some c/\w.frozen? ⟨g,1,none⟩=false/\w.cell? ⟨g,2,none⟩=some d/\w.frozen? ⟨g,2,none⟩=false/\w.cell? ⟨g,3,none⟩=some e/\w.frozen? ⟨g,3,none⟩=false:=⟨h.cell 0,h.frozen 0,h.cell 1,h.frozen 1,h.cell 2,h.frozen 2,h.cell 3,h.frozen 3⟩
theorem Blk.c5 {w:World} {g:Nat} {t:TypeId} {b c d e f:Value} (h:Blk w g t #[b,c,d,e,f]):w.cell? ⟨g,0,none⟩=some b/\w.frozen? ⟨g,0,none⟩=false/\w.cell? ⟨g,1,none⟩=some c/\w.frozen? ⟨g,1,none⟩=false/\w.cell? ⟨g,2,none⟩=some d/\w.frozen? ⟨g,2,none⟩=false/\w.cell? ⟨g,3,none⟩=some e/\w.frozen? ⟨g,3,none⟩=false/\w.cell? ⟨g,4,none⟩=some f/\w.frozen? ⟨g,4,none⟩=false:=⟨h.cell 0,h.frozen 0,h.cell 1,h.frozen 1,h.cell 2,h.frozen 2,h.cell 3,h.frozen 3,h.cell 4,h.frozen 4⟩
theorem Blk.c6 {w:World} {g:Nat} {t:TypeId} {b c d e f i:Value} (h:Blk w g t #[b,c,d,e,f,i]):w.cell? ⟨g,0,none⟩=some b/\w.frozen? ⟨g,0,none⟩=false/\w.cell? ⟨g,1,none⟩=some c/\w.frozen? ⟨g,1,none⟩=false/\w.cell? ⟨g,2,none⟩=some d/\w.frozen? ⟨g,2,none⟩=false/\w.cell? ⟨g,3,none⟩=some e/\w.frozen? ⟨g,3,none⟩=false/\w.cell? ⟨g,4,none⟩=some f/\w.frozen? ⟨g,4,none⟩=false/\w.cell? ⟨g,5,none⟩=some i/\w.frozen? ⟨g,5,none⟩=false:=⟨h.cell 0,h.frozen 0,h.cell 1,h.frozen 1,h.cell 2,h.frozen 2,h.cell 3,h.frozen 3,h.cell 4,h.frozen 4,h.cell 5,h.frozen 5⟩
theorem Blk.c7 {w:World} {g:Nat} {t:TypeId} {b c d e f i j:Value} (h:Blk w g t #[b,c,d,e,f,i,j]):w.cell? ⟨g,0,none⟩=some b/\w.frozen? ⟨g,0,none⟩=false/\w.cell? ⟨g,1,none⟩=some c/\w.frozen? ⟨g,1,none⟩=false/\w.cell? ⟨g,2,none⟩=some d/\w.frozen? ⟨g,2,none⟩=false/\w.cell? ⟨g,3,none⟩=some e/\w.frozen? ⟨g,3,none⟩=false/\w.cell? ⟨g,4,none⟩=some f/\w.frozen? ⟨g,4,none⟩=false/\w.cell? ⟨g,5,none⟩=some i/\w.frozen? ⟨g,5,none⟩=false/\w.cell? ⟨g,6,none⟩=some j/\w.frozen? ⟨g,6,none⟩=false:=⟨h.cell 0,h.frozen 0,h.cell 1,h.frozen 1,h.cell 2,h.frozen 2,h.cell 3,h.frozen 3,h.cell 4,h.frozen 4,h.cell 5,h.frozen 5,h.cell 6,h.frozen 6⟩
theorem Blk.c8 {w:World} {g:Nat} {t:TypeId} {b c d e f i j k:Value} (h:Blk w g t #[b,c,d,e,f,i,j,k]):w.cell? ⟨g,0,none⟩=some b/\w.frozen? ⟨g,0,none⟩=false/\w.cell? ⟨g,1,none⟩=some c/\w.frozen? ⟨g,1,none⟩=false/\w.cell? ⟨g,2,none⟩=some d/\w.frozen? ⟨g,2,none⟩=false/\w.cell? ⟨g,3,none⟩=some e/\w.frozen? ⟨g,3,none⟩=false/\w.cell? ⟨g,4,none⟩=some f/\w.frozen? ⟨g,4,none⟩=false/\w.cell? ⟨g,5,none⟩=some i/\w.frozen? ⟨g,5,none⟩=false/\w.cell? ⟨g,6,none⟩=some j/\w.frozen? ⟨g,6,none⟩=false/\w.cell? ⟨g,7,none⟩=some k/\w.frozen? ⟨g,7,none⟩=false:=⟨h.cell 0,h.frozen 0,h.cell 1,h.frozen 1,h.cell 2,h.frozen 2,h.cell 3,h.frozen 3,h.cell 4,h.frozen 4,h.cell 5,h.frozen 5,h.cell 6,h.frozen 6,h.cell 7,h.frozen 7⟩
theorem Blk.c9 {w:World} {g:Nat} {t:TypeId} {b c d e f i j k l:Value} (h:Blk w g t #[b,c,d,e,f,i,j,k,l]):w.cell? ⟨g,0,none⟩=some b/\w.frozen? ⟨g,0,none⟩=false/\w.cell? ⟨g,1,none⟩=some c/\w.frozen? ⟨g,1,none⟩=false/\w.cell? ⟨g,2,none⟩=some d/\w.frozen? ⟨g,2,none⟩=false/\w.cell? ⟨g,3,none⟩=some e/\w.frozen? ⟨g,3,none⟩=false/\w.cell? ⟨g,4,none⟩=some f/\w.frozen? ⟨g,4,none⟩=false/\w.cell? ⟨g,5,none⟩=some i/\w.frozen? ⟨g,5,none⟩=false/\w.cell? ⟨g,6,none⟩=some j/\w.frozen? ⟨g,6,none⟩=false/\w.cell? ⟨g,7,none⟩=some k/\w.frozen? ⟨g,7,none⟩=false/\w.cell? ⟨g,8,none⟩=some l/\w.frozen? ⟨g,8,none⟩=false:=⟨h.cell 0,h.frozen 0,h.cell 1,h.frozen 1,h.cell 2,h.frozen 2,h.cell 3,h.frozen 3,h.cell 4,h.frozen 4,h.cell 5,h.frozen 5,h.cell 6,h.frozen 6,h.cell 7,h.frozen 7,h.cell 8,h.frozen 8⟩
theorem Blk.c17 {w:World} {g:Nat} {t:TypeId} {b c m o q r s u v x d e f i j k l:Value} (h:Blk w g t #[b,c,m,o,q,r,s,u,v,x,d,e,f,i,j,k,l]):w.cell? ⟨g,0,none⟩=some b/\w.frozen? ⟨g,0,none⟩=false/\w.cell? ⟨g,1,none⟩=some c/\w.frozen? ⟨g,1,none⟩=false/\w.cell? ⟨g,2,none⟩=some m/\w.frozen? ⟨g,2,none⟩=false/\w.cell? ⟨g,3,none⟩=some o/\w.frozen? ⟨g,3,none⟩=false/\w.cell? ⟨g,4,none⟩=some q/\w.frozen? ⟨g,4,none⟩=false/\w.cell? ⟨g,5,none⟩=some r/\w.frozen? ⟨g,5,none⟩=false/\w.cell? ⟨g,6,none⟩=some s/\w.frozen? ⟨g,6,none⟩=false/\w.cell? ⟨g,7,none⟩=some u/\w.frozen? ⟨g,7,none⟩=false/\w.cell? ⟨g,8,none⟩=some v/\w.frozen? ⟨g,8,none⟩=false/\w.cell? ⟨g,9,none⟩=some x/\w.frozen? ⟨g,9,none⟩=false/\w.cell? ⟨g,10,none⟩=some d/\w.frozen? ⟨g,10,none⟩=false/\w.cell? ⟨g,11,none⟩=some e/\w.frozen? ⟨g,11,none⟩=false/\w.cell? ⟨g,12,none⟩=some f/\w.frozen? ⟨g,12,none⟩=false/\w.cell? ⟨g,13,none⟩=some i/\w.frozen? ⟨g,13,none⟩=false/\w.cell? ⟨g,14,none⟩=some j/\w.frozen? ⟨g,14,none⟩=false/\w.cell? ⟨g,15,none⟩=some k/\w.frozen? ⟨g,15,none⟩=false/\w.cell? ⟨g,16,none⟩=some l/\w.frozen? ⟨g,16,none⟩=false:=⟨h.cell 0,h.frozen 0,h.cell 1,h.frozen 1,h.cell 2,h.frozen 2,h.cell 3,h.frozen 3,h.cell 4,h.frozen 4,h.cell 5,h.frozen 5,h.cell 6,h.frozen 6,h.cell 7,h.frozen 7,h.cell 8,h.frozen 8,h.cell 9,h.frozen 9,h.cell 10,h.frozen 10,h.cell 11,h.frozen 11,h.cell 12,h.frozen 12,h.cell 13,h.frozen 13,h.cell 14,h.frozen 14,h.cell 15,h.frozen 15,h.cell 16,h.frozen 16⟩
abbrev cfV (c:Cf):Array Value:= #[.int .i64 c.bits,.int .u64 c.one,.int .i64 c.ring,.int .u64 c.dO,.int .i64 c.room,.int .u64 c.mss,.int .u64 c.jD,.int .u64 c.bn,.int .u64 c.most,.int .i64 c.pX,.int .u64 c.first,.int .u64 c.jc,.int .u64 c.cap,.int .u64 c.gD,.int .u64 c.WL,.int .i64 c.bE,.int .u64 c.every]
structure Bx (p:Prop):Prop where
 o:p
theorem mW {b c:Prop} (g:c) (h:Bx c->b:=by
 intro h;(repeat ((fail_if_success (with_reducible apply eG));first|go_values|go_skip|go_guarded|go_step|go_upon|go_back|go_simp));exact h.o):b:=h ⟨g⟩
theorem mE {b c:Prop} (g:c) (h:Bx c->b:=by
 intro h;(first|go_end0|((try simp only[Exit.inBlock,Exit.then]);refine eG (results_none rfl _ _ _) rfl ?_)|refine eG (results_none rfl _ _ _) rfl ?_);exact h.o):b:=h ⟨g⟩
abbrev aD:= @Row.below
abbrev aF:= @Row.mono
abbrev aG:= @Row.keep
abbrev aH:= @Mod.of_below
abbrev aV:= @Mod.refl
abbrev Wx:= @Blk.new
abbrev dF:= @Blk.ne_
abbrev aA:= @below_drewN'
abbrev bA:= @vU
theorem lcZ {n:Nat} {P:List Value->Prop} (h:∀b t,t.length=n->P (b::t)):∀t,t.length=n+1->P t
 |b::t,e=>h b t (Nat.succ.inj e)
theorem lzZ {P:List Value->Prop} (h:P []):∀t,t.length=0->P t
 |[],_=>h
theorem Blk.Wu {w:World} {g:Nat} {t:TypeId} {cs:Array Value} (h:Blk w g t cs) (i:Nat) {v:Value} (b:cs.toList[i]?=some v:=by exact rfl):w.cell? ⟨g,i,none⟩=some v:=by
 rw[h.cell i,<-b,Array.getElem?_toList]
theorem Blk.cz {w:World} {g:Nat} {t:TypeId} {cs:Array Value} (h:Blk w g t cs) (i:Nat) {v:Value} (b:cs.toList[i]?=some v:=by exact rfl):w.cell? ⟨g,i,none⟩=some v/\w.frozen? ⟨g,i,none⟩=false:=⟨h.Wu i b,h.frozen i⟩
theorem mD {b c:Prop} (g:c) (h:Bx c->b:=by
 intro h;simp only[List.take_succ_cons,List.take_zero,List.drop_succ_cons,List.drop_nil,List.drop_zero,Nat.reduceSub];exact h.o):b:=h ⟨g⟩
end Go.Proofs.YtiflndepmgnojaaGreat
