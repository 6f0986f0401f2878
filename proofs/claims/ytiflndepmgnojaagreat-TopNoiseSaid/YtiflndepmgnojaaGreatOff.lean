import Derived.Test.YtiflndepmgnojaaGreatProg
import Derived.WalkKit
import Derived.WalkSpells
import Derived.WalkLawsBesides
import Derived.RowKit3
import Derived.Handy
import Derived.Below
import Derived.Lib.Hide
import Derived.Laws.OwnMore
import Derived.Laws.Rows
import Derived.Deep.Draws
import Derived.Maps.AppendAt
import Derived.Deep.AppendLies
import Derived.RegionTactic
import Derived.OwnWalk
import Derived.Deep.QuietTactic
import Derived.BigQuiet
import Derived.Deep.RegionHeld3
import Derived.Deep.RegionLaw
import Derived.Laws.Bits64b
import Derived.LoopN
import Derived.Outline
import Derived.Test.YtiflndepmgnojaaGreatModel
namespace Go.Proofs.YtiflndepmgnojaaGreat
open Go.RowKit Tryz
set_option linter.unusedSimpArgs false
set_option linter.unusedVariables false
set_option maxHeartbeats 1000000
set_option maxRecDepth 100000
variable {F:Nat->Prop} {W w w' wc:World} {f i j:Value} {k m n b p:Nat} {t e:TypeId} {tl:List (Option TypeId)} {C:Array Value} {l:List Int} {x:Int}
theorem kR {p:Prop} (h:p:=by kernel_rfl):p:=h
theorem oM {p:Prop} (h:p:=by omega):p:=h
theorem dC {p:Prop} (h:p:=by decide):p:=h
theorem sM {p:Prop} (h:p:=by simp):p:=h
def X3 (p:Prop):Prop:=p
theorem X3.o {p:Prop} (h:X3 p):p:=h
theorem zH {p:Prop} (h:p):X3 p:=h
theorem sO {p:Prop} (h:p:=by simp;omega):p:=h
theorem gS {p:Prop} (h:p:=by go_simp;try with_reducible rfl):p:=h
theorem eX {c:Sort _} (t:c):∃b,b=t:=⟨t,rfl⟩
abbrev bW (w w':World):Prop:=Below w.heap.size w w'
abbrev pT (b:Nat):Value:=.pointer (some ⟨b,0,none⟩)
abbrev cE (w:World) (p i:Nat) (v:Value):Prop:=w.cell? ⟨p,i,none⟩=some v
abbrev fZ (w:World) (p i:Nat):Prop:=w.frozen? ⟨p,i,none⟩=false
abbrev uI (x:Int):Value:=.int .u64 x
abbrev jI (x:Int):Value:=.int .i64 x
abbrev bV (b:Bool):Value:=.bool b
abbrev Ya:Array Value:= #[.int .i64 0,.int .u64 0,.int .u64 0,.int .u64 0,.int .u64 0,.int .u64 0,.int .u64 0,.int .u64 0,.int .u64 0,.int .u64 0,.int .u64 0,.int .u64 0,.int .u64 0,.int .u64 0,.int .u64 0,.int .u64 0]
theorem Yl {p:Prop} (h:p:=by simp[intOf];omega):p:=h
theorem XF {p:Prop} (h:p:=by simp[Value.oneCell']):p:=h
theorem XG {p:Prop} (h:p:=by simp[Act.eval]):p:=h
theorem XI {p:Prop} (h:p:=by simp[Value.ownBlock]):p:=h
abbrev X5:=Option Addr
abbrev X4:=Nat->Prop
abbrev X8:=List (Option TypeId)
abbrev X7:=Exit->Act->World->Prop
abbrev zzN:Value:=.slice none 0 0
abbrev AX (x:Cc):Array Value:= #[.int .u64 x.win.cr,.int .u64 x.win.dL,.int .u64 x.win.acc,.int .u64 x.win.jF,.int .u64 x.win.gX,.int .u64 x.win.k,.int .u64 x.win.fair,.int .u64 x.round.iO,.int .u64 x.round.mX]
abbrev jK:Array Value:= #[.slice none 0 0,.slice none 0 0,.int .u64 0,.int .u64 0,.bool false]
abbrev kG (v:Ve):List Value:=[.int .i64 v.kind,.int .i64 v.why,.int .u64 v.pn,.bool v.dU]
abbrev kH (a:Option Addr) (c:Nat) (b:Option Addr) (d:Nat) (k:Ak):List Value:=[.slice a k.cu.length c,.slice b k.aO.length d,.int .u64 k.dw,.int .u64 k.xor,.bool k.kZ]
abbrev Yk:=Calls Tryz.prog
abbrev Yc (b i:Nat):Addr:=⟨b,i,none⟩
abbrev Yh:Array Value:= #[.int .u64 0,.int .u64 0,.int .u64 0,.int .u64 0,.int .u64 0,.int .u64 0,.int .u64 0,.int .u64 0,.int .u64 0]
abbrev Yj:Array Value:= #[.int .i64 0,.int .u64 0,.int .u64 0,.int .u64 0,.int .u64 0,.int .u64 0,.int .u64 0,.int .u64 0,.int .u64 0,.int .u64 0,.int .u64 0,.int .u64 0,.int .u64 0,.int .u64 0,.int .u64 0,.int .u64 0,.int .u64 0,.int .u64 0,.int .u64 0,.int .u64 0,.int .u64 0,.int .i64 0]
abbrev av:= @Nat.le_refl
abbrev aj:= @Below.refl
abbrev ay:= @Nat.le_trans
abbrev aC:= @Nat.lt_of_lt_of_le
abbrev fO:= @Nat.le_of_lt
abbrev gQ:= @Nat.ne_of_gt
abbrev aL:= @List.getElem?_eq_getElem
abbrev aN:= @List.getElem_mem
abbrev aJ:= @Calls.quiet_of_same
abbrev dn:= @Calls.quiet_of
abbrev Ww:= @if_neg
abbrev aB:= @if_pos
abbrev bD:= @Below.trans
abbrev bG:= @Below.setCell
abbrev bf:= @List.mem_of_mem_take
abbrev dW:= @List.mem_of_mem_drop
abbrev bB:= @List.take_succ_eq_append_getElem
abbrev aR:= @List.drop_eq_getElem_cons
abbrev aW:= @List.getD_eq_getElem?_getD
abbrev aT:= @List.length_take
abbrev aU:= @List.length_append
abbrev bI:= @List.length_drop
abbrev aY:= @List.length_cons
abbrev bR:= @List.length_map
abbrev bO:= @List.length_singleton
abbrev bC:= @Int.mul_le_mul_of_nonneg_right
abbrev bH:= @Int.eq_ofNat_of_zero_le
abbrev bY:= @Int.le_refl
abbrev bJ:= @decide_eq_false
abbrev bM:= @decide_eq_true
abbrev bT:= @List.mem_cons
abbrev WB:= @List.mem_append
abbrev dZ:= @List.mem_singleton
abbrev dx:= @List.mem_filter
abbrev Wz:= @IntWalk.u64_in
abbrev eP:= @IntWalk.i64_in
abbrev jL:= @of_decide_eq_true
abbrev jq:= @of_decide_eq_false
abbrev dK:= @Int.mul_nonneg
abbrev bg:= @wpAnyH_done
abbrev aK:= @wpQuiet_nil
abbrev eG:= @bodyPost_ret
abbrev aZ:= @wp_region_held_drew
abbrev bN:= @wp_region_quiet_lit
abbrev lY:= @congrArg
abbrev dV:= @List.eq_nil_of_length_eq_zero
abbrev dY:= @World.block_lt_of_cell?
abbrev mU:= @Bool.eq_iff_iff
abbrev dM:= @List.take_length
abbrev fJ:= @Nat.min_eq_left
abbrev kT:= @List.mem_cons_self
abbrev jQ:= @List.mem_cons_of_mem
abbrev oK:= @Int.le_trans
abbrev iQ:= @Int.emod_nonneg
abbrev iN:= @Int.emod_lt_of_pos
abbrev iA:= @List.foldl_append
abbrev iE:= @List.flatMap_append
abbrev jV:= @Nat.zero_le
abbrev Wy:= @absurd
theorem jk {k:IntKind} {a b:Int} (h:a=b):Ending.returned (.int k a)=.returned (.int k b):=by rw[h]
theorem eF {a b:Bool} (h:a=b):Ending.returned (.bool a)=.returned (.bool b):=by rw[h]
theorem rU {a b:Nat} (h:a<b):a<b/\a<b+1/\a<b+1+1/\a<b+1+1+1/\a<b+1+1+1+1/\a<b+1+1+1+1+1/\a<b+1+1+1+1+1+1/\a<b+1+1+1+1+1+1+1/\a<b+1+1+1+1+1+1+1+1:=oM
theorem JZ {o:Obj} (h:Below (w.alloc o).heap.size (w.alloc o) W):Below w.heap.size w W:=
 ((aj _ _).alloc (av _) o).trans (h.mono sM)
theorem below_drewN' {B:Nat} {a w:World} (h:Below B a w) (n:Nat):Below B a (w.drewN n):=⟨h.os,h.tape,h.output,h.size,h.block⟩
theorem vU {B:Nat} {a w:World} (h:Below B a w):Below B a w.drew:=⟨h.os,h.tape,h.output,h.size,h.block⟩
def Blk (w:World) (g:Nat) (t:TypeId) (cs:Array Value):Prop:=w.heap[g]?=some (.cells cs t (0,0))
section
variable {w w':World} {g:Nat} {t:TypeId} {cs:Array Value}
theorem WT {o:Obj} (h:w.heap[g]?=some o):g<w.heap.size:=by
 rcases Nat.lt_or_ge g w.heap.size with c|b
 .exact c
 .rw[Array.getElem?_eq_none b]at h;cases h
theorem Blk.lt (h:Blk w g t cs):g<w.heap.size:=WT h
theorem Blk.cell (h:Blk w g t cs) (i:Nat):w.cell? ⟨g,i,none⟩=cs[i]?:=cell_of_row w g i cs t (0,0) h
theorem Blk.frozen (h:Blk w g t cs) (i:Nat):w.frozen? ⟨g,i,none⟩=false:=by
 unfold Blk at h;simp[World.frozen?,h]
theorem Blk.Wu (h:Blk w g t cs) (i:Nat) {v:Value} (b:cs.toList[i]?=some v:=by exact rfl):w.cell? ⟨g,i,none⟩=some v:=by
 rw[h.cell i,<-b,Array.getElem?_toList]
theorem Blk.cz (h:Blk w g t cs) (i:Nat) {v:Value} (b:cs.toList[i]?=some v:=by exact rfl):w.cell? ⟨g,i,none⟩=some v/\w.frozen? ⟨g,i,none⟩=false:=⟨h.Wu i b,h.frozen i⟩
theorem Blk.new (w:World) (t:TypeId) (cs:Array Value):Blk (w.alloc (.cells cs t)) w.heap.size t cs:=heap_alloc_new w _
theorem Blk.qN (w:World) (o:Obj) (t:TypeId) (cs:Array Value):Blk ((w.alloc o).alloc (.cells cs t)) (w.heap.size+1) t cs:=by
 have:=heap_alloc_new (w.alloc o) (.cells cs t)
 rwa [show(w.alloc o).heap.size=w.heap.size+1 by simp]at this
theorem Blk.IV (w:World) (o b:Obj) (t:TypeId) (cs:Array Value):Blk (((w.alloc o).alloc b).alloc (.cells cs t)) (w.heap.size+1+1) t cs:=by
 have:=heap_alloc_new ((w.alloc o).alloc b) (.cells cs t)
 rwa [show((w.alloc o).alloc b).heap.size=w.heap.size+1+1 by simp]at this
theorem Blk.IU (w:World) (o b c:Obj) (t:TypeId) (cs:Array Value):Blk ((((w.alloc o).alloc b).alloc c).alloc (.cells cs t)) (w.heap.size+1+1+1) t cs:=by
 have:=heap_alloc_new (((w.alloc o).alloc b).alloc c) (.cells cs t)
 rwa [show(((w.alloc o).alloc b).alloc c).heap.size=w.heap.size+1+1+1 by simp]at this
theorem mr {k:Type} {f:k->List Value} {m:Nat} (e:∀j,(f j).length=m):∀(i:List k) (c b:Nat) (d:c<i.length),b<m->(i.flatMap f)[c*m+b]?=(f i[c])[b]?
 |[],c,b,d,_=>by simp at d
 |j::t,0,b,d,hc=>by simp[List.getElem?_append,e,hc]
 |j::t,c+1,b,d,hc=>by
  have:=mr e t c b (by simpa using d) hc;simp only[List.flatMap_cons,List.getElem?_append,e];rw[Ww (by have:=Nat.le_mul_of_pos_left m (show 0<c+1 by omega);omega)];rw[show(c+1)*m+b -m=c*m+b by rw[Nat.add_mul];omega,this];rfl
theorem sZ {c:Type} {f:c->List Value} (d:∀b,(f b).length=m) (l:List c):(l.flatMap f).length=l.length*m:=by
 induction l with
 |nil=>simp
 |cons b t ih=>simp only[List.flatMap_cons,aU,d,ih,aY,Nat.add_mul];omega
theorem Blk.drew (h:Blk w g t cs):Blk w.drew g t cs:=h
theorem Blk.drewN (h:Blk w g t cs) (n:Nat):Blk (w.drewN n) g t cs:=h
theorem Blk.alloc (h:Blk w g t cs) (o:Obj):Blk (w.alloc o) g t cs:=(Below.heap_alloc w o g h.lt).trans h
theorem Blk.bF (h:Blk w g t cs) (i:Nat) (u:Value):Blk (w.setCell ⟨g,i,none⟩ u) g t (cs.setIfInBounds i u):=by
 unfold Blk at h|-;simp[World.setCell,Array.getElem?_modify,h]
theorem Blk.far (h:Blk w g t cs) {p:Addr} (b:g≠p.block) (u:Value):Blk (w.setCell p u) g t cs:=(Below.heap_setCell w p u g b).trans h
theorem Blk.below {B:Nat} (h:Blk w g t cs) (hb:Below B w w') (b:g<B):Blk w' g t cs:=(hb.block g b).trans h
theorem Blk.grown {row:Option Nat} (h:Blk w g t cs) (hb:w.grownBy w' row) (b:some g≠row):Blk w' g t cs:=(hb.block g h.lt b).trans h
theorem Blk.ne_ {g':Nat} {t':TypeId} {cs':Array Value} (h:Blk w g t cs) (b:Blk w g' t' cs') (c:t≠t'):g≠g':=by
 rintro rfl;unfold Blk at h b;rw[h]at b;injection b with b;injection b with _ d;exact c d
end
def nH:Obj->Option TypeId
 | .cells _ t _=>some t
 |_=>none
structure Mod (S:Nat->Prop) (T:List (Option TypeId)) (w w':World):Prop where
 os:w'.os=w.os
 tape:w'.tape=w.tape
 output:w'.output=w.output
 size:w.heap.size<=w'.heap.size
 block:∀k,k<w.heap.size->w'.heap[k]?=w.heap[k]?\/(S k/\∃o,w.heap[k]?=some o/\nH o∈T)
def bQ (S:Nat->Prop) (ts:List (Option TypeId)) (w w':World):Prop:=∀b c,S b->w.heap[b]?=some c->nH c∈ts->w'.heap[b]?=some c
def grow (S:Nat->Prop) (w w':World):Nat->Prop:=λb=>S b\/(w.heap.size<=b/\b<w'.heap.size)
def Bd (S:Nat->Prop) (w:World):Prop:=∀b,S b->b<w.heap.size
def Apart (S S':Nat->Prop):Prop:=∀b,S b->S' b->False
section
variable {S S':Nat->Prop} {T T' ts:List (Option TypeId)} {w w' w'':World} {p:Nat}
theorem Mod.of_below (h:Below w.heap.size w w'):Mod S T w w':=⟨h.os,h.tape,h.output,h.size,λc b=>.inl (h.block c b)⟩
theorem Mod.refl (S:Nat->Prop) (T:List (Option TypeId)) (w:World):Mod S T w w:=Mod.of_below (aj _ _)
theorem Mod.mono (h:Mod S T w w') (i:∀b,b<w.heap.size->S b->S' b) (j:∀t∈T,t∈T'):Mod S' T' w w':=
 ⟨h.os,h.tape,h.output,h.size,λb c=>(h.block b c).imp id λ⟨d,k,e,f⟩=>⟨i b c d,k,e,j _ f⟩⟩
theorem Mod.then (h:Mod S T w w') (c:Mod S' T w' w'') (k:∀b,b<w.heap.size->S' b->S b):Mod S T w w'':=by
 refine⟨c.os.trans h.os,c.tape.trans h.tape,c.output.trans h.output,ay h.size c.size,λb f=>?_⟩;rcases h.block b f with d|d
 .rcases c.block b (aC f h.size)with e|⟨e,l,i,j⟩
  .exact .inl (e.trans d)
  .exact .inr ⟨k b f e,l,d▸i,j⟩
 .exact .inr d
theorem Mod.trans (h:Mod S T w w') (b:Mod S T w' w''):Mod S T w w'':=h.then b λ_ _ h=>h
theorem Mod.grow (h:Mod S T w w') (b:Mod (grow S w w') T w' w''):Mod S T w w'':=
 h.then b λf e c=>c.elim id λ⟨d,_⟩=>by omega
theorem Mod.cZ {B:Nat} (h:Mod S T w w') (f:B<=w.heap.size) (d:∀b,b<B->¬S b):Below B w w':=
 ⟨h.os,h.tape,h.output,h.size,λb e=>(h.block b oM).elim id λ⟨c,_⟩=>Wy c (d b e)⟩
theorem Mod.drew (h:Mod S T w w'):Mod S T w w'.drew:=⟨h.os,h.tape,h.output,h.size,h.block⟩
theorem Mod.drewN (h:Mod S T w w') (n:Nat):Mod S T w (w'.drewN n):=⟨h.os,h.tape,h.output,h.size,h.block⟩
theorem Mod.alloc (h:Mod S T w w') (o:Obj):Mod S T w (w'.alloc o):=
 h.trans (Mod.of_below ((aj _ _).alloc (av _) o))
theorem Mod.setCell {g:Nat} {cs:Array Value} {fz:Nat×Nat} (h:Mod S T w w') (j:w'.heap[g]?=some (.cells cs t fz)) (f:g<w.heap.size->S g) (k:some t∈T) (i:Nat) (u:Value):Mod S T w (w'.setCell ⟨g,i,none⟩ u):=by
 refine⟨h.os,h.tape,h.output,by simp[World.setCell];exact h.size,λd c=>?_⟩;by_cases e:d=g
 .subst e
  rcases h.block d c with b|b
  .exact .inr ⟨f c,.cells cs t fz,b▸j,k⟩
  .exact .inr b
 .rcases h.block d c with b|b
  .exact .inl ((Below.heap_setCell _ _ _ _ e).trans b)
  .exact .inr b
theorem Mod.setNew {g:Nat} (h:Mod S T w w') (e:w.heap.size<=g) (i:Nat) (u:Value):Mod S T w (w'.setCell ⟨g,i,none⟩ u):=by
 refine⟨h.os,h.tape,h.output,by simp[World.setCell];exact h.size,λc d=>?_⟩;rcases h.block c d with b|b
 .exact .inl ((Below.heap_setCell _ _ _ _ (by show c≠g;omega)).trans b)
 .exact .inr b
theorem Mod.grown {row:Option Nat} (h:Mod S T w w') (d:w'.grownBy w'' row) (m:∀b,row=some b->b<w.heap.size->S b/\∃f,w'.heap[b]?=some f/\nH f∈T):Mod S T w w'':=by
 refine⟨d.os.trans h.os,d.tape.trans h.tape,d.output.trans h.output,ay h.size d.size,λb e=>?_⟩;by_cases j:some b=row
 .obtain⟨c,f,k,l⟩:=m b j.symm e
  rcases h.block b e with i|i
  .exact .inr ⟨c,f,i▸k,l⟩
  .exact .inr i
 .rcases h.block b e with c|c
  .exact .inl ((d.block b (aC e h.size) j).trans c)
  .exact .inr c
theorem Mod.keeps (h:Mod S T w w') (j:∀b c,S' b->S b->w.heap[b]?=some c->nH c∈ts->nH c∈T->False):bQ S' ts w w':=by
 intro b c k e l;rcases h.block b (WT e)with f|⟨f,m,d,i⟩
 .exact f.trans e
 .rw[e]at d;injection d with d;subst d
  exact(j b c k f e l i).elim
theorem Mod.aM (h:Mod S T w w') (d:∀t∈ts,t∉T):bQ S' ts w w':=h.keeps λ_ _ _ _ _ b c=>d _ b c
theorem Mod.iD (h:Mod S T w w') (d:Apart S' S):bQ S' ts w w':=h.keeps λe _ b c _ _ _=>d e b c
theorem bQ.below (h:Below w.heap.size w w'):bQ S ts w w':=λc _ _ b _=>(h.block c (WT b)).trans b
theorem bQ.mono (h:bQ S ts w w') (f:∀b,F b->S b) (i:∀t∈tl,t∈ts):bQ F tl w w':=λb j c d e=>h b j (f b c) d (i _ e)
theorem bQ.trans (h:bQ S ts w w') (f:bQ S ts w' w''):bQ S ts w w'':=λd e b i c=>f d e b (h d e b i c) c
theorem bQ.drew:bQ S ts w w.drew:=λ_ _ _ h _=>h
theorem bQ.drewN (n:Nat):bQ S ts w (w.drewN n):=λ_ _ _ h _=>h
theorem bQ.alloc (o:Obj):bQ S ts w (w.alloc o):=bQ.below ((aj _ _).alloc (av _) o)
theorem bQ.setCell {g:Nat} {cs:Array Value} {fz:Nat×Nat} (d:w.heap[g]?=some (.cells cs t fz)) (e:some t∉ts) (i:Nat) (u:Value):bQ S ts w (w.setCell ⟨g,i,none⟩ u):=by
 intro j k _ b f;by_cases c:j=g
 .subst c;rw[d]at b;injection b with b;subst b;exact Wy f e
 .exact(Below.heap_setCell _ _ _ _ c).trans b
theorem bQ.blk {g:Nat} {cs:Array Value} (h:bQ S ts w w') (b:S g) (c:some t∈ts) (hb:Blk w g t cs):Blk w' g t cs:=h g _ b hb c
theorem oU (h:S k):grow S w w' k:=.inl h
theorem grow_grow (b:w.heap.size<=w'.heap.size) (c:w'.heap.size<=w''.heap.size) (h:grow (grow S w w') w' w'' k):grow S w w'' k:=by
 rcases h with(h|h)|h
 .exact .inl h
 .exact .inr ⟨h.1,oM⟩
 .exact .inr ⟨oM,h.2⟩
theorem Bd.grow (h:Bd S w) (d:w.heap.size<=w'.heap.size):Bd (grow S w w') w':=λe c=>c.elim (λb=>aC (h e b) d) (λb=>b.2)
theorem Bd.later (h:Bd S w) (c:w.heap.size<=w'.heap.size):Bd S w':=λd b=>aC (h d b) c
theorem Apart.grow (h:Apart S S') (hb:Bd S' w):Apart (grow S w w') S':=λd e b=>e.elim (λc=>h d c b) (λc=>by have:=hb d b;omega)
theorem Apart.symm (h:Apart S S'):Apart S' S:=λd b c=>h d c b
end
def Row (w:World) (S:Nat->Prop) (t:TypeId) (size:Nat) (a:Option Addr) (n:Nat) (xs:List Value):Prop:=
 xs.length=n*size/\(0<n->∃b d cs f,a=some ⟨b,d,none⟩/\S b/\w.heap[b]?=some (.cells cs t f)/\∀c e,xs[c]?=some e->cs[d+c]?=some e)
section
variable {S S':Nat->Prop} {t:TypeId} {size n:Nat} {a:Option Addr} {xs:List Value} {w w':World} {ts:List (Option TypeId)}
theorem Row.WH:Row w S t size a 0 []:=⟨sM,λh=>Wy h oM⟩
theorem Row.keep (h:Row w S t size a n xs) (j:bQ S ts w w') (l:some t∈ts):Row w' S t size a n xs:=by
 refine⟨h.1,λk=>?_⟩;obtain⟨b,m,cs,e,d,c,i,f⟩:=h.2 k;exact⟨b,m,cs,e,d,c,j b _ c i l,f⟩
theorem Row.mono (h:Row w S t size a n xs) (i:∀b,S b->S' b):Row w S' t size a n xs:=by
 refine⟨h.1,λl=>?_⟩;obtain⟨c,m,cs,e,d,f,k,j⟩:=h.2 l;exact⟨c,m,cs,e,d,i _ f,k,j⟩
theorem Row.below (h:Row w S t size a n xs) (hb:Below w.heap.size w w'):Row w' S t size a n xs:=h.keep (ts:=[some t]) (bQ.below hb) sM
theorem Row.at_ (h:Row w S t size a n xs) (o:0<n):∃b d,a=some ⟨b,d,none⟩/\S b/\b<w.heap.size/\∀c e,xs[c]?=some e->w.cell? ⟨b,d+c,none⟩=some e:=by
 obtain⟨b,d,cs,j,i,k,f,l⟩:=h.2 o;exact⟨b,d,i,k,WT f,λc e m=>(cell_of_row w b (d+c) cs t j f).trans (l c e m)⟩
theorem Row.drop (h:Row w S t size a n xs) (q:k<=n) {a':Option Addr} (i:k<n->∀b c,a=some ⟨b,c,none⟩->a'=some ⟨b,c+k*size,none⟩):Row w S t size a' (n -k) (xs.drop (k*size)):=by
 refine⟨by rw[bI,h.1,Nat.sub_mul],λr=>?_⟩;obtain⟨b,c,cs,e,d,f,l,j⟩:=h.2 oM;refine⟨b,c+k*size,cs,e,i oM b c d,f,l,λs o m=>?_⟩;rw[Nat.add_assoc];exact j _ o (by rw[<-m,List.getElem?_drop])
theorem Row.take (h:Row w S t size a n xs) (l:k<=n):Row w S t size a k (xs.take (k*size)):=by
 refine⟨by rw[aT,h.1];exact fJ (Nat.mul_le_mul_right _ l),λr=>?_⟩;obtain⟨c,o,cs,e,d,f,j,i⟩:=h.2 oM;refine⟨c,o,cs,e,d,f,j,λm q b=>i m q ?_⟩;rw[List.getElem?_take]at b;split at b
 .exact b
 .cases b
theorem Row.Xt {base c:Nat} (h:w.ownsRow base t size (.slice a n c) n xs) (k:∀g,a=some ⟨g,0,none⟩->S g):Row w S t size a n xs:=by
 refine⟨h.1,λs=>?_⟩;rcases h.2 with⟨f,q⟩|⟨g,o,d,f,r,e,_,_,_,u⟩
 .omega
 .have j:a=some ⟨g,0,none⟩:=by injection f
  subst j;refine⟨g,0,d,_,rfl,k g rfl,e,λb m l=>?_⟩;have:=h.cells (g:=g) rfl b m l;rw[Nat.zero_add];(have i:w.cell? ((⟨g,0,none⟩:Addr).add b)=w.cell? ⟨g,0+b,none⟩:=by rw[Go.WideShapes.add_plain]);rw[i,cell_of_row w g (0+b) d t _ e,Nat.zero_add]at this;exact this
end
theorem BEL {B:Nat} {a w:World} (h:Below B a w:=by
 (repeat (first|with_reducible exact aj _ _|with_reducible assumption|with_reducible refine below_drewN' ?_ _|with_reducible refine vU ?_|with_reducible refine bG ?_ ?_ _|with_reducible refine Below.alloc ?_ ?_ _));all_goals (first|with_reducible exact av _|omega|(simp;done)|(simp;omega)|omega)):Below B a w:=h
theorem pY {B b:Nat} {a w w':World} (hb:Below b w w') (h:Below B a w:=by
 (repeat (first|with_reducible exact aj _ _|with_reducible assumption|with_reducible refine below_drewN' ?_ _|with_reducible refine vU ?_|with_reducible refine bG ?_ ?_ _|with_reducible refine Below.alloc ?_ ?_ _));all_goals (first|with_reducible exact av _|omega|(simp;done)|(simp;omega)|omega)) (c:B<=b:=by first|(simp;done)|(simp;omega)):Below B a w':=h.trans (hb.mono c)
section
variable {w w':World} {g:Nat} {t:TypeId} {cs:Array Value}
theorem iK {B:Nat} (hb:Below B w w') (h:∃b,Blk w g t b/\b=cs:=by
  apply Exists.intro;apply And.intro
  .repeat (first|with_reducible exact Blk.new _ _ _|with_reducible exact Blk.qN _ _ _ _|with_reducible exact Blk.IV _ _ _ _ _|with_reducible exact Blk.IU _ _ _ _ _ _|with_reducible assumption|with_reducible apply Blk.bF|with_reducible apply Blk.drewN|with_reducible apply Blk.drew|with_reducible apply Blk.alloc|with_reducible apply Blk.far)
   all_goals (first|(simp;done)|(simp;omega)|omega)
  .simp) (c:g<B:=by first|(simp;done)|(simp;omega)|omega):Blk w' g t cs:=by
 obtain⟨_,d,rfl⟩:=h;exact d.below hb c
theorem BLKA (c:w=w') (h:∃b,Blk w g t b/\b=cs:=by
  apply Exists.intro;apply And.intro
  .repeat (first|with_reducible exact Blk.new _ _ _|with_reducible exact Blk.qN _ _ _ _|with_reducible exact Blk.IV _ _ _ _ _|with_reducible exact Blk.IU _ _ _ _ _ _|with_reducible assumption|with_reducible apply Blk.bF|with_reducible apply Blk.drewN|with_reducible apply Blk.drew|with_reducible apply Blk.alloc|with_reducible apply Blk.far)
   all_goals (first|(simp;done)|(simp;omega)|omega)
  .simp):Blk w' g t cs:=by
 subst c;obtain⟨_,d,rfl⟩:=h;exact d
end
theorem Blk.c1 {g:Nat} (h:Blk w g t #[f]):w.cell? ⟨g,0,none⟩=some f/\w.frozen? ⟨g,0,none⟩=false:=⟨h.cell 0,h.frozen 0⟩
theorem Blk.c2 {g:Nat} (h:Blk w g t #[f,i]):w.cell? ⟨g,0,none⟩=some f/\w.frozen? ⟨g,0,none⟩=false/\w.cell? ⟨g,1,none⟩=some i/\w.frozen? ⟨g,1,none⟩=false:=⟨h.cell 0,h.frozen 0,h.cell 1,h.frozen 1⟩
theorem Blk.c3 {g:Nat} (h:Blk w g t #[f,i,j]):w.cell? ⟨g,0,none⟩=some f/\w.frozen? ⟨g,0,none⟩=false/\w.cell? ⟨g,1,none⟩=some i/\w.frozen? ⟨g,1,none⟩=false/\w.cell? ⟨g,2,none⟩=some j/\w.frozen? ⟨g,2,none⟩=false:=⟨h.cell 0,h.frozen 0,h.cell 1,h.frozen 1,h.cell 2,h.frozen 2⟩
theorem Blk.c4 {g:Nat} {b c d e:Value} (h:Blk w g t #[b,c,d,e]):w.cell? ⟨g,0,none⟩=some b/\w.frozen? ⟨g,0,none⟩=false/\w.cell? ⟨g,1,none⟩=some c/\w.frozen? ⟨g,1,none⟩=false/\w.cell? ⟨g,2,none⟩=some d/\w.frozen? ⟨g,2,none⟩=false/\w.cell? ⟨g,3,none⟩=some e/\w.frozen? ⟨g,3,none⟩=false:=⟨h.cell 0,h.frozen 0,h.cell 1,h.frozen 1,h.cell 2,h.frozen 2,h.cell 3,h.frozen 3⟩
theorem Blk.c5 {g:Nat} {b c d e f:Value} (h:Blk w g t #[b,c,d,e,f]):w.cell? ⟨g,0,none⟩=some b/\w.frozen? ⟨g,0,none⟩=false/\w.cell? ⟨g,1,none⟩=some c/\w.frozen? ⟨g,1,none⟩=false/\w.cell? ⟨g,2,none⟩=some d/\w.frozen? ⟨g,2,none⟩=false/\w.cell? ⟨g,3,none⟩=some e/\w.frozen? ⟨g,3,none⟩=false/\w.cell? ⟨g,4,none⟩=some f/\w.frozen? ⟨g,4,none⟩=false:=⟨h.cell 0,h.frozen 0,h.cell 1,h.frozen 1,h.cell 2,h.frozen 2,h.cell 3,h.frozen 3,h.cell 4,h.frozen 4⟩
theorem Blk.c6 {g:Nat} {b c d e f i:Value} (h:Blk w g t #[b,c,d,e,f,i]):w.cell? ⟨g,0,none⟩=some b/\w.frozen? ⟨g,0,none⟩=false/\w.cell? ⟨g,1,none⟩=some c/\w.frozen? ⟨g,1,none⟩=false/\w.cell? ⟨g,2,none⟩=some d/\w.frozen? ⟨g,2,none⟩=false/\w.cell? ⟨g,3,none⟩=some e/\w.frozen? ⟨g,3,none⟩=false/\w.cell? ⟨g,4,none⟩=some f/\w.frozen? ⟨g,4,none⟩=false/\w.cell? ⟨g,5,none⟩=some i/\w.frozen? ⟨g,5,none⟩=false:=⟨h.cell 0,h.frozen 0,h.cell 1,h.frozen 1,h.cell 2,h.frozen 2,h.cell 3,h.frozen 3,h.cell 4,h.frozen 4,h.cell 5,h.frozen 5⟩
theorem Blk.c7 {g:Nat} {b c d e f i j:Value} (h:Blk w g t #[b,c,d,e,f,i,j]):w.cell? ⟨g,0,none⟩=some b/\w.frozen? ⟨g,0,none⟩=false/\w.cell? ⟨g,1,none⟩=some c/\w.frozen? ⟨g,1,none⟩=false/\w.cell? ⟨g,2,none⟩=some d/\w.frozen? ⟨g,2,none⟩=false/\w.cell? ⟨g,3,none⟩=some e/\w.frozen? ⟨g,3,none⟩=false/\w.cell? ⟨g,4,none⟩=some f/\w.frozen? ⟨g,4,none⟩=false/\w.cell? ⟨g,5,none⟩=some i/\w.frozen? ⟨g,5,none⟩=false/\w.cell? ⟨g,6,none⟩=some j/\w.frozen? ⟨g,6,none⟩=false:=⟨h.cell 0,h.frozen 0,h.cell 1,h.frozen 1,h.cell 2,h.frozen 2,h.cell 3,h.frozen 3,h.cell 4,h.frozen 4,h.cell 5,h.frozen 5,h.cell 6,h.frozen 6⟩
theorem Blk.c8 {g:Nat} {b c d e f i j k:Value} (h:Blk w g t #[b,c,d,e,f,i,j,k]):w.cell? ⟨g,0,none⟩=some b/\w.frozen? ⟨g,0,none⟩=false/\w.cell? ⟨g,1,none⟩=some c/\w.frozen? ⟨g,1,none⟩=false/\w.cell? ⟨g,2,none⟩=some d/\w.frozen? ⟨g,2,none⟩=false/\w.cell? ⟨g,3,none⟩=some e/\w.frozen? ⟨g,3,none⟩=false/\w.cell? ⟨g,4,none⟩=some f/\w.frozen? ⟨g,4,none⟩=false/\w.cell? ⟨g,5,none⟩=some i/\w.frozen? ⟨g,5,none⟩=false/\w.cell? ⟨g,6,none⟩=some j/\w.frozen? ⟨g,6,none⟩=false/\w.cell? ⟨g,7,none⟩=some k/\w.frozen? ⟨g,7,none⟩=false:=⟨h.cell 0,h.frozen 0,h.cell 1,h.frozen 1,h.cell 2,h.frozen 2,h.cell 3,h.frozen 3,h.cell 4,h.frozen 4,h.cell 5,h.frozen 5,h.cell 6,h.frozen 6,h.cell 7,h.frozen 7⟩
theorem Blk.c9 {g:Nat} {b c d e f i j k l:Value} (h:Blk w g t #[b,c,d,e,f,i,j,k,l]):w.cell? ⟨g,0,none⟩=some b/\w.frozen? ⟨g,0,none⟩=false/\w.cell? ⟨g,1,none⟩=some c/\w.frozen? ⟨g,1,none⟩=false/\w.cell? ⟨g,2,none⟩=some d/\w.frozen? ⟨g,2,none⟩=false/\w.cell? ⟨g,3,none⟩=some e/\w.frozen? ⟨g,3,none⟩=false/\w.cell? ⟨g,4,none⟩=some f/\w.frozen? ⟨g,4,none⟩=false/\w.cell? ⟨g,5,none⟩=some i/\w.frozen? ⟨g,5,none⟩=false/\w.cell? ⟨g,6,none⟩=some j/\w.frozen? ⟨g,6,none⟩=false/\w.cell? ⟨g,7,none⟩=some k/\w.frozen? ⟨g,7,none⟩=false/\w.cell? ⟨g,8,none⟩=some l/\w.frozen? ⟨g,8,none⟩=false:=⟨h.cell 0,h.frozen 0,h.cell 1,h.frozen 1,h.cell 2,h.frozen 2,h.cell 3,h.frozen 3,h.cell 4,h.frozen 4,h.cell 5,h.frozen 5,h.cell 6,h.frozen 6,h.cell 7,h.frozen 7,h.cell 8,h.frozen 8⟩
theorem Blk.c17 {g:Nat} {b c m o q r s u v x d e f i j k l:Value} (h:Blk w g t #[b,c,m,o,q,r,s,u,v,x,d,e,f,i,j,k,l]):w.cell? ⟨g,0,none⟩=some b/\w.frozen? ⟨g,0,none⟩=false/\w.cell? ⟨g,1,none⟩=some c/\w.frozen? ⟨g,1,none⟩=false/\w.cell? ⟨g,2,none⟩=some m/\w.frozen? ⟨g,2,none⟩=false/\w.cell? ⟨g,3,none⟩=some o/\w.frozen? ⟨g,3,none⟩=false/\w.cell? ⟨g,4,none⟩=some q/\w.frozen? ⟨g,4,none⟩=false/\w.cell? ⟨g,5,none⟩=some r/\w.frozen? ⟨g,5,none⟩=false/\w.cell? ⟨g,6,none⟩=some s/\w.frozen? ⟨g,6,none⟩=false/\w.cell? ⟨g,7,none⟩=some u/\w.frozen? ⟨g,7,none⟩=false/\w.cell? ⟨g,8,none⟩=some v/\w.frozen? ⟨g,8,none⟩=false/\w.cell? ⟨g,9,none⟩=some x/\w.frozen? ⟨g,9,none⟩=false/\w.cell? ⟨g,10,none⟩=some d/\w.frozen? ⟨g,10,none⟩=false/\w.cell? ⟨g,11,none⟩=some e/\w.frozen? ⟨g,11,none⟩=false/\w.cell? ⟨g,12,none⟩=some f/\w.frozen? ⟨g,12,none⟩=false/\w.cell? ⟨g,13,none⟩=some i/\w.frozen? ⟨g,13,none⟩=false/\w.cell? ⟨g,14,none⟩=some j/\w.frozen? ⟨g,14,none⟩=false/\w.cell? ⟨g,15,none⟩=some k/\w.frozen? ⟨g,15,none⟩=false/\w.cell? ⟨g,16,none⟩=some l/\w.frozen? ⟨g,16,none⟩=false:=⟨h.cell 0,h.frozen 0,h.cell 1,h.frozen 1,h.cell 2,h.frozen 2,h.cell 3,h.frozen 3,h.cell 4,h.frozen 4,h.cell 5,h.frozen 5,h.cell 6,h.frozen 6,h.cell 7,h.frozen 7,h.cell 8,h.frozen 8,h.cell 9,h.frozen 9,h.cell 10,h.frozen 10,h.cell 11,h.frozen 11,h.cell 12,h.frozen 12,h.cell 13,h.frozen 13,h.cell 14,h.frozen 14,h.cell 15,h.frozen 15,h.cell 16,h.frozen 16⟩
abbrev cfV (c:Cf):Array Value:= #[.int .i64 c.bits,.int .u64 c.one,.int .i64 c.ring,.int .u64 c.dO,.int .i64 c.room,.int .u64 c.mss,.int .u64 c.jD,.int .u64 c.bn,.int .u64 c.most,.int .i64 c.pX,.int .u64 c.first,.int .u64 c.jc,.int .u64 c.cap,.int .u64 c.gD,.int .u64 c.WL,.int .i64 c.bE,.int .u64 c.every]
structure Bx (p:Prop):Prop where
 o:p
theorem mW {b c:Prop} (g:c) (h:Bx c->b:=by
 intro h;(repeat ((fail_if_success (with_reducible apply eG));first|go_values|go_skip|go_guarded|go_step|go_upon|go_back|go_simp));exact h.o):b:=h ⟨g⟩
theorem mE {b c:Prop} (g:c) (h:Bx c->b:=by
 intro h;(first|go_end0|((try simp only[Exit.inBlock,Exit.then]);refine eG (results_none rfl _ _ _) rfl ?_)|refine eG (results_none rfl _ _ _) rfl ?_);exact h.o):b:=h ⟨g⟩
theorem Yd {P:Program} {f:Nat} {a:Array Value} {v:Ending} {B:World->Prop} {R:Ending->World->Prop} (h:Calls P f a w λb w'=>b=v/\B w') (k:∀w',B w'->R v w'):Calls P f a w R:=h.mono λ_ _ ⟨b,c⟩=>b▸k _ c
theorem Yg {P:Program} {f:Nat} {a:Array Value} {v:Ending} {B:World->Prop} {R:Ending->World->Prop} (h:Calls P f a w λb w'=>b=v/\B w') (k:R v w) (g:∀w',B w'->w'=w:=by intro _ h;first|with_reducible exact h|with_reducible exact h.symm):Calls P f a w R:=h.mono λ_ d ⟨b,c⟩=>b▸g d c▸k
abbrev aD:= @Row.below
abbrev aF:= @Row.mono
abbrev aG:= @Row.keep
abbrev aH:= @Mod.of_below
abbrev aV:= @Mod.refl
abbrev Wx:= @Blk.new
abbrev dF:= @Blk.ne_
abbrev aA:= @below_drewN'
abbrev bA:= @vU
theorem lcZ {P:List Value->Prop} (h:∀b t,t.length=n->P (b::t)):∀t,t.length=n+1->P t
 |b::t,e=>h b t (Nat.succ.inj e)
theorem lzZ {P:List Value->Prop} (h:P []):∀t,t.length=0->P t
 |[],_=>h
theorem mD {b c:Prop} (g:c) (h:Bx c->b:=by
 intro h;simp only[List.take_succ_cons,List.take_zero,List.drop_succ_cons,List.drop_nil,List.drop_zero,Nat.reduceSub];exact h.o):b:=h ⟨g⟩
theorem yx {p0 p1:Prop} (h0:p0) (h1:p1):X3 p0∧X3 p1:=⟨zH h0,zH h1⟩
theorem Av {p0 p1 p2:Prop} (h0:p0) (h1:p1) (h2:p2):X3 p0∧X3 p1∧X3 p2:=⟨zH h0,zH h1,zH h2⟩
theorem Bq {p0 p1 p2 p3:Prop} (h0:p0) (h1:p1) (h2:p2) (h3:p3):X3 p0∧X3 p1∧X3 p2∧X3 p3:=⟨zH h0,zH h1,zH h2,zH h3⟩
theorem BF {p0 p1 p2 p3 p4:Prop} (h0:p0) (h1:p1) (h2:p2) (h3:p3) (h4:p4):X3 p0∧X3 p1∧X3 p2∧X3 p3∧X3 p4:=⟨zH h0,zH h1,zH h2,zH h3,zH h4⟩
theorem Fy {p0 p1 p2 p3 p4 p5:Prop} (h0:p0) (h1:p1) (h2:p2) (h3:p3) (h4:p4) (h5:p5):X3 p0∧X3 p1∧X3 p2∧X3 p3∧X3 p4∧X3 p5:=⟨zH h0,zH h1,zH h2,zH h3,zH h4,zH h5⟩
theorem FX {p0 p1 p2:Prop} (h0:p0) (h1:p1) (h2:p2):p0∧p1∧p2:=⟨h0,h1,h2⟩
theorem Hl {p0 p1 p2 p3:Prop} (h0:p0) (h1:p1) (h2:p2) (h3:p3):p0∧p1∧p2∧p3:=⟨h0,h1,h2,h3⟩
theorem Ju {p0 p1 p2 p3 p4:Prop} (h0:p0) (h1:p1) (h2:p2) (h3:p3) (h4:p4):p0∧p1∧p2∧p3∧p4:=⟨h0,h1,h2,h3,h4⟩
theorem LX {p0 p1 p2 p3 p4 p5:Prop} (h0:p0) (h1:p1) (h2:p2) (h3:p3) (h4:p4) (h5:p5):p0∧p1∧p2∧p3∧p4∧p5:=⟨h0,h1,h2,h3,h4,h5⟩
theorem Blk.e2 {w:World} {g:Nat} {t:TypeId} {cs:Array Value} (h:Blk w g t cs) (i0 i1:Nat) {v0 v1:Value} (h0:cs.toList[i0]?=some v0:=by exact rfl) (h1:cs.toList[i1]?=some v1:=by exact rfl):w.cell? ⟨g,i0,none⟩=some v0∧w.cell? ⟨g,i1,none⟩=some v1:=⟨h.Wu i0 h0,h.Wu i1 h1⟩
theorem Blk.e3 {w:World} {g:Nat} {t:TypeId} {cs:Array Value} (h:Blk w g t cs) (i0 i1 i2:Nat) {v0 v1 v2:Value} (h0:cs.toList[i0]?=some v0:=by exact rfl) (h1:cs.toList[i1]?=some v1:=by exact rfl) (h2:cs.toList[i2]?=some v2:=by exact rfl):w.cell? ⟨g,i0,none⟩=some v0∧w.cell? ⟨g,i1,none⟩=some v1∧w.cell? ⟨g,i2,none⟩=some v2:=⟨h.Wu i0 h0,h.Wu i1 h1,h.Wu i2 h2⟩
theorem Blk.e4 {w:World} {g:Nat} {t:TypeId} {cs:Array Value} (h:Blk w g t cs) (i0 i1 i2 i3:Nat) {v0 v1 v2 v3:Value} (h0:cs.toList[i0]?=some v0:=by exact rfl) (h1:cs.toList[i1]?=some v1:=by exact rfl) (h2:cs.toList[i2]?=some v2:=by exact rfl) (h3:cs.toList[i3]?=some v3:=by exact rfl):w.cell? ⟨g,i0,none⟩=some v0∧w.cell? ⟨g,i1,none⟩=some v1∧w.cell? ⟨g,i2,none⟩=some v2∧w.cell? ⟨g,i3,none⟩=some v3:=⟨h.Wu i0 h0,h.Wu i1 h1,h.Wu i2 h2,h.Wu i3 h3⟩
theorem Blk.e5 {w:World} {g:Nat} {t:TypeId} {cs:Array Value} (h:Blk w g t cs) (i0 i1 i2 i3 i4:Nat) {v0 v1 v2 v3 v4:Value} (h0:cs.toList[i0]?=some v0:=by exact rfl) (h1:cs.toList[i1]?=some v1:=by exact rfl) (h2:cs.toList[i2]?=some v2:=by exact rfl) (h3:cs.toList[i3]?=some v3:=by exact rfl) (h4:cs.toList[i4]?=some v4:=by exact rfl):w.cell? ⟨g,i0,none⟩=some v0∧w.cell? ⟨g,i1,none⟩=some v1∧w.cell? ⟨g,i2,none⟩=some v2∧w.cell? ⟨g,i3,none⟩=some v3∧w.cell? ⟨g,i4,none⟩=some v4:=⟨h.Wu i0 h0,h.Wu i1 h1,h.Wu i2 h2,h.Wu i3 h3,h.Wu i4 h4⟩
theorem Blk.e6 {w:World} {g:Nat} {t:TypeId} {cs:Array Value} (h:Blk w g t cs) (i0 i1 i2 i3 i4 i5:Nat) {v0 v1 v2 v3 v4 v5:Value} (h0:cs.toList[i0]?=some v0:=by exact rfl) (h1:cs.toList[i1]?=some v1:=by exact rfl) (h2:cs.toList[i2]?=some v2:=by exact rfl) (h3:cs.toList[i3]?=some v3:=by exact rfl) (h4:cs.toList[i4]?=some v4:=by exact rfl) (h5:cs.toList[i5]?=some v5:=by exact rfl):w.cell? ⟨g,i0,none⟩=some v0∧w.cell? ⟨g,i1,none⟩=some v1∧w.cell? ⟨g,i2,none⟩=some v2∧w.cell? ⟨g,i3,none⟩=some v3∧w.cell? ⟨g,i4,none⟩=some v4∧w.cell? ⟨g,i5,none⟩=some v5:=⟨h.Wu i0 h0,h.Wu i1 h1,h.Wu i2 h2,h.Wu i3 h3,h.Wu i4 h4,h.Wu i5 h5⟩
section
variable {P:Program} (w:World) {S:X4} {ts:TypeId}
theorem run_append_nil (base:Nat) (t ty e:TypeId) (i:TypeInfo) (size:Nat) (d:P.underlying t=some (.slice e)) (b:P.info? e=some i)
  (v:Value) (n:Nat) (xs:List Value) (j:w.ownsRow base e size v n xs) (c:Nat):(Builtin.append_ #[t,t] ty #[v,.slice none 0 c]).run P w=.ok v w:=by
 rcases j.2 with⟨rfl,rfl⟩|⟨m,k,l,rfl,_,_,g,_⟩
 .simp[Builtin.append_,run_underlying d,sizeOf,typeInfo,b,Builtin.lenOf,Builtin.firstCells]
 .simp[Builtin.append_,run_underlying d,sizeOf,typeInfo,b,Builtin.lenOf,Builtin.firstCells,g,storeCells]
theorem uZ {ty:TypeId} (base:Nat) (t e:TypeId) (i:TypeInfo) (z:Value) (size bytes:Nat) (x:P.underlying t=some (.slice e)) (u:P.info? e=some i) (T:i.zero=some z)
  (O:i.size=size) (H:i.bytes=bytes) (U:z.cells.size=size) (R:0<size)
  (v:Value) (n:Nat) (xs:List Value) (r:w.ownsRow base e size v n xs)
  (A:X5) (m c:Nat) (d:List Value) (k:Row w S ts size A m d) (B:∀g∈d,g.oneCell'=true)
  (F:n+m<=maxLen) (I:(n+m)*bytes<=140737488355328) (G:base<=w.heap.size):
  ∃j l,(Builtin.append_ #[t,t] ty #[v,.slice A m c]).run P w=.ok j l/\l.ownsRow base e size j (n+m) (xs++d)/\w.grownBy l v.ownBlock/\
   (j.ownBlock=v.ownBlock\/j.ownBlock=some w.heap.size):=by
 rcases A with _|s
 .have M:m=0:=by
   rcases Nat.eq_zero_or_pos m with b|b
   .exact b
   .obtain⟨_,_,h,_⟩:=k.at_ b
    cases h
  subst M;have q:d=[]:=dV (by simpa using k.1);subst q;exact⟨v,w,run_append_nil w base t ty e i size x u v n xs r c,by simpa using r,World.grownBy.refl w _,.inl rfl⟩
 .have L:∀p g,d[p]?=some g->w.cell? (s.add p)=some g:=by
   intro p g y;rcases Nat.eq_zero_or_pos m with b|b
   .subst b
    have q:d=[]:=dV (by simpa using k.1);subst q;simp at y
   .obtain⟨V,W,h,_,_,J⟩:=k.at_ b
    injection h with h;subst h;rw[Go.WideShapes.add_plain];exact J p g y
  obtain⟨j,l,N,C,D,_,E⟩:=run_append_own_at (P:=P) w base t ty e i z size bytes x u T O H U R v n xs r s m c d k.1 L B F I G;exact⟨j,l,N,C,D,E⟩
variable {ops:Array Oper} {rest:List Oper} {o:Oper} {a:Act} {K:Act->World->Prop} {Q:X7}
end
theorem nT {base:Nat} {size n:Nat} {v:Value} {xs:List Value} (h:w.ownsRow base e size v n xs):
  ∃a k,v=.slice a n k/\(∀b,a=some ⟨b,0,none⟩->base<=b/\b<w.heap.size)/\Row w (λj=>base<=j/\j<w.heap.size) e size a n xs:=by
 obtain⟨m,p⟩:=id h;rcases p with⟨rfl,rfl⟩|⟨b,q,r,rfl,c,g,_⟩
 .refine⟨_,_,rfl,(λb c=>by cases c),?_⟩
  have:xs=[]:=dV (by simpa using m);subst this;exact Row.WH
 .exact⟨_,_,rfl,(λl d=>by injection d with e;injection e with e;subst e;exact⟨c,WT g⟩),Row.Xt h (λl d=>by injection d with e;injection e with e;subst e;exact⟨c,WT g⟩)⟩
theorem iq (w:World) (base:Nat) (e:TypeId) (size:Nat):w.ownsRow base e size (zzN) 0 []:=⟨sM,.inl ⟨rfl,rfl⟩⟩
theorem Yx {size n:Nat} {v:Value} {xs:List Value} (h:w.ownsRow b e size v n xs) (hb:p<=b):w.ownsRow p e size v n xs:=by
 obtain⟨k,c⟩:=h;refine⟨k,?_⟩;rcases c with c|⟨j,d,g,l,q,m⟩
 .exact .inl c
 .exact .inr ⟨j,d,g,l,oM,m⟩
theorem jM {size n:Nat} {v:Value} {xs:List Value} (h:w.ownsRow b e size v n xs):∀c,v.ownBlock=some c->b<=c:=by
 intro c d;rcases h.2 with⟨rfl,_⟩|⟨k,g,j,rfl,l,_⟩
 .simp[Value.ownBlock]at d
 .simp[Value.ownBlock]at d;omega
theorem zI {size n:Nat} {v:Value} {xs:List Value} (h:w.ownsRow b e size v n xs):∀d,v.ownBlock=some d->d<w.heap.size:=by
 intro d c;rcases h.2 with⟨rfl,_⟩|⟨l,j,k,rfl,_,g,_⟩
 .simp[Value.ownBlock]at c
 .simp[Value.ownBlock]at c;subst c;exact WT g
theorem IL {size n c m:Nat} {a:X5} {xs:List Value} (h:w.ownsRow b e size (.slice a m c) n xs) (v:∀d,a=some ⟨d,0,none⟩->w'.heap[d]?=w.heap[d]?):w'.ownsRow b e size (.slice a m c) n xs:=by
 obtain⟨q,r⟩:=h;refine⟨q,?_⟩;rcases r with⟨g,p⟩|⟨d,j,k,g,s,u,x⟩
 .exact .inl ⟨g,p⟩
 .refine .inr ⟨d,j,k,g,s,?_,x⟩
  injection g with l;rw[v d l];exact u
theorem yG {g:Nat} {size n:Nat} (h:Blk w g t C) (b:C.size=n*size):Row w (λd=>d=g) t size (some ⟨g,0,none⟩) n C.toList:=
 ⟨by simpa using b,λ_=>⟨g,0,C,_,rfl,rfl,h,λj k c=>by simpa using c⟩⟩
structure Elem (P:Program) (t e:TypeId) (size bytes:Nat) {α:Type} (f:α->List Value):Prop where
 ht:P.underlying t=some (.slice e)
 ex:∃i z,P.info? e=some i/\i.zero=some z/\i.size=size/\i.bytes=bytes/\z.cells.size=size
 pos:0<size
 len:∀x,(f x).length=size
 one:∀x,∀u∈f x,u.oneCell'=true
section
variable {α:Type} {f:α->List Value} {P:Program} {t e:TypeId} {size bytes:Nat} {w:World} {S:X4} {ts:TypeId}
theorem Elem.run (E:Elem P t e size bytes f) {ty:TypeId} (base:Nat) (A:X5) (k:Nat) (xs:List α) (x:w.ownsRow base e size (.slice A xs.length k) xs.length (xs.flatMap f))
  (B:X5) (c:Nat) (b:List α) (y:Row w S ts size B b.length (b.flatMap f)) (s:xs.length+b.length<=1000000000000\/bytes=1/\xs.length+b.length<=140737488355328) (hb:bytes<=140) (u:base<=w.heap.size):
  ∃g j d,(Builtin.append_ #[t,t] ty #[.slice A xs.length k,.slice B b.length c]).run P w=.ok (.slice g (xs++b).length j) d/\d.ownsRow base e size (.slice g (xs++b).length j) (xs++b).length ((xs++b).flatMap f)/\
   w.grownBy d (Value.slice A xs.length k).ownBlock:=by
 obtain⟨i,H,m,n,p,q,r⟩:=E.ex;have J:(xs.length+b.length)*bytes<=140737488355328:=by
  rcases s with h|⟨h,I⟩
  .exact ay (Nat.mul_le_mul h hb) dC
  .rw[h];omega
 obtain⟨L,d,z,l,v,_⟩:=uZ (P:=P) (ty:=ty) w base t e i H size bytes E.ht m n p q r E.pos _ _ _ x B b.length c _ y (λF C=>by obtain⟨G,_,D⟩:=List.mem_flatMap.1 C;exact E.one G F D) (by simp only[maxLen];omega) oM u;obtain⟨g,j,rfl,_,_⟩:=nT l;exact⟨g,j,d,by rw[aU];exact z,by rw[aU,iE];exact l,v⟩
variable {ops:Array Oper} {rest:List Oper} {o:Oper} {a:Act} {K:Act->World->Prop} {Q:X7}
theorem Elem.wp (E:Elem P t e size bytes f) (s x:Operand) (q:o.op=.call {callee:=.builtin .append,args:= #[s,x],argTypes:= #[t,t]})
  (base:Nat) (A:X5) (j:Nat) (xs:List α) (y:a.eval s=.slice A xs.length j) (r:w.ownsRow base e size (.slice A xs.length j) xs.length (xs.flatMap f))
  (B:X5) (c:Nat) (b:List α) (z:a.eval x=.slice B b.length c) (u:Row w S ts size B b.length (b.flatMap f)) (n:xs.length+b.length<=1000000000000\/bytes=1/\xs.length+b.length<=140737488355328) (hb:bytes<=140) (p:base<=w.heap.size)
  (h:∀g k d,d.ownsRow base e size (.slice g (xs++b).length k) (xs++b).length ((xs++b).flatMap f)->w.grownBy d (Value.slice A xs.length j).ownBlock->K (a.put o.dst (.slice g (xs++b).length k)) d):o.wp P a w K Q:=by
 obtain⟨g,k,d,v,l,m⟩:=E.run (ty:=o.type) base A j xs r B c b u n hb p;unfold Oper.wp execOp;simp only[q,resolve,invoke,builtin,Sem.run_bind,Sem.run_pure,Result.andThen_ok,List.map_toArray,List.map_cons,List.map_nil,y,z,v];exact h g k d l m
theorem Elem.wpList (E:Elem P t e size bytes f) (r:o.guard=none) (s x:Operand) (u:o.op=.call {callee:=.builtin .append,args:= #[s,x],argTypes:= #[t,t]})
  (base:Nat) (A:X5) (j:Nat) (xs:List α) (z:a.eval s=.slice A xs.length j) (v:w.ownsRow base e size (.slice A xs.length j) xs.length (xs.flatMap f))
  (B:X5) (c:Nat) (b:List α) (C:a.eval x=.slice B b.length c) (y:Row w S ts size B b.length (b.flatMap f)) (n:xs.length+b.length<=1000000000000\/bytes=1/\xs.length+b.length<=140737488355328) (hb:bytes<=140) (q:base<=w.heap.size)
  (h:∀g k d,d.ownsRow base e size (.slice g (xs++b).length k) (xs++b).length ((xs++b).flatMap f)->w.grownBy d (Value.slice A xs.length j).ownBlock->Go.wpList P ops Q rest (a.put o.dst (.slice g (xs++b).length k)) d):Go.wpList P ops Q (o::rest) a w:=
 wpList_plain r λ_ p=>E.wp s x u base A j xs z v B c b C y n hb q λg k d l m=>p _ _ (h g k d l m)
theorem Elem.step {X:Prop} (E:Elem P t e size bytes f) (n:o.guard=none) (s x:Operand) (p:o.op=.call {callee:=.builtin .append,args:= #[s,x],argTypes:= #[t,t]})
  (base:Nat) (A:X5) (d:Nat) (xs:List α) (u:a.eval s=.slice A xs.length d) (q:w.ownsRow base e size (.slice A xs.length d) xs.length (xs.flatMap f))
  (B:X5) (c:Nat) (b:List α) (y:a.eval x=.slice B b.length c) (r:Row w S ts size B b.length (b.flatMap f)) (l:xs.length+b.length<=1000000000000\/bytes=1/\xs.length+b.length<=140737488355328) (hb:bytes<=140) (m:base<=w.heap.size)
  (h:∀j k g,g.ownsRow base e size (.slice j (xs++b).length k) (xs++b).length ((xs++b).flatMap f)->w.grownBy g (Value.slice A xs.length d).ownBlock->K (a.put o.dst (.slice j (xs++b).length k)) g):
  if Region.wanted o (yielded ops a.tmps)=true then Oper.wp P o a w K Q else X:=by
 (have v:Region.wanted o (yielded ops a.tmps)=true:=by simp[Region.wanted,n]);rw[aB v];exact E.wp s x p base A d xs u q B c b y r l hb m h
theorem Elem.single (E:Elem P t e size bytes f) {g:Nat} (x:α) (c:Blk w g ts C) (b:C.toList=f x):Row w (λd=>d=g) ts size (some ⟨g,0,none⟩) [x].length ([x].flatMap f):=by
 have h:=yG (size:=size) (n:=1) c (by have:=E.len x;rw[<-b]at this;simpa using this);rw[b]at h;simpa using h
end
def fE (a:X5) (c lo size:Nat):Option Addr:=if c=lo then a else a.map (·.add (lo*size))
theorem lD {b d c lo size:Nat} (h:lo<c):fE (some ⟨b,d,none⟩) c lo size=some ⟨b,d+lo*size,none⟩:=by
 unfold fE;rw[Ww oM];simp[Go.WideShapes.add_plain]
section
variable {P:Program} {t e:TypeId} {i:TypeInfo}
theorem gI (d:P.underlying t=some (.slice e)) (b:P.info? e=some i) (a:X5) (n c k:Nat) (h:k<=n) (w:World):
  (Instr.slice t (.slice a n c) (some (.int .i64 (k:Int))) none none).run P w=.ok (.slice (fE a c k i.size) (n -k) (c -k)) w:=by
 have g:(0:Int)<=(k:Int)/\(k:Int)<=(n:Int):=oM;simp[Instr.slice,Instr.sliceBounds,Instr.sliceBound,asIntOf,run_underlying d,sizeOf,typeInfo,b,h,fE]
theorem tY (d:P.underlying t=some (.slice e)) (b:P.info? e=some i) (a:X5) (n c k:Nat) (h:k<=c) (w:World):
  (Instr.slice t (.slice a n c) none (some (.int .i64 (k:Int))) none).run P w=.ok (.slice (fE a c 0 i.size) k c) w:=by
 simp[Instr.slice,Instr.sliceBounds,Instr.sliceBound,asIntOf,run_underlying d,sizeOf,typeInfo,b,h,fE]
theorem qL (g:P.underlying t=some (.slice e)) (b:P.info? e=some i) (a:X5) (n c k m:Nat) (h:k<=m) (d:m<=c) (w:World):
  (Instr.slice t (.slice a n c) (some (.int .i64 (k:Int))) (some (.int .i64 (m:Int))) none).run P w=.ok (.slice (fE a c k i.size) (m -k) (c -k)) w:=by
 simp[Instr.slice,Instr.sliceBounds,Instr.sliceBound,asIntOf,run_underlying g,sizeOf,typeInfo,b,h,d,fE]
end
structure OwnAt (w:World) (S:X4) (e:TypeId) (size:Nat) (a:X5) (n c:Nat) (xs:List Value):Prop where
 own:w.ownsRow 0 e size (.slice a n c) n xs
 mem:∀g,a=some ⟨g,0,none⟩->S g
section
variable {w w':World} {S S':X4} {e t:TypeId} {size n c g:Nat} {a:X5} {xs:List Value} {T ts:X8} {cs:Array Value}
theorem OwnAt.WH:OwnAt w S e size none 0 0 []:=⟨iq _ _ _ _,λg h=>by cases h⟩
theorem OwnAt.row (h:OwnAt w S e size a n c xs):Row w S e size a n xs:=Row.Xt h.own h.mem
theorem OwnAt.mono (h:OwnAt w S e size a n c xs) (d:∀b,S b->S' b):OwnAt w S' e size a n c xs:=⟨h.own,λg i=>d g (h.mem g i)⟩
theorem OwnAt.keep (h:OwnAt w S e size a n c xs) (q:bQ S ts w w') (r:some e∈ts):OwnAt w' S e size a n c xs:=by
 refine⟨?_,h.mem⟩;obtain⟨k,b⟩:=h.own;refine⟨k,?_⟩;rcases b with b|⟨g,i,j,d,m,p,s⟩
 .exact .inl b
 .have l:a=some ⟨g,0,none⟩:=by injection d
  exact .inr ⟨g,i,j,d,m,q g _ (h.mem g l) p r,s⟩
theorem OwnAt.below (h:OwnAt w S e size a n c xs) (hb:bW w w'):OwnAt w' S e size a n c xs:=h.keep (ts:=[some e]) (bQ.below hb) sM
theorem OwnAt.cap_ (h:OwnAt w S e size a n c xs):n<=c:=by
 rcases h.own.2 with⟨b,j⟩|⟨g,d,i,b,_,_,k,_⟩
 .omega
 .injection b with _ _ e;omega
theorem OwnAt.bF (h:OwnAt w S e size a n c xs) {i:Nat} (C:i<xs.length):
  ∃g cs,a=some ⟨g,0,none⟩/\S g/\Blk w g e cs/\(∀(l:Nat) (b:Value),xs[l]?=some b->cs[l]?=some b)/\∀b,OwnAt (w.setCell ⟨g,i,none⟩ b) S e size a n c (xs.set i b):=by
 obtain⟨m,u⟩:=h.own;rcases u with⟨k,s⟩|⟨g,r,j,k,x,y,A,z,B,q⟩
 .rw[s]at m;omega
 .have v:a=some ⟨g,0,none⟩:=by injection k
  subst v;have p:Blk w g e j:=y;refine⟨g,j,rfl,h.mem g rfl,p,λl b d=>?_,λb=>⟨⟨by rw[List.length_set];exact m,.inr ⟨g,r,j.setIfInBounds i b,k,x,p.bF i b,A,z,by simpa using B,?_⟩⟩,h.mem⟩⟩
  .rw[<-q,List.getElem?_take]at d
   split at d
   .simpa using d
   .cases d
  .rw[Array.toList_setIfInBounds,List.take_set,q]
theorem Blk.mod (h:Blk w g t cs) (j:Mod S T w w') (k:some t∉T):Blk w' g t cs:=by
 rcases j.block g h.lt with d|⟨_,o,b,i⟩
 .exact d.trans h
 .unfold Blk at h;rw[h]at b;injection b with b;subst b;exact Wy i k
theorem Blk.o (h:Blk w g t cs) (i:Mod S T w w') (j:¬S g):Blk w' g t cs:=by
 rcases i.block g h.lt with b|⟨d,_⟩
 .exact b.trans h
 .exact Wy d j
theorem Blk.keep (h:Blk w g t cs) (d:bQ S ts w w') (b:S g) (i:some t∈ts):Blk w' g t cs:=d g _ b h i
theorem Mod.size' (h:Mod S T w w'):w.heap.size<=w'.heap.size:=h.size
end
section
variable {α:Type} {f:α->List Value} {P:Program} {t e:TypeId} {size bytes:Nat} {w:World} {S S2:X4} {ts:TypeId}
theorem Elem.runO (E:Elem P t e size bytes f) {ty:TypeId} (A:X5) (m:Nat) (xs:List α) (j:OwnAt w S e size A xs.length m (xs.flatMap f))
  (B:X5) (c:Nat) (d:List α) (L:Row w S2 ts size B d.length (d.flatMap f)) (F:xs.length+d.length<=1000000000000) (hb:bytes<=140):
  ∃k l w',(Builtin.append_ #[t,t] ty #[.slice A xs.length m,.slice B d.length c]).run P w=.ok (.slice k (xs++d).length l) w'/\OwnAt w' (grow S w w') e size k (xs++d).length l ((xs++d).flatMap f)/\
   Mod S [some e] w w'/\w.grownBy w' (Value.slice A xs.length m).ownBlock:=by
 obtain⟨R,W,x,y,z,C,D⟩:=E.ex;have Z:(xs.length+d.length)*bytes<=1000000000000*140:=Nat.mul_le_mul F hb;obtain⟨a1,w',M,s,r,G⟩:=uZ (P:=P) (ty:=ty) w 0 t e R W size bytes E.ht x y z C D E.pos _ _ _ j.own B d.length c _ L (λU N=>by obtain⟨V,_,O⟩:=List.mem_flatMap.1 N;exact E.one V U O) (by simp only[maxLen];omega) oM (jV _);obtain⟨k,l,rfl,J,_⟩:=nT s;refine⟨k,l,w',by rw[aU];exact M,⟨by rw[aU,iE];exact s,?_⟩,?_,r⟩
 .intro g H
  subst H;have Y:=(J g rfl).2;rcases G with b|b
  .left
   rcases j.own.2 with⟨i,_⟩|⟨p,u,v,i,_⟩
   .rw[i]at b;simp[Value.ownBlock]at b
   .have q:A=some ⟨p,0,none⟩:=by injection i
    subst q;simp[Value.ownBlock]at b;subst b;exact j.mem _ rfl
  .right
   simp[Value.ownBlock]at b;omega
 .refine(aV S [some e] w).grown r ?_
  intro a0 b X;rcases j.own.2 with⟨i,_⟩|⟨p,u,v,i,_,I,_⟩
  .rw[i]at b;simp[Value.ownBlock]at b
  .have q:A=some ⟨p,0,none⟩:=by injection i
   subst q;simp[Value.ownBlock]at b;subst b;exact⟨j.mem _ rfl,_,I,by simp[nH]⟩
variable {ops:Array Oper} {rest:List Oper} {o:Oper} {a:Act} {K:Act->World->Prop} {Q:X7}
theorem Elem.wpO (E:Elem P t e size bytes f) (s x:Operand) (q:o.op=.call {callee:=.builtin .append,args:= #[s,x],argTypes:= #[t,t]})
  (A:X5) (i:Nat) (xs:List α) (y:a.eval s=.slice A xs.length i) (r:OwnAt w S e size A xs.length i (xs.flatMap f))
  (B:X5) (c:Nat) (b:List α) (z:a.eval x=.slice B b.length c) (u:Row w S2 ts size B b.length (b.flatMap f)) (p:xs.length+b.length<=1000000000000) (hb:bytes<=140)
  (h:∀d j w',OwnAt w' (grow S w w') e size d (xs++b).length j ((xs++b).flatMap f)->Mod S [some e] w w'->w.grownBy w' (Value.slice A xs.length i).ownBlock->K (a.put o.dst (.slice d (xs++b).length j)) w'):o.wp P a w K Q:=by
 obtain⟨d,j,w',v,k,l,m⟩:=E.runO (ty:=o.type) A i xs r B c b u p hb;unfold Oper.wp execOp;simp only[q,resolve,invoke,builtin,Sem.run_bind,Sem.run_pure,Result.andThen_ok,List.map_toArray,List.map_cons,List.map_nil,y,z,v];exact h d j w' k l m
theorem Elem.jO (E:Elem P t e size bytes f) (r:o.guard=none) (s x:Operand) (u:o.op=.call {callee:=.builtin .append,args:= #[s,x],argTypes:= #[t,t]})
  (A:X5) (i:Nat) (xs:List α) (z:a.eval s=.slice A xs.length i) (v:OwnAt w S e size A xs.length i (xs.flatMap f))
  (B:X5) (c:Nat) (b:List α) (C:a.eval x=.slice B b.length c) (y:Row w S2 ts size B b.length (b.flatMap f)) (p:xs.length+b.length<=1000000000000) (hb:bytes<=140)
  (h:∀d j w',OwnAt w' (grow S w w') e size d (xs++b).length j ((xs++b).flatMap f)->Mod S [some e] w w'->w.grownBy w' (Value.slice A xs.length i).ownBlock->Go.wpList P ops Q rest (a.put o.dst (.slice d (xs++b).length j)) w'):Go.wpList P ops Q (o::rest) a w:=
 wpList_plain r λ_ q=>E.wpO s x u A i xs z v B c b C y p hb λd j w' k l m=>q _ _ (h d j w' k l m)
theorem Elem.Br {X:Prop} (E:Elem P t e size bytes f) (l:o.guard=none) (s x:Operand) (m:o.op=.call {callee:=.builtin .append,args:= #[s,x],argTypes:= #[t,t]})
  (A:X5) (d:Nat) (xs:List α) (r:a.eval s=.slice A xs.length d) (p:OwnAt w S e size A xs.length d (xs.flatMap f))
  (B:X5) (c:Nat) (b:List α) (v:a.eval x=.slice B b.length c) (q:Row w S2 ts size B b.length (b.flatMap f)) (k:xs.length+b.length<=1000000000000) (hb:bytes<=140)
  (h:∀i j w',OwnAt w' (grow S w w') e size i (xs++b).length j ((xs++b).flatMap f)->Mod S [some e] w w'->w.grownBy w' (Value.slice A xs.length d).ownBlock->K (a.put o.dst (.slice i (xs++b).length j)) w'):
  if Region.wanted o (yielded ops a.tmps)=true then Oper.wp P o a w K Q else X:=by
 (have u:Region.wanted o (yielded ops a.tmps)=true:=by simp[Region.wanted,l]);rw[aB u];exact E.wpO s x m A d xs r p B c b v q k hb h
theorem OwnAt.fresh {base:Nat} {size n c:Nat} {a:X5} {xs:List Value} (h:w'.ownsRow base e size (.slice a n c) n xs):OwnAt w' (λb=>base<=b/\b<w'.heap.size) e size a n c xs:=
 ⟨Yx h (jV _),by
  intro g i;obtain⟨l,m,k,j,_⟩:=nT h;injection k with d;subst d;exact j g i⟩
end
theorem jw {g:Nat} {cs:Array Value} {S:X4} {T:X8} (d:Mod S T w w') (i:some t∉T:=by decide) (h:∃b,Blk w g t b/\b=cs:=by
  apply Exists.intro;apply And.intro
  .repeat (first|with_reducible exact Wx _ _ _|with_reducible exact Blk.qN _ _ _ _|with_reducible exact Blk.IV _ _ _ _ _|with_reducible exact Blk.IU _ _ _ _ _ _|with_reducible assumption|with_reducible apply Blk.bF|with_reducible apply Blk.drewN|with_reducible apply Blk.drew|with_reducible apply Blk.alloc|with_reducible apply Blk.far)
   all_goals (first|(simp;done)|(simp;omega)|omega)
  .simp):Blk w' g t cs:=by
 obtain⟨_,j,rfl⟩:=h;exact j.mod d i
@[go_sem]theorem OJ (w:World) (a b:Addr) (v:Value):((w.setCell b v).cell? a).isSome=(w.cell? a).isSome:=by
 by_cases h:b=a
 .subst h
  cases hc:w.cell? b with
  |some x=>rw[World.cell?_setCell_same w b v hc];rfl
  |none=>
   unfold World.cell? at hc|-;simp only[World.setCell,Array.getElem?_modify,if_true];cases hh:w.heap[b.block]?with
   |none=>rfl
   |some o=>
    rw[hh]at hc;cases o with
    |cells c e f=>
     simp only[Option.map_some]at hc|-;split
     .rfl
     .next hs=>
      rw[Ww hs]at hc;have:=Array.getElem?_eq_none_iff.1 hc;rw[Array.getElem?_eq_none (by simpa using this)]
    |_=>rfl
 .rw[World.cell?_setCell_other w b a v h]
theorem OwnAt.lt {S:X4} {size n c:Nat} {a:X5} {xs:List Value} (h:OwnAt w S e size a n c xs):∀b,a=some ⟨b,0,none⟩->b<w.heap.size:=λb d=>zI h.own b (by rw[d];rfl)
theorem OwnAt.far {S:X4} {size n c q i:Nat} {u:Value} {a:X5} {xs:List Value} (h:OwnAt w S e size a n c xs) (g:∀b,a=some ⟨b,0,none⟩->b≠q):OwnAt (w.setCell ⟨q,i,none⟩ u) S e size a n c xs:=
 ⟨IL h.own (λb d=>Below.heap_setCell _ _ _ _ (g b d)),h.mem⟩
theorem OwnAt.pI {S:X4} {size n c q:Nat} {a:X5} {xs:List Value} (h:OwnAt w S e size a n c xs) (hb:Blk w q t C) (p:t≠e):∀g,a=some ⟨g,0,none⟩->g≠q:=by
 intro g i d;subst d;rcases h.own.2 with⟨j,_⟩|⟨u,r,s,j,_,d,_⟩
 .injection j with b;rw[b]at i;cases i
 .injection j with b
  rw[i]at b;injection b with b;injection b with b;subst b;unfold Blk at hb;rw[hb]at d;injection d with d;injection d with _ o;exact p o
theorem WZ {α:Type} {f:α->List Value} {m:Nat} (d:∀b,(f b).length=m):∀(l:List α) (k:Nat),(l.drop k).flatMap f=(l.flatMap f).drop (k*m)
 |[],k=>by simp
 |b::t,0=>by simp
 |b::t,k+1=>by
  simp only[List.drop_succ_cons,List.flatMap_cons];rw[WZ d t k,List.drop_append,d,show(k+1)*m -m=k*m by rw[Nat.add_mul];omega];rw[show(f b).drop ((k+1)*m)=[]from List.drop_eq_nil_of_le (by rw[d,Nat.add_mul];omega),List.nil_append]
theorem pQ {α:Type} {f:α->List Value} {m:Nat} (d:∀b,(f b).length=m):∀(l:List α) (k:Nat),(l.take k).flatMap f=(l.flatMap f).take (k*m)
 |[],k=>by simp
 |b::t,0=>by simp
 |b::t,k+1=>by
  simp only[List.take_succ_cons,List.flatMap_cons];rw[pQ d t k,List.take_append,d,show(k+1)*m -m=k*m by rw[Nat.add_mul];omega];rw[List.take_of_length_le (l:=f b) (by rw[d,Nat.add_mul];omega)]
section
variable {α:Type} {f:α->List Value} {P:Program} {t e:TypeId} {size bytes:Nat} {w:World} {S:X4} {ts:TypeId} {a:X5} {c k m:Nat} {l:List α}
theorem Elem.drop (E:Elem P t e size bytes f) (h:Row w S ts size a l.length (l.flatMap f)) (g:k<=l.length) (j:l.length<=c):Row w S ts size (fE a c k size) (l.drop k).length ((l.drop k).flatMap f):=by
 have b:=Row.drop h g (a':=fE a c k size) (λn i o d=>by rw[d,lD oM]);rw[bI,WZ E.len];exact b
theorem Elem.take (E:Elem P t e size bytes f) (h:Row w S ts size a l.length (l.flatMap f)) (b:k<=l.length):Row w S ts size a (l.take k).length ((l.take k).flatMap f):=by
 have d:=Row.take h b;rw[aT,fJ b,pQ E.len];exact d
theorem Elem.part (E:Elem P t e size bytes f) (h:Row w S ts size a l.length (l.flatMap f)) (o:k<=m) (i:m<=l.length) (n:l.length<=c):Row w S ts size (fE a c k size) ((l.take m).drop k).length (((l.take m).drop k).flatMap f):=by
 have b:=E.take h i;(have p:(l.take m).length=m:=by rw[aT];omega);have d:=Row.drop b (k:=k) oM (a':=fE a c k size) (λq j r g=>by rw[g,lD oM]);rw[bI,WZ E.len];exact d
end
def byV (x:Int):List Value:=[.int .u8 x]
def Bys (w:World) (S:X4) (a:X5) (l:List Int):Prop:=Row w S 5 1 a l.length (l.flatMap byV)
def dP (l:List Int):Prop:=∀a∈l,0<=a/\a<256
theorem lF:(prog.info? 5).map (λa=>(a.zero,a.size,a.bytes))=some (some (.int .u8 0),1,1):=by kernel_rfl
theorem fe:Elem prog 47 5 1 1 byV:=
 ⟨Tryz.underlying47,by
  obtain⟨f,b,c,d,e⟩:=info_parts lF;exact⟨f,_,b,c,d,e,rfl⟩,dC,λ_=>rfl,λi g a=>by simp[byV]at a;rw[a];rfl⟩
theorem vT (l:List Int):l.flatMap byV=l.map (Value.int .u8):=by
 induction l with
 |nil=>rfl
 |cons x t ih=>simp[byV,ih]
theorem Bys.at_ {S:X4} {a:X5} {j:Nat} (h:Bys w S a l) (hb:bW w w') (g:j<l.length):
  ∃b c,a=some ⟨b,c,none⟩/\b<w.heap.size/\w'.cell? ⟨b,c+j,none⟩=some (.int .u8 l[j]):=by
 obtain⟨b,c,e,i,d,f⟩:=Row.at_ h oM;refine⟨b,c,e,d,(hb.cell (p:=⟨b,c+j,none⟩) d).trans (f j _ ?_)⟩;rw[vT];simp[g]
def Byt (tb:TypeId) (w:World) (S:X4) (a:X5) (l:List Int):Prop:=Row w S tb 1 a l.length (l.flatMap byV)
theorem Bys.WH {S:X4} {a:X5}:Bys w S a []:=Row.WH
theorem wT {S:X4} {a:X5} (h:Bys w S a l) (j:k<=m) (d:m<=l.length) (a':X5) (g:k<m->∀b c,a=some ⟨b,c,none⟩->a'=some ⟨b,c+k,none⟩):Bys w S a' ((l.take m).drop k):=by
 have f:=(Row.take h d).drop j (a':=a') (λn b c i=>by rw[Nat.mul_one];exact g n b c i);unfold Bys;rw[bI,aT,fJ d];have e:((l.take m).drop k).flatMap byV=((l.flatMap byV).take (m*1)).drop (k*1):=by
  rw[vT,vT,List.map_drop,List.map_take,Nat.mul_one,Nat.mul_one]
 rw[e];exact f
theorem zo {g:Nat} (h:Blk w g 5 C) (a:C.toList=l.map (Value.int .u8)):Row w (λb=>b=g) 5 1 (some ⟨g,0,none⟩) l.length (l.flatMap byV):=by
 have:=yG (size:=1) (n:=l.length) h (by have:=lY List.length a;simpa using this)
 rwa [a,<-vT]at this
theorem oF (n:Int) (w:World):Yk 174 #[uI n] w λe f=>e=.returned (jI (eU n))/\w=f:=by
 unfold eU;by_cases a:n<64
 .rw[aB a]
  go_enter Tryz.func174,Tryz.ntmps174;go_wp2;go_ret;exact⟨rfl,rfl⟩
 .rw[Ww a]
  have g:decide (n<64)=false:=sO;by_cases b:n<16384
  .rw[aB b]
   go_enter Tryz.func174,Tryz.ntmps174;go_wp2;go_ret;exact⟨rfl,rfl⟩
  .rw[Ww b]
   have i:decide (n<16384)=false:=sO;by_cases c:n<1073741824
   .rw[aB c]
    go_enter Tryz.func174,Tryz.ntmps174;go_wp2;go_ret;exact⟨rfl,rfl⟩
   .rw[Ww c]
    have j:decide (n<1073741824)=false:=sO;by_cases d:n<=4611686018427387903
    .rw[aB d]
     go_enter Tryz.func174,Tryz.ntmps174;go_wp2;go_ret;exact⟨rfl,rfl⟩
    .rw[Ww d]
     have k:decide (n<=4611686018427387903)=false:=sO;go_enter Tryz.func174,Tryz.ntmps174;go_wp2;go_ret;exact⟨rfl,rfl⟩
theorem P7:∀a:Fin 64,bits BinOp.or IntKind.u8 (a.val:Int) 64=(a.val:Int)+64/\bits BinOp.or IntKind.u8 (a.val:Int) 128=(a.val:Int)+128/\bits BinOp.or IntKind.u8 (a.val:Int) 192=(a.val:Int)+192:=by decide+kernel
theorem Gb (a:0<=x) (c:x<64):bits BinOp.or IntKind.u8 x 64=x+64/\bits BinOp.or IntKind.u8 x 128=x+128/\bits BinOp.or IntKind.u8 x 192=x+192:=by
 obtain⟨b,rfl⟩:=bH a;exact P7 ⟨b,oM⟩
theorem Oh {n:Int} (a:0<=n) (b:n<18446744073709551616):lu n=[n/72057594037927936,n/281474976710656%256,n/1099511627776%256,n/4294967296%256,n/16777216%256,n/65536%256,n/256%256,n%256]:=by
 unfold lu;simp only[kM,List.nil_append,List.cons_append,List.cons.injEq,and_true]
 (repeat' apply And.intro)<;>omega
theorem zQ (n:Int) (g:Word n) (w:World):Yk 219 #[uI n] w λe b=>∃c d,e=.returned (.slice c (lu n).length d)/\Bys b (λa=>w.heap.size<=a/\a<b.heap.size) c (lu n)/\bW w b:=by
 obtain⟨i,j⟩:=g;rw[Oh i j];(have k:∀w:World,(Instr.makeSlice 47 (jI 8) (jI 8)).run prog w=.ok (.slice (some ⟨w.heap.size,0,none⟩) 8 8) (w.alloc (.cells #[.int .u8 0,.int .u8 0,.int .u8 0,.int .u8 0,.int .u8 0,.int .u8 0,.int .u8 0,.int .u8 0] 5)):=λ_=>by kernel_rfl);go_enter Tryz.func219,Tryz.ntmps219;go_wp2;refine wp_loop_rounds 9 ?_;(repeat (rw[rounds_succ];go_wp2_with fail));go_ret;exact⟨_,_,rfl,aF (zo (Wx _ _ _) rfl) (λa f=>by subst f;simp),BEL⟩
theorem Vj {n:Int} (b:0<=n) (c:n<64):kY n=[n]/\eU n=1:=by
 (have a:eU n=1:=by unfold eU;(repeat' split)<;>omega);refine⟨?_,a⟩;unfold kY;rw[a];simp only[kM,Cg,oP,List.nil_append,List.cons_append,List.cons.injEq,and_true,aB,Ww,reduceIte,Nat.reduceEqDiff];omega
theorem PO (n:Int) (k:0<=n) (l:n<64) (w:World):Yk 162 #[uI n] w λj c=>∃d i,j=.returned (.tuple #[.slice d (kY n).length i,bV true])/\Bys c (λb=>w.heap.size<=b/\b<c.heap.size) d (kY n)/\bW w c:=by
 obtain⟨e,f⟩:=Vj k l;have a:=oF n;rw[f]at a;rw[e];have g:=zH a;clear e f a;have p:0<=n:=oM;have q:n<18446744073709551616:=oM;(have o:∀w:World,(Instr.makeSlice 47 (jI 1) (jI 1)).run prog w=.ok (.slice (some ⟨w.heap.size,0,none⟩) 1 1) (w.alloc (.cells #[.int .u8 0] 5)):=λ_=>by kernel_rfl);go_enter Tryz.func162,Tryz.ntmps162;go_wp2_with fail;refine Yg (g.o _) ?_;go_wp2;refine wp_loop_rounds 2 ?_;(repeat (rw[rounds_succ];go_wp2_with fail));go_ret2;refine⟨_,_,rfl,?_,BEL⟩;exact aF (zo (Wx _ _ _) rfl) (λb m=>by subst m;simp)
theorem Vi {n:Int} (b:64<=n) (c:n<16384):kY n=[n/256+64,n%256]/\eU n=2:=by
 (have a:eU n=2:=by unfold eU;(repeat' split)<;>omega);refine⟨?_,a⟩;unfold kY;rw[a];simp only[kM,Cg,oP,List.nil_append,List.cons_append,List.cons.injEq,and_true,aB,Ww,reduceIte,Nat.reduceEqDiff]
 (repeat' apply And.intro)<;>omega
theorem PN (n:Int) (m:64<=n) (o:n<16384) (w:World):Yk 162 #[uI n] w λl c=>∃d k,l=.returned (.tuple #[.slice d (kY n).length k,bV true])/\Bys c (λb=>w.heap.size<=b/\b<c.heap.size) d (kY n)/\bW w c:=by
 obtain⟨e,f⟩:=Vi m o;have a:=oF n;rw[f]at a;rw[e];have j:=zH a;clear e f a;have r:0<=n:=oM;have s:n<18446744073709551616:=oM;(have q:∀w:World,(Instr.makeSlice 47 (jI 2) (jI 2)).run prog w=.ok (.slice (some ⟨w.heap.size,0,none⟩) 2 2) (w.alloc (.cells #[.int .u8 0,.int .u8 0] 5)):=λ_=>by kernel_rfl);have g:=(Gb (x:=n/256) oM oM).1;have i:=zH g;clear g;go_enter Tryz.func162,Tryz.ntmps162;go_wp2_with fail;refine Yg (j.o _) ?_;go_wp2;refine wp_loop_rounds 3 ?_;(repeat (rw[rounds_succ];go_wp2_with fail));go_ret2;refine⟨_,_,rfl,?_,BEL⟩;rw[i.o];exact aF (zo (Wx _ _ _) rfl) (λb p=>by subst p;simp)
theorem Vh {n:Int} (b:16384<=n) (c:n<1073741824):kY n=[n/16777216+128,n/65536%256,n/256%256,n%256]/\eU n=4:=by
 (have a:eU n=4:=by unfold eU;(repeat' split)<;>omega);refine⟨?_,a⟩;unfold kY;rw[a];simp only[kM,Cg,oP,List.nil_append,List.cons_append,List.cons.injEq,and_true,aB,Ww,reduceIte,Nat.reduceEqDiff]
 (repeat' apply And.intro)<;>omega
theorem PM (n:Int) (m:16384<=n) (o:n<1073741824) (w:World):Yk 162 #[uI n] w λl c=>∃d k,l=.returned (.tuple #[.slice d (kY n).length k,bV true])/\Bys c (λb=>w.heap.size<=b/\b<c.heap.size) d (kY n)/\bW w c:=by
 obtain⟨e,f⟩:=Vh m o;have a:=oF n;rw[f]at a;rw[e];have j:=zH a;clear e f a;have r:0<=n:=oM;have s:n<18446744073709551616:=oM;(have q:∀w:World,(Instr.makeSlice 47 (jI 4) (jI 4)).run prog w=.ok (.slice (some ⟨w.heap.size,0,none⟩) 4 4) (w.alloc (.cells #[.int .u8 0,.int .u8 0,.int .u8 0,.int .u8 0] 5)):=λ_=>by kernel_rfl);have g:=(Gb (x:=n/16777216) oM oM).2.1;have i:=zH g;clear g;go_enter Tryz.func162,Tryz.ntmps162;go_wp2_with fail;refine Yg (j.o _) ?_;go_wp2;refine wp_loop_rounds 5 ?_;(repeat (rw[rounds_succ];go_wp2_with fail));go_ret2;refine⟨_,_,rfl,?_,BEL⟩;rw[i.o];exact aF (zo (Wx _ _ _) rfl) (λb p=>by subst p;simp)
theorem Vg {n:Int} (b:1073741824<=n) (c:n<4611686018427387904):kY n=[n/72057594037927936+192,n/281474976710656%256,n/1099511627776%256,n/4294967296%256,n/16777216%256,n/65536%256,n/256%256,n%256]/\eU n=8:=by
 (have a:eU n=8:=by unfold eU;(repeat' split)<;>omega);refine⟨?_,a⟩;unfold kY;rw[a];simp only[kM,Cg,oP,List.nil_append,List.cons_append,List.cons.injEq,and_true,aB,Ww,reduceIte,Nat.reduceEqDiff]
 (repeat' apply And.intro)<;>omega
theorem XA (n:Int) (m:1073741824<=n) (o:n<4611686018427387904) (w:World):Yk 162 #[uI n] w λl c=>∃d k,l=.returned (.tuple #[.slice d (kY n).length k,bV true])/\Bys c (λb=>w.heap.size<=b/\b<c.heap.size) d (kY n)/\bW w c:=by
 obtain⟨e,f⟩:=Vg m o;have a:=oF n;rw[f]at a;rw[e];have j:=zH a;clear e f a;have r:0<=n:=oM;have s:n<18446744073709551616:=oM;(have q:∀w:World,(Instr.makeSlice 47 (jI 8) (jI 8)).run prog w=.ok (.slice (some ⟨w.heap.size,0,none⟩) 8 8) (w.alloc (.cells #[.int .u8 0,.int .u8 0,.int .u8 0,.int .u8 0,.int .u8 0,.int .u8 0,.int .u8 0,.int .u8 0] 5)):=λ_=>by kernel_rfl);have g:=(Gb (x:=n/72057594037927936) oM oM).2.2;have i:=zH g;clear g;go_enter Tryz.func162,Tryz.ntmps162;go_wp2_with fail;refine Yg (j.o _) ?_;go_wp2;refine wp_loop_rounds 9 ?_;(repeat (rw[rounds_succ];go_wp2_with fail));go_ret2;refine⟨_,_,rfl,?_,BEL⟩;rw[i.o];exact aF (zo (Wx _ _ _) rfl) (λb p=>by subst p;simp)
theorem PQ (n:Int) (f:4611686018427387904<=n) (w:World):Yk 162 #[uI n] w λd e=>d=.returned (.tuple #[zzN,bV false])/\w=e:=by
 (have b:eU n=0:=by unfold eU;(repeat' split)<;>omega);have a:=oF n;rw[b]at a;have c:=zH a;clear b a;go_enter Tryz.func162,Tryz.ntmps162;go_wp2_with fail;refine Yg (c.o _) ?_;go_wp2;go_ret2;exact⟨rfl,rfl⟩
theorem Xa (n:Int) (g:0<=n) (i:n<=4611686018427387903) (w:World):Yk 162 #[uI n] w λf c=>∃a b,f=.returned (.tuple #[.slice a (kY n).length b,bV true])/\Bys c (λd=>w.heap.size<=d/\d<c.heap.size) a (kY n)/\bW w c:=by
 by_cases a:n<64
 .exact PO n g a w
 .by_cases e:n<16384
  .exact PN n oM e w
  .by_cases b:n<1073741824
   .exact PM n oM b w
   .exact XA n oM oM w
structure pu (w:World) (S:X4) (p:Nat) (l:List Int):Prop where
 ex:∃a c,Blk w p 309 #[.slice a l.length c]/\Bys w S a l/\l.length<=c
theorem pu.lt {S:X4} (h:pu w S p l):p<w.heap.size:=by obtain⟨a,b,h,_⟩:=h.ex;exact h.lt
theorem pu.mono {S S':X4} (h:pu w S p l) (g:∀a,S a->S' a):pu w S' p l:=by obtain⟨b,c,d,e,f⟩:=h.ex;exact⟨b,c,d,aF e g,f⟩
theorem pu.below {S:X4} (h:pu w S p l) (hb:bW w w'):pu w' S p l:=by
 obtain⟨b,c,a,d,e⟩:=h.ex;exact⟨b,c,a.below hb a.lt,aD d hb,e⟩
theorem Jd (S:X4) (p:Nat) (l:List Int) (w:World) (h:pu w S p l):
  Yk 99 #[pT p] w λb d=>b=.returned (jI l.length)/\w=d:=by
 obtain⟨e,f,a,c,i⟩:=h.ex;have g:=a.Wu 0;clear h a c;go_enter Tryz.func99,Tryz.ntmps99;go_wp2;go_ret;exact⟨rfl,rfl⟩
theorem BL {tb:TypeId} (S:X4) (a:X5) (c:Nat) (l:List Int) (w:World) (h:Byt tb w S a l) (J:l.length<=140737488355328):
  Yk 94 #[.slice a l.length c] w λm j=>∃i,m=.returned ((pT i))/\w.heap.size<=i/\pu j (λg=>w.heap.size<=g/\g<j.heap.size) i l/\bW w j:=by
 have s:=zH h;clear h;go_enter Tryz.func94,Tryz.ntmps94;go_wp2_with (at_builtin;refine fe.wpList rfl _ (.tmp 3) rfl w.heap.size none 0 [] (by rfl) (iq _ _ _ _) a c l (by rfl) s.o sO dC (av _) ?_;intro k e q p o;have n:bW w q:=(aj w.heap.size w).grown o (av _) XI;have r:=zH p;have d:=zH n;clear p o n);go_ret;have f:=r.o;rw[List.nil_append]at f;obtain⟨z,A,b,I,y⟩:=nT f;injection b with t D u;subst t u;have v:l.length<=e:=by
  rcases f.2 with⟨b,F⟩|⟨E,B,C,b,G,H,K,_⟩
  .omega
  .injection b with _ _ m;omega
 exact⟨_,rfl,d.o.size,⟨k,e,by simpa using Wx q 309 #[.slice k l.length e],aF (aD y ((aj _ _).alloc (av _) _)) (λg x=>⟨x.1,by simp;omega⟩),v⟩,d.o.alloc d.o.size _⟩
theorem Mod.nA {S F:X4} {T T':X8} (h:Mod S T w W) (d:Mod F T' W wc) (l:∀b,F b->w.heap.size<=b):Mod S T w wc:=by
 refine⟨d.os.trans h.os,d.tape.trans h.tape,d.output.trans h.output,ay h.size d.size,λb k=>?_⟩;rcases d.block b (aC k h.size)with j|⟨j,_⟩
 .rcases h.block b k with i|i
  .exact .inl (j.trans i)
  .exact .inr i
 .have:=l b j;omega
theorem Row.lt_ {S:X4} {size n:Nat} {a:X5} {xs:List Value} (h:Row w S t size a n xs):Row w (λd=>S d/\d<w.heap.size) t size a n xs:=
 ⟨h.1,λm=>by obtain⟨i,p,cs,j,e,k,b,l⟩:=h.2 m;exact⟨i,p,cs,j,e,⟨k,WT b⟩,b,l⟩⟩
structure gW (w:World) (S:X4) (e:TypeId) (size:Nat) (a:X5) (n c:Nat) (xs:List Value):Prop where
 len:xs.length=n*size
 ex:(a=none/\n=0/\c=0)\/∃g o cur,a=some ⟨g,o,none⟩/\S g/\Blk w g e cur/\n<=c/\c<=maxLen/\o+c*size<=cur.size/\(cur.toList.drop o).take (n*size)=xs
section
variable {w w':World} {S S' S2:X4} {e t ts:TypeId} {size n c g:Nat} {a:X5} {xs:List Value} {T:X8} {tl:X8} {cs:Array Value}
theorem gW.WH:gW w S e size none 0 0 []:=⟨sM,.inl ⟨rfl,rfl,rfl⟩⟩
theorem gW.mono (h:gW w S e size a n c xs) (k:∀b,S b->S' b):gW w S' e size a n c xs:=
 ⟨h.len,h.ex.imp id λ⟨g,o,d,i,j,l⟩=>⟨g,o,d,i,k _ j,l⟩⟩
theorem gW.keep (h:gW w S e size a n c xs) (k:bQ S tl w w') (l:some e∈tl):gW w' S e size a n c xs:=
 ⟨h.len,h.ex.imp id λ⟨g,o,d,i,b,j,m⟩=>⟨g,o,d,i,b,j.keep k b l,m⟩⟩
theorem gW.below (h:gW w S e size a n c xs) (hb:bW w w'):gW w' S e size a n c xs:=h.keep (tl:=[some e]) (bQ.below hb) sM
theorem gW.o (h:gW w S e size a n c xs) (m:Mod S' T w w') (l:∀d,S d->¬S' d):gW w' S e size a n c xs:=
 ⟨h.len,h.ex.imp id λ⟨g,o,i,j,b,k,p⟩=>⟨g,o,i,j,b,k.o m (l _ b),p⟩⟩
theorem gW.cap_ (h:gW w S e size a n c xs):n<=c:=by
 rcases h.ex with⟨_,b,i⟩|⟨g,o,d,_,_,_,b,_⟩
 .omega
 .exact b
theorem gW.row (h:gW w S e size a n c xs):Row w S e size a n xs:=by
 refine⟨h.len,λm=>?_⟩;rcases h.ex with⟨_,l,_⟩|⟨g,o,d,rfl,i,j,_,_,_,k⟩
 .omega
 .refine⟨g,o,d,_,rfl,i,j,λp q b=>?_⟩
  rw[<-k,List.getElem?_take]at b;split at b
  .rw[List.getElem?_drop]at b;simpa using b
  .cases b
theorem gW.Xt (h:OwnAt w S e size a n c xs):gW w S e size a n c xs:=by
 refine⟨h.own.1,?_⟩;rcases h.own.2 with⟨i,l⟩|⟨g,s,j,i,u,m,q,p,v,r⟩
 .left;injection i with b k d;exact⟨b,l,d⟩
 .right
  injection i with b k d;subst b d;exact⟨g,0,j,rfl,h.mem g rfl,m,q,p,oM,by simpa using r⟩
theorem Gf (g o k:Nat):(⟨g,o,none⟩:Addr).add k=⟨g,o+k,none⟩:=Go.WideShapes.add_plain _ _ _
theorem gW.tail (h:gW w S e size a n c xs) (s:k<=n):gW w S e size (fE a c k size) (n -k) (c -k) (xs.drop (k*size)):=by
 refine⟨by rw[bI,h.len,Nat.sub_mul],?_⟩;rcases h.ex with⟨rfl,d,r⟩|⟨g,o,b,rfl,i,j,v,u,m,q⟩
 .left;exact⟨by unfold fE;split<;>rfl,oM,oM⟩
 .right
  by_cases l:c=k
  .have p:n -k=0:=oM
   have d:n=k:=oM;refine⟨g,o,b,by unfold fE;rw[aB l],i,j,oM,oM,?_,?_⟩
   .rw[l,Nat.sub_self,Nat.zero_mul,Nat.add_zero]
    exact ay (Nat.le_add_right _ _) m
   .rw[p,Nat.zero_mul,List.take_zero]
    refine(List.drop_eq_nil_of_le ?_).symm;rw[h.len,d];exact av _
  .refine⟨g,o+k*size,b,lD oM,i,j,oM,oM,?_,?_⟩
   .rw[Nat.add_assoc,<-Nat.add_mul,Nat.add_sub_cancel' oM]
    exact m
   .rw[<-q,List.drop_take,List.drop_drop,Nat.sub_mul]
theorem gW.bF (h:gW w S e size a n c xs) {i:Nat} (x:i<xs.length):
  ∃g o cs,a=some ⟨g,o,none⟩/\S g/\Blk w g e cs/\(∀(j:Nat) (b:Value),xs[j]?=some b->cs[o+j]?=some b)/\∀b,gW (w.setCell ⟨g,o+i,none⟩ b) S e size a n c (xs.set i b):=by
 have z:=h.row;rcases h.ex with⟨_,q,v⟩|⟨g,o,p,rfl,k,l,s,r,u,m⟩
 .have:=h.len;rw[q]at this;omega
 .have y:=h.len
  refine⟨g,o,p,rfl,k,l,λj b d=>?_,λb=>⟨by rw[List.length_set];exact h.len,.inr ⟨g,o,_,rfl,k,l.bF (o+i) b,s,r,by simpa using u,?_⟩⟩⟩
  .rw[<-m,List.getElem?_take]at d
   split at d
   .rw[List.getElem?_drop]at d;simpa using d
   .cases d
  .rw[Array.toList_setIfInBounds,List.drop_set,Ww oM,Nat.add_sub_cancel_left,List.take_set,m]
theorem gW.app {P:Program} {ty:TypeId} {i:TypeInfo} {z:Value} {bytes:Nat} (F:P.underlying t=some (.slice e)) (C:P.info? e=some i) (R:i.zero=some z) (b2:i.size=size) (Y:i.bytes=bytes) (b4:z.cells.size=size) (c0:0<size)
  (h:gW w S e size a n c xs) (b6:Bd S w) (B:X5) (m u:Nat) (b:List Value) (p:Row w S2 ts size B m b) (W:∀j∈b,j.oneCell'=true)
  (X:n+m<=1000000000000) (hb:bytes<=140) (M:0<m):
  ∃G H w',(Builtin.append_ #[t,t] ty #[.slice a n c,.slice B m u]).run P w=.ok (.slice G (n+m) H) w'/\gW w' (grow S w w') e size G (n+m) H (xs++b)/\Mod S [some e] w w':=by
 subst b2;subst Y;(have a9:n+m<=maxLen:=by simp only[maxLen];omega);have b0:(n+m)*i.bytes<=1000000000000*140:=Nat.mul_le_mul X hb;(have A:(xs++b).length=(n+m)*i.size:=by rw[aU,h.len,p.1,Nat.add_mul]);have I:∀(l:Nat),l<n+m->
   gW (w.drew.alloc (.cells (xs.toArray++b.toArray++Builtin.zeroCells z.cells (grownCap w (n+m) l e -(n+m))) e)) (grow S w (w.drew.alloc (.cells (xs.toArray++b.toArray++Builtin.zeroCells z.cells (grownCap w (n+m) l e -(n+m))) e))) e i.size
    (some ⟨w.heap.size,0,none⟩) (n+m) (grownCap w (n+m) l e) (xs++b)/\
   Mod S [some e] w (w.drew.alloc (.cells (xs.toArray++b.toArray++Builtin.zeroCells z.cells (grownCap w (n+m) l e -(n+m))) e)):=by
  intro l b9;have a5:=grownCap_ge w (n+m) l e;have a2:grownCap w (n+m) l e<=maxLen:=grownCap_le_maxLen w (n+m) l e a9;refine⟨⟨A,.inr ⟨w.heap.size,0,_,rfl,.inr ⟨av _,sM⟩,heap_alloc_new w.drew _,a5,a2,?_,?_⟩⟩,(aV _ _ _).drew.alloc _⟩
  .simp only[Array.size_append,List.size_toArray,size_zeroCells,b4,h.len,p.1,<-Nat.add_mul,Nat.zero_add]
   exact Nat.mul_le_mul_right _ oM
  .simp only[Array.toList_append,List.append_assoc,List.drop_zero]
   rw[<-List.append_assoc,<-A];exact List.take_left
 rcases B with _|s
 .obtain⟨_,_,v,_⟩:=p.at_ M
  cases v
 have D:∀k j,b[k]?=some j->w.cell? (s.add k)=some j:=by
  intro k j q;obtain⟨b5,c2,v,_,_,Z⟩:=p.at_ M;injection v with v;subst v;rw[Go.WideShapes.add_plain];exact Z k j q
 rcases h.ex with⟨rfl,V,a0⟩|⟨g,o,d,rfl,J,y,b8,a7,c1,O⟩
 .subst V a0
  have b3:xs=[]:=dV (by simpa using h.len);subst b3;have x:=Go.run_append_nil (P:=P) w t ty e i z F C R s m u b p.1 D oM oM (by simp only[Nat.zero_add]at b0;omega);have r:=I 0 oM;simp only[Nat.zero_add,List.nil_append,Array.empty_append]at r|-;exact⟨_,_,_,x,r.1,r.2⟩
 .by_cases E:n+m<=c
  .have a6:(n+m)*i.size<=c*i.size:=Nat.mul_le_mul_right _ E
   (have a4:o+n*i.size+b.length<=d.size:=by rw[p.1];rw[Nat.add_mul]at a6;omega);have a3:=run_firstCells_some (P:=P) w i.size m s m u b p.1 D;have N:=run_storeCells_at P g (o+n*i.size) e b 0 d w y (by simpa using a4) W;simp only[Nat.add_zero]at N;have x:(Builtin.append_ #[t,t] ty #[.slice (some ⟨g,o,none⟩) n c,.slice (some s) m u]).run P w=
     .ok (.slice (some ⟨g,o,none⟩) (n+m) c) (w.setRow g (d.toList.take (o+n*i.size)++b++d.toList.drop (o+n*i.size+b.length)).toArray):=by
    simp[Builtin.append_,run_underlying F,sizeOf,typeInfo,C,Builtin.lenOf,E,a3,Gf,N]
   have a8:Mod S [some e] w (w.setRow g (d.toList.take (o+n*i.size)++b++d.toList.drop (o+n*i.size+b.length)).toArray):=by
    refine⟨rfl,rfl,rfl,sM,λU b7=>?_⟩;by_cases L:U=g
    .subst L;exact .inr ⟨J,_,y,by simp[nH]⟩
    .exact .inl (setRow_other w g U _ L)
   refine⟨_,_,_,x,⟨A,.inr ⟨g,o,_,rfl,.inl J,setRow_heap w g d _ e _ y,E,a7,?_,?_⟩⟩,a8⟩
   .simp only[List.size_toArray,aU,aT,bI,Array.length_toList]
    omega
   .have a1:o+n*i.size<=d.toList.length:=by simpa using(by omega:o+n*i.size<=d.size)
    rw[List.append_assoc,List.drop_append,aT,fJ a1,show o -(o+n*i.size)=0 by omega,List.drop_zero,List.drop_take,show o+n*i.size -o=n*i.size by omega,O,<-List.append_assoc,<-A];exact List.take_left
  .have b1:∀k j,xs[k]?=some j->w.cell? ((⟨g,o,none⟩:Addr).add k)=some j:=by
    intro k j q;rw[Gf,cell_of_row w g (o+k) d e (0,0) y];rw[<-O,List.getElem?_take]at q;split at q
    .rw[List.getElem?_drop]at q;simpa using q
    .cases q
   have x:=run_append_grow (P:=P) w t ty e i z F C R ⟨g,o,none⟩ n c xs h.len b1 s m u b p.1 D oM oM (growslice_fits oM oM);have r:=I c oM;exact⟨_,_,_,x,r.1,r.2⟩
theorem gW.shift {P:Program} {ty j:TypeId} {i:TypeInfo} (b:P.underlying j=some (.slice e)) (A:P.info? e=some i) (U:i.size=size)
  (h:gW w S e size a n c xs) (H:∀F∈xs,F.oneCell'=true) (a1:k<n):
  ∃w',(Builtin.copy_ #[j,j] ty #[.slice (fE a c (k+1) size) (n -(k+1)) (c -(k+1)),.slice (fE a c k size) (n -k) (c -k)]).run P w=.ok (goInt ((n -(k+1):Nat):Int)) w'/\
   gW w' S e size a n c (xs.take ((k+1)*size)++(xs.drop (k*size)).take ((n -(k+1))*size))/\Mod S [some e] w w':=by
 subst U;rcases h.ex with⟨_,Z,_⟩|⟨g,o,d,rfl,z,r,C,N,a3,E⟩
 (.omega);have I:fE (some (⟨g,o,none⟩:Addr)) c k i.size=some ⟨g,o+k*i.size,none⟩:=lD oM;rw[I];obtain⟨cs,q⟩:=eX ((xs.drop (k*i.size)).take ((n -(k+1))*i.size));(have y:(n -(k+1))*i.size+(k+1)*i.size=n*i.size:=by rw[<-Nat.add_mul];congr 1;omega);(have Y:(k+1)*i.size=k*i.size+i.size:=by rw[Nat.add_mul,Nat.one_mul]);have s:=h.len;have p:cs.length=(n -(k+1))*i.size:=by
  rw[q,aT,bI,s];omega
 have a2:n*i.size<=c*i.size:=Nat.mul_le_mul_right _ C;have V:∀l m,cs[l]?=some m->w.cell? ((⟨g,o+k*i.size,none⟩:Addr).add l)=some m:=by
  intro l F b;rw[Gf,cell_of_row w g (o+k*i.size+l) d e (0,0) r];rw[q,List.getElem?_take]at b;split at b
  .rw[List.getElem?_drop,<-E,List.getElem?_take]at b
   split at b
   .rw[List.getElem?_drop]at b;simpa[Nat.add_assoc]using b
   .cases b
  .cases b
 have J:∀m∈cs,m.oneCell'=true:=λm X=>H m (dW (bf (q▸X)));have v:=run_loadCells_list (P:=P) w ⟨g,o+k*i.size,none⟩ cs V;by_cases u:n -(k+1)=0
 .have M:cs=[]:=dV (by rw[p,u,Nat.zero_mul])
  have x:(Builtin.copy_ #[j,j] ty #[.slice (fE (some ⟨g,o,none⟩) c (k+1) i.size) (n -(k+1)) (c -(k+1)),.slice (some ⟨g,o+k*i.size,none⟩) (n -k) (c -k)]).run P w=.ok (goInt ((n -(k+1):Nat):Int)) w:=by
   rw[M]at v;rw[u];cases hcA:fE (some (⟨g,o,none⟩:Addr)) c (k+1) i.size<;>
   simp[Builtin.copy_,run_underlying b,Builtin.lenOf,Builtin.firstCells,sizeOf,typeInfo,A,storeCells,loadCells,loadCellsFrom]
  refine⟨w,x,?_,aV _ _ _⟩;rw[u,Nat.zero_mul,List.take_zero,List.append_nil,List.take_of_length_le (by rw[s,<-y,u,Nat.zero_mul,Nat.zero_add];exact av _)];exact h
 .have hA1:fE (some (⟨g,o,none⟩:Addr)) c (k+1) i.size=some ⟨g,o+(k+1)*i.size,none⟩:=lD oM
  rw[hA1];have D:=run_storeCells_at P g (o+(k+1)*i.size) e cs 0 d w r (by rw[p,Nat.add_zero,Nat.add_assoc,Nat.add_comm ((k+1)*i.size),y];omega) J;have R:Nat.min (n -k) (n -(k+1))=n -(k+1):=Nat.min_eq_right oM;have x:(Builtin.copy_ #[j,j] ty #[.slice (some ⟨g,o+(k+1)*i.size,none⟩) (n -(k+1)) (c -(k+1)),.slice (some ⟨g,o+k*i.size,none⟩) (n -k) (c -k)]).run P w=
    .ok (goInt ((n -(k+1):Nat):Int)) (w.setRow g (d.toList.take (o+(k+1)*i.size)++cs++d.toList.drop (o+(k+1)*i.size+cs.length)).toArray):=by
   rw[p]at v;simp only[Nat.add_zero]at D;simp[Builtin.copy_,run_underlying b,Builtin.lenOf,Builtin.firstCells,sizeOf,typeInfo,A,R,v,D]
  have O:Mod S [some e] w (w.setRow g (d.toList.take (o+(k+1)*i.size)++cs++d.toList.drop (o+(k+1)*i.size+cs.length)).toArray):=by
   refine⟨rfl,rfl,rfl,sM,λl a0=>?_⟩;by_cases B:l=g
   .subst B;exact .inr ⟨z,_,r,by simp[nH]⟩
   .exact .inl (setRow_other w g l _ B)
  refine⟨_,x,⟨?_,.inr ⟨g,o,_,rfl,z,setRow_heap w g d _ e _ r,C,N,?_,?_⟩⟩,O⟩
  .rw[aU,aT,<-q,p,s];omega
  .simp only[List.size_toArray,aU,aT,bI,Array.length_toList]
   omega
  .have L:o+(k+1)*i.size<=d.toList.length:=by simpa using(by omega:o+(k+1)*i.size<=d.size)
   (have W:(xs.take ((k+1)*i.size)++cs).length=n*i.size:=by rw[aU,aT,p,s];omega);rw[List.append_assoc,List.drop_append,aT,fJ L,show o -(o+(k+1)*i.size)=0 by omega,List.drop_zero,List.drop_take,show o+(k+1)*i.size -o=(k+1)*i.size by omega];have G:(d.toList.drop o).take ((k+1)*i.size)=xs.take ((k+1)*i.size):=by
    rw[<-E,List.take_take,fJ oM]
   rw[G,<-List.append_assoc,<-q,<-W];exact List.take_left
end
section
variable {α:Type} {f:α->List Value} {P:Program} {t e:TypeId} {size bytes:Nat} {w:World} {S S2:X4} {ts:TypeId} {ops:Array Oper} {rest:List Oper} {o:Oper} {a:Act} {K:Act->World->Prop} {Q:X7}
theorem Elem.wpOff (E:Elem P t e size bytes f) (s x:Operand) (C:o.op=.call {callee:=.builtin .append,args:= #[s,x],argTypes:= #[t,t]})
  (A:X5) (k:Nat) (xs:List α) (H:a.eval s=.slice A xs.length k) (D:gW w S e size A xs.length k (xs.flatMap f)) (z:Bd S w)
  (B:X5) (c:Nat) (b:List α) (j:a.eval x=.slice B b.length c) (F:Row w S2 ts size B b.length (b.flatMap f)) (y:xs.length+b.length<=1000000000000) (hb:bytes<=140) (hy:0<b.length)
  (h:∀d i w',gW w' (grow S w w') e size d (xs++b).length i ((xs++b).flatMap f)->Mod S [some e] w w'->K (a.put o.dst (.slice d (xs++b).length i)) w'):o.wp P a w K Q:=by
 obtain⟨M,N,p,q,r,u,v⟩:=E.ex;obtain⟨d,i,w',G,l,J⟩:=gW.app (ty:=o.type) E.ht p q r u v E.pos D z B b.length c _ F (λL I=>by obtain⟨x,_,j⟩:=List.mem_flatMap.1 I;exact E.one x L j) y hb hy;unfold Oper.wp execOp;simp only[C,resolve,invoke,builtin,Sem.run_bind,Sem.run_pure,Result.andThen_ok,List.map_toArray,List.map_cons,List.map_nil,H,j,G];have m:xs.length+b.length=(xs++b).length:=sM;rw[m]at l|-;exact h d i w' (by rw[iE];exact l) J
theorem Elem.DC (E:Elem P t e size bytes f) (r:o.guard=none) (s x:Operand) (u:o.op=.call {callee:=.builtin .append,args:= #[s,x],argTypes:= #[t,t]})
  (A:X5) (j:Nat) (xs:List α) (z:a.eval s=.slice A xs.length j) (v:gW w S e size A xs.length j (xs.flatMap f)) (q:Bd S w)
  (B:X5) (c:Nat) (b:List α) (C:a.eval x=.slice B b.length c) (y:Row w S2 ts size B b.length (b.flatMap f)) (m:xs.length+b.length<=1000000000000) (hb:bytes<=140) (hy:0<b.length)
  (h:∀d i w',gW w' (grow S w w') e size d (xs++b).length i ((xs++b).flatMap f)->Mod S [some e] w w'->Go.wpList P ops Q rest (a.put o.dst (.slice d (xs++b).length i)) w'):Go.wpList P ops Q (o::rest) a w:=
 wpList_plain r λ_ p=>E.wpOff s x u A j xs z v q B c b C y m hb hy λd i w' k l=>p _ _ (h d i w' k l)
theorem Elem.LH (E:Elem P t e size bytes f) (s x:Operand) (m:o.op=.call {callee:=.builtin .copy,args:= #[s,x],argTypes:= #[t,t]})
  (A:X5) (b:Nat) (xs:List α) (k:Nat) (l:k<xs.length) (r:a.eval s=.slice (fE A b (k+1) size) (xs.length -(k+1)) (b -(k+1))) (d:a.eval x=.slice (fE A b k size) (xs.length -k) (b -k))
  (p:gW w S e size A xs.length b (xs.flatMap f))
  (h:∀w',gW w' S e size A xs.length b ((xs.take (k+1)++(xs.drop k).take (xs.length -(k+1))).flatMap f)->Mod S [some e] w w'->K (a.put o.dst (goInt ((xs.length -(k+1):Nat):Int))) w'):o.wp P a w K Q:=by
 obtain⟨F,G,i,B,j,C,D⟩:=E.ex;obtain⟨w',q,v,y⟩:=gW.shift (P:=P) (ty:=o.type) E.ht i j p (λz u=>by obtain⟨x,_,d⟩:=List.mem_flatMap.1 u;exact E.one x z d) l;unfold Oper.wp execOp;simp only[m,resolve,invoke,builtin,Sem.run_bind,Sem.run_pure,Result.andThen_ok,List.map_toArray,List.map_cons,List.map_nil,r,d,q];refine h w' ?_ y;rw[iE,pQ E.len,pQ E.len,WZ E.len];exact v
end
end Go.Proofs.YtiflndepmgnojaaGreat
