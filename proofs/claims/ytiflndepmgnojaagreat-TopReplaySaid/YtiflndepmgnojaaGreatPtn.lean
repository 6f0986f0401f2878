import Derived.Great.BuildSlice
import Derived.Test.YtiflndepmgnojaaGreatOff
import Derived.Test.YtiflndepmgnojaaGreatInv
namespace Go.Proofs.YtiflndepmgnojaaGreat
open Go.RowKit
set_option linter.unusedSimpArgs false
set_option linter.unusedVariables false
set_option maxHeartbeats 8000000
set_option maxRecDepth 100000
theorem aP:(∀(a:Act) (d:Value),a.put none d=a)/\(∀(e:Array Value) (b:List Deferred) (f:Tmp) (d:Value),Act.put ⟨e,b⟩ (some f) d=⟨e.setIfInBounds f d,b⟩)/\(∀(c:List Value) (i:Nat) (d:Value),c.toArray.setIfInBounds i d=(c.set i d).toArray)/\(∀(c:List Value) (a b:Value),(a::c).set 0 b=b::c)/\(∀(c:List Value) (i:Nat) (a b:Value),(a::c).set (i+1) b=a::c.set i b):=
 ⟨λ_ _=>rfl,λ_ _ _ _=>rfl,λ_ _ _=>List.setIfInBounds_toArray ..,λ_ _ _=>rfl,λ_ _ _ _=>rfl⟩
theorem Below.bZ {B b:Nat} {a:World} (hb:B<=b):∀(d:List Value) (c:Nat) (w:World),Below B a w->Below B a (w.setCells b c d)
 |[],_,_,h=>h
 |v::r,c,w,h=>Below.bZ hb r (c+1) _ (bG h hb v)
theorem Blk.gy {g b:Nat} {t:TypeId} {d:Array Value} (hb:g≠b):∀(e:List Value) (c:Nat) (w:World),Blk w g t d->Blk (w.setCells b c e) g t d
 |[],_,_,h=>h
 |v::r,c,w,h=>Blk.gy hb r (c+1) _ (h.far hb v)
theorem Blk.there {g:Nat} {t:TypeId} {b:Array Value} {w:World} (h:Blk w g t b) (n:Nat) (e:n<=b.size):w.there g 0 n:=λc d=>by
 refine⟨?_,h.frozen (0+c)⟩;rw[Nat.zero_add,cell_of_row w g c b t (0,0) h,Array.getElem?_eq_getElem oM];rfl
theorem Blk.thereO {g:Nat} {t:TypeId} {b:Array Value} {w:World} (h:Blk w g t b) (o n:Nat) (e:o+n<=b.size):w.there g o n:=λc d=>by
 refine⟨?_,h.frozen (o+c)⟩;rw[cell_of_row w g (o+c) b t (0,0) h,Array.getElem?_eq_getElem oM];rfl
theorem Blk.Px {g:Nat} {t:TypeId}:∀(d:List Value) (b:Nat) (w:World) (c:Array Value),Blk w g t c->b+d.length<=c.size->Blk (w.setCells g b d) g t (c.toList.take b++d++c.toList.drop (b+d.length)).toArray
 |[],b,w,c,h,_=>by simpa[World.setCells]using h
 |v::r,b,w,c,h,hl=>by
  have e:=Blk.Px r (b+1) _ _ (h.bF b v) (by simp at hl|-;omega);have f:=list_seg_step c.toList b v r (by simp at hl|-;omega);rw[Array.toList_setIfInBounds,f]at e;exact e
theorem Blk.gF {g:Nat} {t:TypeId} {w:World} {c:Array Value} (h:Blk w g t c) (b:List Value) (d:b.length=c.size):Blk (w.setCells g 0 b) g t b.toArray:=by
 have:=Blk.Px b 0 w c h oM;rw[List.take_zero,List.nil_append,Nat.zero_add,List.drop_eq_nil_of_le sO,List.append_nil]at this;exact this
section
variable {P:Program} {md:Region.Mode} {ops:Array Oper} {Q:Exit->Act->World->Prop} {S:World->Prop} {i:Nat} {op:Oper} {fuel:Nat} {listed:Array Bool} {a:Act} {w:World}
theorem oC (ty:TypeId) (x y:Operand) (b o:Nat) (c:Array Value) (k:ops[i]?=some op) (m:Region.ready md ops listed=[i]) (l:op.op=.store ty x y) (j:op.guard=none) (g:op.dst=none)
  (p:a.eval x=.pointer (some ⟨b,o,none⟩)) (hy:a.eval y=.agg c) (n:w.there b o c.size) (q:(P.info? ty).map (·.size)=some c.size) (d:c.all (·.oneCell')=true)
  (f:S (w.setCells b o c.toList)) (h:wpAnyH P md ops Q S fuel (listed.setIfInBounds i true) a (w.setCells b o c.toList)):wpAnyH P md ops Q S (fuel+1) listed a w:=by
 refine wpAnyH_ready m sM (AllReadyH.cons k (λr e=>?_) AllReadyH.nil);rw[aB (by simp[Region.wanted,j])];refine wp_store_mid ty x y l b o c p hy n q d ?_;rw[g];exact e.out _ _ f (λ_=>h)
theorem aI (i:Nat) (d:Region.ready md ops listed=[i]) (h:wpOp P ops Q i (λa' e=>S e/\wpAnyH P md ops Q S fuel (listed.setIfInBounds i true) a' e) a w):wpAnyH P md ops Q S (fuel+1) listed a w:=by
 refine⟨λb=>?_,λf c=>?_⟩
 ·rw[d]at b;cases b
 ·rw[d]at c
  (obtain rfl:f=i:=by simpa using c);exact h
theorem fo (i j:Nat) (e:Region.ready md ops listed=[i,j]) (h:wpOp P ops Q i (λa' c=>S c/\wpAnyH P md ops Q S fuel (listed.setIfInBounds i true) a' c) a w)
  (f:wpOp P ops Q j (λa' c=>S c/\wpAnyH P md ops Q S fuel (listed.setIfInBounds j true) a' c) a w):wpAnyH P md ops Q S (fuel+1) listed a w:=by
 refine⟨λd=>?_,λg b=>?_⟩
 ·rw[e]at d;cases d
 ·rw[e]at b
  rcases bT.1 b with b|b
  ·subst b;exact h
  ·obtain rfl:g=j:=by simpa using b
   exact f
theorem KJ {K:Act->World->Prop} (e:ops[i]?=some op) (c:op.guard=none) (d:Option Tmp) (b:op.dst=d) (v:Value) (w':World) (f:(execOp a.eval op).run P w=.ok (.value v) w') (h:K (a.put d v) w'):wpOp P ops Q i K a w:=by
 subst b;unfold wpOp;simp only[e,Region.wanted,c,if_true];refine .inl ?_;unfold Oper.wp;rw[f];exact h
theorem WE {K:Act->World->Prop} (k:ops[i]?=some op) (g:op.guard=none) (d:Option Tmp) (e:op.dst=d) (f:FuncId) (args:Array Value) (m:(execOp a.eval op).run P w=.ok (.enter f args) w)
  (h:Calls P f args w λc n=>∃b,c=.returned b/\K (a.put d b) n):wpOp P ops Q i K a w:=by
 subst e;unfold wpOp;simp only[k,Region.wanted,g,if_true];refine .inl ?_;unfold Oper.wp;rw[m,Oper.upon_enter];refine h.mono λc o j=>?_;obtain⟨b,rfl,l⟩:=j;exact l
theorem P8 {K:Act->World->Prop} (g:ops[i]?=some op) (f:op.guard=none) (d:Option Tmp) (e:op.dst=d) (t:TypeId) (j:op.op=.alloc t) (c:Array Value) (b:((P.info? t).bind (·.zero)).map (·.cells)=some c)
  (h:K (a.put d (.pointer (some ⟨w.heap.size,0,none⟩))) (w.alloc (.cells c t))):wpOp P ops Q i K a w:=by
 refine KJ g f d e _ _ ?_ h;cases hq:P.info? t with
 |none=>rw[hq]at b;cases b
 |some inf=>
  cases hzz:inf.zero with
  |none=>rw[hq]at b;simp[hzz]at b
  |some z=>
   rw[hq]at b;simp[hzz]at b;subst b;simp[execOp,j,Instr.alloc,zeroValue,typeInfo,hq,hzz,newVar,newRow]
theorem fA {K:Act->World->Prop} (j:ops[i]?=some op) (g:op.guard=none) (d:Option Tmp) (f:op.dst=d) (t:TypeId) (k:op.op=.alloc t) (c:Array Value) (l:((P.info? t).bind (·.zero)).map (·.cells)=some c)
  (h:∀(b:Nat) (e:World),bW w e->w.heap.size<=b->Blk e b t c->K (a.put d (.pointer (some ⟨b,0,none⟩))) e):wpOp P ops Q i K a w:=
 P8 j g d f t k c l (h _ _ ((aj _ _).alloc (av _) _) (av _) (Wx _ _ _))
theorem jl {K:Act->World->Prop} (c:ops[i]?=some op) (b:op.guard=none) (h:op.wp P a w K Q):wpOp P ops Q i K a w:=by
 unfold wpOp;simp only[c,Region.wanted,b,if_true];exact .inl h
theorem jX {K:Act->World->Prop} (o:ops[i]?=some op) (n:op.guard=none) (d:Option Tmp) (l:op.dst=d) (t e:TypeId) (c:Nat) (j:Array (Nat×Operand)) (q:op.op=.buildSlice t c j)
  (g:Array Value) {b:TypeInfo} {z:Value} (u:P.underlying t=some (.slice e)) (p:P.info? e=some b) (v:b.zero=some z) (s:¬c*b.size>2^24) (r:¬c*b.size=0)
  (m:Instr.fill (λi=>some (i*b.size,b.size)) ((Array.range (c*b.size)).map (z.cells[·%z.cells.size]!)) (j.map λ(i,x)=>(i,a.eval x)).toList=some g)
  (h:∀(f:Nat) (k:World),bW w k->w.heap.size<=f->Blk k f e g->K (a.put d (.slice (some ⟨f,0,none⟩) c c)) k):wpOp P ops Q i K a w:=by
 subst l;exact jl o n (wp_buildSlice t e c j q g b z u p v s r m (h _ _ ((aj _ _).alloc (av _) _) (av _) (Wx _ _ _)))
theorem fF {K:Act->World->Prop} (p:ops[i]?=some op) (n:op.guard=none) (l:op.dst=none) (ty:TypeId) (x y:Operand) (r:op.op=.store ty x y) (g o:Nat) (v:Value) (z:a.eval x=.pointer (some ⟨g,o,none⟩)) (hy:a.eval y=v) (d:v.oneCell'=true)
  (c:(P.info? ty).map (·.size)=some 1) {t:TypeId} {b:Array Value} (hb:Blk w g t b) (q:o<b.size) (h:∀e,e=w.setCell ⟨g,o,none⟩ v->K a e):wpOp P ops Q i K a w:=by
 refine jl p n ?_;have j:v.cells= #[v]:=by cases v<;>first|rfl|cases d
 (have k:w.cell? ⟨g,o,none⟩=some b[o]:=by rw[cell_of_row w g o b t (0,0) hb,Array.getElem?_eq_getElem q]);have m:=hb.frozen o;cases hq:P.info? ty with
 |none=>rw[hq]at c;cases c
 |some inf=>
  (have u:inf.size=1:=by simpa[hq]using c);(have s:(store (⟨g,o,none⟩:Addr) v).run P w=.ok () (w.setCell ⟨g,o,none⟩ v):=by rw[run_store P w _ v _ d,k];simp[m]);(have f:(⟨g,o,none⟩:Addr).add 0=⟨g,o,none⟩:=by rw[Go.WideShapes.add_plain];rfl);unfold Oper.wp execOp;simp[r,z,hy,Instr.storeAt,Instr.sureAddr,storeVar,sizeOf,typeInfo,hq,u,j,storeCells,f,s];simp[Oper.upon,l,Act.put];exact h _ rfl
theorem Ke {K:Act->World->Prop} (l:op.dst=none) (ty:TypeId) (x y:Operand) (p:op.op=.store ty x y) (g o:Nat) (v:Value) (s:a.eval x=.pointer (some ⟨g,o,none⟩)) (hy:a.eval y=v) (d:v.oneCell'=true)
  (c:(P.info? ty).map (·.size)=some 1) {t:TypeId} {b:Array Value} (hb:Blk w g t b) (n:o<b.size) (h:∀e,e=w.setCell ⟨g,o,none⟩ v->K a e):op.wp P a w K Q:=by
 have j:v.cells= #[v]:=by cases v<;>first|rfl|cases d
 (have k:w.cell? ⟨g,o,none⟩=some b[o]:=by rw[cell_of_row w g o b t (0,0) hb,Array.getElem?_eq_getElem n]);have m:=hb.frozen o;cases hq:P.info? ty with
 |none=>rw[hq]at c;cases c
 |some inf=>
  (have r:inf.size=1:=by simpa[hq]using c);(have q:(store (⟨g,o,none⟩:Addr) v).run P w=.ok () (w.setCell ⟨g,o,none⟩ v):=by rw[run_store P w _ v _ d,k];simp[m]);(have f:(⟨g,o,none⟩:Addr).add 0=⟨g,o,none⟩:=by rw[Go.WideShapes.add_plain];rfl);unfold Oper.wp execOp;simp[p,s,hy,Instr.storeAt,Instr.sureAddr,storeVar,sizeOf,typeInfo,hq,r,j,storeCells,f,q];simp[Oper.upon,l,Act.put];exact h _ rfl
theorem qR {d:List Oper} (ty:TypeId) (x y:Operand) (n:op.op=.store ty x y) (l:op.guard=none) (k:op.dst=none) (g o:Nat) (v:Value) (p:a.eval x=.pointer (some ⟨g,o,none⟩)) (hy:a.eval y=v) (f:v.oneCell'=true)
  (q:(P.info? ty).map (·.size)=some 1) {t:TypeId} {c:Array Value} (hb:Blk w g t c) (m:o<c.size) (h:∀b,b=w.setCell ⟨g,o,none⟩ v->wpList P ops Q d a b):wpList P ops Q (op::d) a w:=
 wpList_plain l λr j=>Ke k ty x y n g o v p hy f q hb m (λb e=>j _ _ (h b e))
theorem dJ (ty:TypeId) (x y:Operand) (b o:Nat) (c:Array Value) (k:ops[i]?=some op) (m:Region.ready md ops listed=[i]) (l:op.op=.store ty x y) (j:op.guard=none) (g:op.dst=none)
  (p:a.eval x=.pointer (some ⟨b,o,none⟩)) (hy:a.eval y=.agg c) (n:w.there b o c.size) (q:(P.info? ty).map (·.size)=some c.size) (e:c.all (·.oneCell')=true)
  (f:S (w.setCells b o c.toList)) (h:∀d,d=w.setCells b o c.toList->wpAnyH P md ops Q S fuel (listed.setIfInBounds i true) a d):wpAnyH P md ops Q S (fuel+1) listed a w:=
 oC ty x y b o c k m l j g p hy n q e f (h _ rfl)
theorem iG {d:List Oper} (ty:TypeId) (x y:Operand) (l:op.op=.store ty x y) (k:op.guard=none) (j:op.dst=none) (b o:Nat) (c:Array Value)
  (n:a.eval x=.pointer (some ⟨b,o,none⟩)) (hy:a.eval y=.agg c) (m:w.there b o c.size) (p:(P.info? ty).map (·.size)=some c.size) (f:c.all (·.oneCell')=true)
  (h:∀e,e=w.setCells b o c.toList->wpList P ops Q d a e):wpList P ops Q (op::d) a w:=
 wpList_plain k λq g=>wp_store_mid ty x y l b o c n hy m p f (by rw[j];exact g _ _ (h _ rfl))
theorem iL {v:Value} (i:Nat) (d:Option Tmp) (j:ops[i]?=some op) (f:op.dst=d) (l:Region.noSelect ops=true) (g:Region.free md ops listed i=true) (k:(Region.ready md ops listed).contains i=true)
  (c:∀b a w,Q (.panic b) (a.put d v) w->Q (.panic b) a w) (hy:YieldsIf P ops S op v a) (e:S w)
  (h:wpAnyH P md ops Q S fuel (listed.setIfInBounds i true) (a.put d v) w):wpAnyH P md ops Q S (fuel+1) listed a w:=by
 subst f;exact wpAnyH_take j l g k c hy e h
theorem Ip {d:Nat} {l:List Oper} (F:Nat->Act) (C:Nat->World->Prop) (e:∀b c,C b c->Q .normal (F b) c) (h:(∀b c,C b c->Q .normal (F b) c)->(Code.region d l.toArray true).wp P Q a w):(Code.region d l.toArray true).wp P Q a w:=h e
theorem Blk.range {g:Nat} {t:TypeId} {b:Array Value} (h:Blk w g t b):w.rangeAt g 0 b.toList:=λd e c=>by
 rw[Nat.zero_add,cell_of_row w g d b t (0,0) h];simpa using c
theorem kP {f:List Oper} (ty:TypeId) (x:Operand) (k:op.op=.load ty x) (j:op.guard=none) (d:Option Tmp) (g:op.dst=d) (b:Nat) (n:a.eval x=.pointer (some ⟨b,0,none⟩)) {t:TypeId} (c:Array Value) (hb:Blk w b t c)
  (e:TypeDesc) (m:P.underlying ty=some e) (l:e.isRow=true) (o:(P.info? ty).map (·.size)=some c.size) (h:wpList P ops Q f (a.put d (.agg c)) w):wpList P ops Q (op::f) a w:=by
 subst g;exact wpList_load_mid j ty x k b 0 n c.toList e hb.range m l (by simpa using o) (by simpa using h)
theorem iZ {f:Func} {R:Ending->World->Prop} (e:Tmp) (ty:TypeId) (b:Nat) {t:TypeId} (c:Array Value) (o:f.results= #[.cell e ty]) (j:a.tmps.getD e undef=.pointer (some ⟨b,0,none⟩)) (hb:Blk w b t c)
  (d:TypeDesc) (p:P.underlying ty=some d) (n:d.isRow=true) (q:(P.info? ty).map (·.size)=some c.size) (l:a.defers=[]) (g:R (.returned (.agg c)) w):bodyPost P f R .ret a w:=by
 refine eG (v:=.agg c) ?_ l g;have m:=run_loadVar_mid (P:=P) w b 0 ty c.toList d hb.range p n (by simpa using q);(have k:a.tmps[e]?.getD undef=.pointer (some ⟨b,0,none⟩):=by rw[<-j,Array.getD_eq_getD_getElem?]);simp[results,o,k,asAddr];simpa using m
end
def mskA (n m:Nat):Array Bool:=((List.range n).map m.testBit).toArray
section
variable {P:Program} {md:Region.Mode} {ops:Array Oper} {Q:Exit->Act->World->Prop} {S:World->Prop} {op:Oper} {fuel:Nat} {listed:Array Bool} {a a':Act} {w:World}
theorem nrm (n m:Nat) (h:wpAnyH P md ops Q S fuel (mskA n m) a w) (b:listed=mskA n m:=by kernel_rfl):wpAnyH P md ops Q S fuel listed a w:=b▸h
theorem tk {v:Value} (i:Nat) (d:Option Tmp) (e:S w) (k:ops[i]?=some op:=by exact rfl) (g:op.dst=d:=by kernel_rfl) (m:Region.noSelect ops=true:=by kernel_rfl) (j:Region.free md ops listed i=true:=by kernel_rfl) (l:(Region.ready md ops listed).contains i=true:=by kernel_rfl)
  (c:∀b a w,Q (.panic b) (a.put d v) w->Q (.panic b) a w:=by exact λ_ _ _ h=>h) (n:Region.wanted op (yielded ops a.tmps)=true:=by rfl) (hy:∀w,S w->(execOp a.eval op).run P w=.ok (.value v) w:=by intro w o;exact gS)
  (f:a.put d v=a':=by first|(simp only[Act.put,List.setIfInBounds_toArray,List.set_cons_zero,List.set_cons_succ];exact rfl)|exact rfl) (h:wpAnyH P md ops Q S fuel (listed.setIfInBounds i true) a' w):wpAnyH P md ops Q S (fuel+1) listed a w:=by
 subst f;exact iL i d k g m j l c (.inl ⟨n,hy⟩) e h
theorem tK {v:Value} (i d:Nat) (e:S w) (h:wpAnyH P md ops Q S fuel (listed.setIfInBounds i true) a' w) (k:ops[i]?=some op:=by exact rfl) (g:op.dst=some d:=by kernel_rfl) (m:Region.noSelect ops=true:=by kernel_rfl) (j:Region.free md ops listed i=true:=by kernel_rfl) (l:(Region.ready md ops listed).contains i=true:=by kernel_rfl)
  (c:∀b a w,Q (.panic b) (a.put (some d) v) w->Q (.panic b) a w:=by exact λ_ _ _ h=>h) (n:Region.wanted op (yielded ops a.tmps)=true:=by rfl) (hy:∀w,S w->(execOp a.eval op).run P w=.ok (.value v) w:=by intro w o;go_simp;try with_reducible rfl)
  (f:a.put (some d) v=a':=by first|(simp only[Act.put,List.setIfInBounds_toArray,List.set_cons_zero,List.set_cons_succ];exact rfl)|exact rfl):wpAnyH P md ops Q S (fuel+1) listed a w:=
 tk i (some d) e k g m j l c n hy f h
theorem tkU (i:Nat) (d:Option Tmp) (e:S w) (k:ops[i]?=some op:=by exact rfl) (g:op.dst=d:=by kernel_rfl) (m:Region.noSelect ops=true:=by kernel_rfl) (j:Region.free md ops listed i=true:=by kernel_rfl) (l:(Region.ready md ops listed).contains i=true:=by kernel_rfl)
  (c:∀b a w,Q (.panic b) (a.put d undef) w->Q (.panic b) a w:=by exact λ_ _ _ h=>h) (n:Region.wanted op (yielded ops a.tmps)=false:=by kernel_rfl)
  (f:a.put d undef=a':=by first|(simp only[Act.put,List.setIfInBounds_toArray,List.set_cons_zero,List.set_cons_succ];exact rfl)|exact rfl) (h:wpAnyH P md ops Q S fuel (listed.setIfInBounds i true) a' w):wpAnyH P md ops Q S (fuel+1) listed a w:=by
 subst f;exact iL i d k g m j l c (.inr ⟨n,rfl⟩) e h
end
theorem mP {b c:Prop} (g:c) (h:Bx c->b:=by
 intro h;(try simp only[aP]);exact h.o):b:=h ⟨g⟩
section
variable {P:Program} {md:Region.Mode} {ops:Array Oper} {Q:Exit->Act->World->Prop} {S:World->Prop} {fuel:Nat} {listed:Array Bool} {a:Act} {w:World}
theorem Fu (i j l:Nat) (f:Region.ready md ops listed=[i,j,l]) (h:wpOp P ops Q i (λd c=>S c/\wpAnyH P md ops Q S fuel (listed.setIfInBounds i true) d c) a w)
  (g:wpOp P ops Q j (λd c=>S c/\wpAnyH P md ops Q S fuel (listed.setIfInBounds j true) d c) a w) (k:wpOp P ops Q l (λd c=>S c/\wpAnyH P md ops Q S fuel (listed.setIfInBounds l true) d c) a w):wpAnyH P md ops Q S (fuel+1) listed a w:=by
 refine⟨λe=>?_,λm b=>?_⟩
 ·rw[f]at e;cases e
 ·rw[f]at b
  simp only[bT,List.not_mem_nil,or_false]at b;rcases b with b|b|b
  ·subst b;exact h
  ·subst b;exact g
  ·subst b;exact k
theorem uf {d:Nat} {l:List Oper} (F:Nat->Act) (C:Nat->World->Prop) (e:∀b c,C b c->Q .normal (F b) c) (h:(∀b c,C b c->Q .normal (F b) c)->(Code.region d l.toArray true).wp P Q a w):(Code.region d l.toArray true).wp P Q a w:=h e
theorem RX {op:Oper} {i:Nat} {K:Act->World->Prop} (j:ops[i]?=some op) (g:op.guard=none) (d:Option Tmp) (f:op.dst=d) (t:TypeId) (x:Operand) (k:op.op=.box t x) (b:Array Value) (l:a.eval x=.agg b) (m:(P.info? t).map (·.size)=some b.size)
  (h:∀(c:Nat) (e:World),bW w e->w.heap.size<=c->Blk e c t b->K (a.put d ((pT c))) e):wpOp P ops Q i K a w:=by
 refine KJ j g d f ((pT w.heap.size)) (w.alloc (.cells b t)) ?_ (h _ _ ((aj _ _).alloc (av _) _) (av _) (Wx _ _ _));simp[execOp,k,l,Instr.box,newVar,newRow,Value.cells]
theorem FR {j:Nat} {l:List Oper} (F:Nat->Nat->Option Addr->Nat->Option Addr->Nat->Act) (C:Nat->Nat->Option Addr->Nat->Option Addr->Nat->World->Prop) (k:∀d g b e c f i,C d g b e c f i->Q .normal (F d g b e c f) i) (h:(∀d g b e c f i,C d g b e c f i->Q .normal (F d g b e c f) i)->(Code.region j l.toArray true).wp P Q a w):(Code.region j l.toArray true).wp P Q a w:=h k
end
structure Iv where
 iat:Int
 b:List Int
 a:Option Addr
 c:Nat
def itV (x:Iv):List Value:=[uI x.iat,.slice x.a x.b.length x.c]
def Iv.it (x:Iv):It:=⟨x.iat,x.b⟩
def faV (f:Fa):List Value:=[bV f.drop,bV f.twice,bV f.mark,uI f.delay]
structure Bv where
 b:List Int
 a:Option Addr
 c:Nat
def bvV (x:Bv):List Value:=[.slice x.a x.b.length x.c]
structure rH (w:World) (S:Nat->Prop) (p:Nat) (q:Pp):Prop where
 ex:∃af cf ai ci,∃iv:List Iv,Blk w p 218 #[.slice af q.qF.length cf,jI q.count,.slice ai iv.length ci]/\Row w S 187 4 af q.qF.length (q.qF.flatMap faV)/\gW w S 222 2 ai iv.length ci (iv.flatMap itV)/\(∀x∈iv,Bys w S x.a x.b)/\q.items=iv.map Iv.it
 mem:S p
structure vY (k:Nat) (q:Pp):Prop where
 count:q.count<=k
 items:q.items.length<=2*k
 ok:∀x∈q.items,Word x.iat/\dP x.b/\x.b.length<=100000
 qF:q.qF.length<=1000000000
 word:∀f∈q.qF,Word f.delay
section
variable {w w':World} {S S':Nat->Prop} {p:Nat} {q:Pp} {ts:List (Option TypeId)}
theorem rH.mono (h:rH w S p q) (a:∀b,S b->S' b):rH w S' p q:=by
 obtain⟨c,e,d,f,n,g,i,j,k,l⟩:=h.ex;exact⟨⟨c,e,d,f,n,g,i.mono a,j.mono a,λo m=>aF (k o m) a,l⟩,a _ h.mem⟩
theorem rH.keep (h:rH w S p q) (a:bQ S ts w w') (f:some 218∈ts) (g:some 187∈ts) (i:some 222∈ts) (j:some 5∈ts):rH w' S p q:=by
 obtain⟨b,d,c,e,l,m,n,o,r,s⟩:=h.ex;exact⟨⟨b,d,c,e,l,m.keep a h.mem f,n.keep a g,o.keep a i,λt k=>aG (r t k) a j,s⟩,h.mem⟩
theorem rH.below (h:rH w S p q) (hb:bW w w'):rH w' S p q:=h.keep (ts:=[some 218,some 187,some 222,some 5]) (bQ.below hb) sM sM sM sM
end
theorem KQ (x:It) (l:List It) (m:Nat) (a:m<l.length) (h:x.iat<l[m].iat):WY x (l.take (m+1)).reverse (l.drop (m+1))=WY x (l.take m).reverse (l.drop m):=by
 rw[bB a,List.reverse_append,List.reverse_singleton,List.singleton_append,aR a]
 conv=>lhs;unfold WY
 rw[aB h]
theorem Ck (x:It) (l:List It) (k:Nat) (c:∀b,k<=b->∀d:b<l.length,x.iat<l[b].iat):∀a,k+a<=l.length->WY x (l.take (k+a)).reverse (l.drop (k+a))=WY x (l.take k).reverse (l.drop k)
 |0,_=>rfl
 |a+1,hm=>by
  rw[<-Nat.add_assoc,KQ x l (k+a) oM (c _ oM oM)];exact Ck x l k c a oM
theorem Qt (x:It) (l:List It) (k:Nat) (e:k<=l.length) (c:∀a,k<=a->∀b:a<l.length,x.iat<l[a].iat) (d:∀a,a+1=k->∀b:a<l.length,¬x.iat<l[a].iat):uD l x=l.take k++x::l.drop k:=by
 have h:=Ck x l k c (l.length -k) oM;rw[Nat.add_sub_cancel' e,dM,List.drop_length]at h;unfold uD;rw[h];cases k with
 |zero=>simp[WY]
 |succ a=>
  have b:a<l.length:=oM;have:=d a rfl b;rw[bB b,List.reverse_append,List.reverse_singleton,List.singleton_append];unfold WY;rw[Ww this];simp
theorem Ou {now:Int} {x:It} {t:List It} (h:x.iat<=now):iy now (x::t)=x.b::iy now t:=by simp[iy,h]
theorem QW {now:Int} {x:It} {t:List It} (h:¬x.iat<=now):iy now (x::t)=[]:=by unfold iy;rw[Ww h]
theorem Nj {now:Int} {x:It} {t:List It} (h:x.iat<=now):iH now (x::t)=iH now t:=by simp[iH,h]
theorem PE {now:Int} {x:It} {t:List It} (h:¬x.iat<=now):iH now (x::t)=x::t:=by unfold iH;rw[Ww h]
theorem wR {now:Int} {l:List It} {b:List Int} (h:b∈iy now l):∃a∈l,a.b=b:=by
 induction l with
 |nil=>unfold iy at h;cases h
 |cons a t ih=>
  unfold iy at h;split at h
  ·rcases bT.1 h with h|h
   ·exact⟨a,sM,h.symm⟩
   ·obtain⟨e,d,c⟩:=ih h;exact⟨e,by simp[d],c⟩
  ·cases h
theorem Nk {now:Int} {l:List It} {x:It} (h:x∈iH now l):x∈l:=by
 induction l with
 |nil=>exact h
 |cons y t ih=>
  unfold iH at h;split at h
  ·exact jQ _ (ih h)
  ·exact h
theorem pU (now:Int) (l:List It):(iy now l).length+(iH now l).length=l.length:=by
 induction l with
 |nil=>rfl
 |cons y t ih=>
  unfold iy iH;split
  ·simp only[aY];omega
  ·simp
theorem EI (x:It):∀(a b:List It),(WY x a b).length=a.length+b.length+1
 |[],b=>by unfold WY;simp
 |y::a,b=>by
  unfold WY;split
  ·rw[EI x a];simp;omega
  ·simp;omega
theorem vE (l:List It) (x:It):(uD l x).length=l.length+1:=by unfold uD;rw[EI];simp
theorem EH (x y:It):∀(a b:List It),y∈WY x a b->y=x\/y∈a\/y∈b
 |[],b,h=>by unfold WY at h;simpa using h
 |z::a,b,h=>by
  unfold WY at h;split at h
  ·rcases EH x y a _ h with h|h|h
   ·exact .inl h
   ·exact .inr (.inl (by simp[h]))
   ·rcases bT.1 h with h|h
    ·exact .inr (.inl (by simp[h]))
    ·exact .inr (.inr h)
  ·simp only[List.reverse_cons,List.append_assoc,WB,List.mem_reverse,bT,List.not_mem_nil,or_false]at h
   rcases h with h|h|h|h
   ·exact .inr (.inl (by simp[h]))
   ·exact .inr (.inl (by simp[h]))
   ·exact .inl h
   ·exact .inr (.inr h)
theorem vD {l:List It} {x y:It} (h:y∈uD l x):y=x\/y∈l:=by
 rcases EH x y _ _ h with h|h|h
 ·exact .inl h
 ·exact .inr (by simpa using h)
 ·cases h
attribute[local go_sem] BW.cell BW.frozen
theorem Gw (x:Iv):(itV x).length=2:=rfl
theorem oO:Elem Tryz.prog 216 222 2 32 itV:=
 ⟨by kernel_rfl,by
  obtain⟨a,c,d,e,f⟩:=info_parts (show(Tryz.prog.info? 222).map (λa=>(a.zero,a.size,a.bytes))=some (some (.agg #[uI 0,.slice none 0 0]),2,32) by kernel_rfl);exact⟨a,_,c,d,e,f,rfl⟩,dC,λ_=>rfl,λi g b=>by simp[itV]at b;rcases b with rfl|rfl<;>rfl⟩
theorem Ivs.at_ {w:World} {S:Nat->Prop} {a:Option Addr} {c:Nat} {b:List Iv} (h:gW w S 222 2 a b.length c (b.flatMap itV)) {j:Nat} (g:j<b.length):
  ∃d e,a=some ⟨d,e,none⟩/\S d/\d<w.heap.size/\w.cell? ⟨d,e+j*2,none⟩=some (uI b[j].iat)/\w.cell? ⟨d,e+j*2+1,none⟩=some (.slice b[j].a b[j].b.length b[j].c):=by
 obtain⟨d,e,i,k,l,f⟩:=h.row.at_ oM;refine⟨d,e,i,k,l,f _ _ ?_,?_⟩
 ·exact mr Gw b j 0 g oM
 ·rw[Nat.add_assoc];exact f _ _ (mr Gw b j 1 g oM)
theorem RP {A B:List Value} {c0 c1 u v:Value} {n:Nat} (b:A.length=n):((A++[c0,c1]++B).set n u).set (n+1) v=A++[u,v]++B:=by
 subst b
 induction A with
 |nil=>rfl
 |cons a A ih=>simp
theorem Mc (a:List Iv) (x z:Iv) (m:Nat) (c:m<=a.length):
  (((((a++[z]).take (m+1)++((a++[z]).drop m).take ((a++[z]).length -(m+1))).flatMap itV).set (m*2) (uI x.iat)).set (m*2+1) (.slice x.a x.b.length x.c))=(a.take m++x::a.drop m).flatMap itV:=by
 have d:((a++[z]).drop m).take ((a++[z]).length -(m+1))=a.drop m:=by
  rw[List.drop_append_of_le_length c,aU,bO,show a.length+1 -(m+1)=(a.drop m).length by rw[bI];omega];exact List.take_left
 (have e:m<(a++[z]).length:=by simp;omega);obtain⟨b,f⟩:∃b,(a++[z]).take (m+1)=a.take m++[b]:=⟨(a++[z])[m],by rw[bB e,List.take_append_of_le_length c]⟩;rw[d,f];simp only[iE,List.flatMap_cons,List.flatMap_nil,List.append_nil];have:=RP (A:=(a.take m).flatMap itV) (B:=(a.drop m).flatMap itV) (c0:=uI b.iat) (c1:=.slice b.a b.b.length b.c) (u:=uI x.iat) (v:=.slice x.a x.b.length x.c) (n:=m*2) (by rw[sZ Gw,aT,fJ c]);simpa[itV]using this
def lyT:List (Option TypeId):=[some 218,some 222]
theorem qQ (k:Nat) (d:k<=1000000000) (S:Nat->Prop) (p:Nat) (q:Pp) (x:Iv) (w:World) (h:rH w S p q) (j3:q.items.length<=2*k+1) (hb:Bys w S x.a x.b) (r:Word x.iat) (o8:∀f5∈q.items,Word f5.iat) (c8:Bd S w):
  Calls Tryz.prog 101 #[pT p,.agg #[uI x.iat,.slice x.a x.b.length x.c]] w λd7 l0=>
   d7=.returned (.tuple #[])/\rH l0 (grow S w l0) p {q with items:=uD q.items x.it}/\Mod S lyT w l0:=by
 obtain⟨a7,a9,l4,i3,b,g1,m0,m1,l9,j9⟩:=h.ex;have f9:=h.mem;have o2:=g1.lt;obtain⟨f4,d5,m3⟩:=q;obtain⟨j,s,y,z⟩:=x;simp only at*
 have m7:=zH m1;have l2:=zH m0;have f6:=zH l9;have l1:=zH hb;have l3:=zH j9;(have q7:b.length<=2*k+1:=by rw[j9,bR]at j3;exact j3);have k8:¬(p=w.heap.size):=oM;have f8:=g1.Wu 2;have m4:=zH g1;clear g1 m1 m0 l9 hb j9 h j3 o8;go_enter Tryz.func101,Tryz.ntmps101;go_wp2_with fail;generalize j1:w.alloc (.cells #[uI j,.slice y s.length z] 222)=c6;(have g0:bW w c6:=by rw[<-j1];exact BEL);(have g5:Blk c6 w.heap.size 222 #[uI j,.slice y s.length z]:=by rw[<-j1];exact Wx _ _ _);obtain⟨a8,l7⟩:=eX w.heap.size;rw[<-l7]at g5 k8|-;have c7:=zH g0;have h7:=zH g5;have k3:=g5.lt;have j6:Blk c6 p 218 #[.slice a7 f4.length a9,jI d5,.slice l4 b.length i3]:=m4.out.below g0 o2;have h3:=zH j6;have j7:=j6.lt;have g6:=zH (m7.out.below g0);have r3:w.heap.size<=a8:=oM;clear j1 g0 g5 f8 j6 l7;go_loopw [4] (λM wr=>∃(a:Nat),a<=b.length/\M=jI a/\Hid (∀f,a<=f->∀g3:f<b.length,j<b[f].iat)/\Hid (∃f2,wr=c6.drewN f2)) (λM _=>(intOf M).toNat);(case atStart=>exact⟨b.length,oM,rfl,(λf F G=>by omega),⟨0,rfl⟩⟩);case round=>
  obtain⟨a,q8,rfl,d0,f7⟩:=hrel;have a4:=zH (show bW c6 wr from by obtain⟨f2,d7⟩:=f7.out;rw[d7];exact aA (aj _ _) f2);have j2:=h7.out.below a4.out k3;have l8:=h3.out.below a4.out j7;have l5:=j2.Wu 0;have l6:=j2.Wu 1;have f8:=l8.Wu 2;clear j2 l8;rcases Nat.eq_zero_or_pos a with m2|m2
  ·subst m2
   have b9:Hid (∀f,f+1=0->∀g3:f<b.length,¬j<b[f].iat):=zH (λf h=>by omega);go_wp2_with fail;refine mQ ?_;rintro _ ⟨nq,rfl⟩;have m5:=zH b9;have g4:0<=b.length:=oM;have g8:=zH (Qt ⟨j,s⟩ (b.map Iv.it) (0) sM (λf F G=>by rw[List.getElem_map];exact d0.out f F (by simpa using G)) (λf F G=>by rw[List.getElem_map];have:=b9.out f F (by simpa using G);show¬j<b[f].iat;omega));generalize e5:wr.drewN nq=v;have H:=zH (show bW c6 v by rw[<-e5];exact aA a4.out _);have U:=h3.out.below H.out j7;have b5:=h7.out.below H.out k3;have i2:=U.Wu 2;have o5:=U.lt;have p1:=b5.lt;have h6:=zH U;have h9:=zH b5;have g7:=zH (g6.out.below H.out);have f1:w.heap.size<=v.heap.size:=ay c7.out.size H.out.size;have p4:¬(p=v.heap.size):=oM;clear e5 U b5 l5 l6 f8 b9 d0 a4 f7;go_wp2_with (at_builtin;refine oO.DC rfl (.tmp 32) (.tmp 34) rfl (l4) i3 b (by simp[Act.eval]) (g7.out.below (BEL)) (λk d=>by have:=c8 k d;simp;omega) (some ⟨v.heap.size,0,none⟩) 1 [(⟨0,[],none,0⟩:Iv)] (by simp[Act.eval]) (oO.single (⟨0,[],none,0⟩:Iv) (Wx v 222 _) rfl) sO dC sM ?_;intro g c E C Y;have I:=zH C;have a5:=zH Y;have R:=(h6.out.alloc (.cells #[uI 0,.slice none 0 0] 222)).mod Y dC;obtain⟨i4,i5⟩:=R.cz 2;have a6:=zH R;have j8:=R.lt;have e6:=(h9.out.alloc (.cells #[uI 0,.slice none 0 0] 222)).out Y (λh=>by have:=c8 _ h;omega);have d4:=zH e6;clear C Y R e6 i2);obtain⟨e,O⟩:=eX (b.length+1);rw[<-O];(have b3:(b++[(⟨0,[],none,0⟩:Iv)]).length=e:=by rw[O];simp);have C:=I.out;rw[b3]at C;replace I:=zH C;clear C;obtain⟨u,L⟩:=eX (E.setCell ⟨p,2,none⟩ (.slice g e c));rw[<-L];obtain⟨a2,c2⟩:=eX (v.alloc (.cells #[uI 0,.slice none 0 0] 222));rw[<-c2]at a5 I;(have W:bW v a2:=by rw[c2];exact BEL);(have T:Blk u p 218 #[.slice a7 f4.length a9,jI d5,.slice g e c]:=by rw[L];exact a6.out.bF 2 _);have j5:∀d8,g=some ⟨d8,0,none⟩->True:=λ_ _=>trivial;(have b4:Blk u a8 222 #[uI j,.slice y s.length z]:=by rw[L];exact d4.out.far (Ne.symm k8) _);(have Z:Mod (λk=>k=p) [some 218] E u:=by rw[L];exact(aV (λk=>k=p) [some 218] E).setCell a6.out (λ_=>rfl) sM 2 _);have Q:gW u (grow S a2 E) 222 2 g e c ((b++[(⟨0,[],none,0⟩:Iv)]).flatMap itV):=I.out.keep (Z.aM (ts:=[some 222]) dC) sM;have e1:Mod S lyT w u:=(((aH ((c7.out.trans (H.out.mono c7.out.size)).trans (W.mono f1))).trans (a5.out.mono (λ_ _ h=>h) (by simp[lyT]))).then (Z.mono (λ_ _ h=>h) (by simp[lyT])) (λk _ h=>by subst h;exact f9));have c0:∀k,grow S a2 E k->grow S w u k:=λk d=>d.imp id (λh=>⟨ay (ay f1 W.size) h.1,aC h.2 Z.size⟩);obtain⟨A,N⟩:=eX (grow S a2 E);(have e4:∀k,S k->A k:=λk d=>by rw[N];exact .inl d);have e7:¬A a8:=by
    rw[N];rintro(h|h)
    ·have:=c8 _ h;omega
    ·have F:=h.1;have G:=W.size;omega
   rw[<-N]at Q c0;have h4:=zH T;have h8:=zH b4;have h2:=zH Q;have h1:=zH e1;have d1:=zH c0;have m9:=zH e4;have o3:=T.lt;have o9:=b4.lt;have k9:=T.Wu 2;have n9:=Q.cap_;obtain⟨p2,c1,k4,c3,k5⟩:=info_parts (show(Tryz.prog.info? 222).map (λM=>(M.zero,M.size,M.bytes))=some (some (.agg #[uI 0,.slice none 0 0]),2,32) by kernel_rfl);have e8:∀w,(Instr.slice 216 (.slice g e c) (some (jI 1)) none none).run Tryz.prog w=.ok (.slice (fE g c 1 2) (e -1) (c -1)) w:=λw=>by
    have h:=gI (P:=Tryz.prog) oO.ht c1 g e c 1 oM w;rw[c3]at h;simpa using h
   have e9:∀w,(Instr.slice 216 (.slice g e c) (some (jI 0)) none none).run Tryz.prog w=.ok (.slice (fE g c (0) 2) (e -(0)) (c -(0))) w:=λw=>by
    have h:=gI (P:=Tryz.prog) oO.ht c1 g e c (0) oM w;rw[c3]at h;simpa using h
   obtain⟨n1,b6⟩:=eX (fE g c 1 2);obtain⟨n2,b7⟩:=eX (fE g c (0) 2);rw[<-b6]at e8;rw[<-b7]at e9;have B:=zH b3;have g9:=zH O;have i0:=zH b6;have i1:=zH b7;have i8:0<e:=oM;clear L c2 W T j5 b4 Z Q e1 c0 N e4 c1 k4 c3 k5 b3 O b6 b7 I a5 a6 d4 i4 i5 j8;refine bP 13 kR kR ?_;refine mB ?_;rintro _ ⟨c4,rfl⟩;refine dA rfl rfl ?_;refine oO.LH (.tmp 44) (.tmp 50) rfl g c (b++[(⟨0,[],none,0⟩:Iv)]) (0) (by rw[B.out];exact i8) (by rw[B.out,<-i0.out];simp[Act.eval]) (by rw[B.out,<-i1.out];simp[Act.eval]) (by rw[B.out];exact h2.out.below (BEL)) ?_;intro n a1 a0;rw[B.out]at a1;refine aK ?_;have d3:=zH a1;have d2:=zH a0;have J:=(h4.out.drewN c4).mod a0 dC;have K:=(h8.out.drewN c4).out a0 e7;have h5:=zH J;have n0:=zH K;have e0:1<((((b++[(⟨0,[],none,0⟩:Iv)]).take (0+1)++((b++[(⟨0,[],none,0⟩:Iv)]).drop (0)).take (e -(0+1))).flatMap itV)).length:=by
    rw[a1.len];omega
   obtain⟨l,m,d6,hA4,b2,o,b8,f0⟩:=d3.out.bF (i:=0) oM;have q0:=J.Wu 2;have p8:=K.Wu 0;have p9:=K.Wu 1;obtain⟨u0,o6⟩:∃c5,n.cell? ⟨l,m,none⟩=some c5:=⟨_,(cell_of_row n l _ d6 222 _ o).trans (b8 (0) _ (aL oM))⟩;obtain⟨u1,o7⟩:∃c5,n.cell? ⟨l,m+1,none⟩=some c5:=⟨_,(cell_of_row n l _ d6 222 _ o).trans (b8 (1) _ (aL oM))⟩;have n3:=o.frozen (m);have n4:=o.frozen (m+1);have f3:¬(p=l):=J.ne_ o dC;have p3:¬(a8=l):=λh=>e7 (h▸b2);have n7:0<(e:Int):=oM;have n8:(0:Int)<=0:=oM;subst hA4;have m8:=zH f0;have h0:=zH e0;have c9:=zH o;have o4:=J.lt;have p0:=K.lt;have o0:=o.lt;clear J K b8 f0 e0 o a1 a0 k9 e8 e9;go_wp2_with fail;refine bP 7 kR kR ?_;refine mB ?_;rintro _ ⟨D,rfl⟩;refine dA rfl rfl ?_;go_simp;refine aK ?_;refine mE ?_;obtain⟨t,V⟩:=eX (((n.drewN D).setCell ⟨l,m,none⟩ (uI j)).setCell ⟨l,m+1,none⟩ (.slice y s.length z));rw[<-V];have i9:gW t A 222 2 (some ⟨l,m,none⟩) e c ((b.take (0)++(⟨j,s,y,z⟩:Iv)::b.drop (0)).flatMap itV):=by
    rw[V,<-Mc b ⟨j,s,y,z⟩ (⟨0,[],none,0⟩:Iv) (0) g4,B.out];have i6:=d3.out.below (aA (aj n.heap.size n) D);have j4:=h0.out;obtain⟨n5,p6,_,hA5,_,_,_,k0⟩:=i6.bF (i:=0) oM;injection hA5 with hA5;injection hA5 with b0 b1;subst b0 b1;obtain⟨n6,p7,_,hA6,_,_,_,k2⟩:=(k0 (uI j)).bF (i:=1) (by rw[List.length_set];exact j4);injection hA6 with hA6;injection hA6 with b0 b1;subst b0 b1;exact k2 _
   (have e2:Mod A [some 222] n t:=by rw[V];exact(((aV A [some 222] n).drewN D).setCell (c9.out.drewN D) (λ_=>b2) sM _ _).setCell ((c9.out.drewN D).bF _ _) (λ_=>b2) sM _ _);have e3:Mod S lyT w t:=(h1.out.drewN c4).then ((d2.out.trans e2).mono (λ_ _ h=>h) (by simp[lyT])) (λk d h=>(d1.out k h).elim id (λh=>by have:=h.1;omega));(have j0:Blk t p 218 #[.slice a7 f4.length a9,jI d5,.slice (some ⟨l,m,none⟩) e c]:=by rw[V];exact((h5.out.drewN D).far f3 _).far f3 _);have k1:u.heap.size<=t.heap.size:=ay d2.out.size e2.size;have i7:∀k,A k->grow S w t k:=λk d=>(d1.out k d).imp id (λh=>⟨h.1,aC h.2 k1⟩);(have d9:(b.take (0)++(⟨j,s,y,z⟩:Iv)::b.drop (0)).length=e:=by rw[g9.out,aU,aY,aT,bI];omega);have X:bQ S [some 187,some 5] w t:=e3.aM (ts:=[some 187,some 5]) dC;refine⟨rfl,⟨⟨a7,a9,some ⟨l,m,none⟩,c,b.take (0)++(⟨j,s,y,z⟩:Iv)::b.drop (0),?_,?_,?_,?_,?_⟩,.inl f9⟩,e3⟩
   ·rw[d9];exact j0
   ·exact(l2.out.keep X sM).mono (λk d=>.inl d)
   ·rw[d9];exact i9.mono i7
   ·intro x r
    rcases WB.1 r with r|r
    ·exact(aG (f6.out x (bf r)) X sM).mono (λk d=>.inl d)
    ·rcases bT.1 r with rfl|r
     ·exact(aG l1.out X sM).mono (λk d=>.inl d)
     ·exact(aG (f6.out x (dW r)) X sM).mono (λk d=>.inl d)
   ·show uD m3 _=_
    rw[l3.out,List.map_append,List.map_cons,List.map_take,List.map_drop];exact g8.out
  ·obtain⟨a,rfl⟩:∃f,a=f+1:=⟨a -1,oM⟩
   have o1:a<b.length:=oM;obtain⟨d8,p5,rfl,q5,q6,k6,k7⟩:=Ivs.at_ (g6.out.below a4.out) o1;have r2:(0:Int)<((a+1:Nat):Int):=oM;have r0:((a+1:Nat):Int) -1=(a:Int):=oM;have r1:(a:Int)<(b.length:Int):=oM;have q9:(0:Int)<=(a:Int):=oM;by_cases a3:j<b[a].iat
   ·have m6:Hid (∀f,a<=f->∀g3:f<b.length,j<b[f].iat):=zH (λf F G=>by
     rcases Nat.eq_or_lt_of_le F with h|h
     ·subst h;exact a3
     ·exact d0.out f h G)
    (have g2:decide (j<b[a].iat)=true:=by simpa using a3);generalize b[a]=f5 at*
    obtain⟨q2,q3,q1,q4⟩:=f5;simp only at k6 k7 g2 a3;clear a3;go_wp2_with fail;refine mQ ?_;rintro _ ⟨nq,rfl⟩;go_wp2_with fail;go_roundw;(case rel=>exact⟨a,oM,by go_num,m6,zH (by obtain⟨f2,d7⟩:=f7.out;exact⟨f2+nq,by rw[d7];simp[World.drewN,Nat.add_assoc]⟩)⟩);case measure=>simp[intOf]
   ·have b9:Hid (∀f,f+1=a+1->∀g3:f<b.length,¬j<b[f].iat):=zH (λf h g3=>by
     obtain rfl:f=a:=oM;exact a3)
    (have g2:decide (j<b[a].iat)=false:=by simpa using a3);generalize b[a]=f5 at*
    obtain⟨q2,q3,q1,q4⟩:=f5;simp only at k6 k7 g2 a3;clear a3;go_wp2_with fail;refine mQ ?_;rintro _ ⟨nq,rfl⟩;clear k6 k7 g2;have m5:=zH b9;have g4:a+1<=b.length:=oM;have g8:=zH (Qt ⟨j,s⟩ (b.map Iv.it) (a+1) (by simpa using g4) (λf F G=>by rw[List.getElem_map];exact d0.out f F (by simpa using G)) (λf F G=>by rw[List.getElem_map];have:=b9.out f F (by simpa using G);show¬j<b[f].iat;omega));generalize e5:wr.drewN nq=v;have H:=zH (show bW c6 v by rw[<-e5];exact aA a4.out _);have U:=h3.out.below H.out j7;have b5:=h7.out.below H.out k3;have i2:=U.Wu 2;have o5:=U.lt;have p1:=b5.lt;have h6:=zH U;have h9:=zH b5;have g7:=zH (g6.out.below H.out);have f1:w.heap.size<=v.heap.size:=ay c7.out.size H.out.size;have p4:¬(p=v.heap.size):=oM;clear e5 U b5 l5 l6 f8 b9 d0 a4 f7;go_wp2_with (at_builtin;refine oO.DC rfl (.tmp 32) (.tmp 34) rfl ((some ⟨d8,p5,none⟩)) i3 b (by simp[Act.eval]) (g7.out.below (BEL)) (λk d=>by have:=c8 k d;simp;omega) (some ⟨v.heap.size,0,none⟩) 1 [(⟨0,[],none,0⟩:Iv)] (by simp[Act.eval]) (oO.single (⟨0,[],none,0⟩:Iv) (Wx v 222 _) rfl) sO dC sM ?_;intro g c E C Y;have I:=zH C;have a5:=zH Y;have R:=(h6.out.alloc (.cells #[uI 0,.slice none 0 0] 222)).mod Y dC;obtain⟨i4,i5⟩:=R.cz 2;have a6:=zH R;have j8:=R.lt;have e6:=(h9.out.alloc (.cells #[uI 0,.slice none 0 0] 222)).out Y (λh=>by have:=c8 _ h;omega);have d4:=zH e6;clear C Y R e6 i2);obtain⟨e,O⟩:=eX (b.length+1);rw[<-O];(have b3:(b++[(⟨0,[],none,0⟩:Iv)]).length=e:=by rw[O];simp);have C:=I.out;rw[b3]at C;replace I:=zH C;clear C;obtain⟨u,L⟩:=eX (E.setCell ⟨p,2,none⟩ (.slice g e c));rw[<-L];obtain⟨a2,c2⟩:=eX (v.alloc (.cells #[uI 0,.slice none 0 0] 222));rw[<-c2]at a5 I;(have W:bW v a2:=by rw[c2];exact BEL);(have T:Blk u p 218 #[.slice a7 f4.length a9,jI d5,.slice g e c]:=by rw[L];exact a6.out.bF 2 _);have j5:∀d8,g=some ⟨d8,0,none⟩->True:=λ_ _=>trivial;(have b4:Blk u a8 222 #[uI j,.slice y s.length z]:=by rw[L];exact d4.out.far (Ne.symm k8) _);(have Z:Mod (λk=>k=p) [some 218] E u:=by rw[L];exact(aV (λk=>k=p) [some 218] E).setCell a6.out (λ_=>rfl) sM 2 _);have Q:gW u (grow S a2 E) 222 2 g e c ((b++[(⟨0,[],none,0⟩:Iv)]).flatMap itV):=I.out.keep (Z.aM (ts:=[some 222]) dC) sM;have e1:Mod S lyT w u:=(((aH ((c7.out.trans (H.out.mono c7.out.size)).trans (W.mono f1))).trans (a5.out.mono (λ_ _ h=>h) (by simp[lyT]))).then (Z.mono (λ_ _ h=>h) (by simp[lyT])) (λk _ h=>by subst h;exact f9));have c0:∀k,grow S a2 E k->grow S w u k:=λk d=>d.imp id (λh=>⟨ay (ay f1 W.size) h.1,aC h.2 Z.size⟩);obtain⟨A,N⟩:=eX (grow S a2 E);(have e4:∀k,S k->A k:=λk d=>by rw[N];exact .inl d);have e7:¬A a8:=by
     rw[N];rintro(h|h)
     ·have:=c8 _ h;omega
     ·have F:=h.1;have G:=W.size;omega
    rw[<-N]at Q c0;have h4:=zH T;have h8:=zH b4;have h2:=zH Q;have h1:=zH e1;have d1:=zH c0;have m9:=zH e4;have o3:=T.lt;have o9:=b4.lt;have k9:=T.Wu 2;have n9:=Q.cap_;obtain⟨p2,c1,k4,c3,k5⟩:=info_parts (show(Tryz.prog.info? 222).map (λM=>(M.zero,M.size,M.bytes))=some (some (.agg #[uI 0,.slice none 0 0]),2,32) by kernel_rfl);have e8:∀w,(Instr.slice 216 (.slice g e c) (some (jI ((a:Int)+1+1))) none none).run Tryz.prog w=.ok (.slice (fE g c (a+1+1) 2) (e -(a+1+1)) (c -(a+1+1))) w:=λw=>by
     have h:=gI (P:=Tryz.prog) oO.ht c1 g e c (a+1+1) oM w;rw[c3]at h;simpa using h
    have e9:∀w,(Instr.slice 216 (.slice g e c) (some (jI ((a:Int)+1))) none none).run Tryz.prog w=.ok (.slice (fE g c (a+1) 2) (e -(a+1)) (c -(a+1))) w:=λw=>by
     have h:=gI (P:=Tryz.prog) oO.ht c1 g e c (a+1) oM w;rw[c3]at h;simpa using h
    obtain⟨n1,b6⟩:=eX (fE g c (a+1+1) 2);obtain⟨n2,b7⟩:=eX (fE g c (a+1) 2);rw[<-b6]at e8;rw[<-b7]at e9;have B:=zH b3;have g9:=zH O;have i0:=zH b6;have i1:=zH b7;have i8:a+1<e:=oM;clear L c2 W T j5 b4 Z Q e1 c0 N e4 c1 k4 c3 k5 b3 O b6 b7 I a5 a6 d4 i4 i5 j8;refine bP 13 kR kR ?_;refine mB ?_;rintro _ ⟨c4,rfl⟩;refine dA rfl rfl ?_;refine oO.LH (.tmp 44) (.tmp 50) rfl g c (b++[(⟨0,[],none,0⟩:Iv)]) (a+1) (by rw[B.out];exact i8) (by rw[B.out,<-i0.out];simp[Act.eval]) (by rw[B.out,<-i1.out];simp[Act.eval]) (by rw[B.out];exact h2.out.below (BEL)) ?_;intro n a1 a0;rw[B.out]at a1;refine aK ?_;have d3:=zH a1;have d2:=zH a0;have J:=(h4.out.drewN c4).mod a0 dC;have K:=(h8.out.drewN c4).out a0 e7;have h5:=zH J;have n0:=zH K;have e0:(a+1)*2+1<((((b++[(⟨0,[],none,0⟩:Iv)]).take (a+1+1)++((b++[(⟨0,[],none,0⟩:Iv)]).drop (a+1)).take (e -(a+1+1))).flatMap itV)).length:=by
     rw[a1.len];omega
    obtain⟨l,m,d6,hA4,b2,o,b8,f0⟩:=d3.out.bF (i:=(a+1)*2) oM;have q0:=J.Wu 2;have p8:=K.Wu 0;have p9:=K.Wu 1;obtain⟨u0,o6⟩:∃c5,n.cell? ⟨l,m+(a+1)*2,none⟩=some c5:=⟨_,(cell_of_row n l _ d6 222 _ o).trans (b8 ((a+1)*2) _ (aL oM))⟩;obtain⟨u1,o7⟩:∃c5,n.cell? ⟨l,m+(a+1)*2+1,none⟩=some c5:=⟨_,(cell_of_row n l _ d6 222 _ o).trans (b8 ((a+1)*2+1) _ (aL oM))⟩;have n3:=o.frozen (m+(a+1)*2);have n4:=o.frozen (m+(a+1)*2+1);have f3:¬(p=l):=J.ne_ o dC;have p3:¬(a8=l):=λh=>e7 (h▸b2);have n7:((a:Int)+1)<(e:Int):=oM;have n8:(0:Int)<=((a:Int)+1):=oM;subst hA4;have m8:=zH f0;have h0:=zH e0;have c9:=zH o;have o4:=J.lt;have p0:=K.lt;have o0:=o.lt;clear J K b8 f0 e0 o a1 a0 k9 e8 e9;go_wp2_with fail;refine bP 7 kR kR ?_;refine mB ?_;rintro _ ⟨D,rfl⟩;refine dA rfl rfl ?_;go_simp;refine aK ?_;refine mE ?_;obtain⟨t,V⟩:=eX (((n.drewN D).setCell ⟨l,m+(a+1)*2,none⟩ (uI j)).setCell ⟨l,m+(a+1)*2+1,none⟩ (.slice y s.length z));rw[<-V];have i9:gW t A 222 2 (some ⟨l,m,none⟩) e c ((b.take (a+1)++(⟨j,s,y,z⟩:Iv)::b.drop (a+1)).flatMap itV):=by
     rw[V,<-Mc b ⟨j,s,y,z⟩ (⟨0,[],none,0⟩:Iv) (a+1) g4,B.out];have i6:=d3.out.below (aA (aj n.heap.size n) D);have j4:=h0.out;obtain⟨n5,p6,_,hA5,_,_,_,k0⟩:=i6.bF (i:=(a+1)*2) oM;injection hA5 with hA5;injection hA5 with b0 b1;subst b0 b1;obtain⟨n6,p7,_,hA6,_,_,_,k2⟩:=(k0 (uI j)).bF (i:=(a+1)*2+1) (by rw[List.length_set];exact j4);injection hA6 with hA6;injection hA6 with b0 b1;subst b0 b1;exact k2 _
    (have e2:Mod A [some 222] n t:=by rw[V];exact(((aV A [some 222] n).drewN D).setCell (c9.out.drewN D) (λ_=>b2) sM _ _).setCell ((c9.out.drewN D).bF _ _) (λ_=>b2) sM _ _);have e3:Mod S lyT w t:=(h1.out.drewN c4).then ((d2.out.trans e2).mono (λ_ _ h=>h) (by simp[lyT])) (λk d h=>(d1.out k h).elim id (λh=>by have:=h.1;omega));(have j0:Blk t p 218 #[.slice a7 f4.length a9,jI d5,.slice (some ⟨l,m,none⟩) e c]:=by rw[V];exact((h5.out.drewN D).far f3 _).far f3 _);have k1:u.heap.size<=t.heap.size:=ay d2.out.size e2.size;have i7:∀k,A k->grow S w t k:=λk d=>(d1.out k d).imp id (λh=>⟨h.1,aC h.2 k1⟩);(have d9:(b.take (a+1)++(⟨j,s,y,z⟩:Iv)::b.drop (a+1)).length=e:=by rw[g9.out,aU,aY,aT,bI];omega);have X:bQ S [some 187,some 5] w t:=e3.aM (ts:=[some 187,some 5]) dC;refine⟨rfl,⟨⟨a7,a9,some ⟨l,m,none⟩,c,b.take (a+1)++(⟨j,s,y,z⟩:Iv)::b.drop (a+1),?_,?_,?_,?_,?_⟩,.inl f9⟩,e3⟩
    ·rw[d9];exact j0
    ·exact(l2.out.keep X sM).mono (λk d=>.inl d)
    ·rw[d9];exact i9.mono i7
    ·intro x r
     rcases WB.1 r with r|r
     ·exact(aG (f6.out x (bf r)) X sM).mono (λk d=>.inl d)
     ·rcases bT.1 r with rfl|r
      ·exact(aG l1.out X sM).mono (λk d=>.inl d)
      ·exact(aG (f6.out x (dW r)) X sM).mono (λk d=>.inl d)
    ·show uD m3 _=_
     rw[l3.out,List.map_append,List.map_cons,List.map_take,List.map_drop];exact g8.out
theorem AU (x:Fa):(faV x).length=4:=rfl
theorem Sm:Elem Tryz.prog 100 187 4 16 faV:=
 ⟨by kernel_rfl,by
  obtain⟨a,c,d,e,f⟩:=info_parts (show(Tryz.prog.info? 187).map (λa=>(a.zero,a.size,a.bytes))=some (some (.agg #[bV false,bV false,bV false,uI 0]),4,16) by kernel_rfl);exact⟨a,_,c,d,e,f,rfl⟩,dC,λ_=>rfl,λi g b=>by simp[faV]at b;rcases b with rfl|rfl|rfl|rfl<;>rfl⟩
theorem Em (p:Nat->Prop) (a:Option Addr) (c:Nat) (b:List Fa) (w:World) (h:Row w p 187 4 a b.length (b.flatMap faV)) (y:b.length<=1000000000):
  Calls Tryz.prog 80 #[.slice a b.length c] w λr e=>∃k,r=.returned ((pT k))/\rH e (λd=>w.heap.size<=d/\d<e.heap.size) k ⟨b,0,[]⟩/\bW w e:=by
 have m:=zH h;clear h;go_enter Tryz.func80,Tryz.ntmps80;go_wp2_with (at_builtin;refine Sm.wpList rfl _ (.tmp 3) rfl w.heap.size none 0 [] (by rfl) (iq _ _ _ _) a c b (by rfl) m.out sO dC (av _) ?_;intro l q x j g;have f:bW w x:=(aj w.heap.size w).grown g (av _) (by simp[Value.ownBlock]);have o:=zH j;have n:=zH f;clear j g f);refine mV ?_;have i:=o.out;rw[List.nil_append]at i;have t:=OwnAt.fresh (w:=w) i;have s:=n.out;have z:=s.size;refine⟨_,rfl,⟨⟨l,q,none,0,[],Wx _ _ _,?_,gW.WH,(λA v=>by cases v),rfl⟩,?_⟩,?_⟩
 ·refine(aD t.row ?_).mono (λd u=>⟨u.1,by simp;omega⟩)
  exact BEL
 ·simp;omega
 ·exact BEL
end Go.Proofs.YtiflndepmgnojaaGreat
