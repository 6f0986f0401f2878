import Derived.Deep.Quiet
import Derived.Deep.QuietTactic
import Derived.BigQuiet
import Derived.StillTail
import Derived.Below
namespace Go.Proofs.YtiflndepmgnojaaGreat
open Go.RowKit
set_option linter.unusedSimpArgs false
set_option linter.unusedVariables false
set_option maxRecDepth 100000
section
variable {P:Program} {ops:Array Oper} {md:Region.Mode} {C:World->Prop}
def xO (md:Region.Mode) (ops:Array Oper):Nat->Nat->Array Bool->Bool
 |0,_,_=>true
 |f+1,k,l=>(Region.ready md ops l).contains k&&Region.free md ops l k&&xO md ops f (k+1) (l.setIfInBounds k true)
def setFrom:Nat->Nat->Array Bool->Array Bool
 |0,_,l=>l
 |f+1,k,l=>setFrom f (k+1) (l.setIfInBounds k true)
def vF (md:Region.Mode) (ops:Array Oper) (n:Nat):Bool:=
 (List.range ops.size).all λb=>decide (b<=n)||match ops[b]?with
  |some o=>o.after.any λa=>Region.binds md a&&decide (n<=a.on)
  |none=>true
def phB (md:Region.Mode) (ops:Array Oper) (n:Nat):Bool:=
 Region.noSelect ops&&decide (n<ops.size)&&Region.sinkB md ops n&&vF md ops n&&xO md ops n 0 (Array.replicate ops.size false)&&
  Region.lexFrom md ops (ops.size -(n+1)) (n+1) (setFrom (n+1) 0 (Array.replicate ops.size false))&&decide (Region.ready md ops (setFrom n 0 (Array.replicate ops.size false))=[n])
theorem Ao {n:Nat} {g:Array Bool} (E:Region.sinkB md ops n=true) (B:vF md ops n=true) (K:n<ops.size) (l:HeadInv md ops n g):
  ∀(j i:Nat),n -i=j->i<n->g.getD i true=false->∀b,n<=b->b∉Region.ready md ops g:=by
 intro j
 induction j using Nat.strongRecOn with
 |_ j ih=>
  intro i I x t b L s;obtain⟨_,H,m,o⟩:=mem_ready.1 s;have F:b<ops.size:=(Array.getElem?_eq_some_iff.1 m).1;by_cases G:b=n
  .subst G
   have c:=List.all_eq_true.1 E i (List.mem_range.2 x);obtain⟨e,y,p⟩:=List.any_eq_true.1 c;simp only[Bool.and_eq_true,decide_eq_true_eq]at p;obtain⟨u,q,d,k,f,r⟩:=Region.waitsFor_spec p.2;(have J:e<=b:=by have:=List.mem_range.1 y;omega);by_cases A:e=b
   .subst A
    have v:u=H:=Option.some.inj (q.symm.trans m);subst v;have a:=o d k f;rw[r,getD_both t]at a;cases a
   .cases hlj:g.getD e false with
    |true=>
     have a:=l.closed e u q hlj d k f;rw[r,getD_both t]at a;cases a
    |false=>
     (have z:e<g.size:=by rw[l.size];omega);exact ih (b -e) (by omega) e rfl (by omega) (getD_in z hlj) b (Nat.le_refl _) s
  .have c:=List.all_eq_true.1 B b (List.mem_range.2 F)
   rw[Bool.or_eq_true,m]at c;rcases c with c|c
   .have:=of_decide_eq_true c;omega
   .obtain⟨d,k,f⟩:=Array.any_eq_true'.1 c
    simp only[Bool.and_eq_true,decide_eq_true_eq]at f;have a:=o d k f.1;by_cases D:d.on<ops.size
    .rw[getD_both (l.tail d.on f.2 D)]at a;cases a
    .have:g.getD d.on false=false:=by rw[Array.getD_eq_getD_getElem?,Array.getElem?_eq_none (by rw[l.size];omega)];rfl
     rw[this]at a;cases a
def Ws (P:Program) (md:Region.Mode) (ops:Array Oper) (C:World->Prop) (n:Nat) (c:Array Bool->Act->Prop):Nat->Array Bool->Act->Prop
 |0,listed,a=>c listed a
 |f+1,listed,a=>
  Region.ready md ops listed≠[]/\∀b∈Region.ready md ops listed,b<n/\qOp P ops C b (Ws P md ops C n c f (listed.setIfInBounds b true)) a
theorem qT {n g:Nat} {d:Array Bool->Act->Prop} {Q':Exit->Act->World->Prop} (e:∀b a w,C w->d b a->wpAny P md ops Q' g b a w):
  ∀(c:Nat) (b:Array Bool) (a:Act) (w:World),C w->Ws P md ops C n d c b a->wpAny P md ops Q' (c+g) b a w
 |0,b,a,w,hw,h=>by rw[Nat.zero_add];exact e _ _ _ hw h
 |c+1,b,a,w,hw,h=>by
  rw[show c+1+g=(c+g)+1 by omega];exact⟨λj=>absurd j h.1,λm k=>wpOp_of_qOp hw (λf o l i=>qT e c _ f o l i) (h.2 m k).2⟩
theorem Wt {n i:Nat} {l:Oper} {v:Value} {z:Array Bool->Act->Prop} (A:ops[i]?=some l) (M:∀(a:Nat) (N:Oper) p o,ops[a]?=some N->N.op≠.select p o)
  (L:Region.sinkB md ops n=true) (J:vF md ops n=true) (K:n<ops.size) (F:i<n)
  (T:∀b f,z b f->∀a∈Region.ready md ops b,n<=a):
  ∀(q:Nat) (b:Array Bool) (f:Act),HeadInv md ops n b->
   (∀a j,ops[a]?=some j->a≠i->b.getD a true=false->(∀c∈j.after,Region.binds md c=true->c.on≠i)->l.apart ops j=true)->
   i∈Region.ready md ops b->YieldsIn P ops C l v f->
   Ws P md ops C n z q (b.setIfInBounds i true) (f.put l.dst v)->Ws P md ops C n z (q+1) b f:=by
 intro q
 induction q with
 |zero=>
  intro b f y _ e x m;have u:=(mem_ready.1 e).1;refine⟨λh=>(by rw[h]at e;cases e),λa g=>?_⟩;have t:a<n:=by
   rcases Nat.lt_or_ge a n with h|h
   .exact h
   .exact absurd g (Ao L J K y _ i rfl F u a h)
  refine⟨t,?_⟩;by_cases d:a=i
  .subst d;exact x.qOp A m
  .have:=T _ _ m a (ready_mono g d)
   omega
 |succ q ih=>
  intro b f y E e x m;have u:=(mem_ready.1 e).1;refine⟨λh=>(by rw[h]at e;cases e),λa g=>?_⟩;have t:a<n:=by
   rcases Nat.lt_or_ge a n with h|h
   .exact h
   .exact absurd g (Ao L J K y _ i rfl F u a h)
  refine⟨t,?_⟩;by_cases d:a=i
  .subst d;exact x.qOp A m
  .have s:=(m.2 a (ready_mono g d)).2
   obtain⟨H,j,B,R⟩:=mem_ready.1 g;have a0:∀c∈j.after,Region.binds md c=true->c.on≠i:=λc U S V=>by
    have s:=R c U S;rw[V,getD_both u]at s;cases s
   have Q:=qOp_put B (E a j B d H a0) (λp o=>M i l p o A) (λp o=>M a j p o B) x s;have W:∀k r,ops[k]?=some r->k≠i->(b.setIfInBounds a true).getD k true=false->
     (∀c∈r.after,Region.binds md c=true->c.on≠i)->l.apart ops r=true:=λk r X Y I Z=>by
    refine E k r X Y ?_ Z;by_cases G:a=k
    .subst G;exact H
    .rw[getD_set_ne true G]at I;exact I
   refine qOp_mono (λO D=>ih (b.setIfInBounds a true) O (y.set g t) W (ready_mono e (Ne.symm d)) D.1 ?_) Q;rw[Array.setIfInBounds_comm _ _ d];exact D.2
theorem AZ {n:Nat} {i:Act->Prop} (t:Region.noSelect ops=true) (s:Region.sinkB md ops n=true) (m:vF md ops n=true) (p:n<ops.size):
  ∀(b:List Oper) (a:Nat) (d f:Array Bool) (e:Act),(∀c,c<b.length->b[c]?=ops[a+c]?)->a+b.length=n->HeadInv md ops n d->
  xO md ops b.length a d=true->setFrom b.length a d=f->Region.ready md ops f=[n]->wpQuiet P ops C i b e->
  Ws P md ops C n (λu k=>u=f/\i k) b.length d e
 |[],a,d,f,e,_,hk,_,hB,hf,q,h=>⟨hf,h⟩
 |o::b,a,d,f,e,hlk,hk,inv,hB,hf,hrn,h=>by
  (have g:ops[a]?=some o:=by simpa using(hlk 0 (by simp)).symm);simp only[List.length_cons,xO,Bool.and_eq_true]at hB;obtain⟨⟨q,z⟩,v⟩:=hB;(have l:a<n:=by simp only[List.length_cons]at hk;omega);(have r:a∈Region.ready md ops d:=by simpa using q);(have A:qOp P ops C a (wpQuiet P ops C i b) e:=by unfold qOp;simp only[g];exact h);obtain⟨D,B,x⟩:=yieldsIn_of_qOp g A;refine Wt g (Region.noSelect_spec t) s m p l (λu k y c j=>?_) b.length d e inv (Region.free_spec g z) r B
   (AZ t s m p b (a+1) _ f _ (λc j=>by have:=hlk (c+1) (by simp;omega);simpa[Nat.add_assoc,Nat.add_comm 1 c]using this) (by simp only[List.length_cons]at hk;omega) (inv.set r l) v hf hrn x)
  rw[y.1,hrn]at j;(have:c=n:=by simpa using j);omega
theorem qK:∀(b a:Nat) (c:Array Bool),setFrom (b+1) a c=(setFrom b a c).setIfInBounds (a+b) true
 |0,a,c=>by simp[setFrom]
 |b+1,a,c=>by
  rw[setFrom,qK b (a+1)];rw[setFrom];congr 1;omega
theorem uR {R:Nat} {Q:Exit->Act->World->Prop} {a:Act} {w:World} {l:List Oper} (n:Nat) (K:P.follows .mixedOrders=true) (s:phB .any l.toArray n=true)
  (C:World->Prop) (F:C {w with drawn:=w.drawn+1})
  (h:wpQuiet P l.toArray C (λo=>∀e,C e->wpOp P l.toArray Q n (λp c=>wpQuiet P l.toArray (λm=>∃_:Unit,m=c) (λf=>Q .normal f c) (l.drop (n+1)) p) o e) (l.take n) a):(Code.region R l.toArray true).wp P Q a w:=by
 simp only[phB,Bool.and_eq_true,decide_eq_true_eq]at s;obtain⟨⟨⟨⟨⟨⟨A,z⟩,L⟩,d⟩,H⟩,y⟩,i⟩:=s;(have T:n<l.length:=by simpa using z);(have b:(l.take n).length=n:=by simp;omega);have S:HeadInv .any l.toArray n (Array.replicate l.toArray.size false):=
  ⟨by simp,λk V _ d=>(by rw[getD_replicate_false]at d;cases d),λW _ M=>getD_in (by simpa using M) (getD_replicate_false _ _)⟩
 have B:=AZ (md:=.any) A L d z (l.take n) 0 _ (setFrom n 0 (Array.replicate l.toArray.size false)) a (λk x=>by
  (have J:k<n:=by rw[b]at x;exact x);simp[J]) (by simpa using b) S (by rw[b];exact H) (by rw[b]) i h
 refine wp_region_any K ?_;(have u:(l.drop (n+1)).length=l.toArray.size -(n+1):=by simp);have t:=qT (Q':=Q) (g:=l.toArray.size -n) (λU o e O G=>by
  obtain⟨rfl,D⟩:=G;rw[show l.toArray.size -n=(l.toArray.size -(n+1))+1 by omega];refine⟨λr=>(by rw[i]at r;cases r),λj v=>?_⟩;rw[i]at v;(have I:j=n:=by simpa using v);subst I;refine wpOp_mono (λp c E=>?_) (D e O);have q:=qK j 0 (Array.replicate l.toArray.size false);rw[Nat.zero_add]at q;rw[<-q,<-u];rw[<-u]at y;exact wpAny_of_quiet (C:=λm=>∃_:Unit,m=c) (Q:=λf=>Q .normal f c) (λ_ _ N h=>by obtain⟨_,rfl⟩:=N;exact h) _ _ _ _ ⟨(),rfl⟩
   (wpAnyQ_lex A _ (j+1) _ _ (λk=>by simp[List.getElem?_drop]) y E)) _ _ _ _ F B
 rw[b,show n+(l.toArray.size -n)=l.toArray.size by omega]at t;exact t
theorem bP {k:Nat} {Q:Exit->Act->World->Prop} {a:Act} {w:World} {l:List Oper} (n:Nat) (j:P.follows .mixedOrders=true) (i:phB .any l.toArray n=true)
  (h:wpQuiet P l.toArray (λb=>∃n,b=w.drewN n) (λe=>∀c,(∃n,c=w.drewN n)->wpOp P l.toArray Q n (λf d=>wpQuiet P l.toArray (λb=>∃_:Unit,b=d) (λg=>Q .normal g d) (l.drop (n+1)) f) e c) (l.take n) a):(Code.region k l.toArray true).wp P Q a w:=
 uR n j i (λb=>∃n,b=w.drewN n) ⟨1,rfl⟩ h
theorem dA {l:List Oper} {n:Nat} {o:Oper} {a:Act} {w:World} {K:Act->World->Prop} {Q:Exit->Act->World->Prop} (b:l[n]?=some o) (c:Region.wanted o (yielded l.toArray a.tmps)=true) (h:o.wp P a w K Q):wpOp P l.toArray Q n K a w:=by
 unfold wpOp;rw[show l.toArray[n]?=some o by simpa using b];simp only[c,if_true];exact .inl h
end
structure BW (w:World)where
 val:World
 same:Below w.heap.size w val
instance(w:World):Nonempty (BW w):=⟨⟨w,Below.refl _ _⟩⟩
section
variable {P:Program} {w:World}
theorem BW.cell (x:BW w) {b o:Nat} (h:b<w.heap.size):x.val.cell? ⟨b,o,none⟩=w.cell? ⟨b,o,none⟩:=x.same.cell (p:=⟨b,o,none⟩) h
theorem BW.frozen (x:BW w) {b o:Nat} (h:b<w.heap.size):x.val.frozen? ⟨b,o,none⟩=w.frozen? ⟨b,o,none⟩:=x.same.frozen (p:=⟨b,o,none⟩) h
theorem bU {f:FuncId} {args:Array Value} {v:Value} (x:BW w) (h:Calls P f args x.val λa b=>a=.returned v/\Below x.val.heap.size x.val b):
  Calls P f args x.val λa e=>a=.returned v/\∃g:BW w,e=g.val:=
 h.mono λ_ b ⟨d,c⟩=>⟨d,⟨b,x.same.trans (c.mono x.same.size)⟩,rfl⟩
theorem fq {g:Nat} {Q:Exit->Act->World->Prop} {a:Act} {w:World} {l:List Oper} (f:P.follows .mixedOrders=true) (e:Region.lexB .any l.toArray=true)
  (h:wpQuiet P l.toArray (λb=>∃c:BW w,b=c.val) (λd=>∀b,(∃c:BW w,b=c.val)->Q .normal d b) l a):(Code.region g l.toArray true).wp P Q a w:=
 wp_region_quiet (C:=λb=>∃c:BW w,b=c.val) f e ⟨⟨{w with drawn:=w.drawn+1},⟨rfl,rfl,rfl,Nat.le_refl _,λ_ _=>rfl⟩⟩,rfl⟩ (by simpa using h)
theorem dQ {m:Nat} {Q:Exit->Act->World->Prop} {a:Act} {w:World} {l:List Oper} (n:Nat) (k:P.follows .mixedOrders=true) (j:phB .any l.toArray n=true)
  (h:wpQuiet P l.toArray (λb=>∃c:BW w,b=c.val) (λf=>∀d,(∃c:BW w,d=c.val)->wpOp P l.toArray Q n (λg e=>wpQuiet P l.toArray (λb=>∃_:Unit,b=e) (λi=>Q .normal i e) (l.drop (n+1)) g) f d) (l.take n) a):(Code.region m l.toArray true).wp P Q a w:=
 uR n k j (λb=>∃c:BW w,b=c.val) ⟨⟨{w with drawn:=w.drawn+1},⟨rfl,rfl,rfl,Nat.le_refl _,λ_ _=>rfl⟩⟩,rfl⟩ h
end
structure Bp (p:Prop):Prop where
 o:p
theorem mQ {a b:Prop} (g:b) (h:Bp b->a:=by
 intro h;refine wp_region_quiet_lit (by kernel_rfl) (by kernel_rfl) ?_;(repeat (first|go_big_quiet_step (fail)|quiet_step (fail)));refine wpQuiet_nil ?_;exact h.o):a:=h ⟨g⟩
theorem mA {a b:Prop} (g:b) (h:Bp b->a:=by
 intro h;simp only[List.drop_succ_cons,List.drop_zero,List.take_succ_cons,List.take_zero,Nat.reduceSub];(repeat (first|go_big_quiet_step (fail)|quiet_step (fail)));refine wpQuiet_nil ?_;exact h.o):a:=h ⟨g⟩
theorem mB {a b:Prop} (g:b) (h:Bp b->a:=by
 intro h;simp only[List.take_succ_cons,List.take_zero,List.drop_succ_cons,List.drop_nil];(repeat (first|go_big_quiet_step (fail)|quiet_step (fail)));refine wpQuiet_nil ?_;exact h.o):a:=h ⟨g⟩
theorem mC {a b:Prop} (g:b) (h:Bp b->a:=by
 intro h;simp only[List.drop_succ_cons,List.drop_zero,List.drop_nil];(repeat (first|go_big_quiet_step (fail)|quiet_step (fail)));refine wpQuiet_nil ?_;exact h.o):a:=h ⟨g⟩
theorem mR {a b:Prop} (g:b) (h:Bp b->a:=by
 intro h;(repeat (first|go_big_quiet_step (fail)|quiet_step (fail)));refine wpQuiet_nil ?_;exact h.o):a:=h ⟨g⟩
theorem mZ {a b:Prop} (g:b) (h:Bp b->a:=by
 intro h
 (try simp only[Exit.inBlock,Exit.then])
 refine bodyPost_ret (by simp[results,Tryz.results10,Tryz.results28,Tryz.results38,Tryz.results39,Tryz.results47,Tryz.results52,Tryz.results57,Tryz.results60,Tryz.results67,Tryz.results73,Tryz.results80,Tryz.results84,Tryz.results90,Tryz.results92,Tryz.results111,Tryz.results115,Tryz.results119,Tryz.results124,Tryz.results126,Tryz.results129,Tryz.results138,Tryz.results139,Tryz.results142,Tryz.results145,Tryz.results186,Tryz.results193,Tryz.results194,Tryz.results202,go_sem, *];try rfl) rfl ?_;exact h.o):a:=h ⟨g⟩
theorem mV {a b:Prop} (g:b) (h:Bp b->a:=by
 intro h;repeat ((fail_if_success (with_reducible apply bodyPost_ret));first|go_values|go_skip|go_guarded|go_step|go_upon|go_back|go_simp)
 (try simp only[Exit.inBlock,Exit.then])
 refine bodyPost_ret (by simp[results,Tryz.results10,Tryz.results28,Tryz.results38,Tryz.results39,Tryz.results47,Tryz.results52,Tryz.results57,Tryz.results60,Tryz.results67,Tryz.results73,Tryz.results80,Tryz.results84,Tryz.results90,Tryz.results92,Tryz.results111,Tryz.results115,Tryz.results119,Tryz.results124,Tryz.results126,Tryz.results129,Tryz.results138,Tryz.results139,Tryz.results142,Tryz.results145,Tryz.results186,Tryz.results193,Tryz.results194,Tryz.results202,go_sem, *];try rfl) rfl ?_;exact h.o):a:=h ⟨g⟩
theorem bwI {w:World} {K:World->Prop} (h:∀a,Below w.heap.size w a->K a):∀a,(∃e:BW w,a=e.val)->K a:=by
 intro a c;obtain⟨⟨f,d⟩,b⟩:=c;replace b:a=f:=b;subst b;exact h _ d
section
variable {P:Program} {ops:Array Oper} {md:Region.Mode} {C:World->Prop}
def FE (md:Region.Mode) (ops:Array Oper) (c n:Nat):Bool:=
 (List.range n).all λa=>decide (a<c)||(List.range (n+1)).any λb=>decide (a<b)&&Region.waitsFor md ops b a
theorem EO {d:Nat} {b:Array Bool} (h:∀a,a<d->b.getD a false=true) (j:Nat):∀a,a<d->(b.setIfInBounds j true).getD a false=true:=by
 intro a f;have:=h a f;by_cases c:j=a
 .subst c
  rw[Array.getD_eq_getD_getElem?]at this|-;by_cases e:j<b.size
  .simp[e]
  .rw[Array.getElem?_eq_none (by omega)]at this;cases this
 .rw[Array.getD_eq_getD_getElem?]at this|-
  rw[Array.getElem?_setIfInBounds_ne c];exact this
theorem yT {u n:Nat} {f:Array Bool} (G:FE md ops u n=true) (E:vF md ops n=true) (M:n<ops.size) (l:HeadInv md ops n f) (x:∀a,a<u->f.getD a false=true):
  ∀(j i:Nat),n -i=j->i<n->f.getD i true=false->∀a,n<=a->a∉Region.ready md ops f:=by
 intro j
 induction j using Nat.strongRecOn with
 |_ j ih=>
  intro i K y o a N t;obtain⟨_,J,m,p⟩:=mem_ready.1 t;have H:a<ops.size:=(Array.getElem?_eq_some_iff.1 m).1;by_cases I:a=n
  .subst I
   have b:=List.all_eq_true.1 G i (List.mem_range.2 y);rw[Bool.or_eq_true]at b;have b:=b.resolve_left (λD=>by have:=x i (of_decide_eq_true D);rw[getD_both o]at this;cases this);obtain⟨e,z,q⟩:=List.any_eq_true.1 b;simp only[Bool.and_eq_true,decide_eq_true_eq]at q;obtain⟨v,r,d,k,g,s⟩:=Region.waitsFor_spec q.2;(have L:e<=a:=by have:=List.mem_range.1 z;omega);by_cases B:e=a
   .subst B
    have w:v=J:=Option.some.inj (r.symm.trans m);subst w;have c:=p d k g;rw[s,getD_both o]at c;cases c
   .cases hlj:f.getD e false with
    |true=>
     have c:=l.closed e v r hlj d k g;rw[s,getD_both o]at c;cases c
    |false=>
     (have A:e<f.size:=by rw[l.size];omega);exact ih (a -e) (by omega) e rfl (by omega) (getD_in A hlj) a (Nat.le_refl _) t
  .have b:=List.all_eq_true.1 E a (List.mem_range.2 H)
   rw[Bool.or_eq_true,m]at b;rcases b with b|b
   .have:=of_decide_eq_true b;omega
   .obtain⟨d,k,g⟩:=Array.any_eq_true'.1 b
    simp only[Bool.and_eq_true,decide_eq_true_eq]at g;have c:=p d k g.1;by_cases F:d.on<ops.size
    .rw[getD_both (l.tail d.on g.2 F)]at c;cases c
    .have:f.getD d.on false=false:=by rw[Array.getD_eq_getD_getElem?,Array.getElem?_eq_none (by rw[l.size];omega)];rfl
     rw[this]at c;cases c
theorem Dl {N n i:Nat} {l:Oper} {v:Value} {z:Array Bool->Act->Prop} (A:ops[i]?=some l) (M:∀(a:Nat) (O:Oper) p o,ops[a]?=some O->O.op≠.select p o)
  (L:FE md ops N n=true) (J:vF md ops n=true) (K:n<ops.size) (F:i<n)
  (V:∀b f,z b f->∀a∈Region.ready md ops b,n<=a):
  ∀(q:Nat) (b:Array Bool) (f:Act),HeadInv md ops n b->(∀Q,Q<N->b.getD Q false=true)->
   (∀a j,ops[a]?=some j->a≠i->b.getD a true=false->(∀c∈j.after,Region.binds md c=true->c.on≠i)->l.apart ops j=true)->
   i∈Region.ready md ops b->YieldsIn P ops C l v f->
   Ws P md ops C n z q (b.setIfInBounds i true) (f.put l.dst v)->Ws P md ops C n z (q+1) b f:=by
 intro q
 induction q with
 |zero=>
  intro b f y t _ e x m;have w:=(mem_ready.1 e).1;refine⟨λh=>(by rw[h]at e;cases e),λa g=>?_⟩;have u:a<n:=by
   rcases Nat.lt_or_ge a n with h|h
   .exact h
   .exact absurd g (yT L J K y t _ i rfl F w a h)
  refine⟨u,?_⟩;by_cases d:a=i
  .subst d;exact x.qOp A m
  .have:=V _ _ m a (ready_mono g d)
   omega
 |succ q ih=>
  intro b f y t E e x m;have w:=(mem_ready.1 e).1;refine⟨λh=>(by rw[h]at e;cases e),λa g=>?_⟩;have u:a<n:=by
   rcases Nat.lt_or_ge a n with h|h
   .exact h
   .exact absurd g (yT L J K y t _ i rfl F w a h)
  refine⟨u,?_⟩;by_cases d:a=i
  .subst d;exact x.qOp A m
  .have s:=(m.2 a (ready_mono g d)).2
   obtain⟨H,j,B,T⟩:=mem_ready.1 g;have a2:∀c∈j.after,Region.binds md c=true->c.on≠i:=λc W U X=>by
    have s:=T c W U;rw[X,getD_both w]at s;cases s
   have S:=qOp_put B (E a j B d H a2) (λp o=>M i l p o A) (λp o=>M a j p o B) x s;have Y:∀k r,ops[k]?=some r->k≠i->(b.setIfInBounds a true).getD k true=false->
     (∀c∈r.after,Region.binds md c=true->c.on≠i)->l.apart ops r=true:=λk r Z a0 I a1=>by
    refine E k r Z a0 ?_ a1;by_cases G:a=k
    .subst G;exact H
    .rw[getD_set_ne true G]at I;exact I
   refine qOp_mono (λR D=>ih (b.setIfInBounds a true) R (y.set g u) (EO t a) Y (ready_mono e (Ne.symm d)) D.1 ?_) S;rw[Array.setIfInBounds_comm _ _ d];exact D.2
theorem zX {u n:Nat} {i:Act->Prop} (t:Region.noSelect ops=true) (s:FE md ops u n=true) (m:vF md ops n=true) (p:n<ops.size):
  ∀(b:List Oper) (a:Nat) (c f:Array Bool) (e:Act),(∀d,d<b.length->b[d]?=ops[a+d]?)->a+b.length=n->HeadInv md ops n c->(∀w,w<u->c.getD w false=true)->
  xO md ops b.length a c=true->setFrom b.length a c=f->Region.ready md ops f=[n]->wpQuiet P ops C i b e->
  Ws P md ops C n (λv k=>v=f/\i k) b.length c e
 |[],a,c,f,e,_,hk,_,_,hB,hf,q,h=>⟨hf,h⟩
 |o::b,a,c,f,e,hlk,hk,inv,hft,hB,hf,hrn,h=>by
  (have g:ops[a]?=some o:=by simpa using(hlk 0 (by simp)).symm);simp only[List.length_cons,xO,Bool.and_eq_true]at hB;obtain⟨⟨q,A⟩,x⟩:=hB;(have l:a<n:=by simp only[List.length_cons]at hk;omega);(have r:a∈Region.ready md ops c:=by simpa using q);(have B:qOp P ops C a (wpQuiet P ops C i b) e:=by unfold qOp;simp only[g];exact h);obtain⟨E,D,y⟩:=yieldsIn_of_qOp g B;refine Dl g (Region.noSelect_spec t) s m p l (λv k z d j=>?_) b.length c e inv hft (Region.free_spec g A) r D
   (zX t s m p b (a+1) _ f _ (λd j=>by have:=hlk (d+1) (by simp;omega);simpa[Nat.add_assoc,Nat.add_comm 1 d]using this) (by simp only[List.length_cons]at hk;omega) (inv.set r l) (EO hft a) x hf hrn y)
  rw[z.1,hrn]at j;(have:d=n:=by simpa using j);omega
end
section
variable {P:Program} {md:Region.Mode}
def Sz (md:Region.Mode) (ops:Array Oper) (c:Array Bool):Bool:=
 (List.range ops.size).all λb=> !c.getD b false||match ops[b]?with
  |some o=>o.after.all λa=> !Region.binds md a||c.getD a.on false
  |none=>true
def frontB (k:Nat) (a:Array Bool):Bool:=(List.range k).all λb=>a.getD b false
def tailB (ops:Array Oper) (n:Nat) (b:Array Bool):Bool:=(List.range ops.size).all λa=>decide (a<n)||b.getD a true==false
def stB (ops:Array Oper) (k:Nat):Array Bool:=setFrom k 0 (Array.replicate ops.size false)
def phB2 (md:Region.Mode) (ops:Array Oper) (k n:Nat):Bool:=
 Region.noSelect ops&&decide (n<ops.size)&&decide (k<=n)&&FE md ops k n&&vF md ops n&&Sz md ops (stB ops k)&&frontB k (stB ops k)&&tailB ops n (stB ops k)&&xO md ops (n -k) k (stB ops k)&&decide (Region.ready md ops (stB ops n)=[n])
theorem yF:∀(a c:Nat) (b:Array Bool),(setFrom a c b).size=b.size
 |0,_,_=>rfl
 |a+1,c,b=>by rw[setFrom,yF a];simp
theorem Ac:∀(a b c:Nat) (d:Array Bool),setFrom (a+b) c d=setFrom b (c+a) (setFrom a c d)
 |0,b,c,d=>by simp[setFrom]
 |a+1,b,c,d=>by
  rw[show a+1+b=(a+b)+1 by omega,setFrom,Ac a b,setFrom];congr 1;omega
theorem eQ {Q:Exit->Act->World->Prop} {a:Act} {w:World} {l:List Oper} (k n:Nat) (t:phB2 .any l.toArray k n=true) (C:World->Prop) (B:C w)
  (h:wpQuiet P l.toArray C (λp=>∀m,C m->wpOp P l.toArray Q n (λq z=>wpAny P .any l.toArray Q (l.toArray.size -(n+1)) (stB l.toArray (n+1)) q z) p m) ((l.drop k).take (n -k)) a):
  wpAny P .any l.toArray Q (l.toArray.size -k) (stB l.toArray k) a w:=by
 simp only[phB2,Bool.and_eq_true,decide_eq_true_eq]at t;obtain⟨⟨⟨⟨⟨⟨⟨⟨⟨O,v⟩,X⟩,N⟩,M⟩,F⟩,I⟩,S⟩,K⟩,o⟩:=t;have J:∀c,c<k->(stB l.toArray k).getD c false=true:=λc x=>List.all_eq_true.1 I c (List.mem_range.2 x);(have Y:n<l.length:=by simpa using v);(have f:((l.drop k).take (n -k)).length=n -k:=by simp;omega);have V:HeadInv .any l.toArray n (stB l.toArray k):=by
  refine⟨by simp[stB,yF],λy a0 e G W H E=>?_,λc x T=>?_⟩
  .have b:=List.all_eq_true.1 F y (List.mem_range.2 (Array.getElem?_eq_some_iff.1 e).1)
   rw[G,e]at b;simp only[Bool.not_true,Bool.false_or]at b;obtain⟨j,i,rfl⟩:=Array.mem_iff_getElem.1 H;have d:=Array.all_eq_true.1 b j i;rw[E]at d;simpa using d
  .have b:=List.all_eq_true.1 S c (List.mem_range.2 T)
   simp only[Bool.or_eq_true,decide_eq_true_eq,beq_iff_eq]at b;rcases b with b|b
   .omega
   .exact b
 have R:setFrom ((l.drop k).take (n -k)).length k (stB l.toArray k)=stB l.toArray n:=by
  rw[f];have:=Ac k (n -k) 0 (Array.replicate l.toArray.size false);rw[show k+(n -k)=n by omega,Nat.zero_add]at this;exact this.symm
 have A:=zX (md:=.any) O N M v ((l.drop k).take (n -k)) k _ (stB l.toArray n) a (λy e=>by
  rw[f]at e;simp[List.getElem?_drop,e]) (by rw[f];omega) V J (by rw[f];exact K) R o h
 have u:=qT (Q':=Q) (g:=l.toArray.size -n) (λZ p m U D=>by
  obtain⟨rfl,b⟩:=D;rw[show l.toArray.size -n=(l.toArray.size -(n+1))+1 by omega];refine⟨λs=>(by rw[o]at s;cases s),λj i=>?_⟩;rw[o]at i;(have L:j=n:=by simpa using i);subst L;refine wpOp_mono (λq z d=>?_) (b m U);have r:=qK j 0 (Array.replicate l.toArray.size false);rw[Nat.zero_add]at r;unfold stB at d|-;rw[<-r];exact d) _ _ _ _ B A
 rw[f,show n -k+(l.toArray.size -n)=l.toArray.size -k by omega]at u;exact u
theorem jY {Q:Exit->Act->World->Prop} {a:Act} {w:World} {l:List Oper} (k:Nat) (f:Region.noSelect l.toArray=true) (d:Region.lexFrom .any l.toArray (l.toArray.size -k) k (stB l.toArray k)=true)
  (h:wpQuiet P l.toArray (λc=>∃_:Unit,c=w) (λb=>Q .normal b w) (l.drop k) a):wpAny P .any l.toArray Q (l.toArray.size -k) (stB l.toArray k) a w:=by
 (have e:(l.drop k).length=l.toArray.size -k:=by simp);rw[<-e]at d|-;exact wpAny_of_quiet (C:=λc=>∃_:Unit,c=w) (Q:=λb=>Q .normal b w) (λ_ _ g h=>by obtain⟨_,rfl⟩:=g;exact h) _ _ _ _ ⟨(),rfl⟩
  (wpAnyQ_lex f _ k _ _ (λi=>by simp[List.getElem?_drop]) d h)
theorem gN {c:Nat} {Q:Exit->Act->World->Prop} {a:Act} {w:World} {l:List Oper} (b:P.follows .mixedOrders=true)
  (h:wpAny P .any l.toArray Q (l.toArray.size -0) (stB l.toArray 0) a (w.drewN 1)):(Code.region c l.toArray true).wp P Q a w:=
 wp_region_any b (by simp only[stB,setFrom,Nat.sub_zero]at h;exact h)
theorem dR {Q:Exit->Act->World->Prop} {a:Act} {w:World} {l:List Oper} {o:Oper} {v:Value} (k:Nat) (g:l[k]?=some o)
  (d:(Region.noSelect l.toArray&&decide (k<l.toArray.size)&&Region.free .any l.toArray (stB l.toArray k) k&&(Region.ready .any l.toArray (stB l.toArray k)).contains k)=true)
  (e:∀b a w,Q (.panic b) (a.put o.dst v) w->Q (.panic b) a w) (hy:Yields P l.toArray o v a)
  (h:wpAny P .any l.toArray Q (l.toArray.size -(k+1)) (stB l.toArray (k+1)) (a.put o.dst v) w):wpAny P .any l.toArray Q (l.toArray.size -k) (stB l.toArray k) a w:=by
 simp only[Bool.and_eq_true,decide_eq_true_eq]at d;obtain⟨⟨⟨m,n⟩,f⟩,j⟩:=d;have c:=qK k 0 (Array.replicate l.toArray.size false);rw[Nat.zero_add]at c;rw[show l.toArray.size -k=(l.toArray.size -(k+1))+1 by omega];refine wpAny_take (i:=k) (by simpa using g) m f j e hy ?_;unfold stB at h|-;rw[<-c];exact h
theorem X9 {Q:Exit->Act->World->Prop} {a:Act} {w:World} {l:List Oper} {o:Oper} {v:Value} (k:Nat) (h:wpAny P .any l.toArray Q (l.toArray.size -(k+1)) (stB l.toArray (k+1)) (a.put o.dst v) w) (e:l[k]?=some o:=by exact rfl)
 (c:(Region.noSelect l.toArray&&decide (k<l.toArray.size)&&Region.free .any l.toArray (stB l.toArray k) k&&(Region.ready .any l.toArray (stB l.toArray k)).contains k)=true:=by kernel_rfl)
 (d:∀b a w,Q (.panic b) (a.put o.dst v) w->Q (.panic b) a w:=by exact λ_ _ _ h=>h) (f:Region.wanted o (yielded l.toArray a.tmps)=true:=by rfl) (hy:∀w,(execOp a.eval o).run P w=.ok (.value v) w:=by intro w;go_simp;try with_reducible rfl):wpAny P .any l.toArray Q (l.toArray.size -k) (stB l.toArray k) a w:=dR k e c d (.inl ⟨f,hy⟩) h
end
end Go.Proofs.YtiflndepmgnojaaGreat
