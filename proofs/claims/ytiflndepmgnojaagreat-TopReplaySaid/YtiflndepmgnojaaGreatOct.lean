import Derived.Laws.Bits64b
import Derived.LoopN
import Derived.Outline
import Derived.Test.YtiflndepmgnojaaGreatBase
namespace Go.Proofs.YtiflndepmgnojaaGreat
open Go.RowKit
set_option linter.unusedSimpArgs false
set_option linter.unusedVariables false
set_option maxHeartbeats 1000000
set_option maxRecDepth 100000
section
variable {P:Program} (w:World) {S:Nat->Prop} {ts:TypeId}
theorem run_append_nil (base:Nat) (t ty e:TypeId) (i:TypeInfo) (size:Nat) (d:P.underlying t=some (.slice e)) (b:P.info? e=some i)
  (v:Value) (n:Nat) (xs:List Value) (j:w.ownsRow base e size v n xs) (c:Nat):(Builtin.append_ #[t,t] ty #[v,.slice none 0 c]).run P w=.ok v w:=by
 rcases j.2 with⟨rfl,rfl⟩|⟨m,k,l,rfl,_,_,g,_⟩
 ·simp[Builtin.append_,run_underlying d,sizeOf,typeInfo,b,Builtin.lenOf,Builtin.firstCells]
 ·simp[Builtin.append_,run_underlying d,sizeOf,typeInfo,b,Builtin.lenOf,Builtin.firstCells,g,storeCells]
theorem uZ {ty:TypeId} (base:Nat) (t e:TypeId) (i:TypeInfo) (z:Value) (size bytes:Nat) (x:P.underlying t=some (.slice e)) (u:P.info? e=some i) (T:i.zero=some z)
  (O:i.size=size) (H:i.bytes=bytes) (U:z.cells.size=size) (R:0<size)
  (v:Value) (n:Nat) (xs:List Value) (r:w.ownsRow base e size v n xs)
  (A:Option Addr) (m c:Nat) (d:List Value) (k:Row w S ts size A m d) (B:∀g∈d,g.oneCell'=true)
  (F:n+m<=maxLen) (I:(n+m)*bytes<=140737488355328) (G:base<=w.heap.size):
  ∃j l,(Builtin.append_ #[t,t] ty #[v,.slice A m c]).run P w=.ok j l/\l.ownsRow base e size j (n+m) (xs++d)/\w.grownBy l v.ownBlock/\
   (j.ownBlock=v.ownBlock\/j.ownBlock=some w.heap.size):=by
 rcases A with _|s
 ·have M:m=0:=by
   rcases Nat.eq_zero_or_pos m with b|b
   ·exact b
   ·obtain⟨_,_,h,_⟩:=k.at_ b
    cases h
  subst M;have q:d=[]:=dV (by simpa using k.1);subst q;exact⟨v,w,run_append_nil w base t ty e i size x u v n xs r c,by simpa using r,World.grownBy.refl w _,.inl rfl⟩
 ·have L:∀p g,d[p]?=some g->w.cell? (s.add p)=some g:=by
   intro p g y;rcases Nat.eq_zero_or_pos m with b|b
   ·subst b
    have q:d=[]:=dV (by simpa using k.1);subst q;simp at y
   ·obtain⟨V,W,h,_,_,J⟩:=k.at_ b
    injection h with h;subst h;rw[Go.WideShapes.add_plain];exact J p g y
  obtain⟨j,l,N,C,D,_,E⟩:=run_append_own_at (P:=P) w base t ty e i z size bytes x u T O H U R v n xs r s m c d k.1 L B F I G;exact⟨j,l,N,C,D,E⟩
variable {ops:Array Oper} {rest:List Oper} {o:Oper} {a:Act} {K:Act->World->Prop} {Q:Exit->Act->World->Prop}
end
theorem nT {w:World} {base:Nat} {e:TypeId} {size n:Nat} {v:Value} {xs:List Value} (h:w.ownsRow base e size v n xs):
  ∃a k,v=.slice a n k/\(∀b,a=some ⟨b,0,none⟩->base<=b/\b<w.heap.size)/\Row w (λj=>base<=j/\j<w.heap.size) e size a n xs:=by
 obtain⟨m,p⟩:=id h;rcases p with⟨rfl,rfl⟩|⟨b,q,r,rfl,c,g,_⟩
 ·refine⟨_,_,rfl,(λb c=>by cases c),?_⟩
  have:xs=[]:=dV (by simpa using m);subst this;exact Row.WH
 ·exact⟨_,_,rfl,(λl d=>by injection d with e;injection e with e;subst e;exact⟨c,WT g⟩),Row.Xt h (λl d=>by injection d with e;injection e with e;subst e;exact⟨c,WT g⟩)⟩
theorem iq (w:World) (base:Nat) (e:TypeId) (size:Nat):w.ownsRow base e size (.slice none 0 0) 0 []:=⟨sM,.inl ⟨rfl,rfl⟩⟩
theorem P4 {w:World} {b d:Nat} {e:TypeId} {size n:Nat} {v:Value} {xs:List Value} (h:w.ownsRow b e size v n xs) (hb:d<=b):w.ownsRow d e size v n xs:=by
 obtain⟨l,c⟩:=h;refine⟨l,?_⟩;rcases c with c|⟨k,g,j,m,q,p⟩
 ·exact .inl c
 ·exact .inr ⟨k,g,j,m,oM,p⟩
theorem jM {w:World} {b:Nat} {e:TypeId} {size n:Nat} {v:Value} {xs:List Value} (h:w.ownsRow b e size v n xs):∀c,v.ownBlock=some c->b<=c:=by
 intro c d;rcases h.2 with⟨rfl,_⟩|⟨k,g,j,rfl,l,_⟩
 ·simp[Value.ownBlock]at d
 ·simp[Value.ownBlock]at d;omega
theorem zI {w:World} {b:Nat} {e:TypeId} {size n:Nat} {v:Value} {xs:List Value} (h:w.ownsRow b e size v n xs):∀d,v.ownBlock=some d->d<w.heap.size:=by
 intro d c;rcases h.2 with⟨rfl,_⟩|⟨l,j,k,rfl,_,g,_⟩
 ·simp[Value.ownBlock]at c
 ·simp[Value.ownBlock]at c;subst c;exact WT g
theorem IL {w w':World} {b:Nat} {e:TypeId} {size n c m:Nat} {a:Option Addr} {xs:List Value} (h:w.ownsRow b e size (.slice a m c) n xs) (v:∀d,a=some ⟨d,0,none⟩->w'.heap[d]?=w.heap[d]?):w'.ownsRow b e size (.slice a m c) n xs:=by
 obtain⟨q,r⟩:=h;refine⟨q,?_⟩;rcases r with⟨g,p⟩|⟨d,j,k,g,s,u,x⟩
 ·exact .inl ⟨g,p⟩
 ·refine .inr ⟨d,j,k,g,s,?_,x⟩
  injection g with l;rw[v d l];exact u
theorem yG {w:World} {g:Nat} {t:TypeId} {b:Array Value} {size n:Nat} (h:Blk w g t b) (c:b.size=n*size):Row w (λj=>j=g) t size (some ⟨g,0,none⟩) n b.toList:=
 ⟨by simpa using c,λ_=>⟨g,0,b,_,rfl,rfl,h,λk l d=>by simpa using d⟩⟩
structure Elem (P:Program) (t e:TypeId) (size bytes:Nat) {α:Type} (f:α->List Value):Prop where
 ht:P.underlying t=some (.slice e)
 ex:∃i z,P.info? e=some i/\i.zero=some z/\i.size=size/\i.bytes=bytes/\z.cells.size=size
 pos:0<size
 len:∀x,(f x).length=size
 one:∀x,∀u∈f x,u.oneCell'=true
section
variable {α:Type} {f:α->List Value} {P:Program} {t e:TypeId} {size bytes:Nat} {w:World} {S:Nat->Prop} {ts:TypeId}
theorem Elem.run (E:Elem P t e size bytes f) {ty:TypeId} (base:Nat) (A:Option Addr) (k:Nat) (xs:List α) (x:w.ownsRow base e size (.slice A xs.length k) xs.length (xs.flatMap f))
  (B:Option Addr) (c:Nat) (b:List α) (y:Row w S ts size B b.length (b.flatMap f)) (s:xs.length+b.length<=1000000000000) (hb:bytes<=140) (u:base<=w.heap.size):
  ∃g j d,(Builtin.append_ #[t,t] ty #[.slice A xs.length k,.slice B b.length c]).run P w=.ok (.slice g (xs++b).length j) d/\d.ownsRow base e size (.slice g (xs++b).length j) (xs++b).length ((xs++b).flatMap f)/\
   w.grownBy d (Value.slice A xs.length k).ownBlock:=by
 obtain⟨i,H,m,n,p,q,r⟩:=E.ex;have I:(xs.length+b.length)*bytes<=1000000000000*140:=Nat.mul_le_mul s hb;obtain⟨J,d,z,l,v,_⟩:=uZ (P:=P) (ty:=ty) w base t e i H size bytes E.ht m n p q r E.pos _ _ _ x B b.length c _ y (λF C=>by obtain⟨G,_,D⟩:=List.mem_flatMap.1 C;exact E.one G F D) (by simp only[maxLen];omega) oM u;obtain⟨g,j,rfl,_,_⟩:=nT l;exact⟨g,j,d,by rw[aU];exact z,by rw[aU,iE];exact l,v⟩
variable {ops:Array Oper} {rest:List Oper} {o:Oper} {a:Act} {K:Act->World->Prop} {Q:Exit->Act->World->Prop}
theorem Elem.wp (E:Elem P t e size bytes f) (s x:Operand) (q:o.op=.call {callee:=.builtin .append,args:= #[s,x],argTypes:= #[t,t]})
  (base:Nat) (A:Option Addr) (j:Nat) (xs:List α) (y:a.eval s=.slice A xs.length j) (r:w.ownsRow base e size (.slice A xs.length j) xs.length (xs.flatMap f))
  (B:Option Addr) (c:Nat) (b:List α) (z:a.eval x=.slice B b.length c) (u:Row w S ts size B b.length (b.flatMap f)) (n:xs.length+b.length<=1000000000000) (hb:bytes<=140) (p:base<=w.heap.size)
  (h:∀g k d,d.ownsRow base e size (.slice g (xs++b).length k) (xs++b).length ((xs++b).flatMap f)->w.grownBy d (Value.slice A xs.length j).ownBlock->K (a.put o.dst (.slice g (xs++b).length k)) d):o.wp P a w K Q:=by
 obtain⟨g,k,d,v,l,m⟩:=E.run (ty:=o.type) base A j xs r B c b u n hb p;unfold Oper.wp execOp;simp only[q,resolve,invoke,builtin,Sem.run_bind,Sem.run_pure,Result.andThen_ok,List.map_toArray,List.map_cons,List.map_nil,y,z,v];exact h g k d l m
theorem Elem.wpList (E:Elem P t e size bytes f) (r:o.guard=none) (s x:Operand) (u:o.op=.call {callee:=.builtin .append,args:= #[s,x],argTypes:= #[t,t]})
  (base:Nat) (A:Option Addr) (j:Nat) (xs:List α) (z:a.eval s=.slice A xs.length j) (v:w.ownsRow base e size (.slice A xs.length j) xs.length (xs.flatMap f))
  (B:Option Addr) (c:Nat) (b:List α) (C:a.eval x=.slice B b.length c) (y:Row w S ts size B b.length (b.flatMap f)) (n:xs.length+b.length<=1000000000000) (hb:bytes<=140) (q:base<=w.heap.size)
  (h:∀g k d,d.ownsRow base e size (.slice g (xs++b).length k) (xs++b).length ((xs++b).flatMap f)->w.grownBy d (Value.slice A xs.length j).ownBlock->Go.wpList P ops Q rest (a.put o.dst (.slice g (xs++b).length k)) d):Go.wpList P ops Q (o::rest) a w:=
 wpList_plain r λ_ p=>E.wp s x u base A j xs z v B c b C y n hb q λg k d l m=>p _ _ (h g k d l m)
theorem Elem.step {X:Prop} (E:Elem P t e size bytes f) (n:o.guard=none) (s x:Operand) (p:o.op=.call {callee:=.builtin .append,args:= #[s,x],argTypes:= #[t,t]})
  (base:Nat) (A:Option Addr) (d:Nat) (xs:List α) (u:a.eval s=.slice A xs.length d) (q:w.ownsRow base e size (.slice A xs.length d) xs.length (xs.flatMap f))
  (B:Option Addr) (c:Nat) (b:List α) (y:a.eval x=.slice B b.length c) (r:Row w S ts size B b.length (b.flatMap f)) (l:xs.length+b.length<=1000000000000) (hb:bytes<=140) (m:base<=w.heap.size)
  (h:∀j k g,g.ownsRow base e size (.slice j (xs++b).length k) (xs++b).length ((xs++b).flatMap f)->w.grownBy g (Value.slice A xs.length d).ownBlock->K (a.put o.dst (.slice j (xs++b).length k)) g):
  if Region.wanted o (yielded ops a.tmps)=true then Oper.wp P o a w K Q else X:=by
 (have v:Region.wanted o (yielded ops a.tmps)=true:=by simp[Region.wanted,n]);rw[aB v];exact E.wp s x p base A d xs u q B c b y r l hb m h
theorem Elem.single (E:Elem P t e size bytes f) {g:Nat} (x:α) {b:Array Value} (d:Blk w g ts b) (c:b.toList=f x):Row w (λj=>j=g) ts size (some ⟨g,0,none⟩) [x].length ([x].flatMap f):=by
 have h:=yG (size:=size) (n:=1) d (by have:=E.len x;rw[<-c]at this;simpa using this);rw[c]at h;simpa using h
end
def fE (a:Option Addr) (c lo size:Nat):Option Addr:=if c=lo then a else a.map (·.add (lo*size))
theorem lD {b d c lo size:Nat} (h:lo<c):fE (some ⟨b,d,none⟩) c lo size=some ⟨b,d+lo*size,none⟩:=by
 unfold fE;rw[Ww oM];simp[Go.WideShapes.add_plain]
section
variable {P:Program} {t e:TypeId} {i:TypeInfo}
theorem gI (d:P.underlying t=some (.slice e)) (b:P.info? e=some i) (a:Option Addr) (n c k:Nat) (h:k<=n) (w:World):
  (Instr.slice t (.slice a n c) (some (.int .i64 (k:Int))) none none).run P w=.ok (.slice (fE a c k i.size) (n -k) (c -k)) w:=by
 have g:(0:Int)<=(k:Int)/\(k:Int)<=(n:Int):=oM;simp[Instr.slice,Instr.sliceBounds,Instr.sliceBound,asIntOf,run_underlying d,sizeOf,typeInfo,b,h,fE]
theorem tY (d:P.underlying t=some (.slice e)) (b:P.info? e=some i) (a:Option Addr) (n c k:Nat) (h:k<=c) (w:World):
  (Instr.slice t (.slice a n c) none (some (.int .i64 (k:Int))) none).run P w=.ok (.slice (fE a c 0 i.size) k c) w:=by
 simp[Instr.slice,Instr.sliceBounds,Instr.sliceBound,asIntOf,run_underlying d,sizeOf,typeInfo,b,h,fE]
theorem qL (g:P.underlying t=some (.slice e)) (b:P.info? e=some i) (a:Option Addr) (n c k m:Nat) (h:k<=m) (d:m<=c) (w:World):
  (Instr.slice t (.slice a n c) (some (.int .i64 (k:Int))) (some (.int .i64 (m:Int))) none).run P w=.ok (.slice (fE a c k i.size) (m -k) (c -k)) w:=by
 simp[Instr.slice,Instr.sliceBounds,Instr.sliceBound,asIntOf,run_underlying g,sizeOf,typeInfo,b,h,d,fE]
end
@[go_sem]theorem OJ (w:World) (a b:Addr) (v:Value):((w.setCell b v).cell? a).isSome=(w.cell? a).isSome:=by
 by_cases h:b=a
 ·subst h
  cases hc:w.cell? b with
  |some x=>rw[World.cell?_setCell_same w b v hc];rfl
  |none=>
   unfold World.cell? at hc|-;simp only[World.setCell,Array.getElem?_modify,if_true];cases hh:w.heap[b.block]?with
   |none=>rfl
   |some o=>
    rw[hh]at hc;cases o with
    |cells c e f=>
     simp only[Option.map_some]at hc|-;split
     ·rfl
     ·next hs=>
      rw[Ww hs]at hc;have:=Array.getElem?_eq_none_iff.1 hc;rw[Array.getElem?_eq_none (by simpa using this)]
    |_=>rfl
 ·rw[World.cell?_setCell_other w b a v h]
def byV (x:Int):List Value:=[.int .u8 x]
def Bys (w:World) (S:Nat->Prop) (a:Option Addr) (l:List Int):Prop:=Row w S 5 1 a l.length (l.flatMap byV)
def dP (l:List Int):Prop:=∀a∈l,0<=a/\a<256
theorem lF:(Tryz.prog.info? 5).map (λa=>(a.zero,a.size,a.bytes))=some (some (.int .u8 0),1,1):=by kernel_rfl
theorem fe:Elem Tryz.prog 47 5 1 1 byV:=
 ⟨Tryz.underlying47,by
  obtain⟨f,b,c,d,e⟩:=info_parts lF;exact⟨f,_,b,c,d,e,rfl⟩,dC,λ_=>rfl,λi g a=>by simp[byV]at a;rw[a];rfl⟩
theorem vT (l:List Int):l.flatMap byV=l.map (Value.int .u8):=by
 induction l with
 |nil=>rfl
 |cons x t ih=>simp[byV,ih]
theorem Bys.at_ {w w':World} {S:Nat->Prop} {a:Option Addr} {l:List Int} {j:Nat} (h:Bys w S a l) (hb:bW w w') (g:j<l.length):
  ∃b c,a=some ⟨b,c,none⟩/\b<w.heap.size/\w'.cell? ⟨b,c+j,none⟩=some (.int .u8 l[j]):=by
 obtain⟨b,c,e,i,d,f⟩:=Row.at_ h oM;refine⟨b,c,e,d,(hb.cell (p:=⟨b,c+j,none⟩) d).trans (f j _ ?_)⟩;rw[vT];simp[g]
def Byt (tb:TypeId) (w:World) (S:Nat->Prop) (a:Option Addr) (l:List Int):Prop:=Row w S tb 1 a l.length (l.flatMap byV)
theorem Bys.WH {w:World} {S:Nat->Prop} {a:Option Addr}:Bys w S a []:=Row.WH
theorem wT {w:World} {S:Nat->Prop} {a:Option Addr} {l:List Int} {k m:Nat} (h:Bys w S a l) (j:k<=m) (d:m<=l.length) (a':Option Addr) (g:k<m->∀b c,a=some ⟨b,c,none⟩->a'=some ⟨b,c+k,none⟩):Bys w S a' ((l.take m).drop k):=by
 have f:=(Row.take h d).drop j (a':=a') (λn b c i=>by rw[Nat.mul_one];exact g n b c i);unfold Bys;rw[bI,aT,fJ d];have e:((l.take m).drop k).flatMap byV=((l.flatMap byV).take (m*1)).drop (k*1):=by
  rw[vT,vT,List.map_drop,List.map_take,Nat.mul_one,Nat.mul_one]
 rw[e];exact f
theorem zo {w:World} {g:Nat} {a:Array Value} {l:List Int} (h:Blk w g 5 a) (b:a.toList=l.map (Value.int .u8)):Row w (λc=>c=g) 5 1 (some ⟨g,0,none⟩) l.length (l.flatMap byV):=by
 have:=yG (size:=1) (n:=l.length) h (by have:=lY List.length b;simpa using this)
 rwa [b,<-vT]at this
theorem oF (n:Int) (w:World):Calls Tryz.prog 174 #[uI n] w λe f=>e=.returned (jI (eU n))/\w=f:=by
 unfold eU;by_cases a:n<64
 ·rw[aB a]
  go_enter Tryz.func174,Tryz.ntmps174;go_wp2_with fail;go_ret;exact⟨rfl,rfl⟩
 ·rw[Ww a]
  (have g:decide (n<64)=false:=by simp;omega);by_cases b:n<16384
  ·rw[aB b]
   go_enter Tryz.func174,Tryz.ntmps174;go_wp2_with fail;go_ret;exact⟨rfl,rfl⟩
  ·rw[Ww b]
   (have i:decide (n<16384)=false:=by simp;omega);by_cases c:n<1073741824
   ·rw[aB c]
    go_enter Tryz.func174,Tryz.ntmps174;go_wp2_with fail;go_ret;exact⟨rfl,rfl⟩
   ·rw[Ww c]
    (have j:decide (n<1073741824)=false:=by simp;omega);by_cases d:n<=4611686018427387903
    ·rw[aB d]
     go_enter Tryz.func174,Tryz.ntmps174;go_wp2_with fail;go_ret;exact⟨rfl,rfl⟩
    ·rw[Ww d]
     (have k:decide (n<=4611686018427387903)=false:=by simp;omega);go_enter Tryz.func174,Tryz.ntmps174;go_wp2_with fail;go_ret;exact⟨rfl,rfl⟩
theorem P7:∀a:Fin 64,bits BinOp.or IntKind.u8 (a.val:Int) 64=(a.val:Int)+64/\bits BinOp.or IntKind.u8 (a.val:Int) 128=(a.val:Int)+128/\bits BinOp.or IntKind.u8 (a.val:Int) 192=(a.val:Int)+192:=by decide+kernel
theorem Gb {x:Int} (a:0<=x) (c:x<64):bits BinOp.or IntKind.u8 x 64=x+64/\bits BinOp.or IntKind.u8 x 128=x+128/\bits BinOp.or IntKind.u8 x 192=x+192:=by
 obtain⟨b,rfl⟩:=bH a;exact P7 ⟨b,oM⟩
theorem Oh {n:Int} (a:0<=n) (b:n<18446744073709551616):lu n=[n/72057594037927936,n/281474976710656%256,n/1099511627776%256,n/4294967296%256,n/16777216%256,n/65536%256,n/256%256,n%256]:=by
 unfold lu;simp only[kM,List.nil_append,List.cons_append,List.cons.injEq,and_true]
 (repeat' apply And.intro)<;>omega
theorem zQ (n:Int) (g:Word n) (w:World):Calls Tryz.prog 219 #[uI n] w λe b=>∃c d,e=.returned (.slice c (lu n).length d)/\Bys b (λa=>w.heap.size<=a/\a<b.heap.size) c (lu n)/\bW w b:=by
 obtain⟨i,j⟩:=g;rw[Oh i j];(have k:∀w:World,(Instr.makeSlice 47 (jI 8) (jI 8)).run Tryz.prog w=.ok (.slice (some ⟨w.heap.size,0,none⟩) 8 8) (w.alloc (.cells #[.int .u8 0,.int .u8 0,.int .u8 0,.int .u8 0,.int .u8 0,.int .u8 0,.int .u8 0,.int .u8 0] 5)):=λ_=>by kernel_rfl);go_enter Tryz.func219,Tryz.ntmps219;go_wp2_with fail;refine wp_loop_rounds 9 ?_;(repeat (rw[rounds_succ];go_wp2_with fail));go_ret;exact⟨_,_,rfl,aF (zo (Wx _ _ _) rfl) (λa f=>by subst f;simp),BEL⟩
theorem Vj {n:Int} (b:0<=n) (c:n<64):kY n=[n]/\eU n=1:=by
 (have a:eU n=1:=by unfold eU;(repeat' split)<;>omega);refine⟨?_,a⟩;unfold kY;rw[a];simp only[kM,Cg,oP,List.nil_append,List.cons_append,List.cons.injEq,and_true,aB,Ww,reduceIte,Nat.reduceEqDiff];omega
theorem PO (n:Int) (k:0<=n) (l:n<64) (w:World):Calls Tryz.prog 162 #[uI n] w λe a=>∃d j,e=.returned (.tuple #[.slice d (kY n).length j,bV true])/\Bys a (λc=>w.heap.size<=c/\c<a.heap.size) d (kY n)/\bW w a:=by
 obtain⟨f,g⟩:=Vj k l;have b:=oF n;rw[g]at b;rw[f];have i:=zH b;clear f g b;have p:0<=n:=oM;have q:n<18446744073709551616:=oM;(have o:∀w:World,(Instr.makeSlice 47 (jI 1) (jI 1)).run Tryz.prog w=.ok (.slice (some ⟨w.heap.size,0,none⟩) 1 1) (w.alloc (.cells #[.int .u8 0] 5)):=λ_=>by kernel_rfl);go_enter Tryz.func162,Tryz.ntmps162;go_wp2_with fail;refine(i.out _).mono ?_;rintro e a ⟨rfl,rfl⟩;go_wp2_with fail;refine wp_loop_rounds 2 ?_;(repeat (rw[rounds_succ];go_wp2_with fail));go_ret2;refine⟨_,_,rfl,?_,BEL⟩;exact aF (zo (Wx _ _ _) rfl) (λc m=>by subst m;simp)
theorem Vi {n:Int} (b:64<=n) (c:n<16384):kY n=[n/256+64,n%256]/\eU n=2:=by
 (have a:eU n=2:=by unfold eU;(repeat' split)<;>omega);refine⟨?_,a⟩;unfold kY;rw[a];simp only[kM,Cg,oP,List.nil_append,List.cons_append,List.cons.injEq,and_true,aB,Ww,reduceIte,Nat.reduceEqDiff]
 (repeat' apply And.intro)<;>omega
theorem PN (n:Int) (m:64<=n) (o:n<16384) (w:World):Calls Tryz.prog 162 #[uI n] w λe a=>∃d l,e=.returned (.tuple #[.slice d (kY n).length l,bV true])/\Bys a (λc=>w.heap.size<=c/\c<a.heap.size) d (kY n)/\bW w a:=by
 obtain⟨f,g⟩:=Vi m o;have b:=oF n;rw[g]at b;rw[f];have k:=zH b;clear f g b;have r:0<=n:=oM;have s:n<18446744073709551616:=oM;(have q:∀w:World,(Instr.makeSlice 47 (jI 2) (jI 2)).run Tryz.prog w=.ok (.slice (some ⟨w.heap.size,0,none⟩) 2 2) (w.alloc (.cells #[.int .u8 0,.int .u8 0] 5)):=λ_=>by kernel_rfl);have i:=(Gb (x:=n/256) oM oM).1;have j:=zH i;clear i;go_enter Tryz.func162,Tryz.ntmps162;go_wp2_with fail;refine(k.out _).mono ?_;rintro e a ⟨rfl,rfl⟩;go_wp2_with fail;refine wp_loop_rounds 3 ?_;(repeat (rw[rounds_succ];go_wp2_with fail));go_ret2;refine⟨_,_,rfl,?_,BEL⟩;rw[j.out];exact aF (zo (Wx _ _ _) rfl) (λc p=>by subst p;simp)
theorem Vh {n:Int} (b:16384<=n) (c:n<1073741824):kY n=[n/16777216+128,n/65536%256,n/256%256,n%256]/\eU n=4:=by
 (have a:eU n=4:=by unfold eU;(repeat' split)<;>omega);refine⟨?_,a⟩;unfold kY;rw[a];simp only[kM,Cg,oP,List.nil_append,List.cons_append,List.cons.injEq,and_true,aB,Ww,reduceIte,Nat.reduceEqDiff]
 (repeat' apply And.intro)<;>omega
theorem PM (n:Int) (m:16384<=n) (o:n<1073741824) (w:World):Calls Tryz.prog 162 #[uI n] w λe a=>∃d l,e=.returned (.tuple #[.slice d (kY n).length l,bV true])/\Bys a (λc=>w.heap.size<=c/\c<a.heap.size) d (kY n)/\bW w a:=by
 obtain⟨f,g⟩:=Vh m o;have b:=oF n;rw[g]at b;rw[f];have k:=zH b;clear f g b;have r:0<=n:=oM;have s:n<18446744073709551616:=oM;(have q:∀w:World,(Instr.makeSlice 47 (jI 4) (jI 4)).run Tryz.prog w=.ok (.slice (some ⟨w.heap.size,0,none⟩) 4 4) (w.alloc (.cells #[.int .u8 0,.int .u8 0,.int .u8 0,.int .u8 0] 5)):=λ_=>by kernel_rfl);have i:=(Gb (x:=n/16777216) oM oM).2.1;have j:=zH i;clear i;go_enter Tryz.func162,Tryz.ntmps162;go_wp2_with fail;refine(k.out _).mono ?_;rintro e a ⟨rfl,rfl⟩;go_wp2_with fail;refine wp_loop_rounds 5 ?_;(repeat (rw[rounds_succ];go_wp2_with fail));go_ret2;refine⟨_,_,rfl,?_,BEL⟩;rw[j.out];exact aF (zo (Wx _ _ _) rfl) (λc p=>by subst p;simp)
theorem Vg {n:Int} (b:1073741824<=n) (c:n<4611686018427387904):kY n=[n/72057594037927936+192,n/281474976710656%256,n/1099511627776%256,n/4294967296%256,n/16777216%256,n/65536%256,n/256%256,n%256]/\eU n=8:=by
 (have a:eU n=8:=by unfold eU;(repeat' split)<;>omega);refine⟨?_,a⟩;unfold kY;rw[a];simp only[kM,Cg,oP,List.nil_append,List.cons_append,List.cons.injEq,and_true,aB,Ww,reduceIte,Nat.reduceEqDiff]
 (repeat' apply And.intro)<;>omega
theorem XA (n:Int) (m:1073741824<=n) (o:n<4611686018427387904) (w:World):Calls Tryz.prog 162 #[uI n] w λe a=>∃d l,e=.returned (.tuple #[.slice d (kY n).length l,bV true])/\Bys a (λc=>w.heap.size<=c/\c<a.heap.size) d (kY n)/\bW w a:=by
 obtain⟨f,g⟩:=Vg m o;have b:=oF n;rw[g]at b;rw[f];have k:=zH b;clear f g b;have r:0<=n:=oM;have s:n<18446744073709551616:=oM;(have q:∀w:World,(Instr.makeSlice 47 (jI 8) (jI 8)).run Tryz.prog w=.ok (.slice (some ⟨w.heap.size,0,none⟩) 8 8) (w.alloc (.cells #[.int .u8 0,.int .u8 0,.int .u8 0,.int .u8 0,.int .u8 0,.int .u8 0,.int .u8 0,.int .u8 0] 5)):=λ_=>by kernel_rfl);have i:=(Gb (x:=n/72057594037927936) oM oM).2.2;have j:=zH i;clear i;go_enter Tryz.func162,Tryz.ntmps162;go_wp2_with fail;refine(k.out _).mono ?_;rintro e a ⟨rfl,rfl⟩;go_wp2_with fail;refine wp_loop_rounds 9 ?_;(repeat (rw[rounds_succ];go_wp2_with fail));go_ret2;refine⟨_,_,rfl,?_,BEL⟩;rw[j.out];exact aF (zo (Wx _ _ _) rfl) (λc p=>by subst p;simp)
theorem PQ (n:Int) (f:4611686018427387904<=n) (w:World):Calls Tryz.prog 162 #[uI n] w λb d=>b=.returned (.tuple #[.slice none 0 0,bV false])/\w=d:=by
 (have c:eU n=0:=by unfold eU;(repeat' split)<;>omega);have a:=oF n;rw[c]at a;have e:=zH a;clear c a;go_enter Tryz.func162,Tryz.ntmps162;go_wp2_with fail;refine(e.out _).mono ?_;rintro b d ⟨rfl,rfl⟩;go_wp2_with fail;go_ret2;exact⟨rfl,rfl⟩
theorem Xa (n:Int) (g:0<=n) (i:n<=4611686018427387903) (w:World):Calls Tryz.prog 162 #[uI n] w λf c=>∃a b,f=.returned (.tuple #[.slice a (kY n).length b,bV true])/\Bys c (λd=>w.heap.size<=d/\d<c.heap.size) a (kY n)/\bW w c:=by
 by_cases a:n<64
 ·exact PO n g a w
 ·by_cases e:n<16384
  ·exact PN n oM e w
  ·by_cases b:n<1073741824
   ·exact PM n oM b w
   ·exact XA n oM oM w
structure pu (w:World) (S:Nat->Prop) (p:Nat) (l:List Int):Prop where
 ex:∃a c,Blk w p 309 #[.slice a l.length c]/\Bys w S a l/\l.length<=c
theorem pu.lt {w:World} {S:Nat->Prop} {p:Nat} {l:List Int} (h:pu w S p l):p<w.heap.size:=by obtain⟨a,b,h,_⟩:=h.ex;exact h.lt
theorem pu.mono {w:World} {S S':Nat->Prop} {p:Nat} {l:List Int} (h:pu w S p l) (g:∀a,S a->S' a):pu w S' p l:=by obtain⟨b,c,d,e,f⟩:=h.ex;exact⟨b,c,d,aF e g,f⟩
theorem pu.below {w w':World} {S:Nat->Prop} {p:Nat} {l:List Int} (h:pu w S p l) (hb:bW w w'):pu w' S p l:=by
 obtain⟨b,c,a,d,e⟩:=h.ex;exact⟨b,c,a.below hb a.lt,aD d hb,e⟩
theorem Jd (S:Nat->Prop) (p:Nat) (l:List Int) (w:World) (h:pu w S p l):
  Calls Tryz.prog 99 #[pT p] w λb d=>b=.returned (jI l.length)/\w=d:=by
 obtain⟨e,f,a,c,i⟩:=h.ex;have g:=a.Wu 0;clear h a c;go_enter Tryz.func99,Tryz.ntmps99;go_wp2_with fail;go_ret;exact⟨rfl,rfl⟩
theorem BL {tb:TypeId} (S:Nat->Prop) (a:Option Addr) (c:Nat) (l:List Int) (w:World) (h:Byt tb w S a l) (J:l.length<=200000000000):
  Calls Tryz.prog 94 #[.slice a l.length c] w λm j=>∃i,m=.returned ((pT i))/\w.heap.size<=i/\pu j (λg=>w.heap.size<=g/\g<j.heap.size) i l/\bW w j:=by
 have s:=zH h;clear h;go_enter Tryz.func94,Tryz.ntmps94;go_wp2_with (at_builtin;refine fe.wpList rfl _ (.tmp 3) rfl w.heap.size none 0 [] (by rfl) (iq _ _ _ _) a c l (by rfl) s.out sO dC (av _) ?_;intro k e q p o;have n:bW w q:=(aj w.heap.size w).grown o (av _) (by simp[Value.ownBlock]);have r:=zH p;have d:=zH n;clear p o n);go_ret;have f:=r.out;rw[List.nil_append]at f;obtain⟨z,A,b,I,y⟩:=nT f;injection b with t D u;subst t u;have v:l.length<=e:=by
  rcases f.2 with⟨b,F⟩|⟨E,B,C,b,G,H,K,_⟩
  ·omega
  ·injection b with _ _ m;omega
 exact⟨_,rfl,d.out.size,⟨k,e,by simpa using Wx q 309 #[.slice k l.length e],aF (aD y ((aj _ _).alloc (av _) _)) (λg x=>⟨x.1,by simp;omega⟩),v⟩,d.out.alloc d.out.size _⟩
end Go.Proofs.YtiflndepmgnojaaGreat
