import Derived.Test.YtiflndepmgnojaaGreatOct
namespace Go.Proofs.YtiflndepmgnojaaGreat
open Go.RowKit
set_option linter.unusedSimpArgs false
set_option linter.unusedVariables false
set_option maxRecDepth 100000
structure OwnAt (w:World) (S:Nat->Prop) (e:TypeId) (size:Nat) (a:Option Addr) (n c:Nat) (xs:List Value):Prop where
 own:w.ownsRow 0 e size (.slice a n c) n xs
 mem:∀g,a=some ⟨g,0,none⟩->S g
section
variable {w w':World} {S S':Nat->Prop} {e t:TypeId} {size n c g:Nat} {a:Option Addr} {xs:List Value} {T ts:List (Option TypeId)} {cs:Array Value}
theorem OwnAt.WH:OwnAt w S e size none 0 0 []:=⟨iq _ _ _ _,λg h=>by cases h⟩
theorem OwnAt.row (h:OwnAt w S e size a n c xs):Row w S e size a n xs:=Row.Xt h.own h.mem
theorem OwnAt.mono (h:OwnAt w S e size a n c xs) (d:∀b,S b->S' b):OwnAt w S' e size a n c xs:=⟨h.own,λg i=>d g (h.mem g i)⟩
theorem OwnAt.keep (h:OwnAt w S e size a n c xs) (q:bQ S ts w w') (r:some e∈ts):OwnAt w' S e size a n c xs:=by
 refine⟨?_,h.mem⟩;obtain⟨k,b⟩:=h.own;refine⟨k,?_⟩;rcases b with b|⟨g,i,j,d,m,p,s⟩
 ·exact .inl b
 ·have l:a=some ⟨g,0,none⟩:=by injection d
  exact .inr ⟨g,i,j,d,m,q g _ (h.mem g l) p r,s⟩
theorem OwnAt.below (h:OwnAt w S e size a n c xs) (hb:bW w w'):OwnAt w' S e size a n c xs:=h.keep (ts:=[some e]) (bQ.below hb) sM
theorem OwnAt.cap_ (h:OwnAt w S e size a n c xs):n<=c:=by
 rcases h.own.2 with⟨b,j⟩|⟨g,d,i,b,_,_,k,_⟩
 ·omega
 ·injection b with _ _ e;omega
theorem OwnAt.bF (h:OwnAt w S e size a n c xs) {i:Nat} (C:i<xs.length):
  ∃g cs,a=some ⟨g,0,none⟩/\S g/\Blk w g e cs/\(∀(l:Nat) (b:Value),xs[l]?=some b->cs[l]?=some b)/\∀b,OwnAt (w.setCell ⟨g,i,none⟩ b) S e size a n c (xs.set i b):=by
 obtain⟨m,u⟩:=h.own;rcases u with⟨k,s⟩|⟨g,r,j,k,x,y,A,z,B,q⟩
 ·rw[s]at m;omega
 ·have v:a=some ⟨g,0,none⟩:=by injection k
  subst v;have p:Blk w g e j:=y;refine⟨g,j,rfl,h.mem g rfl,p,λl b d=>?_,λb=>⟨⟨by rw[List.length_set];exact m,.inr ⟨g,r,j.setIfInBounds i b,k,x,p.bF i b,A,z,by simpa using B,?_⟩⟩,h.mem⟩⟩
  ·rw[<-q,List.getElem?_take]at d
   split at d
   ·simpa using d
   ·cases d
  ·rw[Array.toList_setIfInBounds,List.take_set,q]
theorem Blk.mod (h:Blk w g t cs) (j:Mod S T w w') (k:some t∉T):Blk w' g t cs:=by
 rcases j.block g h.lt with d|⟨_,o,b,i⟩
 ·exact d.trans h
 ·unfold Blk at h;rw[h]at b;injection b with b;subst b;exact Wy i k
theorem Blk.out (h:Blk w g t cs) (i:Mod S T w w') (j:¬S g):Blk w' g t cs:=by
 rcases i.block g h.lt with b|⟨d,_⟩
 ·exact b.trans h
 ·exact Wy d j
theorem Blk.keep (h:Blk w g t cs) (d:bQ S ts w w') (b:S g) (i:some t∈ts):Blk w' g t cs:=d g _ b h i
theorem Mod.size' (h:Mod S T w w'):w.heap.size<=w'.heap.size:=h.size
end
section
variable {α:Type} {f:α->List Value} {P:Program} {t e:TypeId} {size bytes:Nat} {w:World} {S S2:Nat->Prop} {ts:TypeId}
theorem Elem.runO (E:Elem P t e size bytes f) {ty:TypeId} (A:Option Addr) (m:Nat) (xs:List α) (j:OwnAt w S e size A xs.length m (xs.flatMap f))
  (B:Option Addr) (c:Nat) (d:List α) (L:Row w S2 ts size B d.length (d.flatMap f)) (F:xs.length+d.length<=1000000000000) (hb:bytes<=140):
  ∃k l w',(Builtin.append_ #[t,t] ty #[.slice A xs.length m,.slice B d.length c]).run P w=.ok (.slice k (xs++d).length l) w'/\OwnAt w' (grow S w w') e size k (xs++d).length l ((xs++d).flatMap f)/\
   Mod S [some e] w w'/\w.grownBy w' (Value.slice A xs.length m).ownBlock:=by
 obtain⟨R,W,x,y,z,C,D⟩:=E.ex;have Z:(xs.length+d.length)*bytes<=1000000000000*140:=Nat.mul_le_mul F hb;obtain⟨a1,w',M,s,r,G⟩:=uZ (P:=P) (ty:=ty) w 0 t e R W size bytes E.ht x y z C D E.pos _ _ _ j.own B d.length c _ L (λU N=>by obtain⟨V,_,O⟩:=List.mem_flatMap.1 N;exact E.one V U O) (by simp only[maxLen];omega) oM (jV _);obtain⟨k,l,rfl,J,_⟩:=nT s;refine⟨k,l,w',by rw[aU];exact M,⟨by rw[aU,iE];exact s,?_⟩,?_,r⟩
 ·intro g H
  subst H;have Y:=(J g rfl).2;rcases G with b|b
  ·left
   rcases j.own.2 with⟨i,_⟩|⟨p,u,v,i,_⟩
   ·rw[i]at b;simp[Value.ownBlock]at b
   ·have q:A=some ⟨p,0,none⟩:=by injection i
    subst q;simp[Value.ownBlock]at b;subst b;exact j.mem _ rfl
  ·right
   simp[Value.ownBlock]at b;omega
 ·refine(aV S [some e] w).grown r ?_
  intro a0 b X;rcases j.own.2 with⟨i,_⟩|⟨p,u,v,i,_,I,_⟩
  ·rw[i]at b;simp[Value.ownBlock]at b
  ·have q:A=some ⟨p,0,none⟩:=by injection i
   subst q;simp[Value.ownBlock]at b;subst b;exact⟨j.mem _ rfl,_,I,by simp[nH]⟩
variable {ops:Array Oper} {rest:List Oper} {o:Oper} {a:Act} {K:Act->World->Prop} {Q:Exit->Act->World->Prop}
theorem Elem.wpO (E:Elem P t e size bytes f) (s x:Operand) (q:o.op=.call {callee:=.builtin .append,args:= #[s,x],argTypes:= #[t,t]})
  (A:Option Addr) (i:Nat) (xs:List α) (y:a.eval s=.slice A xs.length i) (r:OwnAt w S e size A xs.length i (xs.flatMap f))
  (B:Option Addr) (c:Nat) (b:List α) (z:a.eval x=.slice B b.length c) (u:Row w S2 ts size B b.length (b.flatMap f)) (p:xs.length+b.length<=1000000000000) (hb:bytes<=140)
  (h:∀d j w',OwnAt w' (grow S w w') e size d (xs++b).length j ((xs++b).flatMap f)->Mod S [some e] w w'->w.grownBy w' (Value.slice A xs.length i).ownBlock->K (a.put o.dst (.slice d (xs++b).length j)) w'):o.wp P a w K Q:=by
 obtain⟨d,j,w',v,k,l,m⟩:=E.runO (ty:=o.type) A i xs r B c b u p hb;unfold Oper.wp execOp;simp only[q,resolve,invoke,builtin,Sem.run_bind,Sem.run_pure,Result.andThen_ok,List.map_toArray,List.map_cons,List.map_nil,y,z,v];exact h d j w' k l m
theorem Elem.jO (E:Elem P t e size bytes f) (r:o.guard=none) (s x:Operand) (u:o.op=.call {callee:=.builtin .append,args:= #[s,x],argTypes:= #[t,t]})
  (A:Option Addr) (i:Nat) (xs:List α) (z:a.eval s=.slice A xs.length i) (v:OwnAt w S e size A xs.length i (xs.flatMap f))
  (B:Option Addr) (c:Nat) (b:List α) (C:a.eval x=.slice B b.length c) (y:Row w S2 ts size B b.length (b.flatMap f)) (p:xs.length+b.length<=1000000000000) (hb:bytes<=140)
  (h:∀d j w',OwnAt w' (grow S w w') e size d (xs++b).length j ((xs++b).flatMap f)->Mod S [some e] w w'->w.grownBy w' (Value.slice A xs.length i).ownBlock->Go.wpList P ops Q rest (a.put o.dst (.slice d (xs++b).length j)) w'):Go.wpList P ops Q (o::rest) a w:=
 wpList_plain r λ_ q=>E.wpO s x u A i xs z v B c b C y p hb λd j w' k l m=>q _ _ (h d j w' k l m)
theorem Elem.Br {X:Prop} (E:Elem P t e size bytes f) (l:o.guard=none) (s x:Operand) (m:o.op=.call {callee:=.builtin .append,args:= #[s,x],argTypes:= #[t,t]})
  (A:Option Addr) (d:Nat) (xs:List α) (r:a.eval s=.slice A xs.length d) (p:OwnAt w S e size A xs.length d (xs.flatMap f))
  (B:Option Addr) (c:Nat) (b:List α) (v:a.eval x=.slice B b.length c) (q:Row w S2 ts size B b.length (b.flatMap f)) (k:xs.length+b.length<=1000000000000) (hb:bytes<=140)
  (h:∀i j w',OwnAt w' (grow S w w') e size i (xs++b).length j ((xs++b).flatMap f)->Mod S [some e] w w'->w.grownBy w' (Value.slice A xs.length d).ownBlock->K (a.put o.dst (.slice i (xs++b).length j)) w'):
  if Region.wanted o (yielded ops a.tmps)=true then Oper.wp P o a w K Q else X:=by
 (have u:Region.wanted o (yielded ops a.tmps)=true:=by simp[Region.wanted,l]);rw[aB u];exact E.wpO s x m A d xs r p B c b v q k hb h
theorem OwnAt.fresh {w w':World} {base:Nat} {e:TypeId} {size n c:Nat} {a:Option Addr} {xs:List Value} (h:w'.ownsRow base e size (.slice a n c) n xs):OwnAt w' (λb=>base<=b/\b<w'.heap.size) e size a n c xs:=
 ⟨P4 h (jV _),by
  intro g i;obtain⟨l,m,k,j,_⟩:=nT h;injection k with d;subst d;exact j g i⟩
end
theorem jw {w w':World} {g:Nat} {t:TypeId} {cs:Array Value} {S:Nat->Prop} {T:List (Option TypeId)} (d:Mod S T w w') (i:some t∉T:=by decide) (h:∃b,Blk w g t b/\b=cs:=by
  apply Exists.intro;apply And.intro
  ·repeat (first|with_reducible exact Wx _ _ _|with_reducible exact Blk.qN _ _ _ _|with_reducible exact Blk.IV _ _ _ _ _|with_reducible exact Blk.IU _ _ _ _ _ _|with_reducible assumption|with_reducible apply Blk.bF|with_reducible apply Blk.drewN|with_reducible apply Blk.drew|with_reducible apply Blk.alloc|with_reducible apply Blk.far)
   all_goals (first|(simp;done)|(simp;omega)|omega)
  ·simp):Blk w' g t cs:=by
 obtain⟨_,j,rfl⟩:=h;exact j.mod d i
theorem OwnAt.lt {w:World} {S:Nat->Prop} {e:TypeId} {size n c:Nat} {a:Option Addr} {xs:List Value} (h:OwnAt w S e size a n c xs):∀b,a=some ⟨b,0,none⟩->b<w.heap.size:=λb d=>zI h.own b (by rw[d];rfl)
theorem OwnAt.far {w:World} {S:Nat->Prop} {e:TypeId} {size n c q i:Nat} {u:Value} {a:Option Addr} {xs:List Value} (h:OwnAt w S e size a n c xs) (g:∀b,a=some ⟨b,0,none⟩->b≠q):OwnAt (w.setCell ⟨q,i,none⟩ u) S e size a n c xs:=
 ⟨IL h.own (λb d=>Below.heap_setCell _ _ _ _ (g b d)),h.mem⟩
theorem OwnAt.pI {w:World} {S:Nat->Prop} {e t:TypeId} {size n c q:Nat} {o:Array Value} {a:Option Addr} {xs:List Value} (h:OwnAt w S e size a n c xs) (hb:Blk w q t o) (r:t≠e):∀g,a=some ⟨g,0,none⟩->g≠q:=by
 intro g i d;subst d;rcases h.own.2 with⟨j,_⟩|⟨v,s,u,j,_,d,_⟩
 ·injection j with b;rw[b]at i;cases i
 ·injection j with b
  rw[i]at b;injection b with b;injection b with b;subst b;unfold Blk at hb;rw[hb]at d;injection d with d;injection d with _ p;exact r p
theorem WZ {α:Type} {f:α->List Value} {m:Nat} (d:∀b,(f b).length=m):∀(l:List α) (k:Nat),(l.drop k).flatMap f=(l.flatMap f).drop (k*m)
 |[],k=>by simp
 |b::t,0=>by simp
 |b::t,k+1=>by
  simp only[List.drop_succ_cons,List.flatMap_cons];rw[WZ d t k,List.drop_append,d,show(k+1)*m -m=k*m by rw[Nat.add_mul];omega];rw[show(f b).drop ((k+1)*m)=[]from List.drop_eq_nil_of_le (by rw[d,Nat.add_mul];omega),List.nil_append]
theorem pQ {α:Type} {f:α->List Value} {m:Nat} (d:∀b,(f b).length=m):∀(l:List α) (k:Nat),(l.take k).flatMap f=(l.flatMap f).take (k*m)
 |[],k=>by simp
 |b::t,0=>by simp
 |b::t,k+1=>by
  simp only[List.take_succ_cons,List.flatMap_cons];rw[pQ d t k,List.take_append,d,show(k+1)*m -m=k*m by rw[Nat.add_mul];omega];rw[List.take_of_length_le (l:=f b) (by rw[d,Nat.add_mul];omega)]
section
variable {α:Type} {f:α->List Value} {P:Program} {t e:TypeId} {size bytes:Nat} {w:World} {S:Nat->Prop} {ts:TypeId} {a:Option Addr} {c k m:Nat} {l:List α}
theorem Elem.drop (E:Elem P t e size bytes f) (h:Row w S ts size a l.length (l.flatMap f)) (g:k<=l.length) (j:l.length<=c):Row w S ts size (fE a c k size) (l.drop k).length ((l.drop k).flatMap f):=by
 have b:=Row.drop h g (a':=fE a c k size) (λn i o d=>by rw[d,lD oM]);rw[bI,WZ E.len];exact b
theorem Elem.take (E:Elem P t e size bytes f) (h:Row w S ts size a l.length (l.flatMap f)) (b:k<=l.length):Row w S ts size a (l.take k).length ((l.take k).flatMap f):=by
 have d:=Row.take h b;rw[aT,fJ b,pQ E.len];exact d
theorem Elem.part (E:Elem P t e size bytes f) (h:Row w S ts size a l.length (l.flatMap f)) (o:k<=m) (i:m<=l.length) (n:l.length<=c):Row w S ts size (fE a c k size) ((l.take m).drop k).length (((l.take m).drop k).flatMap f):=by
 have b:=E.take h i;(have p:(l.take m).length=m:=by rw[aT];omega);have d:=Row.drop b (k:=k) oM (a':=fE a c k size) (λq j r g=>by rw[g,lD oM]);rw[bI,WZ E.len];exact d
end
theorem Mod.nA {S F:Nat->Prop} {T T':List (Option TypeId)} {w k l:World} (h:Mod S T w k) (d:Mod F T' k l) (p:∀b,F b->w.heap.size<=b):Mod S T w l:=by
 refine⟨d.os.trans h.os,d.tape.trans h.tape,d.output.trans h.output,ay h.size d.size,λb m=>?_⟩;rcases d.block b (aC m h.size)with j|⟨j,_⟩
 ·rcases h.block b m with i|i
  ·exact .inl (j.trans i)
  ·exact .inr i
 ·have:=p b j;omega
theorem Row.lt_ {w:World} {S:Nat->Prop} {t:TypeId} {size n:Nat} {a:Option Addr} {xs:List Value} (h:Row w S t size a n xs):Row w (λd=>S d/\d<w.heap.size) t size a n xs:=
 ⟨h.1,λm=>by obtain⟨i,p,cs,j,e,k,b,l⟩:=h.2 m;exact⟨i,p,cs,j,e,⟨k,WT b⟩,b,l⟩⟩
structure gW (w:World) (S:Nat->Prop) (e:TypeId) (size:Nat) (a:Option Addr) (n c:Nat) (xs:List Value):Prop where
 len:xs.length=n*size
 ex:(a=none/\n=0/\c=0)\/∃g o cur,a=some ⟨g,o,none⟩/\S g/\Blk w g e cur/\n<=c/\c<=maxLen/\o+c*size<=cur.size/\(cur.toList.drop o).take (n*size)=xs
section
variable {w w':World} {S S' S2:Nat->Prop} {e t ts:TypeId} {size n c g:Nat} {a:Option Addr} {xs:List Value} {T:List (Option TypeId)} {tl:List (Option TypeId)} {cs:Array Value}
theorem gW.WH:gW w S e size none 0 0 []:=⟨sM,.inl ⟨rfl,rfl,rfl⟩⟩
theorem gW.mono (h:gW w S e size a n c xs) (k:∀b,S b->S' b):gW w S' e size a n c xs:=
 ⟨h.len,h.ex.imp id λ⟨g,o,d,i,j,l⟩=>⟨g,o,d,i,k _ j,l⟩⟩
theorem gW.keep (h:gW w S e size a n c xs) (k:bQ S tl w w') (l:some e∈tl):gW w' S e size a n c xs:=
 ⟨h.len,h.ex.imp id λ⟨g,o,d,i,b,j,m⟩=>⟨g,o,d,i,b,j.keep k b l,m⟩⟩
theorem gW.below (h:gW w S e size a n c xs) (hb:bW w w'):gW w' S e size a n c xs:=h.keep (tl:=[some e]) (bQ.below hb) sM
theorem gW.out (h:gW w S e size a n c xs) (m:Mod S' T w w') (l:∀d,S d->¬S' d):gW w' S e size a n c xs:=
 ⟨h.len,h.ex.imp id λ⟨g,o,i,j,b,k,p⟩=>⟨g,o,i,j,b,k.out m (l _ b),p⟩⟩
theorem gW.cap_ (h:gW w S e size a n c xs):n<=c:=by
 rcases h.ex with⟨_,b,i⟩|⟨g,o,d,_,_,_,b,_⟩
 ·omega
 ·exact b
theorem gW.row (h:gW w S e size a n c xs):Row w S e size a n xs:=by
 refine⟨h.len,λm=>?_⟩;rcases h.ex with⟨_,l,_⟩|⟨g,o,d,rfl,i,j,_,_,_,k⟩
 ·omega
 ·refine⟨g,o,d,_,rfl,i,j,λp q b=>?_⟩
  rw[<-k,List.getElem?_take]at b;split at b
  ·rw[List.getElem?_drop]at b;simpa using b
  ·cases b
theorem gW.Xt (h:OwnAt w S e size a n c xs):gW w S e size a n c xs:=by
 refine⟨h.own.1,?_⟩;rcases h.own.2 with⟨i,l⟩|⟨g,s,j,i,u,m,q,p,v,r⟩
 ·left;injection i with b k d;exact⟨b,l,d⟩
 ·right
  injection i with b k d;subst b d;exact⟨g,0,j,rfl,h.mem g rfl,m,q,p,oM,by simpa using r⟩
theorem Gf (g o k:Nat):(⟨g,o,none⟩:Addr).add k=⟨g,o+k,none⟩:=Go.WideShapes.add_plain _ _ _
theorem gW.tail (h:gW w S e size a n c xs) {k:Nat} (s:k<=n):gW w S e size (fE a c k size) (n -k) (c -k) (xs.drop (k*size)):=by
 refine⟨by rw[bI,h.len,Nat.sub_mul],?_⟩;rcases h.ex with⟨rfl,d,r⟩|⟨g,o,b,rfl,i,j,v,u,m,q⟩
 ·left;exact⟨by unfold fE;split<;>rfl,oM,oM⟩
 ·right
  by_cases l:c=k
  ·have p:n -k=0:=oM
   have d:n=k:=oM;refine⟨g,o,b,by unfold fE;rw[aB l],i,j,oM,oM,?_,?_⟩
   ·rw[l,Nat.sub_self,Nat.zero_mul,Nat.add_zero]
    exact ay (Nat.le_add_right _ _) m
   ·rw[p,Nat.zero_mul,List.take_zero]
    refine(List.drop_eq_nil_of_le ?_).symm;rw[h.len,d];exact av _
  ·refine⟨g,o+k*size,b,lD oM,i,j,oM,oM,?_,?_⟩
   ·rw[Nat.add_assoc,<-Nat.add_mul,Nat.add_sub_cancel' oM]
    exact m
   ·rw[<-q,List.drop_take,List.drop_drop,Nat.sub_mul]
theorem gW.bF (h:gW w S e size a n c xs) {i:Nat} (x:i<xs.length):
  ∃g o cs,a=some ⟨g,o,none⟩/\S g/\Blk w g e cs/\(∀(j:Nat) (b:Value),xs[j]?=some b->cs[o+j]?=some b)/\∀b,gW (w.setCell ⟨g,o+i,none⟩ b) S e size a n c (xs.set i b):=by
 have z:=h.row;rcases h.ex with⟨_,q,v⟩|⟨g,o,p,rfl,k,l,s,r,u,m⟩
 ·have:=h.len;rw[q]at this;omega
 ·have y:=h.len
  refine⟨g,o,p,rfl,k,l,λj b d=>?_,λb=>⟨by rw[List.length_set];exact h.len,.inr ⟨g,o,_,rfl,k,l.bF (o+i) b,s,r,by simpa using u,?_⟩⟩⟩
  ·rw[<-m,List.getElem?_take]at d
   split at d
   ·rw[List.getElem?_drop]at d;simpa using d
   ·cases d
  ·rw[Array.toList_setIfInBounds,List.drop_set,Ww oM,Nat.add_sub_cancel_left,List.take_set,m]
theorem gW.app {P:Program} {ty:TypeId} {i:TypeInfo} {z:Value} {bytes:Nat} (F:P.underlying t=some (.slice e)) (C:P.info? e=some i) (R:i.zero=some z) (b2:i.size=size) (Y:i.bytes=bytes) (b4:z.cells.size=size) (c0:0<size)
  (h:gW w S e size a n c xs) (b6:Bd S w) (B:Option Addr) (m u:Nat) (b:List Value) (p:Row w S2 ts size B m b) (W:∀j∈b,j.oneCell'=true)
  (X:n+m<=1000000000000) (hb:bytes<=140) (M:0<m):
  ∃G H w',(Builtin.append_ #[t,t] ty #[.slice a n c,.slice B m u]).run P w=.ok (.slice G (n+m) H) w'/\gW w' (grow S w w') e size G (n+m) H (xs++b)/\Mod S [some e] w w':=by
 subst b2;subst Y;(have a9:n+m<=maxLen:=by simp only[maxLen];omega);have b0:(n+m)*i.bytes<=1000000000000*140:=Nat.mul_le_mul X hb;(have A:(xs++b).length=(n+m)*i.size:=by rw[aU,h.len,p.1,Nat.add_mul]);have I:∀(l:Nat),l<n+m->
   gW (w.drew.alloc (.cells (xs.toArray++b.toArray++Builtin.zeroCells z.cells (grownCap w (n+m) l e -(n+m))) e)) (grow S w (w.drew.alloc (.cells (xs.toArray++b.toArray++Builtin.zeroCells z.cells (grownCap w (n+m) l e -(n+m))) e))) e i.size
    (some ⟨w.heap.size,0,none⟩) (n+m) (grownCap w (n+m) l e) (xs++b)/\
   Mod S [some e] w (w.drew.alloc (.cells (xs.toArray++b.toArray++Builtin.zeroCells z.cells (grownCap w (n+m) l e -(n+m))) e)):=by
  intro l b9;have a5:=grownCap_ge w (n+m) l e;have a2:grownCap w (n+m) l e<=maxLen:=grownCap_le_maxLen w (n+m) l e a9;refine⟨⟨A,.inr ⟨w.heap.size,0,_,rfl,.inr ⟨av _,sM⟩,heap_alloc_new w.drew _,a5,a2,?_,?_⟩⟩,(aV _ _ _).drew.alloc _⟩
  ·simp only[Array.size_append,List.size_toArray,size_zeroCells,b4,h.len,p.1,<-Nat.add_mul,Nat.zero_add]
   exact Nat.mul_le_mul_right _ oM
  ·simp only[Array.toList_append,List.append_assoc,List.drop_zero]
   rw[<-List.append_assoc,<-A];exact List.take_left
 rcases B with _|s
 ·obtain⟨_,_,v,_⟩:=p.at_ M
  cases v
 have D:∀k j,b[k]?=some j->w.cell? (s.add k)=some j:=by
  intro k j q;obtain⟨b5,c2,v,_,_,Z⟩:=p.at_ M;injection v with v;subst v;rw[Go.WideShapes.add_plain];exact Z k j q
 rcases h.ex with⟨rfl,V,a0⟩|⟨g,o,d,rfl,J,y,b8,a7,c1,O⟩
 ·subst V a0
  have b3:xs=[]:=dV (by simpa using h.len);subst b3;have x:=Go.run_append_nil (P:=P) w t ty e i z F C R s m u b p.1 D oM oM (by simp only[Nat.zero_add]at b0;omega);have r:=I 0 oM;simp only[Nat.zero_add,List.nil_append,Array.empty_append]at r|-;exact⟨_,_,_,x,r.1,r.2⟩
 ·by_cases E:n+m<=c
  ·have a6:(n+m)*i.size<=c*i.size:=Nat.mul_le_mul_right _ E
   (have a4:o+n*i.size+b.length<=d.size:=by rw[p.1];rw[Nat.add_mul]at a6;omega);have a3:=run_firstCells_some (P:=P) w i.size m s m u b p.1 D;have N:=run_storeCells_at P g (o+n*i.size) e b 0 d w y (by simpa using a4) W;simp only[Nat.add_zero]at N;have x:(Builtin.append_ #[t,t] ty #[.slice (some ⟨g,o,none⟩) n c,.slice (some s) m u]).run P w=
     .ok (.slice (some ⟨g,o,none⟩) (n+m) c) (w.setRow g (d.toList.take (o+n*i.size)++b++d.toList.drop (o+n*i.size+b.length)).toArray):=by
    simp[Builtin.append_,run_underlying F,sizeOf,typeInfo,C,Builtin.lenOf,E,a3,Gf,N]
   have a8:Mod S [some e] w (w.setRow g (d.toList.take (o+n*i.size)++b++d.toList.drop (o+n*i.size+b.length)).toArray):=by
    refine⟨rfl,rfl,rfl,sM,λU b7=>?_⟩;by_cases L:U=g
    ·subst L;exact .inr ⟨J,_,y,by simp[nH]⟩
    ·exact .inl (setRow_other w g U _ L)
   refine⟨_,_,_,x,⟨A,.inr ⟨g,o,_,rfl,.inl J,setRow_heap w g d _ e _ y,E,a7,?_,?_⟩⟩,a8⟩
   ·simp only[List.size_toArray,aU,aT,bI,Array.length_toList]
    omega
   ·have a1:o+n*i.size<=d.toList.length:=by simpa using(by omega:o+n*i.size<=d.size)
    rw[List.append_assoc,List.drop_append,aT,fJ a1,show o -(o+n*i.size)=0 by omega,List.drop_zero,List.drop_take,show o+n*i.size -o=n*i.size by omega,O,<-List.append_assoc,<-A];exact List.take_left
  ·have b1:∀k j,xs[k]?=some j->w.cell? ((⟨g,o,none⟩:Addr).add k)=some j:=by
    intro k j q;rw[Gf,cell_of_row w g (o+k) d e (0,0) y];rw[<-O,List.getElem?_take]at q;split at q
    ·rw[List.getElem?_drop]at q;simpa using q
    ·cases q
   have x:=run_append_grow (P:=P) w t ty e i z F C R ⟨g,o,none⟩ n c xs h.len b1 s m u b p.1 D oM oM (growslice_fits oM oM);have r:=I c oM;exact⟨_,_,_,x,r.1,r.2⟩
theorem gW.shift {P:Program} {ty j:TypeId} {i:TypeInfo} (b:P.underlying j=some (.slice e)) (A:P.info? e=some i) (U:i.size=size)
  (h:gW w S e size a n c xs) (H:∀F∈xs,F.oneCell'=true) {k:Nat} (a1:k<n):
  ∃w',(Builtin.copy_ #[j,j] ty #[.slice (fE a c (k+1) size) (n -(k+1)) (c -(k+1)),.slice (fE a c k size) (n -k) (c -k)]).run P w=.ok (goInt ((n -(k+1):Nat):Int)) w'/\
   gW w' S e size a n c (xs.take ((k+1)*size)++(xs.drop (k*size)).take ((n -(k+1))*size))/\Mod S [some e] w w':=by
 subst U;rcases h.ex with⟨_,Z,_⟩|⟨g,o,d,rfl,z,r,C,N,a3,E⟩
 (·omega);have I:fE (some (⟨g,o,none⟩:Addr)) c k i.size=some ⟨g,o+k*i.size,none⟩:=lD oM;rw[I];obtain⟨cs,q⟩:=eX ((xs.drop (k*i.size)).take ((n -(k+1))*i.size));(have y:(n -(k+1))*i.size+(k+1)*i.size=n*i.size:=by rw[<-Nat.add_mul];congr 1;omega);(have Y:(k+1)*i.size=k*i.size+i.size:=by rw[Nat.add_mul,Nat.one_mul]);have s:=h.len;have p:cs.length=(n -(k+1))*i.size:=by
  rw[q,aT,bI,s];omega
 have a2:n*i.size<=c*i.size:=Nat.mul_le_mul_right _ C;have V:∀l m,cs[l]?=some m->w.cell? ((⟨g,o+k*i.size,none⟩:Addr).add l)=some m:=by
  intro l F b;rw[Gf,cell_of_row w g (o+k*i.size+l) d e (0,0) r];rw[q,List.getElem?_take]at b;split at b
  ·rw[List.getElem?_drop,<-E,List.getElem?_take]at b
   split at b
   ·rw[List.getElem?_drop]at b;simpa[Nat.add_assoc]using b
   ·cases b
  ·cases b
 have J:∀m∈cs,m.oneCell'=true:=λm X=>H m (dW (bf (q▸X)));have v:=run_loadCells_list (P:=P) w ⟨g,o+k*i.size,none⟩ cs V;by_cases u:n -(k+1)=0
 ·have M:cs=[]:=dV (by rw[p,u,Nat.zero_mul])
  have x:(Builtin.copy_ #[j,j] ty #[.slice (fE (some ⟨g,o,none⟩) c (k+1) i.size) (n -(k+1)) (c -(k+1)),.slice (some ⟨g,o+k*i.size,none⟩) (n -k) (c -k)]).run P w=.ok (goInt ((n -(k+1):Nat):Int)) w:=by
   rw[M]at v;rw[u];cases hcA:fE (some (⟨g,o,none⟩:Addr)) c (k+1) i.size<;>
   simp[Builtin.copy_,run_underlying b,Builtin.lenOf,Builtin.firstCells,sizeOf,typeInfo,A,storeCells,loadCells,loadCellsFrom]
  refine⟨w,x,?_,aV _ _ _⟩;rw[u,Nat.zero_mul,List.take_zero,List.append_nil,List.take_of_length_le (by rw[s,<-y,u,Nat.zero_mul,Nat.zero_add];exact av _)];exact h
 ·have hA1:fE (some (⟨g,o,none⟩:Addr)) c (k+1) i.size=some ⟨g,o+(k+1)*i.size,none⟩:=lD oM
  rw[hA1];have D:=run_storeCells_at P g (o+(k+1)*i.size) e cs 0 d w r (by rw[p,Nat.add_zero,Nat.add_assoc,Nat.add_comm ((k+1)*i.size),y];omega) J;have R:Nat.min (n -k) (n -(k+1))=n -(k+1):=Nat.min_eq_right oM;have x:(Builtin.copy_ #[j,j] ty #[.slice (some ⟨g,o+(k+1)*i.size,none⟩) (n -(k+1)) (c -(k+1)),.slice (some ⟨g,o+k*i.size,none⟩) (n -k) (c -k)]).run P w=
    .ok (goInt ((n -(k+1):Nat):Int)) (w.setRow g (d.toList.take (o+(k+1)*i.size)++cs++d.toList.drop (o+(k+1)*i.size+cs.length)).toArray):=by
   rw[p]at v;simp only[Nat.add_zero]at D;simp[Builtin.copy_,run_underlying b,Builtin.lenOf,Builtin.firstCells,sizeOf,typeInfo,A,R,v,D]
  have O:Mod S [some e] w (w.setRow g (d.toList.take (o+(k+1)*i.size)++cs++d.toList.drop (o+(k+1)*i.size+cs.length)).toArray):=by
   refine⟨rfl,rfl,rfl,sM,λl a0=>?_⟩;by_cases B:l=g
   ·subst B;exact .inr ⟨z,_,r,by simp[nH]⟩
   ·exact .inl (setRow_other w g l _ B)
  refine⟨_,x,⟨?_,.inr ⟨g,o,_,rfl,z,setRow_heap w g d _ e _ r,C,N,?_,?_⟩⟩,O⟩
  ·rw[aU,aT,<-q,p,s];omega
  ·simp only[List.size_toArray,aU,aT,bI,Array.length_toList]
   omega
  ·have L:o+(k+1)*i.size<=d.toList.length:=by simpa using(by omega:o+(k+1)*i.size<=d.size)
   (have W:(xs.take ((k+1)*i.size)++cs).length=n*i.size:=by rw[aU,aT,p,s];omega);rw[List.append_assoc,List.drop_append,aT,fJ L,show o -(o+(k+1)*i.size)=0 by omega,List.drop_zero,List.drop_take,show o+(k+1)*i.size -o=(k+1)*i.size by omega];have G:(d.toList.drop o).take ((k+1)*i.size)=xs.take ((k+1)*i.size):=by
    rw[<-E,List.take_take,fJ oM]
   rw[G,<-List.append_assoc,<-q,<-W];exact List.take_left
end
section
variable {α:Type} {f:α->List Value} {P:Program} {t e:TypeId} {size bytes:Nat} {w:World} {S S2:Nat->Prop} {ts:TypeId} {ops:Array Oper} {rest:List Oper} {o:Oper} {a:Act} {K:Act->World->Prop} {Q:Exit->Act->World->Prop}
theorem Elem.wpOff (E:Elem P t e size bytes f) (s x:Operand) (C:o.op=.call {callee:=.builtin .append,args:= #[s,x],argTypes:= #[t,t]})
  (A:Option Addr) (k:Nat) (xs:List α) (H:a.eval s=.slice A xs.length k) (D:gW w S e size A xs.length k (xs.flatMap f)) (z:Bd S w)
  (B:Option Addr) (c:Nat) (b:List α) (j:a.eval x=.slice B b.length c) (F:Row w S2 ts size B b.length (b.flatMap f)) (y:xs.length+b.length<=1000000000000) (hb:bytes<=140) (hy:0<b.length)
  (h:∀d i w',gW w' (grow S w w') e size d (xs++b).length i ((xs++b).flatMap f)->Mod S [some e] w w'->K (a.put o.dst (.slice d (xs++b).length i)) w'):o.wp P a w K Q:=by
 obtain⟨M,N,p,q,r,u,v⟩:=E.ex;obtain⟨d,i,w',G,l,J⟩:=gW.app (ty:=o.type) E.ht p q r u v E.pos D z B b.length c _ F (λL I=>by obtain⟨x,_,j⟩:=List.mem_flatMap.1 I;exact E.one x L j) y hb hy;unfold Oper.wp execOp;simp only[C,resolve,invoke,builtin,Sem.run_bind,Sem.run_pure,Result.andThen_ok,List.map_toArray,List.map_cons,List.map_nil,H,j,G];have m:xs.length+b.length=(xs++b).length:=sM;rw[m]at l|-;exact h d i w' (by rw[iE];exact l) J
theorem Elem.DC (E:Elem P t e size bytes f) (r:o.guard=none) (s x:Operand) (u:o.op=.call {callee:=.builtin .append,args:= #[s,x],argTypes:= #[t,t]})
  (A:Option Addr) (j:Nat) (xs:List α) (z:a.eval s=.slice A xs.length j) (v:gW w S e size A xs.length j (xs.flatMap f)) (q:Bd S w)
  (B:Option Addr) (c:Nat) (b:List α) (C:a.eval x=.slice B b.length c) (y:Row w S2 ts size B b.length (b.flatMap f)) (m:xs.length+b.length<=1000000000000) (hb:bytes<=140) (hy:0<b.length)
  (h:∀d i w',gW w' (grow S w w') e size d (xs++b).length i ((xs++b).flatMap f)->Mod S [some e] w w'->Go.wpList P ops Q rest (a.put o.dst (.slice d (xs++b).length i)) w'):Go.wpList P ops Q (o::rest) a w:=
 wpList_plain r λ_ p=>E.wpOff s x u A j xs z v q B c b C y m hb hy λd i w' k l=>p _ _ (h d i w' k l)
theorem Elem.LH (E:Elem P t e size bytes f) (s x:Operand) (m:o.op=.call {callee:=.builtin .copy,args:= #[s,x],argTypes:= #[t,t]})
  (A:Option Addr) (b:Nat) (xs:List α) (k:Nat) (l:k<xs.length) (r:a.eval s=.slice (fE A b (k+1) size) (xs.length -(k+1)) (b -(k+1))) (d:a.eval x=.slice (fE A b k size) (xs.length -k) (b -k))
  (p:gW w S e size A xs.length b (xs.flatMap f))
  (h:∀w',gW w' S e size A xs.length b ((xs.take (k+1)++(xs.drop k).take (xs.length -(k+1))).flatMap f)->Mod S [some e] w w'->K (a.put o.dst (goInt ((xs.length -(k+1):Nat):Int))) w'):o.wp P a w K Q:=by
 obtain⟨F,G,i,B,j,C,D⟩:=E.ex;obtain⟨w',q,v,y⟩:=gW.shift (P:=P) (ty:=o.type) E.ht i j p (λz u=>by obtain⟨x,_,d⟩:=List.mem_flatMap.1 u;exact E.one x z d) l;unfold Oper.wp execOp;simp only[m,resolve,invoke,builtin,Sem.run_bind,Sem.run_pure,Result.andThen_ok,List.map_toArray,List.map_cons,List.map_nil,r,d,q];refine h w' ?_ y;rw[iE,pQ E.len,pQ E.len,WZ E.len];exact v
end
end Go.Proofs.YtiflndepmgnojaaGreat
