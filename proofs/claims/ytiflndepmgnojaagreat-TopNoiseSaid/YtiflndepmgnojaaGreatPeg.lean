import Derived.Shelf.SlSortCmp.NoneTotal
import Derived.Test.YtiflndepmgnojaaGreatEst
import Derived.Test.YtiflndepmgnojaaGreatShelg
namespace Go.Proofs.YtiflndepmgnojaaGreat
open Go.RowKit Tryz
set_option linter.unusedSimpArgs false
set_option linter.unusedVariables false
set_option maxHeartbeats 4000000
set_option maxRecDepth 100000
variable {L l:List Int} {W w w':World} {b c k:Nat}
instance:Inhabited Pv:=⟨⟨0,[],none,0⟩⟩
def Ei (x y:Pv):Int:=if x.off<y.off then-1 else if y.off<x.off then 1 else 0
theorem pvLt (x y:Pv):Go.Proofs.ltOf Ei x y=decide (x.off<y.off):=by
 unfold Go.Proofs.ltOf Ei;by_cases a:x.off<y.off
 .simp[a]
 .by_cases b:y.off<x.off<;>simp[a,b]
theorem pvSWO:Go.Sort.SWO (Go.Proofs.ltOf Ei)where
 irrefl x:=by rw[pvLt];simp
 trans x y z h1 h2:=by rw[pvLt]at*;simp at*;omega
 ntrans x y z h1 h2:=by rw[pvLt]at*;simp at*;omega
theorem Nt (x y:Pv) (e:World):Yk 104 #[.agg (pvV x).toArray,.agg (pvV y).toArray] e λi l=>i=.returned (jI (Ei x y))/\∃k j,l=Go.Sort.grow (e.drewN k) j:=by
 obtain⟨c,n,m,o⟩:=x;obtain⟨d,q,p,r⟩:=y;unfold Ei pvV;simp only;by_cases a:c<d
 .have f:=bM a
  rw[aB a];clear a;go_enter Tryz.func104,Tryz.ntmps104;go_wp2;go_ret;exact⟨rfl,0,_,by rw[Go.Sort.alloc_eq_grow,Go.Sort.alloc_eq_grow,Go.Sort.grow_grow];rfl⟩
 .have f:=bJ a
  rw[Ww a];clear a;by_cases b:d<c
  .have g:=bM b
   rw[aB b];clear b;go_enter Tryz.func104,Tryz.ntmps104;go_wp2;go_ret;exact⟨rfl,0,_,by rw[Go.Sort.alloc_eq_grow,Go.Sort.alloc_eq_grow,Go.Sort.grow_grow];rfl⟩
  .have g:=bJ b
   rw[Ww b];clear b;go_enter Tryz.func104,Tryz.ntmps104;go_wp2;go_ret;exact⟨rfl,0,_,by rw[Go.Sort.alloc_eq_grow,Go.Sort.alloc_eq_grow,Go.Sort.grow_grow];rfl⟩
theorem FW (x:Pv):(pvV x).length=2:=rfl
def PvRow (w:World) (b:Nat) (l:List Pv):Prop:=∀a (c:a<l.length),w.cell? ⟨b,a*2,none⟩=some (uI l[a].off)/\w.cell? ⟨b,a*2+1,none⟩=some (.slice l[a].a l[a].b.length l[a].c)
theorem KC (a v:Nat) (l:List Pv) (w:World) (N:l.length<4611686018427387904) (P:PvRow w a l) (L:∀d,w.frozen? ⟨a,d,none⟩=false) (hb:a<w.heap.size):
  Yk 103 #[.slice (some ⟨a,0,none⟩) l.length v,.func (.func 104) #[] #[]] w λf g=>f=.returned (.tuple #[])/\∃s:List Pv,l.Perm s/\s.Pairwise (λm t=>m.off<=t.off)/\PvRow g a s/\Below a w g/\a<g.heap.size:=by
 have I:∀u w,(callFunc 104 u).run prog w=.ok (.enter 104 u) w:=enters_of Tryz.func104 kR rfl;have x:Go.Sort.HoldsK pvV 2 w a 0 l.toArray:=by
  intro e q;rw[Go.Sort.size_flatK]at q;(have j:e/2<l.length:=by simp at q;omega);refine⟨?_,L _⟩;rw[Go.Sort.get_flatK _ _ _ _ q];obtain⟨U,V⟩:=P (e/2) j;(have F:l.toArray[e/2]! =l[e/2]:=by rw[getElem!_pos _ _ (by simpa using j)];simp);rw[F];rcases Nat.mod_two_eq_zero_or_one e with h|h
  .have f:0+e=e/2*2:=oM
   rw[f,h,U];rfl
  .have f:0+e=e/2*2+1:=oM
   rw[f,h,V];rfl
 have z:=Go.Proofs.AnyQ.slices_SortFunc Tryz.Pn 2 (λw=>rfl) (λw=>rfl) pvV FW (λm Y A=>by simp[pvV]at A;rcases A with rfl|rfl<;>rfl) Ei pvSWO 104 #[] a 0 v l.toArray w I (λ_ _ _ _ m t=>Nt m t _) x hb (by simpa using N);change Yk 103 _ _ _ at z;refine z.mono ?_;rintro f g ⟨K,b,S,T,O,Q,r⟩;obtain⟨D,X,E⟩:=O;(have R:b.size=l.length:=by simpa using D);have y:Go.Sort.HoldsK pvV 2 g a 0 b:=by
  rw[r];exact Go.Sort.holdsK_grow pvV 2 _ T a 0 b (by rw[Go.Sort.putRowK,Go.Sort.size_putRow];exact hb) (Go.Sort.holdsK_putRowK pvV 2 _ a 0 l.toArray b x (by simpa using R))
 refine⟨K,b.toList,?_,?_,?_,?_,?_⟩
 .have G:(l.toArray.extract 0 l.toArray.size).toList=l:=sM
  (have H:(b.extract 0 l.toArray.size).toList=b.toList:=by rw[<-D];simp);rw[G,H]at E;exact E.symm
 .rw[List.pairwise_iff_getElem]
  intro B d j k M;have:=Q B d (jV _) M (by simp at k;simp;omega);rw[pvLt,getElem!_pos b d (by simpa using k),getElem!_pos b B (by simpa using j)]at this;simp only[decide_eq_false_iff_not,Array.getElem_toList]at this|-;omega
 .intro d k
  (have p:d<b.size:=by simpa using k);have n:=(y.cell (i:=d) (c:=0) p dC).1;have o:=(y.cell (i:=d) (c:=1) p dC).1;rw[getElem!_pos b d p]at n o;rw[Nat.zero_add]at n o;exact⟨by simpa[pvV]using n,by simpa[pvV]using o⟩
 .rw[r]
  refine⟨rfl,rfl,rfl,?_,λC W=>?_⟩
  .simp[Go.Proofs.sortWorldK,Go.Sort.putRowK]
  .have J:C<(Go.Sort.putRowK pvV 2 (Go.Sort.ahead w S) a 0 b).heap.size:=by rw[Go.Sort.putRowK,Go.Sort.size_putRow];show C<w.heap.size;omega
   rw[Go.Proofs.sortWorldK,Go.Sort.heap_grow_old _ _ J];simp[Go.Sort.putRowK,Go.Sort.putRow,Go.Sort.mapBlock,Array.getElem?_modify];intro f;omega
 .rw[r]
  simp[Go.Proofs.sortWorldK,Go.Sort.putRowK];omega
theorem Iy (p:X5) (a:Nat) (w:World):Yk 103 #[.slice p 0 a,.func (.func 104) #[] #[]] w λb c=>b=.returned (.tuple #[])/\c=w:=by
 have h:=Go.Proofs.AnyF.slices_SortFunc_none Tryz.Pn p a (.func (.func 104) #[] #[]) w;change Yk 103 _ _ _ at h;exact h
theorem Iz (S:X4) (a:X5) (c:Nat) (l:List Pv) (w:World) (h:Row w S 203 2 a l.length (l.flatMap pvV)) (B:l.length<=1000000000) (e:a=none->c=0):
  Yk 102 #[.slice a l.length c] w λt f=>∃g i,t=.returned (.slice g l.length i)/\OwnAt f (λo=>w.heap.size<=o/\o<f.heap.size) 203 2 g l.length i (l.flatMap pvV)/\bW w f:=by
 have s:=zH h;rcases a with _|d
 .have b:l.length=0:=by
   rcases Nat.eq_zero_or_pos l.length with b|b
   .exact b
   .obtain⟨_,_,h,_⟩:=h.at_ b
    cases h
  have u:l=[]:=dV b;obtain rfl:=u;obtain rfl:=e rfl;clear h b e;have v:∀w,(binOp BinOp.eql 224 (Value.slice none 0 0) (Value.slice none 0 0)).run prog w=.ok (bV true) w:=λw=>by
   first|rfl|(simp[binOp,go_sem];done)|(simp[binOp,go_sem];rfl)
  go_enter Tryz.func102,Tryz.ntmps102;go_wp2;go_ret;exact⟨none,0,rfl,OwnAt.WH,aj _ _⟩
 .clear h e
  have v:∀w,(binOp BinOp.eql 224 (Value.slice (some d) l.length c) (Value.slice none 0 0)).run prog w=.ok (bV false) w:=λw=>by
   obtain⟨z,C,D⟩:=d;first|rfl|(simp[binOp,go_sem];done)|(simp[binOp,go_sem];rfl)
  go_enter Tryz.func102,Tryz.ntmps102;have n:(w.alloc (.cells #[] 203)).ownsRow w.heap.size 203 2 (.slice (some ⟨w.heap.size,0,none⟩) ([]:List Pv).length 0) ([]:List Pv).length (([]:List Pv).flatMap pvV):=⟨sM,.inr ⟨w.heap.size,0,#[],rfl,av _,Wx w 203 #[],av _,dC,rfl,rfl⟩⟩;have r:=zH n;clear n;go_wp2_with (at_builtin;refine qc.wpList rfl (.tmp 5) (.tmp 6) rfl w.heap.size (some ⟨w.heap.size,0,none⟩) 0 [] (by rfl) r.o (some d) c l (by rfl) (aD s.o BEL) sO dC sM ?_;intro y A x m j;have p:=zH m;have q:=zH (show bW w x from(show bW w (w.alloc (.cells #[] 203))from BEL).grown j sM XI);clear m j);go_ret;have k:=p.o;rw[List.nil_append]at k;exact⟨_,_,rfl,OwnAt.fresh k,q.o⟩
theorem Dp {n:Int} {x:Pi} {t:List Pi} (h:x.off=n):iM n (x::t)=iM (n+x.body.length) t:=by rw[iM,aB h]
theorem Dn {n:Int} {x:Pi} {t:List Pi} (h:¬x.off=n):iM n (x::t)=n:=by rw[iM,Ww h]
structure SmI (S:X4) (w:World) (blk:Nat) (m:List Pv) (W:World) (a:X5) (c:Nat) (acc:List Int):Prop where
 b:bW w W
 row:PvRow W blk m
 lo:w.heap.size<=blk
 hi:blk<W.heap.size
 by_:∀x∈m,Bys W S x.a x.b
 own:W.ownsRow (blk+1) 5 1 (.slice a acc.length c) acc.length (acc.flatMap byV)
theorem SmI.step {S:X4} {m:List Pv} {a a':X5} (h:SmI S w b m w' a c l) (g:Bd S w) (hb:Below (b+1) w' W) (j:W.ownsRow (b+1) 5 1 (.slice a' L.length k) L.length (L.flatMap byV)):SmI S w b m W a' k L:=
 ⟨h.b.trans (hb.mono (by have:=h.lo;omega)),λd e=>⟨(hb.cell (p:=⟨b,d*2,none⟩) (Nat.lt_succ_self _)).trans (h.row d e).1,(hb.cell (p:=⟨b,d*2+1,none⟩) (Nat.lt_succ_self _)).trans (h.row d e).2⟩,h.lo,aC h.hi hb.size,
  λq o=>aG (h.by_ q o) (ts:=[some 5]) (λf r i n _=>(hb.block f (by have:=g f i;have:=h.lo;omega)).trans n) sM,j⟩
theorem FY (S:X4) (p k n:Nat) (q:Pe) (w:World) (h:ic w S p k q) (b9:Bd S w) (o:jN n 32 32 q) (g7:n<=100000):
  Yk 41 #[pT p] w λf6 f7=>∃s u,∃a3:List Int,f6=.returned (.slice s a3.length u)/\(a3.length:Int)=yL q/\a3.length<=1000000000000/\bW w f7:=by
 obtain⟨f9,g3,g1,g5,h1,g0,g4,b4,b6,j,U,e2,e3,e4,e5,e6,V,b8,L,_⟩:=h.ex;have b5:=U.Wu 11;have g8:=U.lt;have f0:j.length<=150000000:=by
  have l:=o.plen;have b7:=o.yh;rw[L,bR]at l;omega
 have c2:b4=none->b6=0:=λv=>by
  subst v;rcases V.own.2 with⟨z,_⟩|⟨y,e1,C,z,_⟩
  .injection z
  .injection z with l;cases l
 obtain⟨T,b0,d6,a9,b1,d8⟩:=Fy (Iz S b4 b6 j w V.row oM c2) (λc (e9:q.pieces.Perm c) f2=>Kl (p:=q) o.pieces (m:=c) e9 f2) b8 L b9 (show∀f∈j,f.b.length<=1500 from λf e=>(o.pok f.pi (by rw[L];exact List.mem_map.2 ⟨f,e,rfl⟩)).2.1);clear h U e2 e3 e4 e5 e6 V b8 L o c2 b9;go_enter Tryz.func41,Tryz.ntmps41;go_wp2_with fail;refine(T.o).mono ?_;rintro v a5 ⟨b3,K,rfl,F,W⟩;have R:=zH W;rcases Nat.eq_zero_or_pos j.length with D|D
 .have f1:j=[]:=dV D
  subst f1;have c4:yL q=0:=by
   have:=b0.o [] (by rw[a9.o];exact List.Perm.refl _) List.Pairwise.nil;rw[<-this];rfl
  have d9:=zH c4;clear W F D c4 T b5;have J:=zH (λw=>Iy b3 K w);simp only[List.length_nil];go_wp2_with fail;refine Yd (J.o _) ?_;intro a6 rfl;go_wp2;go_loopw [18,4] (λH a4 wr=>H=jI 0/\a4=.slice none 0 0/\X3 (bW w wr)) (λ_ _ _=>0);(case atStart=>exact⟨rfl,rfl,R⟩);case round=>
   obtain⟨rfl,rfl,d5⟩:=hrel;go_wp2;go_ret;exact⟨none,0,[],rfl,d9.o.symm,sM,d5.o⟩
 .obtain⟨i,C,rfl,c5,Y⟩:∃i C,b3=some ⟨i,0,none⟩/\w.heap.size<=i/\Blk a5 i 203 C:=by
   rcases F.own.2 with⟨z,h0⟩|⟨y,e1,C,z,_,e8,_⟩
   .omega
   .injection z with l
    exact⟨y,C,l,(F.mem y l).1,e8⟩
  have c7:PvRow a5 i j:=λa a0=>by
   obtain⟨g2,h2,v,_,_,c1⟩:=F.row.at_ D;injection v with v;injection v with l b7;subst l b7;have d1:=c1 _ _ (mr FW j a 0 a0 oM);have d2:=c1 _ _ (mr FW j a 1 a0 oM);simp only[Nat.zero_add,Nat.add_zero]at d1 d2;exact⟨d1,d2⟩
  have J:=zH (KC i K j a5 oM c7 (λa=>Y.frozen a) Y.lt);clear c7 F Y W T b5;go_wp2_with fail;refine Yd J.o ?_;rintro a6 ⟨c,G,c9,c8,c0,Z⟩;have X:bW w a6:=R.o.trans (c0.mono c5);have g:=zH (show SmI S w i c a6 none 0 []from⟨X,c8,c5,Z,λf e=>aD (d6.o f (G.mem_iff.2 e)) X,iq _ _ _ _⟩);have a1:c.length=j.length:=G.length_eq.symm;obtain⟨e0,a8⟩:=yx (show∀f∈c,f.b.length<=1500 from λf e=>d8.o f (G.mem_iff.2 e)) (show iM 0 (c.map Pv.pi)=yL q from b0.o _ (by rw[a9.o];exact G.map _) (by rw[List.pairwise_map];exact c9));rw[<-a1];rw[<-a1]at f0;clear a1 G c9 c8 c0 Z X J D;go_wp2;go_loopw [18,4] (λH a4 wr=>∃(a:Nat) (b:List Int) (s:X5) (u:Nat),a<=c.length/\H=jI a/\a4=.slice s b.length u/\b.length<=1500*a/\X3 (SmI S w i c wr s u b)/\X3 (iM b.length ((c.drop a).map Pv.pi)=yL q)) (λH _ _=>c.length -(intOf H).toNat);(case atStart=>exact⟨0,[],none,0,oM,rfl,rfl,sM,g,a8⟩);case round=>
   clear g a8 R;obtain⟨a,b,s,u,a0,rfl,rfl,g6,g,a7⟩:=hrel;have Z:=g.o.hi;by_cases O:a<c.length
   .obtain⟨f4,f5⟩:=g.o.row a O
    have N:=g.o.by_ _ (aN O);have f3:=e0.o _ (aN O);have d:=a7.o;rw[aR O,List.map_cons]at d;generalize c[a]=f at*
    obtain⟨A,I,P,Q⟩:=f;simp only at f4 f5 N f3;have f8:=zH N;have g9:IntKind.u64.wrap (b.length:Int)=b.length:=Wz _ oM;obtain⟨d0,a2⟩:=eX (wr.alloc (.cells #[uI A,.slice P I.length Q] 203));(have M:bW wr d0:=by rw[a2];exact BEL);obtain⟨r,d4,b2⟩:=Av (g.o.step b1.o (M.mono oM) (IL g.o.own (λy d=>M.block y (zI g.o.own y (by rw[d];rfl))))) (aD N M) a2;clear N M a2;by_cases e:A=(b.length:Int)
    .have e7:(A !=(b.length:Int))=false:=by simpa using e
     have E:=Dp (x:=(⟨A,I,P,Q⟩:Pv).pi) (t:=(c.drop (a+1)).map Pv.pi) (n:=(b.length:Int)) e;rw[E]at d;have B:=zH d;clear d E e;go_wp2_with (at_builtin;rw[<-b2.o];refine fe.wpList rfl (.tmp 28) (.tmp 30) rfl (i+1) s u b (by rfl) r.o.own P Q I (by rfl) d4.o oM dC (by have:=r.o.hi;omega) ?_;intro d3 K h3 c6 c3;have d7:=zH (r.o.step b1.o ((aj (i+1) d0).grown c3 (by have:=r.o.hi;omega) (λk o=>jM r.o.own k o)) c6);clear c6 c3);go_roundw;(case rel=>exact⟨a+1,b++I,d3,K,oM,by go_num,sM,by simp;omega,d7,by simpa[aU,Pv.pi]using B⟩);case measure=>exact Yl
    .have e7:(A !=(b.length:Int))=true:=by simpa using e
     have E:=Dn (x:=(⟨A,I,P,Q⟩:Pv).pi) (t:=(c.drop (a+1)).map Pv.pi) (n:=(b.length:Int)) e;rw[E]at d;have B:=zH d;clear d E e;go_wp2;go_ret;rw[<-b2.o];exact⟨_,_,b,rfl,B.o,oM,r.o.b⟩
   .obtain rfl:a=c.length:=oM
    have d:=a7.o;rw[List.drop_length,List.map_nil]at d;have B:=zH d;clear d;go_wp2;go_ret;exact⟨_,_,b,rfl,B.o,oM,g.o.b⟩
end Go.Proofs.YtiflndepmgnojaaGreat
