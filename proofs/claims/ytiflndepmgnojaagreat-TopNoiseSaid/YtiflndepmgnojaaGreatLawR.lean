import Derived.Laws.LoneSync
import Derived.Defers
import Derived.Laws.Pointers
import Derived.ChangeAlike
import Derived.RegionCalls
import Derived.Test.YtiflndepmgnojaaGreatRne
import Derived.Test.YtiflndepmgnojaaGreatPtc
namespace Go.Proofs.YtiflndepmgnojaaGreat
open Go.RowKit Tryz
set_option linter.unusedSimpArgs false
set_option linter.unusedVariables false
set_option maxHeartbeats 4000000
set_option maxRecDepth 100000
variable {w W w':World} {C:Array Value} {b c d m n p q k:Nat} {t:TypeId} {x:Int} {l:List Int}
attribute[local go_sem] BW.cell BW.frozen
def b32 (b:Bool):Int:=if b then 1 else 0
theorem pV (a:Addr) (b:Bool) (w:World) (d:w.cell? a=some (.int .u32 (b32 b))):
  Yk 109 #[.pointer (some a)] w λf g=>f=.returned (bV b)/\g=w:=by
 have e:=run_call_load (P:=prog) Tryz.func180 kR kR kR .u32 kR d;cases b
 .have c:b32 false=0:=rfl
  rw[c]at e d;go_enter Tryz.func109,Tryz.ntmps109;go_wp2;go_ret;exact⟨rfl,rfl⟩
 .have c:b32 true=1:=rfl
  rw[c]at e d;go_enter Tryz.func109,Tryz.ntmps109;go_wp2;go_ret;exact⟨rfl,rfl⟩
theorem DJ (a:Addr) (x:Int) (w:World) (c:w.cell? a=some (uI x)):
  Yk 148 #[.pointer (some a)] w λb d=>b=.returned (uI x)/\d=w:=by
 have e:=run_call_load (P:=prog) Tryz.func205 kR kR kR .u64 kR c;go_enter Tryz.func148,Tryz.ntmps148;go_wp2;go_ret;exact⟨rfl,rfl⟩
theorem uX (a:Addr) (x:Int) (w:World) (i:0<=x) (g:x+1<18446744073709551616) (c:w.cell? a=some (uI x)) (d:w.frozen? a=false):
  Yk 110 #[.pointer (some a),uI 1] w λb e=>b=.returned (uI (x+1))/\e=w.setCell a (uI (x+1)):=by
 have f:=run_call_add (P:=prog) Tryz.func181 kR kR kR .u64 kR (y:=1) (s:=x+1) c d (by simp[go_sem];rw[IntKind.wrap_u64];omega);go_enter Tryz.func110,Tryz.ntmps110;go_wp2;go_ret;exact⟨rfl,rfl⟩
theorem Lv (a:Addr) (x:Value) (w:World) (f:w.cell? a=some x) (i:w.frozen? a=false):
  Yk 116 #[.pointer (some a),bV true] w λb e=>b=.returned (.tuple #[])/\e=w.drew.setCell a (.int .u32 1):=by
 (have c:w.drew.cell? a=some x:=by go_simp);(have d:w.drew.frozen? a=false:=by go_simp);have g:=run_call_store (P:=prog) Tryz.func187 kR kR kR kR (k:=.u32) (y:=1) c d;go_enter Tryz.func116,Tryz.ntmps116;go_wp2;go_region_calls;all_goals (go_end0;exact⟨rfl,rfl⟩)
theorem disable (w:World):(callFunc 257 #[]).run prog w=.ok (.value (.tuple #[])) w:=run_call_mark0 Tryz.func257 kR kR kR .disable kR w
theorem enable (w:World):(callFunc 259 #[]).run prog w=.ok (.value (.tuple #[])) w:=run_call_mark0 Tryz.func259 kR kR kR .enable kR w
theorem acquire (a:Addr) (w:World):(callFunc 260 #[.pointer (some a)]).run prog w=.ok (.value (.tuple #[])) w:=run_call_marked Tryz.func260 kR kR kR .acquire kR a w
theorem releaseMerge (a:Addr) (w:World):(callFunc 262 #[.pointer (some a)]).run prog w=.ok (.value (.tuple #[])) w:=run_call_marked Tryz.func262 kR kR kR .releaseMerge kR a w
theorem XL (a:Addr) (x:Value) (u:FrameMode) (w:World) (g:w.cell? a=some x) (j:w.frozen? a=false):
  CallsD prog 116 #[.pointer (some a),bV true] u w λb e f=>e=u/\(b=.returned (.tuple #[])/\f=w.drew.setCell a (.int .u32 1)):=by
 (have c:w.drew.cell? a=some x:=by go_simp);(have d:w.drew.frozen? a=false:=by go_simp);have i:=run_call_store (P:=prog) Tryz.func187 kR kR kR kR (k:=.u32) (y:=1) c d;go_enter_d Tryz.func116,Tryz.ntmps116;go_wp2;go_region_calls;all_goals (go_end0;exact⟨rfl,rfl⟩)
theorem unlock_deferred (a:Addr) (u:FrameMode) (w:World) (b:w.cell? a=some (.int .i32 1)) (d:w.frozen? a=false):
  CallsD prog 237 #[.pointer (some a)] u w λc e f=>e=u/\(c=.returned (.tuple #[])/\f=w.setCell a (.int .i32 0)):=by
 obtain⟨j,k,l⟩:=FX disable enable releaseMerge;have g:=run_call_add (P:=prog) Tryz.func263 kR kR kR .i32 kR (y:= -1) (s:=0) b d (by simp[go_sem];rfl);have i:=run_convert_to_unsafe (P:=prog) (src:=388) (dst:=392) Tryz.underlying388 Tryz.underlying392 kR b;go_enter_d Tryz.func237,Tryz.ntmps237;go_wp2;go_end0;go_wp2;all_goals (go_end0;exact⟨rfl,rfl⟩)
theorem lock_free (a:Addr) (w:World) (b:w.cell? a=some (.int .i32 0)) (e:w.frozen? a=false):
  Yk 236 #[.pointer (some a)] w λc f=>c=.returned (.tuple #[])/\f=w.setCell a (.int .i32 1):=by
 obtain⟨k,l,g,i⟩:=Hl disable enable acquire (run_call_cas_hit (P:=prog) Tryz.func258 kR kR kR .i32 kR (y:=1) b e);have d:(w.setCell a (.int .i32 1)).cell? a=some (.int .i32 1):=World.cell?_setCell_same w a _ b;have j:=run_convert_to_unsafe (P:=prog) (src:=388) (dst:=392) Tryz.underlying388 Tryz.underlying392 kR d;go_enter Tryz.func236,Tryz.ntmps236;go_wp2;(first|go_end0|(simp only[Exit.inBlock,Exit.then];refine eG (results_none rfl _ _ _) rfl ?_)|refine eG (results_none rfl _ _ _) rfl ?_);go_wp2;all_goals (go_end0;exact⟨rfl,rfl⟩)
structure mI (w:World) (S:X4) (p:Nat) (g:Gu):Prop where
 ex:∃(pb:Nat) (x9 e0 e1 e2 e3 e4 e5 e6 e7 e8:Value),Blk w p 256 #[pT pb,uI g.n.dB,uI g.n.eT,uI g.n.fI,uI g.n.bE,uI g.n.late,.int .u32 (b32 g.over),.int .u32 (b32 g.over),.int .i32 0,x9,e0,e1,e2,e3,e4,e5,e6,e7,e8]/\wX w S pb g.bu
 mem:S p
section
variable {w w':World} {S S':X4} {p:Nat} {g:Gu} {ts:X8}
theorem mI.lt (h:mI w S p g):p<w.heap.size:=by obtain⟨l,m,a,b,c,d,e,f,i,j,k,h,_⟩:=h.ex;exact h.lt
theorem mI.keep (h:mI w S p g) (a:bQ S ts w w') (m:some 256∈ts) (n:some 314∈ts) (o:some 30∈ts):mI w' S p g:=by
 obtain⟨s,t,b,c,d,e,f,i,j,k,l,q,r⟩:=h.ex;exact⟨⟨s,t,b,c,d,e,f,i,j,k,l,q.keep a h.mem m,r.keep a n o⟩,h.mem⟩
theorem mI.below (h:mI w S p g) (hb:bW w w'):mI w' S p g:=h.keep (ts:=[some 256,some 314,some 30]) (bQ.below hb) sM sM sM
theorem mI.mono (h:mI w S p g) (a:∀b,S b->S' b):mI w S' p g:=by
 obtain⟨q,r,c,d,e,f,i,j,k,l,m,n,o⟩:=h.ex;exact⟨⟨q,r,c,d,e,f,i,j,k,l,m,n,o.mono a⟩,a _ h.mem⟩
end
theorem QH (f d:Int) (w:World):
  Yk 46 #[jI f,uI d] w λj w'=>∃p,j=.returned ((pT p))/\w.heap.size<=p/\mI w' (λa=>w.heap.size<=a/\a<w'.heap.size) p (guNew f d)/\bW w w':=by
 have m:=zH (Rl f d);go_enter Tryz.func46,Tryz.ntmps46;go_wp2_with fail;refine(m.o _).mono ?_;rintro j c ⟨o,rfl,q,k,b⟩;obtain⟨n,i⟩:=yx k b;clear k b;go_wp2;go_ret;have l:=i.o.size;refine⟨c.heap.size,rfl,l,⟨⟨o,_,_,_,_,_,_,_,_,_,_,Wx _ _ _,(n.o.mono (S':=λa=>w.heap.size<=a/\a<c.heap.size+1) (λa e=>⟨e.1,oM⟩)).below (by have b:=aj c.heap.size c;exact BEL)|>.mono (λa e=>⟨e.1,by simp;omega⟩)⟩,⟨l,sM⟩⟩,by have b:=i.o;exact BEL⟩
theorem Js (S:X4) (p:Nat) (g:Gu) (w:World) (h:mI w S p g):
  Yk 73 #[pT p] w λu w'=>u=.returned (.agg #[uI g.n.dB,uI g.n.eT,uI g.n.fI,uI g.n.bE,uI g.n.late])/\bW w w':=by
 obtain⟨Q,R,C,D,E,F,G,H,I,J,K,a,_⟩:=h.ex;obtain⟨i,j,k,l,m⟩:=a.e5 1 2 3 4 5;have c:=a.lt;have N:¬(p=w.heap.size):=oM;have O:¬(w.heap.size=p):=oM;clear h a;obtain⟨B,⟨v,x,y,z,A⟩,P⟩:=g;simp only at*
 go_enter Tryz.func73,Tryz.ntmps73;go_wp2_with fail;obtain⟨f,d⟩:=eX (w.alloc (.cells #[uI 0,uI 0,uI 0,uI 0,uI 0] 36));rw[<-d];(have b:bW w f:=by rw[d];exact BEL);obtain⟨o,q,r,s,t⟩:=Ju ((b.cell (p:=⟨p,1,none⟩) c).trans i) ((b.cell (p:=⟨p,2,none⟩) c).trans j) ((b.cell (p:=⟨p,3,none⟩) c).trans k) ((b.cell (p:=⟨p,4,none⟩) c).trans l) ((b.cell (p:=⟨p,5,none⟩) c).trans m);(have e:Blk f w.heap.size 36 #[uI 0,uI 0,uI 0,uI 0,uI 0]:=by rw[d];exact Wx _ _ _);obtain⟨T,Y,U,Z,V,a0,W,a1,X,a2⟩:=e.c5;have L:=e.lt;have n:=zH b;clear d b i j k l m e;refine bP 21 kR kR ?_;refine mD ?_;(repeat (go_big_quiet_step ((go_at_call 148;exact aJ (DJ _ _ _ (by first|exact o|exact q|exact r|exact s|exact t))))));refine aK ?_;rintro _ ⟨M,rfl⟩;refine dA rfl rfl ?_;go_simp;refine aK ?_;refine mV ?_;have a:=n.o;refine⟨?_,BEL⟩;simp
theorem Lp (S:X4) (a1:X5) (c1:Nat) (a2:X5) (c2:Nat) (k:Ak) (w:World) (h:nu w S a1 c1 a2 c2 k):
  Yk 119 #[.agg #[.slice a1 k.cu.length c1,.slice a2 k.aO.length c2,uI k.dw,uI k.xor,bV k.kZ]] w λE L=>(∃C J c D K s,E=.returned (.agg #[.slice C J c,.slice D K s,uI k.dw,uI k.xor,bV k.kZ]))/\bW w L:=by
 obtain⟨z,A⟩:=yx h.cu h.aO;have P:=h.Ks;have O:=h.mlen;clear h;obtain⟨a,b,d,i,f⟩:=k;simp only at*
 go_enter Tryz.func119,Tryz.ntmps119;(repeat ((fail_if_success (with_reducible apply eG));first|first|(at_builtin;have N:=r;refine iP.wpList rfl _ (.tmp 8) rfl (g.setCell ⟨w.heap.size,0,none⟩ (.slice j a.length c)).heap.size none 0 [] (by rfl) (iq _ _ _ _) a2 c2 b (by rfl) (aD A.o (by have t:=q.o;exact BEL)) sO dC sM ?_;intro M s p G v;have o:Below (g.setCell ⟨w.heap.size,0,none⟩ (.slice j a.length c)).heap.size (g.setCell ⟨w.heap.size,0,none⟩ (.slice j a.length c)) p:=(aj _ _).grown v (av _) XI;have l:Blk p w.heap.size 92 #[.slice j a.length c,.slice a2 b.length c2,uI d,uI i,bV f]:=Blk.below (h:=(by have:=r.o.bF 0 (.slice j a.length c);simpa using this)) (hb:=o) sO;have m:Blk p (w.heap.size+1) 92 jK:=Blk.below (h:=B.o.far sM _) (hb:=o) sO;have I:=o.size;simp at I;obtain⟨u0,Q⟩:=l.cz 0;obtain⟨u1,R⟩:=l.cz 1;obtain⟨u2,T⟩:=l.cz 2;obtain⟨u3,U⟩:=l.cz 3;obtain⟨u4,V⟩:=l.cz 4;obtain⟨W,a3⟩:=m.cz 0;obtain⟨X,a4⟩:=m.cz 1;obtain⟨Y,a5⟩:=m.cz 2;obtain⟨Z,a6⟩:=m.cz 3;obtain⟨a0,a7⟩:=m.cz 4;have y:=zH ((show bW w (g.setCell ⟨w.heap.size,0,none⟩ (.slice j a.length c))from(by have t:=q.o;exact BEL)).trans (o.mono sO));clear G v o l m)|(at_builtin;refine iP.wpList rfl _ (.tmp 4) rfl (w.heap.size+1+1) none 0 [] (by rfl) (iq _ _ _ _) a1 c1 a (by rfl) (aD z.o (BEL)) sO dC sM ?_;intro j c g F u;have n:Below ((w.alloc (.cells #[.slice a1 a.length c1,.slice a2 b.length c2,uI d,uI i,bV f] 92)).alloc (.cells jK 92)).heap.size ((w.alloc (.cells #[.slice a1 a.length c1,.slice a2 b.length c2,uI d,uI i,bV f] 92)).alloc (.cells jK 92)) g:=(aj _ _).grown u (av _) XI;have e:Blk g w.heap.size 92 #[.slice a1 a.length c1,.slice a2 b.length c2,uI d,uI i,bV f]:=Blk.below (h:=(show Blk ((w.alloc (.cells #[.slice a1 a.length c1,.slice a2 b.length c2,uI d,uI i,bV f] 92)).alloc (.cells jK 92)) w.heap.size 92 #[.slice a1 a.length c1,.slice a2 b.length c2,uI d,uI i,bV f]from(Wx _ _ _).alloc _)) (hb:=n) sO;have x:Blk g (w.heap.size+1) 92 jK:=Blk.below (h:=Blk.qN _ _ _ _) (hb:=n) sM;have H:=n.size;simp at H;obtain⟨a8,b3⟩:=e.cz 0;obtain⟨a9,b4⟩:=e.cz 1;obtain⟨b0,b5⟩:=e.cz 2;obtain⟨b1,b6⟩:=e.cz 3;obtain⟨b2,b7⟩:=e.cz 4;have r:=zH e;have B:=zH x;have q:=zH ((show bW w ((w.alloc (.cells #[.slice a1 a.length c1,.slice a2 b.length c2,uI d,uI i,bV f] 92)).alloc (.cells jK 92))from BEL).trans (n.mono sO));clear F u n e x)|go_values|go_skip|go_guarded|go_step|go_upon|go_back|go_simp));refine mZ ?_;have t:=y.o;refine⟨⟨_,_,_,_,_,_,rfl⟩,BEL⟩
theorem Blk.ne {g h:Nat} {t u:TypeId} {b c:Array Value} (hb:Blk w g t b) (a:Blk w h u c) (f:t≠u):¬(g=h):=by
 intro d;subst d;unfold Blk at hb a;rw[hb]at a;injection a with a;injection a with _ e;exact f e
structure EvAt (w:World) (S:X4) (b7 b15 b12 b13 b10 b4 p:Nat) (a1:X5) (c1:Nat) (a2:X5) (c2:Nat) (k:Ak) (gs:Array Value):Prop where
 now:∃x,Blk w b7 30 #[uI x]
 pn:∃x,Blk w b15 30 #[uI x]
 used:∃x,Blk w b12 30 #[uI x]
 why:∃x,Blk w b13 3 #[jI x]
 ack:Blk w b10 92 #[.slice a1 k.cu.length c1,.slice a2 k.aO.length c2,uI k.dw,uI k.xor,bV k.kZ]
 ptr:Blk w b4 150 #[pT p]
 gu:Blk w p 256 gs
 ak:nu w S a1 c1 a2 c2 k
theorem MS (S:X4) (v t r s c u p:Nat) (a1:X5) (c1:Nat) (a2:X5) (c2:Nat) (k:Ak) (a3 a4 a5 a6 a7 a8 a9 b0 b1 b2 b8 b9 c0 c3 c4 c5 c6 c7 c8:Value) (w:World)
  (h:EvAt w S v t r s c u p a1 c1 a2 c2 k #[a3,a4,a5,a6,a7,a8,a9,b0,b1,b2,b8,b9,c0,c3,c4,c5,c6,c7,c8]):
  Yk 118 #[pT v,pT t,pT r,pT s,pT c,pT u] w λJ a=>
   J=.returned (.tuple #[])/\(∃c9 d0 d1 d2 d3 d4 d5 d6 d7,Blk a p 256 #[a3,a4,a5,a6,a7,a8,a9,b0,b1,b2,c9,d0,d1,d2,d3,d4,d5,d6,d7])/\Mod (λk=>k=p) [some 256] w a:=by
 obtain⟨⟨i,z⟩,⟨j,A⟩,⟨l,B⟩,⟨m,C⟩,D,E,e,T⟩:=h;have b4:=zH (λa (e0:bW w a)=>Lp S a1 c1 a2 c2 k a (T.below e0));obtain⟨V,W,X,Y,Z⟩:=Ju (z.cell 0) (A.cell 0) (B.cell 0) (C.cell 0) (E.cell 0);obtain⟨f6,g8,f7,g9,f8,h0,f9,h1,g0,h2⟩:=D.c5;obtain⟨e2,g2,g3,g4,g5,g6⟩:=LX e.lt (e.ne z dC) (e.ne A dC) (e.ne B dC) (e.ne C dC) (e.ne D dC);obtain⟨g7,e3,e4,e5,e6,g⟩:=LX (e.ne E dC) z.lt A.lt B.lt C.lt D.lt;have e7:=E.lt;have b5:=zH e;simp only[List.getElem?_toArray,List.getElem?_cons_zero]at V W X Y Z;clear z A B C D E e T;obtain⟨b7,b6,f,n,F⟩:=k;simp only at*
 go_enter Tryz.func118,Tryz.ntmps118;go_wp2_with fail;go_region_held3 (λa=>a.cell? ⟨u,0,none⟩=some ((pT p))/\a.cell? ⟨v,0,none⟩=some (uI i)/\a.cell? ⟨t,0,none⟩=some (uI j)/\a.cell? ⟨r,0,none⟩=some (uI l)/\a.cell? ⟨s,0,none⟩=some (jI m)/\
   a.cell? ⟨c,0,none⟩=some (.slice a1 b7.length c1)/\a.cell? ⟨c,1,none⟩=some (.slice a2 b6.length c2)/\a.cell? ⟨c,2,none⟩=some (uI f)/\a.cell? ⟨c,3,none⟩=some (uI n)/\a.cell? ⟨c,4,none⟩=some (bV F)) (first|with_reducible assumption|(iterate 9 (with_reducible refine(World.cell?_setCell_other _ _ _ _ (λh=>by have:=lY Addr.block h;simp at this;omega)).trans ?_);with_reducible assumption)|simp[go_sem, *]) (first
  |(go_simp;go_at_call 119;refine(b4.o _ (BEL)).mono ?_;rintro J a0 ⟨⟨o,G,x,q,H,y,rfl⟩,U⟩;have b:bW w a0:=(show bW w _ from BEL).trans (U.mono sM);have d:=b5.o.below b e2;have I:=zH d;have b3:=zH b;have g1:=d.lt;have j5:=(b.cell (p:=⟨u,0,none⟩) e7).trans Z;have j1:=(b.cell (p:=⟨v,0,none⟩) e3).trans V;have j2:=(b.cell (p:=⟨t,0,none⟩) e4).trans W;have j3:=(b.cell (p:=⟨r,0,none⟩) e5).trans X;have j4:=(b.cell (p:=⟨s,0,none⟩) e6).trans Y;have j6:=(b.cell (p:=⟨c,0,none⟩) g).trans f6;have j7:=(b.cell (p:=⟨c,1,none⟩) g).trans f7;have j8:=(b.cell (p:=⟨c,2,none⟩) g).trans f8;have j9:=(b.cell (p:=⟨c,3,none⟩) g).trans f9;have k0:=(b.cell (p:=⟨c,4,none⟩) g).trans g0;obtain⟨h3,i2⟩:=d.cz 10;obtain⟨h4,i3⟩:=d.cz 11;obtain⟨h5,i4⟩:=d.cz 12;obtain⟨h6,i5⟩:=d.cz 13;obtain⟨h7,i6⟩:=d.cz 14;obtain⟨h8,i7⟩:=d.cz 15;obtain⟨h9,i8⟩:=d.cz 16;obtain⟨i0,i9⟩:=d.cz 17;obtain⟨i1,j0⟩:=d.cz 18;clear b d U))
 all_goals (
  go_end0;refine⟨rfl,⟨uI i,uI j,uI l,jI m,.slice o G x,.slice q H y,uI f,uI n,bV F,?_⟩,?_⟩
  .have d9:=((((((((I.o.bF 10 (uI i)).bF 11 (uI j)).bF 12 (uI l)).bF 13 (jI m)).bF 14 (.slice o G x)).bF 15 (.slice q H y)).bF 16 (uI f)).bF 17 (uI n)).bF 18 (bV F)
   simpa using d9
  .have e1:Mod (λk=>k=p) [some 256] w a0:=aH b3.o
   have K:=I.o;have e8:=e1.setCell K (λ_=>rfl) sM 10 (uI i);have L:=K.bF 10 (uI i);have e9:=e8.setCell L (λ_=>rfl) sM 11 (uI j);have M:=L.bF 11 (uI j);have f0:=e9.setCell M (λ_=>rfl) sM 12 (uI l);have N:=M.bF 12 (uI l);have f1:=f0.setCell N (λ_=>rfl) sM 13 (jI m);have O:=N.bF 13 (jI m);have f2:=f1.setCell O (λ_=>rfl) sM 14 (.slice o G x);have P:=O.bF 14 (.slice o G x);have f3:=f2.setCell P (λ_=>rfl) sM 15 (.slice q H y);have Q:=P.bF 15 (.slice q H y);have f4:=f3.setCell Q (λ_=>rfl) sM 16 (uI f);have R:=Q.bF 16 (uI f);have f5:=f4.setCell R (λ_=>rfl) sM 17 (uI n);have d8:=R.bF 17 (uI n);exact f5.setCell d8 (λ_=>rfl) sM 18 (bV F))
theorem EvAt.store {S:X4} {a1:X5} {c1:Nat} {a2:X5} {c2:Nat} {k:Ak} (h:EvAt w S b n m c d q p a1 c1 a2 c2 k C) (i:Nat) (u:Value):
  EvAt (w.setCell ⟨p,i,none⟩ u) S b n m c d q p a1 c1 a2 c2 k (C.setIfInBounds i u):=by
 obtain⟨⟨s,e⟩,⟨t,f⟩,⟨v,g⟩,⟨x,j⟩,l,o,a,r⟩:=h;exact⟨⟨s,e.far (e.ne a dC) _⟩,⟨t,f.far (f.ne a dC) _⟩,⟨v,g.far (g.ne a dC) _⟩,⟨x,j.far (j.ne a dC) _⟩,l.far (l.ne a dC) _,o.far (o.ne a dC) _,a.bF i u,
  r.keep (bQ.setCell (ts:=[some 272]) (fz:=(0,0)) a dC i u) sM⟩
theorem NF (S:X4) (J H F G E I p:Nat) (a1:X5) (c1:Nat) (a2:X5) (c2:Nat) (k:Ak) (q r s t u v x y M N O P Q R T U V:Value) (w:World)
  (h:EvAt w S J H F G E I p a1 c1 a2 c2 k #[q,r,s,t,u,v,x,.int .u32 0,.int .i32 0,y,M,N,O,P,Q,R,T,U,V]):
  Yk 189 #[.pointer (some ⟨p,7,none⟩),.func (.func 118) #[] #[pT J,pT H,pT F,pT G,pT E,pT I]] w λm B=>
   m=.returned (.tuple #[])/\(∃a b c d e g i j l,Blk B p 256 #[q,r,s,t,u,v,x,.int .u32 1,.int .i32 0,y,a,b,c,d,e,g,i,j,l])/\Mod (λk=>k=p) [some 256] w B:=by
 have n:=h.gu;obtain⟨b2,Y⟩:=n.e2 7 8;have b9:=n.frozen 7;have a3:=n.frozen 8;have z:=h.store 8 (.int .i32 1);obtain⟨D,A⟩:=eX (w.setCell ⟨p,8,none⟩ (.int .i32 1));rw[<-A]at z;(have W:Mod (λk=>k=p) [some 256] w D:=by rw[A];exact(aV (λk=>k=p) [some 256] w).setCell n (λ_=>rfl) (List.Mem.head _) 8 _);have Z:=z.gu.Wu 7;have L:=zH (lock_free ⟨p,8,none⟩ w Y a3);rw[<-A]at L;obtain⟨a4,a8,a6⟩:=Av (pV ⟨p,7,none⟩ false D Z) (MS S J H F G E I p a1 c1 a2 c2 k q r s t u v x (.int .u32 0) (.int .i32 1) y M N O P Q R T U V D z) W;have c0:∀(a0:Bool) (w:World),(Op.unary .not (bV a0)).run prog w=.ok (bV (!a0)) w:=λ_ _=>rfl;clear h n z W b2 Y b9 a3 Z A;go_enter_defers Tryz.func189,Tryz.ntmps189;go_wp2_with (first|(go_at_call 236;refine(L.o).mono ?_;rintro m B ⟨rfl,rfl⟩)|(go_at_call 109;refine(a4.o).mono ?_;rintro m B ⟨rfl,rfl⟩)|(go_at_call 118;refine(a8.o).mono ?_;rintro m C ⟨rfl,⟨a,b,c,d,e,g,i,j,l,o⟩,X⟩;have a5:=zH o;have a7:=zH X;clear o X));have o:=a5.o;obtain⟨b3,b7⟩:=o.cz 7;have K:Blk (C.drew.setCell ⟨p,7,none⟩ (.int .u32 1)) p 256 #[q,r,s,t,u,v,x,.int .u32 1,.int .i32 1,y,a,b,c,d,e,g,i,j,l]:=o.drew.bF 7 (.int .u32 1);obtain⟨b4,b8⟩:=K.cz 8;have b0:Blk ((C.drew.setCell ⟨p,7,none⟩ (.int .u32 1)).setCell ⟨p,8,none⟩ (.int .i32 0)) p 256 #[q,r,s,t,u,v,x,.int .u32 1,.int .i32 0,y,a,b,c,d,e,g,i,j,l]:=K.bF 8 (.int .i32 0);have b1:Mod (λk=>k=p) [some 256] w ((C.drew.setCell ⟨p,7,none⟩ (.int .u32 1)).setCell ⟨p,8,none⟩ (.int .i32 0)):=
  ((a6.o.trans a7.o).drew.setCell o.drew (λ_=>rfl) sM 7 _).setCell K (λ_=>rfl) sM 8 _
 refine leaves_cons (f:=116) (args:= #[.pointer (some ⟨p,7,none⟩),bV true]) sM (by simp[go_sem]) ?_;refine(XL ⟨p,7,none⟩ (.int .u32 0) .returning _ b3 b7).mono ?_;rintro m b5 b6 ⟨rfl,rfl,rfl⟩;refine leaves_cons (f:=237) (args:= #[.pointer (some ⟨p,8,none⟩)]) (by simp[settle]) (by simp[go_sem]) ?_;refine(unlock_deferred ⟨p,8,none⟩ _ _ b4 b8).mono ?_;rintro m b5 b6 ⟨rfl,rfl,rfl⟩;have a9:(∃a b c d e g i j l,Blk ((C.drew.setCell ⟨p,7,none⟩ (.int .u32 1)).setCell ⟨p,8,none⟩ (.int .i32 0)) p 256 #[q,r,s,t,u,v,x,.int .u32 1,.int .i32 0,y,a,b,c,d,e,g,i,j,l]):=⟨a,b,c,d,e,g,i,j,l,b0⟩;simp only[Leaves,settle];exact⟨_,results_none rfl _ _ _,rfl,a9,b1⟩
theorem P9 (S:X4) (f d b c a e p:Nat) (a1:X5) (c1:Nat) (a2:X5) (c2:Nat) (k:Ak) (g i j l m n o q r s t u v x y z A:Value) (w:World)
  (h:EvAt w S f d b c a e p a1 c1 a2 c2 k #[g,i,j,l,m,n,o,.int .u32 0,.int .i32 0,q,r,s,t,u,v,x,y,z,A]):
  Yk 117 #[.pointer (some ⟨p,7,none⟩),.func (.func 118) #[] #[pT f,pT d,pT b,pT c,pT a,pT e]] w λK E=>
   K=.returned (.tuple #[])/\(∃L M N O P Q R T U,Blk E p 256 #[g,i,j,l,m,n,o,.int .u32 1,.int .i32 0,q,L,M,N,O,P,Q,R,T,U])/\Mod (λk=>k=p) [some 256] w E:=by
 have D:=h.gu.Wu 7;obtain⟨G,J⟩:=yx (pV ⟨p,7,none⟩ false w D) (NF S f d b c a e p a1 c1 a2 c2 k g i j l m n o q r s t u v x y z A w h);have V:∀(F:Bool) (w:World),(Op.unary .not (bV F)).run prog w=.ok (bV (!F)) w:=λ_ _=>rfl;clear h D;go_enter Tryz.func117,Tryz.ntmps117;go_wp2_with fail;refine Yg G.o ?_;go_wp2_with fail;refine Yd J.o ?_;rintro W ⟨B,C⟩;obtain⟨H,I⟩:=yx B C;clear B C;go_wp2;go_end0;exact⟨rfl,H.o,I.o⟩
def gtT:List (Option TypeId):=[some 256,some 314,some 30,some 236,some 177]
def vZ (w:World) (S:X4) (p g:Nat) (R:Rgu) (e:Ending) (w':World):Prop:=
 ∃a c b d,e=.returned (.tuple #[.agg (kG R.ver).toArray,.agg (kH a c b d R.ack).toArray])/\
  nu w' (λf=>w.heap.size<=f/\f<w'.heap.size) a c b d R.ack/\mI w' (grow S w w') p R.gu/\iJ w' (grow S w w') g R.led/\Mod S gtT w w'
structure Loc (W:World) (p b4 b7 b8 b9:Nat) (now:Int):Prop where
 h4:Blk W b4 150 #[pT p]
 h7:Blk W b7 30 #[uI now]
 h8:Blk W b8 74 #[jI 0,jI 0,uI 0,bV false]
 h9:Blk W b9 92 jK
theorem Loc.below {now:Int} (h:Loc w p b k n m now) (hb:bW w w'):Loc w' p b k n m now:=
 ⟨h.h4.below hb h.h4.lt,h.h7.below hb h.h7.lt,h.h8.below hb h.h8.lt,h.h9.below hb h.h9.lt⟩
theorem Loc.o {now:Int} {F:X4} {T:X8} (h:Loc w p b k n m now) (a:Mod F T w w') (c:¬F b) (d:¬F k) (e:¬F n) (f:¬F m):Loc w' p b k n m now:=
 ⟨h.h4.o a c,h.h7.o a d,h.h8.o a e,h.h9.o a f⟩
theorem Loc.bF {now:Int} (h:Loc w p b k n m now) (i:Nat) (u:Value) (a:b≠q) (c:k≠q) (d:n≠q) (e:m≠q):Loc (w.setCell ⟨q,i,none⟩ u) p b k n m now:=
 ⟨h.h4.far a u,h.h7.far c u,h.h8.far d u,h.h9.far e u⟩
theorem mI.bF {S:X4} {g:Gu} {n1 m n o q:Int} {r a c d e f i j k l:Value} (hb:Blk w p 256 #[pT b,uI n1,uI m,uI n,uI o,uI q,.int .u32 (b32 g.over),.int .u32 (b32 g.over),.int .i32 0,r,a,c,d,e,f,i,j,k,l]) (z:wX w S b g.bu) (y:S p)
  (s:n1=g.n.dB) (t:m=g.n.eT) (u:n=g.n.fI) (v:o=g.n.bE) (x:q=g.n.late):mI w S p g:=by
 subst s t u v x;exact⟨⟨b,r,a,c,d,e,f,i,j,k,l,hb,z⟩,y⟩
structure St9 (F:X4) (W0 W:World) (b8 b9:Nat):Prop where
 md:Mod F [some 74,some 92] W0 W
 h8:∃c8,Blk W b8 74 c8
 h9:∃c9,Blk W b9 92 c9
theorem St9.s8 {F:X4} (h:St9 F w w' p b) (e:p≠b) (d:F p) (i:Nat) (u:Value):St9 F w (w'.setCell ⟨p,i,none⟩ u) p b:=by
 obtain⟨f,a⟩:=h.h8;obtain⟨g,c⟩:=h.h9;exact⟨h.md.setCell a (λ_=>d) sM i u,⟨_,a.bF i u⟩,⟨_,c.far (Ne.symm e) u⟩⟩
theorem St9.s9 {F:X4} (h:St9 F w w' p b) (e:p≠b) (d:F b) (i:Nat) (u:Value):St9 F w (w'.setCell ⟨b,i,none⟩ u) p b:=by
 obtain⟨f,c⟩:=h.h8;obtain⟨g,a⟩:=h.h9;exact⟨h.md.setCell a (λ_=>d) sM i u,⟨_,c.far e u⟩,⟨_,a.bF i u⟩⟩
theorem gexit {S F:X4} {R:Rgu} {y z:Array Value} {a1 a2:X5} {c1 c2:Nat} (m o q r s t u v x:Value) {e:Ending} (B:Blk w' k 74 y) (C:Blk w' n 92 z) (c:k≠n) (i:w.heap.size<=k) (g:w.heap.size<=n)
  (H:mI w' F p R.gu) (I:iJ w' F b R.led) (D:∀a,F a->grow S w w' a) (J:Mod S gtT w w') (E:nu w' (λa=>w.heap.size<=a/\a<w'.heap.size) a1 c1 a2 c2 R.ack)
  (G:e=.returned (.tuple #[.agg (kG R.ver).toArray,.agg (kH a1 c1 a2 c2 R.ack).toArray])):
  vZ w S p b R e (((((((((w'.setCell ⟨k,0,none⟩ m).setCell ⟨k,1,none⟩ o).setCell ⟨k,2,none⟩ q).setCell ⟨k,3,none⟩ r).setCell ⟨n,0,none⟩ s).setCell ⟨n,1,none⟩ t).setCell ⟨n,2,none⟩ u).setCell ⟨n,3,none⟩ v).setCell ⟨n,4,none⟩ x):=by
 have A:St9 (λa=>w.heap.size<=a) w' w' k n:=⟨aV _ _ _,⟨_,B⟩,⟨_,C⟩⟩;have f:=((((((((A.s8 c i 0 m).s8 c i 1 o).s8 c i 2 q).s8 c i 3 r).s9 c g 0 s).s9 c g 1 t).s9 c g 2 u).s9 c g 3 v).s9 c g 4 x;have l:=f.md.size;have j:∀a,F a->grow S w _ a:=λa d=>(D a d).imp id (λh=>⟨h.1,aC h.2 l⟩);exact⟨a1,c1,a2,c2,G,(E.keep (f.md.aM (ts:=[some 272]) dC) sM).mono (λa d=>⟨d.1,aC d.2 l⟩),
  (H.keep (f.md.aM (ts:=[some 256,some 314,some 30]) dC) sM sM sM).mono j,
  (I.keep (f.md.aM (ts:=[some 236,some 177]) dC) sM sM).mono j,J.nA f.md (λa d=>d)⟩
theorem GD {S F:X4} {R:Rgu} {a1 a2:X5} {c1 c2:Nat} {e:Ending} (d:St9 (λa=>w.heap.size<=a) w' W k n)
  (m:mI w' F p R.gu) (o:iJ w' F b R.led) (i:∀a,F a->grow S w w' a) (q:Mod S gtT w w') (j:nu w' (λa=>w.heap.size<=a/\a<w'.heap.size) a1 c1 a2 c2 R.ack)
  (l:e=.returned (.tuple #[.agg (kG R.ver).toArray,.agg (kH a1 c1 a2 c2 R.ack).toArray])):
  vZ w S p b R e W:=by
 have g:=d.md.size;have f:∀a,F a->grow S w W a:=λa c=>(i a c).imp id (λh=>⟨h.1,aC h.2 g⟩);exact⟨a1,c1,a2,c2,l,(j.keep (d.md.aM (ts:=[some 272]) dC) sM).mono (λa c=>⟨c.1,aC c.2 g⟩),
  (m.keep (d.md.aM (ts:=[some 256,some 314,some 30]) dC) sM sM sM).mono f,
  (o.keep (d.md.aM (ts:=[some 236,some 177]) dC) sM sM).mono f,q.nA d.md (λa c=>c)⟩
theorem nu.lt_ {B:Nat} {a1 a2:X5} {c1 c2:Nat} {k:Ak} (h:nu w (λa=>B<=a) a1 c1 a2 c2 k):nu w (λa=>B<=a/\a<w.heap.size) a1 c1 a2 c2 k:=
 {h with cu:=h.cu.lt_,aO:=h.aO.lt_}
theorem nu.zero (w:World) (S:X4):nu w S none 0 none 0 akZ:=⟨Row.WH,av _,Row.WH,av _,(λa h=>by cases h),(λa h=>by cases h),dC,dC⟩
theorem Blk.modS {g:Nat} {F:X4} {t:TypeId} {T:X8} (e:F g) (f:some t∈T):∀(i:List Value) (a:Nat) (c b:World) (d:Array Value),Blk b g t d->Mod F T c b->Mod F T c (b.setCells g a i)/\∃j,Blk (b.setCells g a i) g t j
 |[],_,_,_,_,h,hm=>⟨hm,_,h⟩
 |v::r,a,c,b,d,h,hm=>Blk.modS e f r (a+1) c _ _ (h.bF a v) (hm.setCell h (λ_=>e) f a v)
theorem Blk.Ik {g:Nat} {e f i j a b c d:Value} (h:Blk w g t #[e,f,i,j]):Blk (w.setCells g 0 [a,b,c,d]) g t #[a,b,c,d]:=(((h.bF 0 a).bF 1 b).bF 2 c).bF 3 d
theorem Blk.set5 {g:Nat} {f i j k l a b c d e:Value} (h:Blk w g t #[f,i,j,k,l]):Blk (w.setCells g 0 [a,b,c,d,e]) g t #[a,b,c,d,e]:=((((h.bF 0 a).bF 1 b).bF 2 c).bF 3 d).bF 4 e
theorem St9.c8 {F:X4} (h:St9 F w w' p b) (i:p≠b) (f:F p) (a:List Value):St9 F w (w'.setCells p 0 a) p b:=by
 obtain⟨c,d⟩:=h.h8;obtain⟨k,e⟩:=h.h9;obtain⟨j,g⟩:=Blk.modS (T:=[some 74,some 92]) f sM a 0 w w' c d h.md;exact⟨j,g,⟨_,Blk.gy (Ne.symm i) a 0 w' e⟩⟩
theorem St9.c9 {F:X4} (h:St9 F w w' p b) (i:p≠b) (f:F b) (a:List Value):St9 F w (w'.setCells b 0 a) p b:=by
 obtain⟨k,d⟩:=h.h8;obtain⟨c,e⟩:=h.h9;obtain⟨j,g⟩:=Blk.modS (T:=[some 74,some 92]) f sM a 0 w w' c e h.md;exact⟨j,⟨_,Blk.gy i a 0 w' d⟩,g⟩
def zN (g:Gu) (l:Le) (D:Rak) (now:Int):Rgu:=
 if D.err≠0 then⟨⟨1,1,0,false⟩,akZ,{g with n:={g.n with dB:=g.n.dB+1}},l⟩else
 if(jW l D.val).why≠0 then
  ⟨⟨1,(jW l D.val).why,0,qy g.bu now⟩,akZ,{g with bu:=uU g.bu now,n:={g.n with eT:=g.n.eT+1,bE:=if qy g.bu now then g.n.bE+1 else g.n.bE}},l⟩else
 if(kL (lX l (jW l D.val).val) D.val).why≠0 then⟨⟨3,(kL (lX l (jW l D.val).val) D.val).why,(kL (lX l (jW l D.val).val) D.val).pn,false⟩,D.val,{g with over:=true},lX l (jW l D.val).val⟩else
 ⟨⟨2,0,(jW l D.val).val,false⟩,D.val,{g with n:={g.n with fI:=g.n.fI+1}},lX l (jW l D.val).val⟩
theorem wJ {g:Gu} (l:Le) (b:List Int) (now:Int) (h:g.over=false):dN g l b now=zN g l (jy b) now:=by
 unfold dN zN;rw[h];rfl
structure jN (k g m:Nat) (p:Pe):Prop where
 delay:Word p.delay
 lh:0<=p.floor
 QI:p.floor<=4611686018427387903
 pE:0<=p.next
 nI:p.next<=4611686018427387904
 GN:0<=p.bytes
 yh:p.bytes<=1500*k
 got:GF p.floor p.got
 sV:p.got.length<=g
 aO:GF p.floor p.aO
 oq:p.aO.length<=m
 kept:∀x∈p.kept,Word x.bX/\0<=x.pn/\x.pn<=4611686018427387903
 Ap:p.kept.Pairwise (λx y=>x.pn≠y.pn)
 Cm:∀x∈p.kept,dI p.got x.pn=true
 yV:p.kept.length<=k
 tX:0<=p.fG
 tV:p.fG<=1
 dw:Word p.dw
 due:Word p.due
 fK:Gd p.fK
 EL:p.fK.length<=k
 pieces:LF p.pieces
 pok:∀x∈p.pieces,dP x.body/\x.body.length<=1500/\x.off+x.body.length<=4611686018427387904
 cov:∀n,Cov p.pieces n↔dI p.fK n=true
 plen:(p.pieces.length:Int)<=p.bytes
theorem PW (h:Word x):jN 0 32 32 (kU x)where
 delay:=h
 lh:=by simp[kU]
 QI:=by simp[kU]
 pE:=by simp[kU]
 nI:=by simp[kU]
 GN:=by simp[kU]
 yh:=by simp[kU]
 got:=trivial
 sV:=by simp[kU]
 aO:=trivial
 oq:=by simp[kU]
 kept:=λb a=>by simp[kU]at a
 Ap:=List.Pairwise.nil
 Cm:=λb a=>by simp[kU]at a
 yV:=by simp[kU]
 tX:=by simp[kU]
 tV:=by simp[kU]
 dw:=⟨by simp[kU],by simp[kU]⟩
 due:=⟨by simp[kU],by simp[kU]⟩
 fK:=trivial
 EL:=by simp[kU]
 pieces:=⟨List.Pairwise.nil,λb a=>by simp[kU]at a⟩
 pok:=λb a=>by simp[kU]at a
 cov:=λc=>⟨λ⟨b,a,_⟩=>by simp[kU]at a,λh=>by simp[kU,dI]at h⟩
 plen:=by simp[kU]
theorem xV (lo:Int):∀(a:List Sp),(jr lo a).length<=a.length
 |[]=>av _
 |s::t=>by
  have:=xV lo t;unfold jr;split
  .simpa using this
  .simp only[aY];omega
theorem GF.gd {b:Int} {l:List Sp} (h:GF b l) (hb:0<=b):Gd l:=h.mono hb
theorem EQ {l:List Sp} (h:Gd l) (lo:Int):(gV l lo).length<=l.length:=by rw[vJ h];exact xV lo l
theorem um {k g m:Nat} {p:Pe} (h:jN k g m p) {f:Int} (l:f<=4611686018427387903):jN k g m (gz p f):=by
 unfold gz;split
 .exact h
 next c=>
 have a:=h.lh;have e:=pP (lo:=f) h.got a;have i:=pP (lo:=f) h.aO a;have n:max p.floor f=f:=oM;rw[n]at e i;exact{h with
  lh:=by simp only;omega
  QI:=l
  got:=e
  sV:=ay (EQ (h.got.gd a) f) h.sV
  aO:=i
  oq:=ay (EQ (h.aO.gd a) f) h.oq
  kept:=λb d=>h.kept b (dx.1 d).1
  Ap:=h.Ap.filter _
  Cm:=λb d=>by
   have j:=dx.1 d;show dI (gV p.got f) b.pn=true;rw[sW (h.got.gd a),h.Cm b j.1];simpa using j.2
  yV:=ay (List.length_filter_le _ _) h.yV}
theorem GF.two {b:Int} {l:List Sp} (h:GF b l) (d:2<=l.length):b<(l.getD 1 ⟨0,0⟩).lo/\(l.getD 1 ⟨0,0⟩).lo<=4611686018427387903/\(jr (l.getD 1 ⟨0,0⟩).lo l).length+1<=l.length:=by
 rcases l with _|⟨f,_|⟨a,c⟩⟩
 .simp at d
 .simp at d
 .obtain⟨g,i,j,k,m,n,o⟩:=h
  simp only[List.getD_cons_succ,List.getD_cons_zero];refine⟨oM,oM,?_⟩;have e:jr a.lo (f::a::c)=jr a.lo (a::c):=by
   conv=>lhs;unfold jr
   rw[Ww oM]
  rw[e];have:=xV a.lo (a::c);simp only[aY]at this|-;omega
theorem qM {p:Pe} (h:jN k 33 m p):jo p.got.length p=(if 32<p.got.length then gz p (p.got.getD 1 ⟨0,0⟩).lo else p)/\jN k 32 m (jo p.got.length p):=by
 have l:=h.sV;by_cases b:32<p.got.length
 .obtain⟨i,e,j⟩:=h.got.two oM
  have f:=um h e;have g:(gz p (p.got.getD 1 ⟨0,0⟩).lo).got.length<=32:=by
   unfold gz;rw[Ww oM];show(gV p.got (p.got.getD 1 ⟨0,0⟩).lo).length<=32;rw[vJ (h.got.gd h.lh)];omega
  have c:jo p.got.length p=gz p (p.got.getD 1 ⟨0,0⟩).lo:=by
   obtain⟨a,d⟩:∃a,p.got.length=a+1:=⟨p.got.length -1,oM⟩;rw[d,jo,aB b];cases a with
   |zero=>rfl
   |succ a=>rw[jo,Ww oM]
  rw[aB b,c];exact⟨rfl,{f with sV:=g}⟩
 .have c:jo p.got.length p=p:=by
   cases d:p.got.length with
   |zero=>rfl
   |succ a=>rw[jo,Ww b]
  rw[Ww b,c];exact⟨rfl,{h with sV:=by omega}⟩
theorem nX {k g:Nat} {p:Pe} (h:jN k g 33 p):iC p.aO.length p=(if 32<p.aO.length then gz p (p.aO.getD 1 ⟨0,0⟩).lo else p)/\jN k g 32 (iC p.aO.length p):=by
 have m:=h.oq;by_cases b:32<p.aO.length
 .obtain⟨j,e,l⟩:=h.aO.two oM
  have f:=um h e;have i:(gz p (p.aO.getD 1 ⟨0,0⟩).lo).aO.length<=32:=by
   unfold gz;rw[Ww oM];show(gV p.aO (p.aO.getD 1 ⟨0,0⟩).lo).length<=32;rw[vJ (h.aO.gd h.lh)];omega
  have c:iC p.aO.length p=gz p (p.aO.getD 1 ⟨0,0⟩).lo:=by
   obtain⟨a,d⟩:∃a,p.aO.length=a+1:=⟨p.aO.length -1,oM⟩;rw[d,iC,aB b];cases a with
   |zero=>rfl
   |succ a=>rw[iC,Ww oM]
  rw[aB b,c];exact⟨rfl,{f with oq:=i}⟩
 .have c:iC p.aO.length p=p:=by
   cases d:p.aO.length with
   |zero=>rfl
   |succ a=>rw[iC,Ww b]
  rw[Ww b,c];exact⟨rfl,{h with oq:=by omega}⟩
def nW (d:Da):Sp:=⟨d.off,d.off+d.body.length -1⟩
def uT (p:Pe) (d:Da):List Sp:=p.fK.foldl jh [nW d]
def nZ (d:Da) (x:Sp):Pi:=⟨x.lo,(d.body.take (x.hi -d.off+1).toNat).drop (x.lo -d.off).toNat⟩
theorem PY (p:Pe) (d:Da):Es p d={p with pieces:=p.pieces++(uT p d).map (nZ d),fK:=iV p.fK (nW d)}:=rfl
theorem IQ {p:Pe} {d:Da} (n:Gd p.fK) (e:DOk d):GF d.off (uT p d)/\(∀a,dI (uT p d) a=(nV a (nW d)&& !dI p.fK a))/\∀b∈uT p d,b.hi<d.off+d.body.length:=by
 obtain⟨l,o,q⟩:=FX e.vz e.off1 e.CW;have k:GF d.off [nW d]:=⟨bY _,by simp only[nW];omega,by simp only[nW];omega,trivial⟩;obtain⟨f,j⟩:=tN p.fK [nW d] d.off k l (λb c=>(GF.low n b c).2);have g:∀a,dI (uT p d) a=(nV a (nW d)&& !dI p.fK a):=λa=>by
  unfold uT;rw[j a,iX,LB,Bool.or_false]
 refine⟨f,g,λb c=>?_⟩;have m:=GF.low f b c;have:dI (uT p d) b.hi=true:=pW.2 ⟨b,c,m.2.1,bY _⟩;rw[g,Bool.and_eq_true]at this;have i:=this.1;(have r:b.hi<=(nW d).hi:=by simp[nV]at i;exact i.2);have s:(nW d).hi=d.off+d.body.length -1:=rfl;omega
theorem vo {d:Da} {x:Sp} (a:d.off<=x.lo) (b:x.lo<=x.hi) (c:x.hi<d.off+d.body.length):((nZ d x).body.length:Int)=x.hi -x.lo+1:=by
 unfold nZ;simp only[bI,aT];omega
theorem ID {d:Da} {x:Sp} (a:d.off<=x.lo) (b:x.lo<=x.hi) (c:x.hi<d.off+d.body.length) (n:Int):((nZ d x).off<=n/\n<(nZ d x).off+((nZ d x).body.length:Int))↔(x.lo<=n/\n<=x.hi):=by
 rw[vo a b c];unfold nZ;simp only;omega
theorem Gh {d:Da} {l:List Sp} (c:GF d.off l) (e:∀a∈l,a.hi<d.off+d.body.length) (n:Int):Cov (l.map (nZ d)) n↔dI l n=true:=by
 rw[pW];constructor
 .rintro⟨g,f,h⟩
  obtain⟨a,b,rfl⟩:=List.mem_map.1 f;have:=GF.low c a b;exact⟨a,b,(ID this.1 this.2.1 (e a b) n).1 h⟩
 .rintro⟨a,b,h⟩
  have:=GF.low c a b;exact⟨nZ d a,List.mem_map.2 ⟨a,b,rfl⟩,(ID this.1 this.2.1 (e a b) n).2 h⟩
theorem Qg {d:Da}:∀(f:List Sp) (c:Int),GF c f->d.off<=c->(∀a∈f,a.hi<d.off+d.body.length)->(f.map (nZ d)).Pairwise Dj
 |[],_,_,_,_=>List.Pairwise.nil
 |a::t,c,h,hb,hh=>by
  obtain⟨k,i,l,g⟩:=h;refine List.pairwise_cons.2 ⟨λn j=>?_,Qg t (a.hi+2) g oM (λb e=>hh b (by simp[e]))⟩;obtain⟨b,e,rfl⟩:=List.mem_map.1 j;have m:=GF.low g b e;have:=vo (d:=d) (x:=a) oM i (hh a sM);refine .inl ?_;rw[this];show a.lo+(a.hi -a.lo+1)<=b.lo;omega
theorem dj_of {x y:Pi} (d:1<=x.body.length) (hy:1<=y.body.length) (h:∀a,(x.off<=a/\a<x.off+x.body.length)->(y.off<=a/\a<y.off+y.body.length)->False):Dj x y:=by
 unfold Dj;by_cases b:x.off<=y.off
 .exact .inl (Decidable.byContradiction λc=>h y.off ⟨b,oM⟩ ⟨bY _,oM⟩)
 .exact .inr (Decidable.byContradiction λc=>h x.off ⟨bY _,oM⟩ ⟨oM,oM⟩)
theorem PX {k g m:Nat} {p:Pe} {d:Da} (h:jN k g m {p with bytes:=p.bytes -d.body.length}) (l:DOk d):jN (k+1) g m (Es p d):=by
 obtain⟨i,t,j⟩:=IQ (p:=p) h.fK l;obtain⟨B,C,J,I⟩:=Hl h.yh h.GN l.xE l.CW;simp only at B C;have L:=l.vz;have M:=l.off1;have K:=i.count (e:=d.off+d.body.length) j oM;(have w:(nW d).lo<=(nW d).hi:=by simp only[nW];omega);(have x:(nW d).hi<=4611686018427387903:=by simp only[nW];omega);have v:∀b∈(uT p d).map (nZ d),0<=b.off/\1<=b.body.length:=by
  intro b a;obtain⟨f,q,rfl⟩:=List.mem_map.1 a;have o:=GF.low i f q;have:=vo (d:=d) o.1 o.2.1 (j f q);exact⟨by show 0<=f.lo;omega,oM⟩
 rw[PY];exact{h with
  GN:=by simp only;omega
  yh:=by simp only;omega
  yV:=Nat.le_succ_of_le h.yV
  fK:=zV h.fK (by simp only[nW];omega) w x
  EL:=ay (zu _ _) (Nat.succ_le_succ h.EL)
  pieces:=⟨List.pairwise_append.2 ⟨h.pieces.dj,Qg _ _ i (bY _) j,λb a z y=>dj_of (h.pieces.pos b a).2 (v z y).2 (λc E F=>by
   have s:dI p.fK c=true:=(h.cov c).1 ⟨b,a,E⟩;have u:dI (uT p d) c=true:=(Gh i j c).1 ⟨z,y,F⟩;rw[t,s]at u;simp at u)⟩,λb a=>(WB.1 a).elim (h.pieces.pos b) (v b)⟩
  pok:=λb a=>by
   rcases WB.1 a with a|a
   .exact h.pok b a
   .obtain⟨f,q,rfl⟩:=List.mem_map.1 a
    have o:=GF.low i f q;have A:=j f q;have:=vo (d:=d) o.1 o.2.1 A;refine⟨λH G=>l.bok H (bf (dW G)),oM,?_⟩;rw[this];show f.lo+(f.hi -f.lo+1)<=_;omega
  cov:=λc=>by
   show Cov (p.pieces++(uT p d).map (nZ d)) c↔dI (iV p.fK (nW d)) c=true;rw[vW h.fK w x,Bool.or_eq_true];constructor
   .rintro⟨b,a,n⟩
    rcases WB.1 a with a|a
    .exact .inl ((h.cov c).1 ⟨b,a,n⟩)
    .have:=(Gh i j c).1 ⟨b,a,n⟩
     rw[t,Bool.and_eq_true]at this;exact .inr this.1
   .intro D
    by_cases r:dI p.fK c=true
    .obtain⟨b,a,n⟩:=(h.cov c).2 r
     exact⟨b,by simp[a],n⟩
    .have s:=D.resolve_left r
     obtain⟨b,a,n⟩:=(Gh i j c).2 (by rw[t,s];simp[r]);exact⟨b,WB.2 (.inr a),n⟩
  plen:=by
   have:=h.plen;simp only at this;show((p.pieces++(uT p d).map (nZ d)).length:Int)<=p.bytes;rw[aU,bR];omega}
theorem Gy {l:List Sp} (h:Gd l) (n:Int):oQ l n=dI l n:=by unfold oQ;rw[h.good];rfl
def sK (p:Pe) (d:Da):Pe:=
 {Es {p with bytes:=p.bytes+d.body.length} d with got:=iV p.got ⟨d.pn,d.pn⟩,kept:=p.kept++[⟨d.pn,d.bX,uM d.ecn⟩],aO:=if jB d.ecn then p.aO else iV p.aO ⟨d.pn,d.pn⟩}
theorem Mb (p:Pe) (d:Da):Ga p d=iC (jo (gz (sK p d) d.bn).got.length (gz (sK p d) d.bn)).aO.length (jo (gz (sK p d) d.bn).got.length (gz (sK p d) d.bn)):=rfl
theorem Qz (n a:Int):nV n ⟨a,a⟩=(n==a):=by
 rw[mU];simp[nV];omega
theorem IK {p:Pe} {d:Da} (h:jN k 32 32 p) (e:DOk d) (j:p.floor<=d.pn) (o:dI p.got d.pn=false):jN (k+1) 33 33 (sK p d):=by
 have l:jN k 32 32 {{p with bytes:=p.bytes+d.body.length}with bytes:={p with bytes:=p.bytes+d.body.length}.bytes -d.body.length}:=by
  have c:p.bytes+d.body.length -d.body.length=p.bytes:=oM;simp only[c];exact h
 obtain⟨m,i,g,r⟩:=Hl (PX l e) h.lh e.pn1 e.pn0;(have n:∀f,dI (iV p.got ⟨d.pn,d.pn⟩) f=(dI p.got f||f==d.pn):=λf=>by rw[vW (h.got.gd i) (bY _) g,Qz]);exact{m with
  got:=Dh h.got i j (bY _) g
  sV:=ay (zu _ _) (Nat.succ_le_succ h.sV)
  aO:=by
   show GF p.floor (if jB d.ecn then p.aO else iV p.aO ⟨d.pn,d.pn⟩);split
   .exact h.aO
   .exact Dh h.aO i j (bY _) g
  oq:=by
   show(if jB d.ecn then p.aO else iV p.aO ⟨d.pn,d.pn⟩).length<=33;split
   .have:=h.oq;omega
   .exact ay (zu _ _) (Nat.succ_le_succ h.oq)
  kept:=λb a=>by
   rcases WB.1 a with a|a
   .exact h.kept b a
   .obtain rfl:=dZ.1 a
    exact⟨e.bX,r,g⟩
  Ap:=List.pairwise_append.2 ⟨h.Ap,List.pairwise_singleton _ _,λb a s q c=>by
   obtain rfl:=dZ.1 q;have:=h.Cm b a;simp only at c;rw[c,o]at this;cases this⟩
  Cm:=λb a=>by
   show dI (iV p.got ⟨d.pn,d.pn⟩) b.pn=true;rw[n];rcases WB.1 a with a|a
   .rw[h.Cm b a];rfl
   .obtain rfl:=dZ.1 a
    simp
  yV:=by
   show(p.kept++[_]).length<=k+1;rw[aU];exact Nat.succ_le_succ h.yV}
theorem Ma {p:Pe} {d:Da} (h:jN k 32 32 p) (a:DOk d) (g:p.floor<=d.pn) (i:dI p.got d.pn=false):jN (k+1) 32 32 (Ga p d):=by
 have b:=IK h a g i;have c:=um b (f:=d.bn) (by have:=a.Gt;have:=a.pn1;omega);have e:=(qM c).2;rw[Mb];exact(nX e).2
theorem Er {p:Pe} {g m:Nat} (h:jN k g m {p with fG:=0,due:=18446744073709551615}):jN k g m (lZ p).pe:=h
theorem Ep {p:Pe} {now:Int} (h:jN k 32 32 p):jN k 32 32 (kK p now).pe:=by
 unfold kK;split
 .exact Er {h with tX:=by simp,tV:=by simp,due:=⟨sM,sM⟩}
 .exact h
theorem jN.mono {k k' g m:Nat} {p:Pe} (h:jN k g m p) (a:k<=k'):jN k' g m p:=
 {h with yh:=by have:=h.yh;omega,yV:=ay h.yV a,EL:=ay h.EL a}
theorem NC {p:Pe} {b:List Int} {now:Int} (h:jN k 32 32 p) (hb:dP b) (l:Word now):jN (k+1) 32 32 (oN p b now).pe:=by
 unfold oN;split
 .exact h.mono (Nat.le_succ k)
 next c=>
 simp only[not_or,Decidable.not_not,Int.not_lt,Bool.not_eq_true]at c;obtain⟨g,i,f⟩:=c;have d:=zm hb g;rw[Gy (h.got.gd h.lh)]at f;have a:=Ma h d i f;obtain⟨q,r,s,t,n,o⟩:=LX d.pn0 d.pn1 a.tX a.tV a.pE a.nI;dsimp only;split
 (.exact a);split
 .exact Er {a with pE:=by simp only;omega,nI:=by simp only;omega,tX:=by simp,tV:=by simp,dw:=d.bX,due:=⟨sM,sM⟩}
 next c4=>
 have m:¬2<=(Ga p (ky b).val).fG+1:=λj=>c4 (.inl j);have e:jN (k+1) 32 32 {Ga p (ky b).val with next:=max (Ga p (ky b).val).next ((ky b).val.pn+1),fG:=(Ga p (ky b).val).fG+1,dw:=(ky b).val.bX}:=
  {a with pE:=by simp only;omega,nI:=by simp only;omega,tX:=by simp only;omega,tV:=by simp only;omega,dw:=d.bX}
 show jN (k+1) 32 32 (if _ then _ else _);split
 .exact{e with due:=fB l e.delay}
 .exact e
theorem tO:∀(a:Nat) (b:Int),dP (kM a b)
 |0,_,x,h=>by simp[kM]at h
 |a+1,b,x,h=>by
  rcases WB.1 h with h|h
  .exact tO a _ x h
  .obtain rfl:=dZ.1 h
   omega
theorem uO:∀(a:Nat) (b:Int),(kM a b).length=a
 |0,_=>rfl
 |a+1,b=>by simp[kM,uO a]
theorem Jo (m:Int) (l:List Int):(oP m l).length=l.length:=by cases l<;>rfl
theorem Po (n:Int):eU n<=8:=by unfold eU;split<;>(try split)<;>(try split)<;>(try split)<;>omega
theorem ui (n:Int):(kY n).length<=8:=by unfold kY;rw[Jo,uO];exact Po n
theorem uF {m:Int} {n:Int} (l:(k=1/\m=0/\0<=n/\n<64)\/(k=2/\m=64/\0<=n/\n<16384)\/(k=4/\m=128/\0<=n/\n<1073741824)\/(k=8/\m=192/\0<=n/\n<=4611686018427387903)):dP (oP m (kM k n)):=by
 have o:∀(b:List Int),dP b->(∀a e,b=a::e->a+m<256/\0<=m)->dP (oP m b):=by
  intro b g j p d;cases b with
  |nil=>cases d
  |cons a e=>
   obtain⟨c,q⟩:=j a e rfl;rcases bT.1 d with rfl|d
   .have:=g a sM;omega
   .exact g p (by simp[d])
 refine o _ (tO k n) (λa e i=>?_);rcases l with⟨rfl,rfl,f,c⟩|⟨rfl,rfl,f,c⟩|⟨rfl,rfl,f,c⟩|⟨rfl,rfl,f,c⟩<;>
  (simp only[kM,List.nil_append,List.cons_append,List.cons.injEq]at i;omega)
theorem uh {n:Int} (a:0<=n):dP (kY n):=by
 unfold kY eU;by_cases b:n<64
 (.rw[aB b];exact uF (.inl ⟨rfl,rfl,a,b⟩));rw[Ww b];by_cases c:n<16384
 (.rw[aB c];exact uF (.inr (.inl ⟨rfl,rfl,a,c⟩)));rw[Ww c];by_cases d:n<1073741824
 (.rw[aB d];exact uF (.inr (.inr (.inl ⟨rfl,rfl,a,d⟩))));rw[Ww d];by_cases e:n<=4611686018427387903
 (.rw[aB e];exact uF (.inr (.inr (.inr ⟨rfl,rfl,a,e⟩))));rw[Ww e];intro g f;simp[kM,oP]at f
theorem dP.app {a b:List Int} (d:dP a) (hb:dP b):dP (a++b):=λc e=>(WB.1 e).elim (d c) (hb c)
theorem Mm {d:Da} (h:DOk d):dP (rY d)/\(rY d).length<=100000:=by
 obtain⟨b,c,e,f,g⟩:=Ju (ui d.pn) (ui d.bn) (ui d.off) (ui (d.body.length:Int)) h.xE;(have i:d.ecn=1\/d.ecn=2\/d.ecn=3:=by have:=h.ecn;simp[tF]at this;omega);refine⟨?_,?_⟩
 .unfold rY
  refine((((((dP.app (λj a=>?_) (uh h.pn0)).app (uh h.zM)).app (uh h.vz)).app (tO 8 _)).app (uh oM)).app h.bok);simp only[bT,List.not_mem_nil,or_false]at a;omega
 .unfold rY lu
  simp only[aU,aY,List.length_nil,uO];omega
theorem Io:∀(b:List Sp) (a:Int),GF a b->dP (rM a b)/\(rM a b).length<=16*b.length
 |[],_,_=>⟨λm d=>by simp[rM]at d,by simp[rM]⟩
 |s::t,a,h=>by
  obtain⟨f,g,i,c⟩:=h;obtain⟨e,j⟩:=Io t _ c;have k:=ui (s.lo -a);have l:=ui (s.hi -s.lo);unfold rM;refine⟨((uh oM).app (uh oM)).app e,?_⟩;simp only[aU,aY];omega
theorem LZ {l:List Sp} (h:Gd l) (d:l.length<=32):dP (xL l)/\(xL l).length<=1+16*32:=by
 obtain⟨b,e⟩:=Io l 0 h;unfold xL;refine⟨λc a=>?_,by simp only[aY];omega⟩;rcases bT.1 a with rfl|a
 .omega
 .exact b c a
theorem Sn {a:Ak} (c:Gd a.cu) (d:Gd a.aO) (g:a.cu.length<=32) (i:a.aO.length<=32):dP (zP a)/\(zP a).length<=100000:=by
 obtain⟨e,k⟩:=LZ c g;obtain⟨f,l⟩:=LZ d i;unfold zP;refine⟨((((dP.app (λj b=>?_) e).app f).app (tO 8 _)).app (tO 8 _)).app (λj b=>?_),?_⟩
 .obtain rfl:=dZ.1 b;omega
 .obtain rfl:=dZ.1 b;split<;>omega
 .unfold lu
  simp only[aU,aY,List.length_nil,uO];omega
theorem II {p:Pe} {g m:Nat} (h:jN k g m {p with fG:=0,due:=18446744073709551615}) (d:g<=32) (e:m<=32):dP (lZ p).b/\(lZ p).b.length<=100000:=by
 unfold lZ;dsimp only;split
 .have a:=h.lh
  have b:=h.sV;have c:=h.oq;exact Sn (h.got.gd a) (h.aO.gd a) (ay b d) (ay c e)
 .exact⟨(λi f=>by cases f),sM⟩
theorem vv {p:Pe} {now:Int} (h:jN k 32 32 p):dP (kK p now).b/\(kK p now).b.length<=100000:=by
 unfold kK;split
 .exact II {h with tX:=by simp,tV:=by simp,due:=⟨sM,sM⟩} (av _) (av _)
 .exact⟨(λb a=>by cases a),sM⟩
theorem IJ {p:Pe} {b:List Int} {now:Int} (h:jN k 32 32 p) (hb:dP b) (l:Word now):dP (oN p b now).b/\(oN p b now).b.length<=100000:=by
 have e:dP ([]:List Int)/\([]:List Int).length<=100000:=⟨(λt j=>by cases j),sM⟩;unfold oN;split
 .exact e
 next c=>
 simp only[not_or,Decidable.not_not,Int.not_lt,Bool.not_eq_true]at c;obtain⟨g,i,f⟩:=c;have d:=zm hb g;rw[Gy (h.got.gd h.lh)]at f;have a:=Ma h d i f;obtain⟨o,q,r,s,m,n⟩:=LX d.pn0 d.pn1 a.tX a.tV a.pE a.nI;dsimp only;split
 (.exact e);split
 .exact II {a with pE:=by simp only;omega,nI:=by simp only;omega,tX:=by simp,tV:=by simp,dw:=d.bX,due:=⟨sM,sM⟩} (av _) (av _)
 .exact e
theorem Q7 {n:Int} (h:0<=n):dP (rR n)/\(rR n).length<=100000:=by
 unfold rR;split
 .exact⟨(λb a=>by cases a),sM⟩
 .have:=ui n
  refine⟨λb a=>?_,by simp only[aY];omega⟩;rcases bT.1 a with rfl|a
  .omega
  .exact uh h b a
theorem send_b {e:En} {p:Pi} (c:dG k e) (w:iY e.dH e.c.mss=some p) (u:¬e.c.dO<e.led.next) (x:¬eu e.led<1):dP (jH e p).b/\(jH e p).b.length<=100000:=by
 obtain⟨O,P,z,Q,R,A⟩:=nD c.qu w;obtain⟨B,C,S⟩:=DX c u x;obtain⟨b,s,L,I,H⟩:=Ju (wM c) ((zh e).1) c.cf.Ca c.qu.qx c.qu.base0;unfold jH;generalize J:eH e=a at*
 unfold wN;dsimp only;obtain⟨f,l⟩:=eX (yP (jg a) a.c.bits);obtain⟨d,t⟩:=eX (zn (jg (WG a)));rw[<-l,<-t];(have v:¬a.led.dO<a.led.next:=by rw[b.ll,s];exact B);have y:jG (WG (WG a)).led ⟨0,p.off,p.body.length,f,(WG (WG a)).now,d,false,0⟩=gG a.led ⟨0,p.off,p.body.length,f,(WG (WG a)).now,d,false,1⟩:=by
  unfold jG;rw[Ww (by simp only;omega)];rfl
 rw[y];obtain⟨D,o,E,q⟩:=xU ⟨0,p.off,p.body.length,f,(WG (WG a)).now,d,false,1⟩ b.le v C;generalize gG a.led ⟨0,p.off,p.body.length,f,(WG (WG a)).now,d,false,1⟩=i at*
 obtain⟨M,N,K⟩:=FX b.le.pE b.le.nI b.le.mh;have j:0<=eY i.led/\eY i.led<=i.val:=by
  rw[q,o];simp only;have G:=b.le.bn;have F:=b.le.KN;have n:eY a.led=gB a.led.next a.led.kept:=rfl;rw[aB trivial,<-n];omega
 have r:dP p.body:=by
  rw[A];exact λm g=>c.qb m (dW (bf g))
 split
 .exact Mm ⟨by simp only;omega,by simp only;omega,j.1,j.2,by simp only;omega,by simp only;omega,by rw[l];exact zL (pG b.wok _),z,by simp only;omega,r,by cases d<;>rfl⟩
 .exact⟨(λm g=>by cases g),sM⟩
structure PollD (e:En) (r:Rpo):Prop where
 b:dP r.b/\r.b.length<=100000
 c:(0<e.cO/\r.en.cO=e.cO -1/\r.en.led=e.led/\(ky r.b).err≠0)\/(eu r.en.led<eu e.led/\r.en.cO=e.cO)
theorem SA (n:Int):(ky (rR n)).err≠0:=by
 unfold rR;split
 .simp[ky,fQ]
 .unfold ky
  rw[MR];simp
theorem RU {e:En} (b:dG k e) (a:(WQ e).err=0):PollD e (WQ e):=by
 rw[vk]at a|-;by_cases i:Yn e=true
 (.rw[aB i]at a;exact Wy a (show¬((9:Int)=0) by decide));rw[Ww i]at a|-;by_cases f:0<e.cO
 .rw[aB f]
  exact⟨Q7 b.Ho,.inl ⟨f,rfl,rfl,SA _⟩⟩
 rw[Ww f]at a|-;unfold uS at a|-;cases hq:iY e.dH e.c.mss with
 |none=>rw[hq]at a;exact Wy a (show¬((10:Int)=0) by decide)
 |some p=>
  rw[hq]at a;dsimp only at a|-;by_cases j:e.fP=false/\e.cc.win.cr<gq e.led+p.body.length
  (.rw[aB j]at a;exact Wy a (show¬((7:Int)=0) by decide));rw[Ww j]at a|-;by_cases c:e.c.dO<e.led.next
  (.rw[aB c]at a;exact Wy a (show¬((8:Int)=0) by decide));rw[Ww c]at a|-;by_cases d:eu e.led<1
  (.rw[aB d]at a;exact Wy a (show¬((7:Int)=0) by decide));rw[Ww d]at a|-;by_cases g:vw e.fM e.c.gD e.now p.body.length=true
  .rw[aB g]at a|-
   obtain⟨n,o,q,r,s,t⟩:=nD b.qu hq;have m:Word (p.body.length:Int):=⟨oM,by have:=b.cf.Ca;omega⟩;have l:dG k {e with fM:=WR e.fM e.c.gD e.now p.body.length}:={b with pa:=Yr b.pa b.cf.Ym b.now m g,ra0:=b.ra0,ra1:=b.ra1};exact⟨send_b l hq c d,.inr (Ea l hq c d)⟩
  .rw[Ww g]at a;exact Wy a (show¬((7:Int)=0) by decide)
theorem BS {e:En} {now:Int} (d:dG k e) (f:Word now) (c:(fD e now).err=0):PollD e (fD e now):=by
 obtain⟨a,b⟩:=RU (qO d f) c;exact⟨a,b⟩
theorem Nw {e:En} (a:(WQ e).err≠0):(WQ e).en.cO=e.cO/\(WQ e).en.led=e.led:=by
 rw[vk]at a|-;split
 .exact⟨rfl,rfl⟩
 next c=>
 rw[Ww c]at a;split
 .next c2=>rw[aB c2]at a;exact Wy rfl a
 next c2=>
 rw[Ww c2]at a;unfold uS at a|-;split
 .exact⟨rfl,rfl⟩
 next p hp=>
 rw[hp]at a;dsimp only at a;split
 (.exact⟨rfl,rfl⟩);split
 (.exact⟨rfl,rfl⟩);split
 (.exact⟨rfl,rfl⟩);split
 .next c3 c4 c5 c6=>rw[Ww c3,Ww c4,Ww c5,aB c6]at a;exact Wy rfl a
 .exact⟨rfl,rfl⟩
theorem Qb (e:En) (b:List Int):(xw e b).en.cO=e.cO\/(xw e b).en.cO=e.cO+1:=by
 rw[Gc];split
 .exact .inl rfl
 .dsimp only
  rw[(Qa _ _ _).2.2];show(if _ then _ else _)=_\/(if _ then _ else _)=_;split
  .exact .inr rfl
  .exact .inl rfl
structure WdX (n m:Nat) (pa pb:Nat) (w:Wo):Prop where
 en:dG (w.heard+w.sent+m) w.en
 gs:GS w.en
 pe:jN w.eO.toNat 32 32 w.pe
 now:Word w.now
 vR:0<=w.eO
 fu:(w.fu:Int)<=w.eO
 ahead:vY w.ahead.count w.ahead
 back:vY w.back.count w.back
 ahc:w.ahead.count<=256*m
 ahi:w.eO+w.ahead.items.length+pa<=2*w.ahead.count
 bkc:(w.back.count:Int)<=w.eO+n
 bki:w.heard+w.back.items.length+pb<=2*w.back.count+n
 sent:(w.sent:Int)+w.en.cO<=w.heard+256*m
theorem WdX.small {w:Wo} (h:WdX n m p b w) (j:n<=1000) (i:m<=1000):w.ahead.count<=256000/\w.eO<=512000/\w.back.count<=513000/\w.heard<=1027000/\w.sent<=1283000:=by
 obtain⟨a,c,d,e,f,g⟩:=LX h.ahc h.ahi h.bkc h.bki h.sent h.en.rO;omega
theorem IB {q:Pp} (h:vY q.count q) {b:List Int} {now:Int} (hb:dP b) (i:b.length<=100000) (o:Word now):vY (qD q b now).count (qD q b now)/\(qD q b now).count=q.count+1/\(qD q b now).items.length<=q.items.length+2:=by
 have m:Word (mK q).delay:=by
  unfold mK;rw[aW];cases f:q.qF[q.count]?with
  |none=>exact⟨dC,dC⟩
  |some c=>exact h.word c (List.mem_of_getElem? f)
 have n:dP ((qp b).getD b)/\((qp b).getD b).length<=100000:=by
  unfold qp;split
  .exact⟨hb,i⟩
  next e=>
  have l:=zm hb (by simpa using e);exact Mm {l with ecn:=rfl}
 have f:∀(a:It),a=⟨WI now (mK q).delay,if(mK q).mark then(qp b).getD b else b⟩->Word a.iat/\dP a.b/\a.b.length<=100000:=by
  rintro a rfl;refine⟨fB o m,?_⟩;show dP (if(mK q).mark then(qp b).getD b else b)/\(if(mK q).mark then(qp b).getD b else b).length<=100000;split
  .exact n
  .exact⟨hb,i⟩
 have p:=h.items;unfold qD;by_cases e:(mK q).drop=true
 .rw[aB e]
  exact⟨⟨av _,by simp only;omega,h.ok,h.qF,h.word⟩,rfl,by simp only;omega⟩
 .rw[Ww e]
  dsimp only;obtain⟨a,k⟩:∃a:It,a=⟨WI now (mK q).delay,if(mK q).mark then(qp b).getD b else b⟩:=⟨_,rfl⟩;rw[<-k];have j:=f a k;have r:=vE q.items a;have s:=vE (uD q.items a) a;have g:∀c∈uD q.items a,Word c.iat/\dP c.b/\c.b.length<=100000:=λc d=>by
   rcases vD d with rfl|d
   .exact j
   .exact h.ok c d
  split
  .refine⟨⟨av _,by simp only;omega,λc d=>?_,h.qF,h.word⟩,rfl,oM⟩
   rcases vD d with rfl|d
   .exact j
   .exact g c d
  .exact⟨⟨av _,by simp only;omega,g,h.qF,h.word⟩,rfl,oM⟩
theorem Fx {w:Wo} {b:List Int} (h:WdX n m p (k+1) w) (hb:dP b):WdX n m p k (je w b):=by
 have c:=Mo (b:=b) h.en hb h.now;have d:(lU w.en b w.now).en.cO<=w.en.cO+1:=by
  rcases Qb (nO w.en w.now) b with a|a
  .have:(lU w.en b w.now).en.cO=w.en.cO:=a
   omega
  .have:(lU w.en b w.now).en.cO=w.en.cO+1:=a
   omega
 have e:=h.bki;have f:=h.sent;refine{h with en:=?_,gs:=gs_on1 (Mi h.gs w.now) b,bki:=?_,sent:=?_}
 .show dG (w.heard+1+w.sent+m) _
  exact c.mono oM
 .show(w.heard+1)+w.back.items.length+k<=2*w.back.count+n
  omega
 .show(w.sent:Int)+(lU w.en b w.now).en.cO<=((w.heard+1:Nat):Int)+256*m
  omega
theorem Fw {w:Wo} {a:Rpe} (h:WdX n m p b w) (c:jN w.eO.toNat 32 32 a.pe) (hb:dP a.b) (e:a.b.length<=100000) (i:(w.back.count:Int)+1<=w.eO+n):WdX n m p b (jP w a):=by
 unfold jP;split
 .obtain⟨f,d,j⟩:=IB h.back hb e h.now
  have g:=h.bki;exact{h with pe:=c,back:=f,bkc:=by simp only;rw[d];push_cast;omega,bki:=by simp only;rw[d];omega}
 .exact{h with pe:=c}
theorem Xx {w:Wo} {b:List Int} (h:WdX n m (p+1) k w) (hb:dP b):WdX n m p k (jZ w b):=by
 unfold jZ;have j:=h.vR;have a:(w.eO+1).toNat=w.eO.toNat+1:=oM;have c:=NC (now:=w.now) h.pe hb h.now;obtain⟨d,e⟩:=IJ h.pe hb h.now;obtain⟨f,g,i⟩:=FX h.ahi h.bkc h.fu;refine Fw ?_ (by show jN (w.eO+1).toNat 32 32 _;rw[a];exact c) d e (by show(w.back.count:Int)+1<=w.eO+1+n;omega);exact{h with
  pe:=by show jN (w.eO+1).toNat 32 32 w.pe;rw[a];exact h.pe.mono (Nat.le_succ _)
  vR:=by show 0<=w.eO+1;omega
  fu:=by
   show((if _ then _ else _:Nat):Int)<=w.eO+1;split
   .push_cast;omega
   .omega
  ahi:=by show w.eO+1+w.ahead.items.length+p<=2*(w.ahead.count:Int);omega
  bkc:=by show(w.back.count:Int)<=w.eO+1+n;omega}
theorem Hg {n m c:Nat}:∀(b:List (List Int)) {w:Wo},WdX n m b.length c w->(∀a∈b,dP a)->WdX n m 0 c (b.foldl jZ w)
 |[],_,h,_=>h
 |a::t,_,h,hb=>Hg t (Xx h (hb a sM)) (λe d=>hb e (by simp[d]))
theorem He {n m c:Nat}:∀(b:List (List Int)) {w:Wo},WdX n m c b.length w->(∀a∈b,dP a)->WdX n m c 0 (b.foldl je w)
 |[],_,h,_=>h
 |a::t,_,h,hb=>He t (Fx h (hb a sM)) (λe d=>hb e (by simp[d]))
theorem vY.rest {q:Pp} (h:vY k q) (now:Int):vY k {q with items:=iH now q.items}:=by
 have c:=pU now q.items;have d:=h.items;exact⟨h.count,by simp only;omega,λb a=>h.ok b (Nk a),h.qF,h.word⟩
def LQ (w:Wo) (n:Int):Wo:={w with now:=WI w.now n,ahead:={w.ahead with items:=iH (WI w.now n) w.ahead.items}}
def DL (w:Wo) (n:Int):Wo:=(iy (WI w.now n) w.ahead.items).foldl jZ (LQ w n)
def qB (w:Wo) (n:Int):Wo:=jP (DL w n) (kK (DL w n).pe (DL w n).now)
def LP (w:Wo) (n:Int):Wo:={qB w n with back:={(qB w n).back with items:=iH (qB w n).now (qB w n).back.items}}
def Bh (w:Wo) (n:Int):Wo:=(iy (qB w n).now (qB w n).back.items).foldl je (LP w n)
theorem MK (w:Wo) (n:Int):xF w n={Bh w n with en:=kr (Bh w n).en (Bh w n).now}:=rfl
theorem RA {w:Wo} {d:Int} (h:WdX n m 0 0 w) (y:0<=d):
  WdX n m (iy (WI w.now d) w.ahead.items).length 0 (LQ w d)/\WdX n m 0 0 (DL w d)/\WdX (n+1) m 0 0 (qB w d)/\WdX (n+1) m 0 (iy (qB w d).now (qB w d).back.items).length (LP w d)/\WdX (n+1) m 0 0 (Bh w d)/\WdX (n+1) m 0 0 (xF w d):=by
 have r:Word (WI w.now d):=by
  unfold WI;have:=h.now;unfold Word at*
  split<;>omega
 have v:=pU (WI w.now d) w.ahead.items;have t:=h.ahi;have j:WdX n m (iy (WI w.now d) w.ahead.items).length 0 (LQ w d):={h with now:=r,ahead:=h.ahead.rest _,ahi:=by simp only[LQ];omega};have l:∀c∈iy (WI w.now d) w.ahead.items,dP c:=λc f=>by
  obtain⟨i,g,rfl⟩:=wR f;exact(h.ahead.ok i g).2.1
 have a:WdX n m 0 0 (DL w d):=Hg _ j l;have p:WdX (n+1) m 0 0 (DL w d):=by
  have z:=a.bkc;have A:=a.bki;exact{a with bkc:=by push_cast;omega,bki:=by omega}
 have e:WdX (n+1) m 0 0 (qB w d):=Fw p (Ep a.pe) (vv a.pe).1 (vv a.pe).2 (by have:=a.bkc;push_cast;omega);have x:=pU (qB w d).now (qB w d).back.items;have u:=e.bki;have k:WdX (n+1) m 0 (iy (qB w d).now (qB w d).back.items).length (LP w d):={e with back:=e.back.rest _,bki:=by simp only[LP];omega};have o:∀c∈iy (qB w d).now (qB w d).back.items,dP c:=λc f=>by
  obtain⟨i,g,rfl⟩:=wR f;exact(e.back.ok i g).2.1
 have b:WdX (n+1) m 0 0 (Bh w d):=He _ k o;refine⟨j,a,e,k,b,?_⟩;rw[MK];have q:=LM (Bh w d).en (Bh w d).now;have s:=b.sent;exact{b with en:=EV b.en b.now,gs:=QD (Mi b.gs _),sent:=by simp only;rw[q.2.2];exact s}
structure EvOk (e:Ev):Prop where
 body:dP e.body
 n:0<=e.n
theorem Hf {w:Wo} {e:Ev} (h:WdX n n 0 0 w) (b:EvOk e):WdX (n+1) n 0 0 (Yp w e):=by
 obtain⟨j,k,c⟩:=FX h.bkc h.bki h.sent;have a:WdX (n+1) n 0 0 w:={h with bkc:=by push_cast;omega,bki:=by omega};unfold Yp;split
 (.exact{a with en:=CE h.en b.body,gs:=QC h.gs _,sent:=by simp only;rw[(OO w.en e.body).2.2];exact c});split
 .have i:=b.n
  exact(RA h (d:=min e.n 1099511627776) oM).2.2.2.2.2
 split
 .have f:WdX (n+1) n 0 1 w:={h with bkc:=by push_cast;omega,bki:=by omega}
  exact Fx f b.body
 split
 (.exact{a with});split
 .exact{a with}
 .have g:(kF w.en).en.cO=w.en.cO:=by unfold kF;split<;>rfl
  exact{a with en:=Lg h.en,gs:=QE h.gs,sent:=by simp only;rw[g];exact c}
def polled (w:Wo):Wo:={w with en:=(fD w.en w.now).en,sent:=w.sent+1,ahead:=if(ky (fD w.en w.now).b).err=0 then qD w.ahead (fD w.en w.now).b w.now else w.ahead}
theorem BR {w:Wo} (k:Nat) (h:(fD w.en w.now).err≠0):qI (k+1) w={w with en:=(fD w.en w.now).en}:=by
 rw[qI];exact aB h
theorem IC {w:Wo} (k:Nat) (h:(fD w.en w.now).err=0):qI (k+1) w=qI k (polled w):=by
 rw[qI];exact Ww (by rw[h];decide)
structure WdP (n:Nat) (w:Wo):Prop where
 en:dG (w.heard+w.sent+n) w.en
 gs:GS w.en
 pe:jN w.eO.toNat 32 32 w.pe
 now:Word w.now
 vR:0<=w.eO
 fu:(w.fu:Int)<=w.eO
 ahead:vY w.ahead.count w.ahead
 back:vY w.back.count w.back
 ahc:(w.ahead.count:Int)+eu w.en.led<=256*(n+1)
 ahi:w.eO+w.ahead.items.length<=2*w.ahead.count
 bkc:(w.back.count:Int)<=w.eO+n+1
 bki:w.heard+w.back.items.length<=2*w.back.count+n+1
 sent:(w.sent:Int)+w.en.cO+eu w.en.led<=w.heard+256*(n+1)
theorem Yq {w:Wo} (h:WdX (n+1) n 0 0 w):WdP n w:=by
 obtain⟨b,c,d,e,a,f⟩:=LX h.en.le.room h.en.le.lW h.ahc h.ahi h.bkc h.bki;have g:=h.sent;exact⟨h.en,h.gs,h.pe,h.now,h.vR,h.fu,h.ahead,h.back,oM,oM,by push_cast at a;omega,oM,oM⟩
theorem DI {w:Wo} (h:WdP n w) (g:(fD w.en w.now).err=0):WdP n (polled w)/\pm (polled w).en<pm w.en:=by
 have m:=wO h.en h.now;obtain⟨⟨k,l⟩,a⟩:=BS h.en h.now g;obtain⟨q,i,s⟩:=IB h.ahead k l h.now;have p:pm (fD w.en w.now).en<pm w.en:=by
  have:=Ny (qO h.en h.now) g;exact this
 obtain⟨t,u,v⟩:=FX h.ahc h.ahi h.sent;have e:GS (fD w.en w.now).en:=Jq (Mi h.gs w.now);have d:dG (w.heard+(w.sent+1)+n) (fD w.en w.now).en:=m.mono oM;refine⟨?_,p⟩;by_cases b:(ky (fD w.en w.now).b).err=0
 .have c:polled w={w with en:=(fD w.en w.now).en,sent:=w.sent+1,ahead:=qD w.ahead (fD w.en w.now).b w.now}:=by unfold polled;rw[aB b]
  rw[c];rcases a with⟨_,_,_,a⟩|⟨a,o⟩
  .exact Wy b a
  .exact⟨d,e,h.pe,h.now,h.vR,h.fu,q,h.back,by simp only;rw[i];push_cast;omega,by simp only;rw[i];push_cast;omega,h.bkc,h.bki,by simp only;push_cast;omega⟩
 .have c:polled w={w with en:=(fD w.en w.now).en,sent:=w.sent+1}:=by unfold polled;rw[Ww b]
  rw[c];rcases a with⟨r,j,f,_⟩|⟨a,o⟩
  .exact⟨d,e,h.pe,h.now,h.vR,h.fu,h.ahead,h.back,by simp only;rw[f];omega,by simp only;omega,h.bkc,h.bki,by simp only;rw[j,f];push_cast;omega⟩
  .exact⟨d,e,h.pe,h.now,h.vR,h.fu,h.ahead,h.back,by simp only;omega,by simp only;omega,h.bkc,h.bki,by simp only;push_cast;omega⟩
theorem Be {w:Wo} (h:WdP n w) (a:(fD w.en w.now).err≠0):WdX (n+1) (n+1) 0 0 {w with en:=(fD w.en w.now).en}:=by
 have b:=wO h.en h.now;have c:(fD w.en w.now).en.cO=w.en.cO:=(Nw a).1;obtain⟨d,e,f,g,i,j⟩:=LX h.en.le.room h.ahc h.ahi h.bkc h.bki h.sent;exact⟨b.mono (by simp only;omega),Jq (Mi h.gs w.now),h.pe,h.now,h.vR,h.fu,h.ahead,h.back,by simp only;omega,by simp only;omega,by simp only;push_cast;omega,by simp only;omega,by simp only;rw[c];push_cast;omega⟩
theorem Eo {n:Nat} (d:Wo->Prop) (f:∀a,WdP n a->d a->(fD a.en a.now).err=0->d (polled a)):
  ∀(c:Nat) (a:Wo),WdP n a->pm a.en<c->d a->∃b,WdP n b/\d b/\(fD b.en b.now).err≠0/\qI c a={b with en:=(fD b.en b.now).en}
 |0,a,h,hk,_=>Wy hk (by have:=(PU h.en).1;omega)
 |c+1,a,h,hk,hi=>by
  by_cases e:(fD a.en a.now).err=0
  .obtain⟨g,i⟩:=DI h e
   rw[IC c e];exact Eo d f c (polled a) g (by push_cast at hk;omega) (f a h hi e)
  .exact⟨a,h,hi,e,BR c e⟩
theorem PV {w:Wo} (h:WdP n w):pm w.en<((w.en.cO.toNat+257:Nat):Int):=by
 have b:=(PU h.en).2;have c:=h.en.rO;have a:((w.en.cO.toNat+257:Nat):Int)=w.en.cO+257:=oM;rw[a];omega
theorem wd_all {w:Wo} (h:WdX (n+1) n 0 0 w):WdX (n+1) (n+1) 0 0 (GY w):=by
 obtain⟨d,a,_,b,c⟩:=Eo (n:=n) (λ_=>True) (λ_ _ _ _=>trivial) _ w (Yq h) (PV (Yq h)) trivial;unfold GY;rw[c];exact Be a b
theorem U6 {w:Wo} {e:Ev} (h:WdX n n 0 0 w) (a:EvOk e) (b:1<=e.kind/\e.kind<=6):WdX (n+1) (n+1) 0 0 (Bc w e):=by
 unfold Bc;rw[aB b];exact wd_all (Hf h a)
theorem OU {c:Cf} {words:List Int} {a b:List Fa} (i:lV c) (l:rG words) (k:words.length<=1000000) (n:a.length<=1000000) (o:b.length<=1000000) (f:∀d∈a,Word d.delay) (g:∀d∈b,Word d.delay) (j:Word x):WdX 0 0 0 0 (mO c words a b x)where
 en:=JI i l k
 gs:=gs_new c words
 pe:=PW j
 now:=⟨by simp[mO],by simp[mO]⟩
 vR:=by simp[mO]
 fu:=by simp[mO]
 ahead:=⟨by simp[mO],by simp[mO],λm e=>by simp[mO]at e,by simp only[mO];omega,f⟩
 back:=⟨by simp[mO],by simp[mO],λm e=>by simp[mO]at e,by simp only[mO];omega,g⟩
 ahc:=by simp[mO]
 ahi:=by simp[mO]
 bkc:=by simp[mO]
 bki:=by simp[mO]
 sent:=by simp[mO,nK]
theorem Ki (w:World) (c1:Array Value) (a:TypeId) (c2:Array Value) (b:TypeId) (c:Array Value) (d:TypeId):
  Blk (((w.alloc (.cells c1 a)).alloc (.cells c2 b)).alloc (.cells c d)) w.heap.size a c1/\Blk (((w.alloc (.cells c1 a)).alloc (.cells c2 b)).alloc (.cells c d)) (w.heap.size+1) b c2/\Blk (((w.alloc (.cells c1 a)).alloc (.cells c2 b)).alloc (.cells c d)) (w.heap.size+1+1) d c:=by
 obtain⟨f,g⟩:=sG w c1 a c2 b;have e:=Wx ((w.alloc (.cells c1 a)).alloc (.cells c2 b)) d c;have i:((w.alloc (.cells c1 a)).alloc (.cells c2 b)).heap.size=w.heap.size+1+1:=sM;rw[i]at e;exact⟨f.alloc _,g.alloc _,e⟩
theorem WW {g b:Nat} (d:b≠g):∀(e:List Value) (a:Nat) (c:World),(c.setCells g a e).heap[b]?=c.heap[b]?
 |[],_,_=>rfl
 |v::r,a,c=>(WW d r (a+1) _).trans (Below.heap_setCell c ⟨g,a,none⟩ v b d)
theorem Row.S9 {S:X4} {t t':TypeId} {size n g:Nat} {a:X5} {xs:List Value} (h:Row w S t size a n xs) (hb:Blk w g t' C) (p:t'≠t) (c:List Value) (o:Nat):Row (w.setCells g o c) S t size a n xs:=
 ⟨h.1,λm=>by
  obtain⟨d,q,e,i,f,j,b,l⟩:=h.2 m;refine⟨d,q,e,i,f,j,(WW (λk=>?_) c o w).trans b,l⟩;subst k;unfold Blk at hb;rw[hb]at b;cases b;exact p rfl⟩
structure AskI (W4 wx:World) (b8:Nat) (tr xo:Int):Prop where
 ex:∃a c,∃l:List Sp,Blk wx b8 92 #[.slice a l.length c,zzN,uI tr,uI xo,bV false]/\l.length<=2/\Sps wx (λk=>W4.heap.size<=k/\k<wx.heap.size) a l/\∀s∈l,Word s.lo/\Word s.hi
 lo:bW W4 wx
 b8:W4.heap.size<=b8
theorem SG (S:X4) (p:Nat) (u1:Value) (E b6:Int) (A:List Se) (x B j C D:Int) (w:World) (h:Dw w S p E b6 A) (e8:A.length<=1000000000) (f5:0<=E) (f6:E<=1000000) (e5:∀I∈A,Word I.bX)
  (t:Word x) (k7:0<=B/\B<65536) (k8:0<=j/\j<65536) (k9:0<=C/\C<65536) (l0:0<=D/\D<65536):
  Yk 54 #[.agg #[u1,pT p],.agg #[.int .u16 B,.int .u16 j,.int .u16 C,.int .u16 D],uI x] w λe4 y=>(∃(d9:X5) (i4:Nat) (a1:List Sp) (g6 g8:Int),e4=.returned (.agg #[.slice d9 a1.length i4,zzN,uI g6,uI g8,bV false])/\a1.length<=2/\Sps y (λo=>w.heap.size<=o/\o<y.heap.size) d9 a1/\(∀I∈a1,Word I.lo/\Word I.hi)/\Word g6/\Word g8)/\bW w y:=by
 obtain⟨d3,h2⟩:=yx (λy (b7:bW w y)=>h.below b7) e5;clear h e5;go_enter Tryz.func54,Tryz.ntmps54;go_wp2_with fail;obtain⟨v,q,R⟩:=Ki w #[u1,pT p] 80 #[.int .u16 B,.int .u16 j,.int .u16 C,.int .u16 D] 51 jK 92;have e6:bW w (((w.alloc (.cells #[u1,pT p] 80)).alloc (.cells #[.int .u16 B,.int .u16 j,.int .u16 C,.int .u16 D] 51)).alloc (.cells jK 92)):=BEL;generalize(World.alloc _ _)=i2 at*
 obtain⟨b3,b8⟩:=eX w.heap.size;obtain⟨H,b9⟩:=eX (b3+1);obtain⟨d,c0⟩:=eX (H+1);rw[<-b8]at v q R;rw[<-b9]at q R;rw[<-c0]at R;rw[<-b8,<-b9,<-c0];obtain⟨c7,h9,i0,i1⟩:=Bq e6 v q R;have e7:=And.intro (show w.heap.size<=b3 by omega) (And.intro (show b3<H by omega) (show H<d by omega));have a4:=zH e7;clear b8 b9 c0 e7 e6;have b4:=v.Wu 1;have b5:=q.Wu 0;clear v q R;have h3:=zH (λy (b7:bW w y)=>Yu S p E b6 A y (d3.o _ b7) e8 f5 f6);refine bN kR kR ?_;(repeat (go_big_quiet_step ((go_at_call 128;exact dn (h3.o _ (aA c7.o _))))));refine aK ?_;rintro _ ⟨nq,rfl⟩;obtain⟨k,d8,r,b2⟩:=Bq (aA c7.o nq) (h9.o.drewN nq) (i0.o.drewN nq) (i1.o.drewN nq);clear b4 b5;generalize i2.drewN nq=i3 at*
 have b5:=r.o.Wu 0
 iterate 3 (first|go_values|go_skip|go_guarded|go_step|go_upon|go_back|go_simp)
 have f0:Word (max 0 ((A.length:Int) -E)+B%12):=⟨oM,oM⟩;generalize max 0 ((A.length:Int) -E)+B%12=j2 at*
 have c9:=zH f0;clear f0;go_cut [7] (λj5 wx=>(∃e,j5=uI e/\Word e)/\wx=i3);case first=>
  go_upto_if 27 with fail;(all_goals generalize decide (3<j2)=c5);(all_goals cases c5);(all_goals go_wp2_with fail);(all_goals go_meet);all_goals first|exact⟨⟨_,rfl,c9.o⟩,rfl⟩|exact⟨⟨_,rfl,ny _⟩,rfl⟩
 case rest=>
  obtain⟨⟨e,rfl,g0⟩,rfl⟩:=hcut;have d7:=zH g0;have e1:=r.o.Wu 1;clear g0 b5 c9;(repeat ((fail_if_success (with_reducible (change Code.wp _ (Code.seq (Code.region 5 _ _) _) _ _ _)));first|go_values|go_skip|go_guarded|go_step|go_upon|go_back|go_simp));obtain⟨v,q⟩:=sG wc #[uI e,uI (IntKind.u64.wrap (e+j%9))] 272 #[.slice (some ⟨wc.heap.size,0,none⟩) 1 1,zzN,uI x,uI (x/128),bV false] 92;have X:bW wc ((wc.alloc (.cells #[uI e,uI (IntKind.u64.wrap (e+j%9))] 272)).alloc (.cells #[.slice (some ⟨wc.heap.size,0,none⟩) 1 1,zzN,uI x,uI (x/128),bV false] 92)):=BEL;have f7:((wc.alloc (.cells #[uI e,uI (IntKind.u64.wrap (e+j%9))] 272)).alloc (.cells #[.slice (some ⟨wc.heap.size,0,none⟩) 1 1,zzN,uI x,uI (x/128),bV false] 92)).heap.size=wc.heap.size+2:=sM;generalize i8:(World.alloc _ _)=F at*
  obtain⟨a3,d1,U⟩:=Av (show AskI wc F (wc.heap.size+1) x (x/128)from⟨⟨_,_,[⟨e,IntKind.u64.wrap (e+j%9)⟩],q,sM,(kQ v).mono (λo g=>by rw[g];omega),λI Q=>by rw[dZ.1 Q];exact⟨d7.o,ny _⟩⟩,X,Nat.le_succ _⟩) (show OwnAt F (λo=>o=wc.heap.size) 272 2 (some ⟨wc.heap.size,0,none⟩) 1 1 ([(⟨e,IntKind.u64.wrap (e+j%9)⟩:Sp)].flatMap spV)from v.own rfl rfl dC) q;clear i8 v q e1;obtain⟨s,Y⟩:=eX (wc.heap.size+1);rw[<-Y]at a3 U;rw[<-Y];have i5:F.cell? ⟨H,2,none⟩=some (.int .u16 C):=(r.o.below X r.o.lt).cell 2;obtain⟨T,d4,c8⟩:=Av X f7 Y;clear X f7 Y;go_cut [] (λwx=>X3 (AskI wc wx s x (x/128)));case first=>
   go_upto_if 46 with fail;generalize decide (0<C%3)=j3;cases j3 with
   |false=>
    go_wp2;go_meet;exact a3
   |true=>
    have e1:F.cell? ⟨H,1,none⟩=some (.int .u16 j):=(r.o.below T.o r.o.lt).cell 1;have j9:=U.o.Wu 0;have j1:=T.o.size;go_wp2_with (at_builtin;refine iP.jO rfl (.tmp 60) (.tmp 69) rfl (some ⟨wc.heap.size,0,none⟩) 1 [⟨e,IntKind.u64.wrap (e+j%9)⟩] (by rfl) (d1.o.below BEL) (some ⟨F.heap.size,0,none⟩) 1 [⟨_,_⟩] (by rfl) (kQ (Wx _ _ _)) sM dC ?_;intro c6 e3 l1 f4 c3 j0;have a0:=(U.o.alloc _).mod c3 dC;obtain⟨k0,k1⟩:=a0.cz 0;have k2:=a0.lt;have d5:=zH a0;have d2:=zH f4;have h4:=zH c3;clear f4 c3 j0 a0);go_meet;have k4:=c8.o;have k3:=d4.o;have i9:=d2.o.far (i:=0) (u:=.slice c6 2 e3) (d2.o.pI d5.o dC);exact zH ⟨⟨c6,e3,_,d5.o.bF 0 _,sM,(Row.lt_ i9.row).mono (λo g=>⟨by rcases g.1 with h|h;exact Nat.le_of_eq h.symm;exact(by have i7:=h.1;simp only[World.size_alloc]at i7;omega),g.2⟩),λI Q=>by
     rcases bT.1 Q with rfl|Q
     .exact⟨d7.o,ny _⟩
     .rw[dZ.1 Q];exact⟨ny _,ny _⟩⟩,bG (bD (T.o.trans (show Below wc.heap.size F _ from BEL)) (h4.o.cZ sO (λo g h=>by omega))) (show wc.heap.size<=s by omega) _,oM⟩
  case rest=>
   have n:=hcut;clear a3 T U d1 d4 i5 c8;obtain⟨c4,k5⟩:=And.intro n.o.lo n.o.b8;obtain⟨h8,b0⟩:=yx (d8.o.below c4 d8.o.lt) (r.o.below c4 r.o.lt);have b4:=h8.o.cell 1;have e2:=b0.o.cell 3;have g9:=zH (k.o.trans (n.o.lo.mono k.o.size));clear c4;go_step;go_wp2_with fail;refine(Ni S p E b6 A _ wc (d3.o _ g9.o) e8 f5 f6 (ny _) h2.o).mono ?_;rintro e4 a2 ⟨⟨j6,j4,rfl,f3⟩,Z⟩;obtain⟨g2,g5,g1,m,g4,g3,g7,e0⟩:=j6;obtain⟨h6,d6⟩:=yx f3 Z;have j1:=Z.size;have b1:=zH (b0.o.below Z b0.o.lt);have i6:=b1.o.cell 3;clear b4 e2 Z f3;dsimp only;go_upto_region 9 with fail;obtain⟨G,V⟩:=eX (a2.alloc (.cells #[uI g2,uI g5,uI g1,uI m,uI g4,bV g3,bV g7,jI e0] 177));rw[<-V];(have c2:bW a2 G:=by rw[V];exact BEL);(have f1:Blk G a2.heap.size 177 #[uI g2,uI g5,uI g1,uI m,uI g4,bV g3,bV g7,jI e0]:=by rw[V];exact Wx _ _ _);have P:=d6.o.trans (c2.mono d6.o.size);obtain⟨a,c,b,c1,e9,f8,f9⟩:=n.o.ex;obtain⟨J,z,a8,a9,a7,a5⟩:=Fy (c1.below P c1.lt) (b2.o.below (n.o.lo.trans (P.mono n.o.lo.size)) b2.o.lt) (show Sps G _ a b from aD f8 P) f9 e9 (n.o.lo.trans (P.mono n.o.lo.size));have d0:=zH f1;(have f2:¬(d=s):=by have:=n.o.b8;have:=b2.o.lt;omega);have h5:=zH f2;have e2:G.cell? ⟨H,3,none⟩=some (.int .u16 D):=(b1.o.below c2 b1.o.lt).cell 3;obtain⟨j8,W⟩:=eX a2.heap.size;rw[<-W]at d0;rw[<-W];have j7:=zH W;clear i6 c1 f8 f9 e9 c2 f1 P V f2 W;cases j4 with
   |false=>
    repeat ((fail_if_success (with_reducible apply eG));first|(refine kP 92 (.tmp 8) rfl rfl (some 94) rfl s kR #[.slice a b.length c,zzN,uI x,uI (x/128),bV false] J.o _ Tryz.underlying92 kR kR ?_)|(refine iG 92 (.tmp 6) (.tmp 94) rfl rfl rfl d 0 #[.slice a b.length c,zzN,uI x,uI (x/128),bV false] kR kR (z.o.there _ sM) kR XF ?_;intro l f;have M:=zH (show Blk l d 92 #[.slice a b.length c,zzN,uI x,uI (x/128),bV false] by rw[f];exact Blk.gF z.o [.slice a b.length c,zzN,uI x,uI (x/128),bV false] rfl);have K:=zH (show Below d G l by rw[f];exact Below.bZ (av _) _ _ _ (aj _ _));have L:=zH (show Sps l _ a b by rw[f];exact Row.S9 (t':=92) a8.o z.o dC _ _);clear f)|go_values|go_skip|go_guarded|go_step|go_upon|go_back|go_simp)
    (try simp only[Exit.inBlock,Exit.then])
    refine iZ 6 92 d #[.slice a b.length c,zzN,uI x,uI (x/128),bV false] kR kR M.o _ Tryz.underlying92 kR kR rfl ?_;exact⟨⟨a,c,b,x,_,rfl,a7.o,(Row.lt_ L.o).mono (λo g=>⟨ay k.o.size g.1.1,g.2⟩),a9.o,t,⟨by have:=t.1;omega,by have:=t.2;omega⟩⟩,(k.o.trans (a5.o.mono k.o.size)).trans (K.o.mono (by have:=a4.o;omega))⟩
   |true=>
    go_upto_if 90 with fail;generalize decide (0<D%7)=c5;cases c5 with
    |false=>
     repeat ((fail_if_success (with_reducible apply eG));first|(refine kP 92 (.tmp 8) rfl rfl (some 94) rfl s kR #[.slice a b.length c,zzN,uI x,uI (x/128),bV false] J.o _ Tryz.underlying92 kR kR ?_)|(refine iG 92 (.tmp 6) (.tmp 94) rfl rfl rfl d 0 #[.slice a b.length c,zzN,uI x,uI (x/128),bV false] kR kR (z.o.there _ sM) kR XF ?_;intro l f;have M:=zH (show Blk l d 92 #[.slice a b.length c,zzN,uI x,uI (x/128),bV false] by rw[f];exact Blk.gF z.o [.slice a b.length c,zzN,uI x,uI (x/128),bV false] rfl);have K:=zH (show Below d G l by rw[f];exact Below.bZ (av _) _ _ _ (aj _ _));have L:=zH (show Sps l _ a b by rw[f];exact Row.S9 (t':=92) a8.o z.o dC _ _);clear f)|go_values|go_skip|go_guarded|go_step|go_upon|go_back|go_simp)
     (try simp only[Exit.inBlock,Exit.then])
     refine iZ 6 92 d #[.slice a b.length c,zzN,uI x,uI (x/128),bV false] kR kR M.o _ Tryz.underlying92 kR kR rfl ?_;exact⟨⟨a,c,b,x,_,rfl,a7.o,(Row.lt_ L.o).mono (λo g=>⟨ay k.o.size g.1.1,g.2⟩),a9.o,t,⟨by have:=t.1;omega,by have:=t.2;omega⟩⟩,(k.o.trans (a5.o.mono k.o.size)).trans (K.o.mono (by have:=a4.o;omega))⟩
    |true=>
     have k6:=d0.o.Wu 3;repeat ((fail_if_success (with_reducible apply eG));first|(refine qR 30 (.tmp 93) (.tmp 92) rfl rfl rfl s 2 (uI m) kR kR rfl kR J.o sM ?_;intro N O;have h1:=zH (show Blk N s 92 #[.slice a b.length c,zzN,uI m,uI (x/128),bV false] by rw[O];exact J.o.bF 2 _);have a6:=zH (show Blk N d 92 jK by rw[O];exact z.o.far h5.o _);have h7:=zH (show Sps N _ a b by rw[O];exact Row.S9 (t':=92) a8.o J.o dC [uI m] 2);have h0:=zH (show Below _ _ N by rw[O];exact bG a5.o n.o.b8 _);clear O)|(refine kP 92 (.tmp 8) rfl rfl (some 94) rfl s kR #[.slice a b.length c,zzN,uI m,uI (x/128),bV false] h1.o _ Tryz.underlying92 kR kR ?_)|(refine iG 92 (.tmp 6) (.tmp 94) rfl rfl rfl d 0 #[.slice a b.length c,zzN,uI m,uI (x/128),bV false] kR kR (a6.o.there _ sM) kR XF ?_;intro l f;have M:=zH (show Blk l d 92 #[.slice a b.length c,zzN,uI m,uI (x/128),bV false] by rw[f];exact Blk.gF a6.o [.slice a b.length c,zzN,uI m,uI (x/128),bV false] rfl);have K:=zH (show Below d N l by rw[f];exact Below.bZ (av _) _ _ _ (aj _ _));have L:=zH (show Sps l _ a b by rw[f];exact Row.S9 (t':=92) h7.o a6.o dC _ _);clear f)|go_values|go_skip|go_guarded|go_step|go_upon|go_back|go_simp)
     (try simp only[Exit.inBlock,Exit.then])
     refine iZ 6 92 d #[.slice a b.length c,zzN,uI m,uI (x/128),bV false] kR kR M.o _ Tryz.underlying92 kR kR rfl ?_;exact⟨⟨a,c,b,m,_,rfl,a7.o,(Row.lt_ L.o).mono (λo g=>⟨ay k.o.size g.1.1,g.2⟩),a9.o,h6.o,⟨by have:=t.1;omega,by have:=t.2;omega⟩⟩,(k.o.trans (h0.o.mono k.o.size)).trans (K.o.mono (by have:=a4.o;omega))⟩
structure Sh where
 kind:Int
 a:Option Addr
 c:Nat
 b:List Int
 (k0 k1 k2 k3 x:Int)
 right:Bool
 wait:Int
def shV (s:Sh):List Value:=[jI s.kind,.slice s.a s.b.length s.c,.int .u16 s.k0,.int .u16 s.k1,.int .u16 s.k2,.int .u16 s.k3,uI s.x,bV s.right,.int .u16 s.wait]
def U16 (k:Int):Prop:=0<=k/\k<65536
structure zW (w:World) (S:X4) (s:Sh):Prop where
 ex:∃tb,Byt tb w S s.a s.b
 cap:s.b.length<=s.c
 by_:dP s.b
 k0:U16 s.k0
 k1:U16 s.k1
 k2:U16 s.k2
 k3:U16 s.k3
 x:Word s.x
 wait:U16 s.wait
 kind: -9223372036854775808<=s.kind/\s.kind<9223372036854775808
theorem zW.below {S:X4} {s:Sh} (h:zW w S s) (hb:bW w w'):zW w' S s:=
 {h with ex:=by obtain⟨b,a⟩:=h.ex;exact⟨b,aD a hb⟩}
structure FrAt (w w':World) (S:X4) (a:X5) (c:Nat) (b:List Int):Prop where
 ex:∃tb,Byt tb w' (λk=>S k\/w.heap.size<=k/\k<w'.heap.size) a b
 cap:b.length<=c
 by_:dP b
 len:b.length<=4000
theorem Rc {tb:TypeId} {S:X4} {a:X5} (h:Byt tb w S a l) (f:n<=l.length):Byt tb w S (fE a c 0 1) (l.take n):=by
 (have e:(l.take n).length=n:=by rw[aT];omega);have g:=Row.take h (k:=n) f;have d:=g.drop (k:=0) oM (a':=fE a c 0 1) (λ_ i j b=>by
  subst b;unfold fE;split
  .simp
  .simp[Go.WideShapes.add_plain])
 unfold Byt;rw[e,pQ fe.len];simpa using d
theorem ER (S f4:X4) (p:Nat) (u1:Value) (a7 d2:Int) (Z:List Se) (s:Sh) (w:World) (h:Dw w S p a7 d2 Z) (g3:Z.length<=1000000000) (g6:0<=a7) (g7:a7<=1000000) (f8:∀s∈Z,Word s.bX) (z:zW w f4 s):
  Yk 21 #[.agg (shV s).toArray,.agg #[u1,pT p]] w λG U=>∃f5 f7 f6,G=.returned (.slice f5 f6.length f7)/\FrAt w U f4 f5 f7 f6/\bW w U:=by
 obtain⟨e4,e3⟩:=yx (λU (l6:bW w U)=>h.below l6) f8;obtain⟨R,k,g,b,A,B,C,D,d,right,V⟩:=s;obtain⟨⟨m3,g8⟩,g1,g0,m4,m5,m6,m7,h2,n2,m9⟩:=z;dsimp only[shV]at*
 obtain⟨j0,i1⟩:=yx g8 g0;clear h f8 g8 g0;go_enter Tryz.func21,Tryz.ntmps21;go_upto_if 12 with fail;generalize((_:Int)==0)=m1;cases m1 with
 |true=>
  obtain⟨n4,g2,l8,h3,l9⟩:=info_parts lF;have n1:min (b.length:Int) 300=((min b.length 300:Nat):Int):=oM;have d6:min b.length 300<=b.length:=oM;have g5:min b.length 300<=300:=oM;generalize min b.length 300=T at*
  have hcut:∀w,(Instr.slice 47 (.slice k b.length g) none (some (jI (T:Int))) none).run prog w=.ok (.slice (fE k g 0 1) T g) w:=λw=>by
   have h:=tY (P:=prog) fe.ht g2 k b.length g T oM w;rw[h3]at h;exact h
  obtain⟨i0,c6⟩:=yx (Rc (c:=g) j0.o d6) (And.intro d6 (And.intro g5 g1));generalize fE k g 0 1=j9 at*
  clear g2 l8 h3 l9 d6 g5 g1;go_wp2;go_ret;(have m:(b.take T).length=T:=by rw[aT];have:=c6.o;omega);exact⟨j9,g,b.take T,(by rw[m];exact rfl),⟨⟨m3,aF (aD i0.o BEL) (λQ a=>.inl a)⟩,by rw[m];have:=c6.o;omega,λW c1=>i1.o W (bf c1),by rw[m];have:=c6.o;omega⟩,BEL⟩
 |false=>
  obtain⟨c2,a6⟩:=sG w #[jI R,.slice k b.length g,.int .u16 A,.int .u16 B,.int .u16 C,.int .u16 D,uI d,bV right,.int .u16 V] 53 #[u1,pT p] 80;have f9:bW w ((w.alloc (.cells #[jI R,.slice k b.length g,.int .u16 A,.int .u16 B,.int .u16 C,.int .u16 D,uI d,bV right,.int .u16 V] 53)).alloc (.cells #[u1,pT p] 80)):=BEL;go_upto_region 3 with fail;generalize(World.alloc _ _)=j7 at*
  obtain⟨F,b7⟩:=eX w.heap.size;obtain⟨b4,b8⟩:=eX (F+1);rw[<-b7]at c2 a6;rw[<-b8]at a6;rw[<-b7,<-b8];obtain⟨e9,f2,c4,i4⟩:=Bq c2 a6 f9 (And.intro b7 b8);obtain⟨k0,-,k1,-,k2,-,k3,-,k4,-,k5,-,k6,-,k7,-,k8,-⟩:=c2.c9;obtain⟨k9,-,l0,-⟩:=a6.c2;clear c2 a6 f9 b7 b8;go_wp2_with fail;refine(SG S p u1 a7 d2 Z _ A B C D j7 (e4.o _ c4.o) g3 g6 g7 e3.o (zq _ _ _) m4 m5 m6 m7).mono ?_;rintro G a8 ⟨⟨e,l,f,v,h9,rfl,n0,g9,h0,d9,n3⟩,b9⟩;obtain⟨e1,i6,c8,f0,d1⟩:=BF b9 g9 h0 (e9.o.below b9 e9.o.lt) (f2.o.below b9 f2.o.lt);clear b9 g9 h0 k0 k1 k2 k3 k4 k5 k6 k7 k8 k9 l0;go_upto_region 4 with fail;obtain⟨o,b5⟩:=eX (a8.alloc (.cells #[.slice e f.length l,zzN,uI v,uI h9,bV false] 92));rw[<-b5];(have a4:bW a8 o:=by rw[b5];exact BEL);(have d7:Blk o a8.heap.size 92 #[.slice e f.length l,zzN,uI v,uI h9,bV false]:=by rw[b5];exact Wx _ _ _);have g4:b4<a8.heap.size:=d1.o.lt;have l4:=i4.o;obtain⟨i,d5⟩:=eX a8.heap.size;rw[<-d5]at d7 g4;rw[<-d5];have h4:F≠i:=oM;have f1:=zH h4;have h5:b4≠i:=oM;have f3:=zH h5;have h1:w.heap.size<=i:=oM;obtain⟨e6,e7,e8,i7,e2,b0⟩:=Fy (f0.o.below a4 f0.o.lt) (d1.o.below a4 d1.o.lt) d7 (show Sps o _ e f from aD i6.o a4) (c4.o.trans ((e1.o.trans (a4.mono e1.o.size)).mono c4.o.size)) h1;clear b5 a4 d7 g4 l4 d5 h4 h5 h1;have O:bW o o.drew:=bA (aj _ _);have j:Blk o.drew F 53 #[jI R,.slice k b.length g,.int .u16 A,.int .u16 B,.int .u16 C,.int .u16 D,uI d,bV right,.int .u16 V]:=e6.o.below O e6.o.lt;refine aZ (S:=λU=>Blk U F 53 #[jI R,.slice k b.length g,.int .u16 A,.int .u16 B,.int .u16 C,.int .u16 D,uI d,bV right,.int .u16 V]) kR j (λl5=>?_);clear l5;obtain⟨c9,j3,i8,i2⟩:=Bq (e8.o.below O e8.o.lt) (e7.o.below O e7.o.lt) (show Sps o.drew _ e f from aD i7.o O) (e2.o.trans (O.mono e2.o.size));clear O;generalize o.drew=m8 at*
  refine tK 0 27 j ?_;refine X6 1 28 j ?_ (y:=by intro w d4;have m2:=d4.cell 6;exact gS);refine tK 2 29 j ?_;refine X6 3 30 j ?_ (y:=by intro w d4;have m2:=d4.cell 6;exact gS);refine tK 4 31 j ?_;refine tK 5 32 j ?_;refine tK 6 33 j ?_;refine nrm 10 127 ?_;refine aI 7 kR ?_;refine fF (op:=_) rfl kR kR 30 (.tmp 33) (.tmp 28) kR i 3 (uI d) kR kR rfl kR c9.o sM ?_;intro a0 M;(have c0:Blk a0 F 53 #[jI R,.slice k b.length g,.int .u16 A,.int .u16 B,.int .u16 C,.int .u16 D,uI d,bV right,.int .u16 V]:=by rw[M];exact j.far f1.o _);obtain⟨d0,j4,i9,i3⟩:=Bq (show Blk a0 i 92 #[.slice e f.length l,zzN,uI v,uI d,bV false] by rw[M];exact c9.o.bF 3 _) (show Blk a0 b4 80 #[u1,pT p] by rw[M];exact j3.o.far f3.o _) (show Sps a0 _ e f by rw[M];exact Row.S9 (t':=92) i8.o c9.o dC [uI d] 3) (show bW w a0 by rw[M];exact bG i2.o b0.o _);clear M;refine⟨c0,?_⟩;refine Yf 8 34 c0 ?_;refine nrm 10 511 ?_;refine aI 9 kR ?_;refine fF (op:=_) rfl kR kR 4 (.tmp 34) (.tmp 32) kR i 4 (bV (bits .and .u64 d 1==1)) kR kR rfl kR d0.o sM ?_;intro x N;(have d8:Blk x F 53 #[jI R,.slice k b.length g,.int .u16 A,.int .u16 B,.int .u16 C,.int .u16 D,uI d,bV right,.int .u16 V]:=by rw[N];exact c0.far f1.o _);obtain⟨b2,j5,c7,E⟩:=Bq (show Blk x i 92 #[.slice e f.length l,zzN,uI v,uI d,bV (bits .and .u64 d 1==1)] by rw[N];exact d0.o.bF 4 _) (show Blk x b4 80 #[u1,pT p] by rw[N];exact j4.o.far f3.o _) (show Sps x _ e f by rw[N];exact Row.S9 (t':=92) i9.o d0.o dC [bV (bits .and .u64 d 1==1)] 4) (show bW w x by rw[N];exact bG i3.o b0.o _);clear N;refine⟨d8,?_⟩;refine mP ?_;refine bg kR ?_ _;have j1:=zH d8;clear j c0 d8;generalize(bits .and .u64 d 1==1)=h6 at*
  have j8:=j1.o.Wu 7;cases right with
  |false=>
   obtain⟨H,-,I,-,J,-,K,-,L,-⟩:=b2.o.c5;go_wp2_with fail;refine(ve _ e none l 0 f [] v d h6 x (Row.lt_ c7.o) Row.WH (λQ a=>a.2) oM dC c8.o (λs z=>by cases z) d9 h2).mono ?_;rintro G h8 ⟨h7,rfl,t,q⟩;obtain⟨a1,a2,a5,rfl,u,r,m⟩:=t.ex;obtain⟨n,Y,X⟩:=Av u r q;clear t u r q;go_wp2;go_ret;exact⟨a1,a2,a5,rfl,⟨⟨5,(Row.lt_ n.o.row).mono (λQ a=>.inr ⟨ay E.o.size a.1,a.2⟩)⟩,n.o.cap_,Y.o,m⟩,E.o.trans (X.o.mono E.o.size)⟩
  |true=>
   have l3:=j5.o.Wu 1;obtain⟨H,-,I,-,J,-,K,-,L,-⟩:=b2.o.c5;go_wp2_with fail;refine(Pz S _ p a7 d2 Z e none l 0 f [] x (e4.o _ E.o) g3 g6 g7 e3.o c7.o Row.WH oM dC).mono ?_;rintro G e0 ⟨⟨W,c3,m0,rfl,c1⟩,b6⟩;obtain⟨j2,b1,e5,a9⟩:=Bq c1 (b2.o.below b6 b2.o.lt) (show Sps e0 _ e f from aD c7.o b6) (E.o.trans (b6.mono E.o.size));clear c1 b6 H I J K L l3 j8;cases m0 with
   |false=>
    obtain⟨H,-,I,-,J,-,K,-,L,-⟩:=b1.o.c5;go_wp2_with fail;refine(ve _ e none l 0 f [] v d h6 e0 (Row.lt_ e5.o) Row.WH (λQ a=>a.2) oM dC c8.o (λs z=>by cases z) d9 h2).mono ?_;rintro G h8 ⟨h7,rfl,t,q⟩;obtain⟨a1,a2,a5,rfl,u,r,m⟩:=t.ex;obtain⟨n,Y,X⟩:=Av u r q;clear t u r q;go_wp2;go_ret;exact⟨a1,a2,a5,rfl,⟨⟨5,(Row.lt_ n.o.row).mono (λQ a=>.inr ⟨ay a9.o.size a.1,a.2⟩)⟩,n.o.cap_,Y.o,m⟩,a9.o.trans (X.o.mono a9.o.size)⟩
   |true=>
    have d3:=b1.o;obtain⟨H,-,I,-,J,-,K,l1,L,l2⟩:=d3.c5;have l7:=d3.lt;clear d3;go_upto_region 9 with fail;obtain⟨b3,a3⟩:=eX ((e0.setCell ⟨i,3,none⟩ (uI W)).setCell ⟨i,4,none⟩ (bV c3));rw[<-a3];obtain⟨j6,i5,c5⟩:=Av (show Blk b3 i 92 #[.slice e f.length l,zzN,uI v,uI W,bV c3] by rw[a3];exact(b1.o.bF 3 _).bF 4 _) (show Sps b3 _ e f by rw[a3];exact Row.S9 (t':=92) e5.o b1.o dC [uI W,bV c3] 3) (show bW w b3 by rw[a3];exact bG (bG a9.o b0.o _) b0.o _);clear a3 H I J K l1 L l2 l7;obtain⟨H,-,I,-,J,-,K,-,L,-⟩:=j6.o.c5;go_wp2_with fail;refine(ve _ e none l 0 f [] v W c3 b3 (Row.lt_ i5.o) Row.WH (λQ a=>a.2) oM dC c8.o (λs z=>by cases z) d9 j2.o).mono ?_;rintro G h8 ⟨h7,rfl,t,q⟩;obtain⟨a1,a2,a5,rfl,u,r,m⟩:=t.ex;obtain⟨n,Y,X⟩:=Av u r q;clear t u r q;go_wp2;go_ret;exact⟨a1,a2,a5,rfl,⟨⟨5,(Row.lt_ n.o.row).mono (λQ a=>.inr ⟨ay c5.o.size a.1,a.2⟩)⟩,n.o.cap_,Y.o,m⟩,c5.o.trans (X.o.mono c5.o.size)⟩
def nJ (f:Nat->Int) (m j:Nat):List Int:=(List.range m).map λa=>if a<j then f a else 0
theorem wL (f:Nat->Int) (m j:Nat):(nJ f m j).length=m:=by simp[nJ]
theorem Sl (f:Nat->Int) (m:Nat):nJ f m 0=List.replicate m 0:=by
 apply List.ext_getElem
 .simp[nJ]
 .intro c a b;simp[nJ]
theorem NY (f:Nat->Int) (m j:Nat):(nJ f m j).set j (f j)=nJ f m (j+1):=by
 apply List.ext_getElem
 .simp[nJ]
 .intro b c d
  simp only[nJ,List.getElem_set,List.getElem_map,List.getElem_range];by_cases h:j=b
  .subst h;simp
  .rw[Ww h]
   by_cases a:b<j
   .rw[aB a,aB oM]
   .rw[Ww a,Ww oM]
theorem QK {f:Nat->Int} (b:∀a,0<=f a/\f a<256) (m j:Nat):dP (nJ f m j):=λd c=>by
 obtain⟨a,-,rfl⟩:=List.mem_map.1 c;split
 .exact b a
 .exact⟨dC,dC⟩
structure Fil (w0 wr:World) (f:Nat->Int) (m j:Nat):Prop where
 own:OwnAt wr (λk=>w0.heap.size<=k/\k<wr.heap.size) 5 1 (some ⟨w0.heap.size,0,none⟩) m m ((nJ f m j).flatMap byV)
 lo:bW w0 wr
theorem Fil.new (f:Nat->Int) (m:Nat) (h:W.ownsRow w'.heap.size 5 1 (.slice (some ⟨w'.heap.size,0,none⟩) m m) m (madeCells (Value.cells (.int .u8 0)) (m*1)).toList) (a:w'.grownBy W none):Fil w' W f m 0:=by
 refine⟨OwnAt.fresh ?_,(aj _ _).grown a (av _) (λb a=>by cases a)⟩;rw[Sl,vT,List.map_replicate];rw[pJ (.int .u8 0) rfl]at h;exact h
theorem Fil.put {a wr:World} {f:Nat->Int} {m j:Nat} (h:Fil a wr f m j) (s:j<m):(∃o,wr.cell? ⟨a.heap.size,j,none⟩=some o)/\wr.frozen? ⟨a.heap.size,j,none⟩=false/\a.heap.size<wr.heap.size/\Fil a (wr.setCell ⟨a.heap.size,j,none⟩ (.int .u8 (f j))) f m (j+1):=by
 (have t:((nJ f m j).flatMap byV).length=m:=by rw[vT,bR,wL]);obtain⟨q,p,b,r,c,k,n⟩:=h.own.bF (i:=j) oM;injection b with b;injection b with b;subst b;refine⟨?_,c.frozen _,c.lt,⟨?_,h.lo.setCell (av _) _⟩⟩
 .have g:=k j _ (aL oM)
  rw[c.cell];exact⟨_,g⟩
 .have d:=n (.int .u8 (f j))
  have e:((nJ f m j).flatMap byV).set j (.int .u8 (f j))=(nJ f m (j+1)).flatMap byV:=by
   rw[vT,vT,<-NY,List.map_set]
  rw[e]at d;exact d.mono (λu l=>by simpa[World.setCell]using l)
theorem Uq (a b:Int) (q:Word a) (hb:Word b) (w:World):Yk 207 #[uI a,uI b] w λn r=>∃g,n=.returned (uI g)/\Word g/\(a*b<18446744073709551616->g=a*b)/\w=r:=by
 obtain⟨l,s⟩:=q;obtain⟨m,t⟩:=hb;by_cases c:a=0
 .subst c
  go_enter Tryz.func207,Tryz.ntmps207;go_wp2;go_ret;exact⟨_,rfl,by simp[IntKind.wrap,IntKind.bits,IntKind.signed,Word],λ_=>by simp[IntKind.wrap,IntKind.bits,IntKind.signed],rfl⟩
 .have u:(a !=0)=true:=by simpa using c
  (have v:(a==0)=false:=by simpa using c);have x:¬a=0:=c;have j:0<a:=oM;by_cases f:(18446744073709551615:Int)/a<b
  .have o:=bM f
   have d:¬a*b<18446744073709551616:=by
    intro k;have i:b<=18446744073709551615/a:=(Int.le_ediv_iff_mul_le j).2 (by rw[Int.mul_comm];omega);omega
   have e:=zH d;clear d f c;go_enter Tryz.func207,Tryz.ntmps207;go_wp2;go_ret;exact⟨_,rfl,⟨dC,dC⟩,λk=>Wy k (by have:=e.o;omega),rfl⟩
  .have o:=bJ f
   have d:0<=a*b/\a*b<=18446744073709551615:=by
    have i:b<=18446744073709551615/a:=oM;have p:=(Int.le_ediv_iff_mul_le j).1 i;rw[Int.mul_comm]at p;exact⟨dK l m,oM⟩
   have y:IntKind.u64.wrap (a*b)=a*b:=Wz _ d;have e:=zH d;clear d f c;go_enter Tryz.func207,Tryz.ntmps207;go_wp2;go_ret;exact⟨_,rfl,⟨e.o.1,by have:=e.o.2;omega⟩,λ_=>rfl,rfl⟩
theorem UY (a:Int) (e:Word a) (w:World):Yk 209 #[uI a] w λc d=>∃b,c=.returned (uI b)/\Word b/\w=d:=by
 go_enter Tryz.func209,Tryz.ntmps209;go_wp2_with fail;refine(Uq a 1000000 e ⟨dC,dC⟩ w).mono ?_;rintro c d ⟨b,rfl,f,-,rfl⟩;go_wp2;go_ret;exact⟨_,rfl,f,rfl⟩
structure Fp (w0 wr:World) (v:Value) (n:Nat):Prop where
 ex:∃a c,∃l:List Fa,v=.slice a l.length c/\OwnAt wr (λk=>w0.heap.size<=k) 187 4 a l.length c (l.flatMap faV)/\l.length<=n/\∀f∈l,Word f.delay
theorem Fp.below {w0 w w':World} {v:Value} (h:Fp w0 w v n) (hb:bW w w'):Fp w0 w' v n:=by
 obtain⟨a,b,j,c,d,e,i⟩:=h.ex;exact⟨a,b,j,c,d.below hb,e,i⟩
theorem Fp.mono {w0 w:World} {v:Value} (h:Fp w0 w v n) (k:n<=m):Fp w0 w v m:=by
 obtain⟨a,b,i,c,d,j,e⟩:=h.ex;exact⟨a,b,i,c,d,oM,e⟩
section
variable {n g:Nat} {v:Value} {f:Fa} {w0 w:World} {ops:Array Oper} {rest:List Oper} {o:Oper} {a:Act} {K:Act->World->Prop} {Q:X7}
theorem Uk (t:o.guard=none) (s x:Operand) (z:o.op=.call {callee:=.builtin .append,args:= #[s,x],argTypes:= #[100,100]})
  (B:a.eval s=v) (u:Fp w0 w v n) (C:a.eval x=.slice (some ⟨g,0,none⟩) 1 1) (r:Blk w g 187 (faV f).toArray) (hy:Word f.delay) (H:n<=1000000) (hb:w0.heap.size<=w.heap.size)
  (h:∀i d,Fp w0 d i (n+1)->Below w0.heap.size w d->Go.wpList prog ops Q rest (a.put o.dst i) d):Go.wpList prog ops Q (o::rest) a w:=by
 obtain⟨j,l,e,rfl,p,F,q⟩:=u.ex;refine Sm.jO t s x z j l e B p (some ⟨g,0,none⟩) 1 [f] C (Sm.single f r rfl) sO dC (λk m d A y _=>h _ d ⟨k,m,e++[f],rfl,A.mono ?_,by simp;omega,?_⟩ (y.cZ hb (λD b G=>by omega)))
 .intro D b
  rcases b with b|b
  .exact b
  .exact ay hb b.1
 .intro E c
  rcases WB.1 c with c|c
  .exact q E c
  .rw[dZ.1 c];exact hy
end
theorem XJ (S:X4) (a:X5) (c:Nat) (k:List Int) (w:World) (h:Row w S t 1 a k.length (k.flatMap u3V)) (b1:U32 k):
  Yk 31 #[.slice a k.length c] w λd0 s=>(∃v,d0=.returned v/\Fp w s v 40)/\bW w s:=by
 obtain⟨c5,c6⟩:=yx h b1;clear h b1;go_enter Tryz.func31,Tryz.ntmps31;go_wp2;go_loopg [3,4] 40 (λV d9 e0 wr=>e0=jI ((40:Int) -V)/\V<=40/\X3 (Fp w wr d9 (40 -V))/\X3 (bW w wr));(case atStart=>exact⟨rfl,av _,zH ⟨none,0,[],rfl,OwnAt.WH,jV _,λf d5=>by cases d5⟩,zH (aj _ _)⟩);case round=>
  obtain⟨rfl,e3,G,q⟩:=hrel;obtain⟨d,a6⟩:=eX (40 -gk);have a7:(40:Int) -gk=(d:Int):=oM;rw[a7];have E:=zH a6;have e4:d<=40:=oM;clear a6 a7;by_cases a8:d<k.length
  .have d1:decide ((d:Int)<(k.length:Int))=true:=bM oM
   by_cases e8:d<40
   .have d2:decide ((d:Int)<40)=true:=bM oM
    obtain⟨j,m,rfl,_,R,a5⟩:=c5.o.at_ oM;have T:=a5 (d*1) _ (mr RB k d 0 a8 oM);rw[Nat.mul_one]at T;have Z:wr.cell? ⟨j,m+d,none⟩=some (.int .u32 k[d]):=(q.o.cell (p:=⟨j,m+d,none⟩) R).trans T;obtain⟨e1,e2⟩:=c6.o _ (aN a8);generalize k[d]=e at*
    have e5:(d:Int)<k.length:=oM;have a4:j<wr.heap.size:=aC R q.o.size;clear a5 T R;go_upto_region 5 with fail;have F:=zH (λc8 (d4:bW wr c8)=>(d4.cell (p:=⟨j,m+d,none⟩) a4).trans Z);have l:bW wr wr.drew:=bA (aj _ _);have b:=F.o _ l;refine aZ (S:=λs=>s.cell? ⟨j,m+d,none⟩=some (.int .u32 e)) kR b (λd3=>?_);clear d3;refine tK 0 16 b ?_;refine tK 1 17 b ?_;refine tK 2 18 b ?_;refine X6 3 19 b ?_ (y:=by intro w u;have b2:w.cell? ⟨j,m+d,none⟩=_:=u;exact gS);refine tK 4 20 b ?_;refine tK 5 21 b ?_;refine tK 6 22 b ?_;refine tK 7 23 b ?_;refine tK 8 24 b ?_;refine X6 9 25 b ?_ (y:=by intro w u;have b2:w.cell? ⟨j,m+d,none⟩=_:=u;exact gS);refine tK 10 26 b ?_;refine tK 11 27 b ?_;refine tK 12 28 b ?_;refine tK 13 29 b ?_;refine tK 14 30 b ?_;refine tK 15 31 b ?_;refine X6 16 32 b ?_ (y:=by intro w u;have b2:w.cell? ⟨j,m+d,none⟩=_:=u;exact gS);refine tK 17 33 b ?_;refine tK 18 34 b ?_;refine tK 19 35 b ?_;refine tK 20 36 b ?_;refine nrm 23 2097151 ?_;refine aI 21 kR ?_;refine opA 5 187 #[bV false,bV false,bV false,uI 0] ?_;intro r X a3 C P;have O:=l.trans (a3.mono l.size);have U:=F.o _ O;refine⟨U,?_⟩;refine mP ?_;refine dJ (i:=22) 187 (.tmp 5) (.tmp 36) r 0 #[bV (bits .and .u32 e 3==1),bV (bits .and .u32 (e/4) 3==1),bV (bits .and .u32 (e/16) 3==1),uI 0] rfl kR kR kR kR kR kR (P.there _ sM) kR XF (?_) ?_
    (.exact((Below.bZ (av _) _ _ _ (aj r X)).cell (p:=⟨j,m+d,none⟩) (aC a4 (ay l.size C))).trans U);intro M N;(have A:bW wr M:=by rw[N];exact O.trans ((Below.bZ (av _) _ _ _ (aj r X)).mono (ay l.size C)));have D:=Blk.gF P [bV (bits .and .u32 e 3==1),bV (bits .and .u32 (e/4) 3==1),bV (bits .and .u32 (e/16) 3==1),uI 0] rfl;rw[<-show M=_ from N]at D;have d6:w.heap.size<=r:=ay q.o.size (ay l.size C);have b0:wr.heap.size<=r:=ay l.size C;clear N O P U a3 C b l;refine mP ?_;refine bg kR ?_ _;generalize(bits .and .u32 e 3==1)=a0 at*
    generalize(bits .and .u32 (e/4) 3==1)=a1 at*
    generalize(bits .and .u32 (e/16) 3==1)=a2 at*
    have c9:=F.o _ A;obtain⟨b3,b4,b5,b6,b7,b8,b9,c0⟩:=D.c4;have a9:=D.lt;obtain⟨c7,J,c2⟩:=Av D (q.o.trans (A.mono q.o.size)) (G.o.below A);have e6:=J.o.size;obtain⟨c1,c4⟩:=yx A b0;clear D A Z F b0;go_upto_if 43 with fail;generalize((_:Int)==1)=d7;cases d7 with
    |false=>
     go_wp2_with (at_builtin;refine Uk (f:=⟨a0,a1,a2,0⟩) rfl (.tmp 52) (.tmp 54) rfl (by rfl) (c2.o.below BEL) (by rfl) (Wx _ _ _) (show Word 0 from⟨dC,dC⟩) oM sO ?_;intro d8 s B z;have L:=zH B;have I:=zH z;clear B z);go_roundg (gk -1);(case measure=>have:=E.o;omega);case rel=>have:=E.o;exact⟨by congr 1;omega,oM,zH (L.o.mono oM),zH (J.o.trans (bD BEL I.o))⟩
    |true=>
     go_upto_region 8 with fail;obtain⟨Y,x⟩:=eX (M.setCell ⟨r,3,none⟩ (uI (e/128%40000)));rw[<-x];have H:=c7.o.bF 3 (uI (e/128%40000));rw[<-x]at H;obtain⟨W,c3⟩:=yx (show bW w Y by rw[x];exact J.o.setCell d6 _) (show Fp w Y u3 (40 -gk) by rw[x];exact G.o.below (c1.o.setCell c4.o _));clear x b3 b4 b5 b6 b7 b8 b9 c0 a9 c9;obtain⟨b3,b4,b5,b6,b7,b8,b9,c0⟩:=H.c4;have a9:=H.lt;have e7:=W.o.size;clear H;go_wp2_with (at_builtin;refine Uk (f:=⟨a0,a1,a2,e/128%40000⟩) rfl (.tmp 52) (.tmp 54) rfl (by rfl) (c3.o.below BEL) (by rfl) (Wx _ _ _) (show Word (e/128%40000)from⟨oM,oM⟩) oM sO ?_;intro d8 s B z;have L:=zH B;have I:=zH z;clear B z);go_roundg (gk -1);(case measure=>have:=E.o;omega);case rel=>have:=E.o;exact⟨by congr 1;omega,oM,zH (L.o.mono oM),zH (W.o.trans (bD BEL I.o))⟩
   .have d2:decide ((d:Int)<40)=false:=bJ oM
    go_wp2;go_ret;exact⟨⟨_,rfl,G.o.mono oM⟩,q.o⟩
  .have d1:decide ((d:Int)<(k.length:Int))=false:=bJ oM
   go_wp2;go_ret;exact⟨⟨_,rfl,G.o.mono oM⟩,q.o⟩
structure Still (w:Wo):Prop where
 q:Quiet w.en
 now:nO w.en w.now=w.en
theorem Zf {e:En} {now:Int} (h:now<=e.now):nO e now=e:=by
 unfold nO;rw[show max e.now now=e.now by omega]
theorem Y3 (c:Cf) (words:List Int) (a b:List Fa) (d:Int):Still (mO c words a b d):=by
 refine⟨⟨?_,?_⟩,Zf (bY _)⟩;all_goals
  show _;have e:WQ (nK c words)=⟨[],10,nK c words⟩:=by
   rw[vk,Ww (by simp[Yn,nK]),Ww (by simp[nK])];unfold uS;have f:iY (nK c words).dH (nK c words).c.mss=none:=by
    unfold iY;split
    .rfl
    .rw[aB (by simp[nK,nS,nL,BN,fT])]
   rw[f]
  unfold mO;dsimp only;rw[e]
 exact(by decide:(10:Int)≠0)
theorem Y7 {w:Wo} {e:Ev} (g:WdX n n 0 0 w) (d:EvOk e) (f:1<=e.kind/\e.kind<=6):Still (Bc w e):=by
 have b:=Hf g d;unfold Bc;rw[aB f];obtain⟨a,k,_,i,j⟩:=Eo (n:=n) (λ_=>True) (λ_ _ _ _=>trivial) _ (Yp w e) (Yq b) (PV (Yq b)) trivial;unfold GY;rw[j];refine⟨Zb i,Zf ?_⟩;have c:=(JS (nO a.en a.now)).2;show a.now<=(WQ (nO a.en a.now)).en.now;rw[c];show a.now<=max a.en.now a.now;omega
theorem Zd {w:Wo} {b:List Int} (o:WdX n n 0 0 w) (c:Still w) (hb:dP b) (k:(jy b).err≠0):
  Bc w ⟨3,0,b⟩={w with en:=(if Yn w.en=true then w.en else sx {w.en.gu with n:={w.en.gu.n with dB:=w.en.gu.n.dB+1}} w.en.told w.en.cO w.en),heard:=w.heard+1}:=by
 have p:EvOk ⟨3,0,b⟩:=⟨hb,bY _⟩;have g:Yp w ⟨3,0,b⟩={w with en:=(if Yn w.en=true then w.en else sx {w.en.gu with n:={w.en.gu.n with dB:=w.en.gu.n.dB+1}} w.en.told w.en.cO w.en),heard:=w.heard+1}:=by
  unfold Yp;rw[Ww sM,Ww sM,aB rfl];unfold je;have i:(lU w.en b w.now).en=(xw w.en b).en:=by
   show(xw (nO w.en w.now) b).en=_;rw[c.now]
  rw[i,Y5 o.gs k]
 unfold Bc;rw[aB sM,g];generalize e:(if Yn w.en=true then w.en else sx {w.en.gu with n:={w.en.gu.n with dB:=w.en.gu.n.dB+1}} w.en.told w.en.cO w.en)=a;(have m:a.now=w.en.now:=by rw[<-e];split<;>rfl);have f:Quiet a:=by
  rw[<-e];split
  .exact c.q
  .exact Za _ c.q
 have j:nO a w.now=a:=Zf (by
  rw[m];have:=lY En.now c.now;have d:max w.en.now w.now=w.en.now:=this;omega)
 (have d:fD a w.now=WQ a:=by show WQ (nO a w.now)=_;rw[j]);unfold GY;have l:(a.cO.toNat+257)=(a.cO.toNat+256)+1:=rfl;show qI (a.cO.toNat+257) _=_;rw[l,BR (w:={w with en:=a,heard:=w.heard+1}) _ (by show(fD a w.now).err≠0;rw[d];exact f.1)];show({w with en:=(fD a w.now).en,heard:=w.heard+1}:Wo)=_;rw[d,f.2]
theorem Y4 {w:Wo} {b:List Int} (c:WdX n n 0 0 w) (i:Still w) (hb:dP b) (g:(jy b).err≠0):
  woRow (Bc w ⟨3,0,b⟩)={woRow w with aS:={(woRow w).aS with dh:=(if(woRow w).aS.aS<3 then{(woRow w).aS.dh with dB:=(woRow w).aS.dh.dB+1}else(woRow w).aS.dh)},told:=(woRow w).told+1}/\(Bc w ⟨3,0,b⟩).sent=w.sent:=by
 rw[Zd c i hb g];refine⟨?_,rfl⟩;have j:=c.en.st0;have k:=c.en.st1;(have d:Yn w.en=true↔¬w.en.aS<3:=by unfold Yn;simp;omega);unfold woRow;dsimp only;have e:(cK w.en).aS=w.en.aS:=rfl;by_cases a:Yn w.en=true
 .rw[aB a,e,Ww (d.1 a)]
  simp only[Rw.mk.injEq,and_true,true_and];exact⟨rfl,by push_cast;rfl⟩
 .rw[Ww a,e,aB (Decidable.byContradiction λf=>a (d.2 f))]
  simp only[Rw.mk.injEq];exact⟨rfl,trivial,trivial,by push_cast;rfl,trivial,trivial,trivial⟩
end Go.Proofs.YtiflndepmgnojaaGreat
