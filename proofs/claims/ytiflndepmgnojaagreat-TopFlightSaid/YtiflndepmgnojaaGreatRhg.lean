import Derived.Laws.LoneSync
import Derived.Defers
import Derived.Laws.Pointers
import Derived.ChangeAlike
import Derived.RegionCalls
import Derived.Test.YtiflndepmgnojaaGreatLa2
import Derived.Test.YtiflndepmgnojaaGreatRhf
namespace Go.Proofs.YtiflndepmgnojaaGreat
open Go.RowKit Tryz
set_option linter.unusedSimpArgs false
set_option linter.unusedVariables false
set_option maxHeartbeats 8000000
set_option maxRecDepth 100000
variable {w:World} {k b m n p:Nat} {x:Int} {t:TypeId}
attribute[local go_sem] BW.cell BW.frozen
def b32 (b:Bool):Int:=if b then 1 else 0
theorem pV (a:Addr) (b:Bool) (w:World) (d:w.cell? a=some (.int .u32 (b32 b))):
  Yk 109 #[.pointer (some a)] w λf g=>f=.returned (bV b)/\g=w:=by
 have e:=run_call_load (P:=prog) Tryz.func180 kR kR kR .u32 kR d;cases b
 .have c:b32 false=0:=rfl
  rw[c]at e d;go_enter Tryz.func109,Tryz.ntmps109;go_wp2;go_ret;exact⟨rfl,rfl⟩
 .have c:b32 true=1:=rfl
  rw[c]at e d;go_enter Tryz.func109,Tryz.ntmps109;go_wp2;go_ret;exact⟨rfl,rfl⟩
theorem DJ (a:Addr) (x:Int) (w:World) (c:w.cell? a=some (uI x)):
  Yk 148 #[.pointer (some a)] w λb d=>b=.returned (uI x)/\d=w:=by
 have e:=run_call_load (P:=prog) Tryz.func205 kR kR kR .u64 kR c;go_enter Tryz.func148,Tryz.ntmps148;go_wp2;go_ret;exact⟨rfl,rfl⟩
theorem uX (a:Addr) (x:Int) (w:World) (i:0<=x) (g:x+1<18446744073709551616) (c:w.cell? a=some (uI x)) (d:w.frozen? a=false):
  Yk 110 #[.pointer (some a),uI 1] w λb e=>b=.returned (uI (x+1))/\e=w.setCell a (uI (x+1)):=by
 have f:=run_call_add (P:=prog) Tryz.func181 kR kR kR .u64 kR (y:=1) (s:=x+1) c d (by simp[go_sem];rw[IntKind.wrap_u64];omega);go_enter Tryz.func110,Tryz.ntmps110;go_wp2;go_ret;exact⟨rfl,rfl⟩
theorem Lv (a:Addr) (x:Value) (w:World) (f:w.cell? a=some x) (i:w.frozen? a=false):
  Yk 116 #[.pointer (some a),bV true] w λb e=>b=.returned (.tuple #[])/\e=w.drew.setCell a (.int .u32 1):=by
 (have c:w.drew.cell? a=some x:=by go_simp);(have d:w.drew.frozen? a=false:=by go_simp);have g:=run_call_store (P:=prog) Tryz.func187 kR kR kR kR (k:=.u32) (y:=1) c d;go_enter Tryz.func116,Tryz.ntmps116;go_wp2;go_region_calls;all_goals (go_end0;exact⟨rfl,rfl⟩)
theorem disable (w:World):(callFunc 257 #[]).run prog w=.ok (.value (.tuple #[])) w:=run_call_mark0 Tryz.func257 kR kR kR .disable kR w
theorem enable (w:World):(callFunc 259 #[]).run prog w=.ok (.value (.tuple #[])) w:=run_call_mark0 Tryz.func259 kR kR kR .enable kR w
theorem acquire (a:Addr) (w:World):(callFunc 260 #[.pointer (some a)]).run prog w=.ok (.value (.tuple #[])) w:=run_call_marked Tryz.func260 kR kR kR .acquire kR a w
theorem releaseMerge (a:Addr) (w:World):(callFunc 262 #[.pointer (some a)]).run prog w=.ok (.value (.tuple #[])) w:=run_call_marked Tryz.func262 kR kR kR .releaseMerge kR a w
theorem XL (a:Addr) (x:Value) (u:FrameMode) (w:World) (g:w.cell? a=some x) (j:w.frozen? a=false):
  CallsD prog 116 #[.pointer (some a),bV true] u w λb e f=>e=u/\(b=.returned (.tuple #[])/\f=w.drew.setCell a (.int .u32 1)):=by
 (have c:w.drew.cell? a=some x:=by go_simp);(have d:w.drew.frozen? a=false:=by go_simp);have i:=run_call_store (P:=prog) Tryz.func187 kR kR kR kR (k:=.u32) (y:=1) c d;go_enter_d Tryz.func116,Tryz.ntmps116;go_wp2;go_region_calls;all_goals (go_end0;exact⟨rfl,rfl⟩)
theorem unlock_deferred (a:Addr) (u:FrameMode) (w:World) (b:w.cell? a=some (.int .i32 1)) (d:w.frozen? a=false):
  CallsD prog 237 #[.pointer (some a)] u w λc e f=>e=u/\(c=.returned (.tuple #[])/\f=w.setCell a (.int .i32 0)):=by
 obtain⟨j,k,l⟩:=Hl disable enable releaseMerge;have g:=run_call_add (P:=prog) Tryz.func263 kR kR kR .i32 kR (y:= -1) (s:=0) b d (by simp[go_sem];rfl);have i:=run_convert_to_unsafe (P:=prog) (src:=388) (dst:=392) Tryz.underlying388 Tryz.underlying392 kR b;go_enter_d Tryz.func237,Tryz.ntmps237;go_wp2;go_end0;go_wp2;all_goals (go_end0;exact⟨rfl,rfl⟩)
theorem lock_free (a:Addr) (w:World) (b:w.cell? a=some (.int .i32 0)) (e:w.frozen? a=false):
  Yk 236 #[.pointer (some a)] w λc f=>c=.returned (.tuple #[])/\f=w.setCell a (.int .i32 1):=by
 obtain⟨k,l,g,i⟩:=Ju disable enable acquire (run_call_cas_hit (P:=prog) Tryz.func258 kR kR kR .i32 kR (y:=1) b e);have d:(w.setCell a (.int .i32 1)).cell? a=some (.int .i32 1):=World.cell?_setCell_same w a _ b;have j:=run_convert_to_unsafe (P:=prog) (src:=388) (dst:=392) Tryz.underlying388 Tryz.underlying392 kR d;go_enter Tryz.func236,Tryz.ntmps236;go_wp2;(first|go_end0|(simp only[Exit.inBlock,Exit.then];refine eG (results_none rfl _ _ _) rfl ?_)|refine eG (results_none rfl _ _ _) rfl ?_);go_wp2;all_goals (go_end0;exact⟨rfl,rfl⟩)
structure mI (w:World) (S:X4) (p:Nat) (g:Gu):Prop where
 ex:∃(pb:Nat) (x9 e0 e1 e2 e3 e4 e5 e6 e7 e8:Value),Blk w p 256 #[pT pb,uI g.n.dB,uI g.n.eT,uI g.n.fI,uI g.n.bE,uI g.n.late,.int .u32 (b32 g.over),.int .u32 (b32 g.over),.int .i32 0,x9,e0,e1,e2,e3,e4,e5,e6,e7,e8]/\wX w S pb g.bu
 mem:S p
section
variable {w w':World} {S S':X4} {p:Nat} {g:Gu} {ts:X8}
theorem mI.lt (h:mI w S p g):p<w.heap.size:=by obtain⟨l,m,a,b,c,d,e,f,i,j,k,h,_⟩:=h.ex;exact h.lt
theorem mI.keep (h:mI w S p g) (a:bQ S ts w w') (m:some 256∈ts) (n:some 314∈ts) (o:some 30∈ts):mI w' S p g:=by
 obtain⟨s,t,b,c,d,e,f,i,j,k,l,q,r⟩:=h.ex;exact⟨⟨s,t,b,c,d,e,f,i,j,k,l,q.keep a h.mem m,r.keep a n o⟩,h.mem⟩
theorem mI.below (h:mI w S p g) (hb:bW w w'):mI w' S p g:=h.keep (ts:=[some 256,some 314,some 30]) (bQ.below hb) sM sM sM
theorem mI.mono (h:mI w S p g) (a:∀b,S b->S' b):mI w S' p g:=by
 obtain⟨q,r,c,d,e,f,i,j,k,l,m,n,o⟩:=h.ex;exact⟨⟨q,r,c,d,e,f,i,j,k,l,m,n,o.mono a⟩,a _ h.mem⟩
end
theorem QH (f d:Int) (w:World):
  Yk 46 #[jI f,uI d] w λj w'=>∃p,j=.returned ((pT p))/\w.heap.size<=p/\mI w' (λa=>w.heap.size<=a/\a<w'.heap.size) p (guNew f d)/\bW w w':=by
 have m:=zH (Rl f d);go_enter Tryz.func46,Tryz.ntmps46;go_wp2_with fail;refine(m.o _).mono ?_;rintro j c ⟨o,rfl,q,k,b⟩;obtain⟨n,i⟩:=yx k b;clear k b;go_wp2;go_ret;have l:=i.o.size;refine⟨c.heap.size,rfl,l,⟨⟨o,_,_,_,_,_,_,_,_,_,_,Wx _ _ _,(n.o.mono (S':=λa=>w.heap.size<=a/\a<c.heap.size+1) (λa e=>⟨e.1,oM⟩)).below (by have b:=aj c.heap.size c;exact BEL)|>.mono (λa e=>⟨e.1,by simp;omega⟩)⟩,⟨l,sM⟩⟩,by have b:=i.o;exact BEL⟩
theorem Js (S:X4) (p:Nat) (g:Gu) (w:World) (h:mI w S p g):
  Yk 73 #[pT p] w λu w'=>u=.returned (.agg #[uI g.n.dB,uI g.n.eT,uI g.n.fI,uI g.n.bE,uI g.n.late])/\bW w w':=by
 obtain⟨Q,R,C,D,E,F,G,H,I,J,K,a,_⟩:=h.ex;obtain⟨i,j,k,l,m⟩:=a.e5 1 2 3 4 5;have c:=a.lt;have N:¬(p=w.heap.size):=oM;have O:¬(w.heap.size=p):=oM;clear h a;obtain⟨B,⟨v,x,y,z,A⟩,P⟩:=g;simp only at*
 go_enter Tryz.func73,Tryz.ntmps73;go_wp2_with fail;obtain⟨f,d⟩:=eX (w.alloc (.cells #[uI 0,uI 0,uI 0,uI 0,uI 0] 36));rw[<-d];(have b:bW w f:=by rw[d];exact BEL);obtain⟨o,q,r,s,t⟩:=LX ((b.cell (p:=⟨p,1,none⟩) c).trans i) ((b.cell (p:=⟨p,2,none⟩) c).trans j) ((b.cell (p:=⟨p,3,none⟩) c).trans k) ((b.cell (p:=⟨p,4,none⟩) c).trans l) ((b.cell (p:=⟨p,5,none⟩) c).trans m);(have e:Blk f w.heap.size 36 #[uI 0,uI 0,uI 0,uI 0,uI 0]:=by rw[d];exact Wx _ _ _);obtain⟨T,Y,U,Z,V,a0,W,a1,X,a2⟩:=e.c5;have L:=e.lt;have n:=zH b;clear d b i j k l m e;refine bP 21 kR kR ?_;refine mD ?_;(repeat (go_big_quiet_step ((go_at_call 148;exact aJ (DJ _ _ _ (by first|exact o|exact q|exact r|exact s|exact t))))));refine aK ?_;rintro _ ⟨M,rfl⟩;refine dA rfl rfl ?_;go_simp;refine aK ?_;refine mV ?_;have a:=n.o;refine⟨?_,BEL⟩;simp
theorem Lp (S:X4) (a1:X5) (c1:Nat) (a2:X5) (c2:Nat) (k:Ak) (w:World) (h:nu w S a1 c1 a2 c2 k):
  Yk 119 #[.agg #[.slice a1 k.cu.length c1,.slice a2 k.aO.length c2,uI k.dw,uI k.xor,bV k.kZ]] w λE L=>(∃C J c D K s,E=.returned (.agg #[.slice C J c,.slice D K s,uI k.dw,uI k.xor,bV k.kZ]))/\bW w L:=by
 obtain⟨z,A⟩:=yx h.cu h.aO;have P:=h.Ks;have O:=h.mlen;clear h;obtain⟨a,b,d,i,f⟩:=k;simp only at*
 go_enter Tryz.func119,Tryz.ntmps119;(repeat ((fail_if_success (with_reducible apply eG));first|first|(at_builtin;have N:=r;refine iP.wpList rfl _ (.tmp 8) rfl (g.setCell ⟨w.heap.size,0,none⟩ (.slice j a.length c)).heap.size none 0 [] (by rfl) (iq _ _ _ _) a2 c2 b (by rfl) (aD A.o (by have t:=q.o;exact BEL)) sO dC sM ?_;intro M s p G v;have o:Below (g.setCell ⟨w.heap.size,0,none⟩ (.slice j a.length c)).heap.size (g.setCell ⟨w.heap.size,0,none⟩ (.slice j a.length c)) p:=(aj _ _).grown v (av _) XI;have l:Blk p w.heap.size 92 #[.slice j a.length c,.slice a2 b.length c2,uI d,uI i,bV f]:=Blk.below (h:=(by have:=r.o.bF 0 (.slice j a.length c);simpa using this)) (hb:=o) sO;have m:Blk p (w.heap.size+1) 92 jK:=Blk.below (h:=B.o.far sM _) (hb:=o) sO;have I:=o.size;simp at I;obtain⟨u0,Q⟩:=l.cz 0;obtain⟨u1,R⟩:=l.cz 1;obtain⟨u2,T⟩:=l.cz 2;obtain⟨u3,U⟩:=l.cz 3;obtain⟨u4,V⟩:=l.cz 4;obtain⟨W,a3⟩:=m.cz 0;obtain⟨X,a4⟩:=m.cz 1;obtain⟨Y,a5⟩:=m.cz 2;obtain⟨Z,a6⟩:=m.cz 3;obtain⟨a0,a7⟩:=m.cz 4;have y:=zH ((show bW w (g.setCell ⟨w.heap.size,0,none⟩ (.slice j a.length c))from(by have t:=q.o;exact BEL)).trans (o.mono sO));clear G v o l m)|(at_builtin;refine iP.wpList rfl _ (.tmp 4) rfl (w.heap.size+1+1) none 0 [] (by rfl) (iq _ _ _ _) a1 c1 a (by rfl) (aD z.o (BEL)) sO dC sM ?_;intro j c g F u;have n:Below ((w.alloc (.cells #[.slice a1 a.length c1,.slice a2 b.length c2,uI d,uI i,bV f] 92)).alloc (.cells jK 92)).heap.size ((w.alloc (.cells #[.slice a1 a.length c1,.slice a2 b.length c2,uI d,uI i,bV f] 92)).alloc (.cells jK 92)) g:=(aj _ _).grown u (av _) XI;have e:Blk g w.heap.size 92 #[.slice a1 a.length c1,.slice a2 b.length c2,uI d,uI i,bV f]:=Blk.below (h:=(show Blk ((w.alloc (.cells #[.slice a1 a.length c1,.slice a2 b.length c2,uI d,uI i,bV f] 92)).alloc (.cells jK 92)) w.heap.size 92 #[.slice a1 a.length c1,.slice a2 b.length c2,uI d,uI i,bV f]from(Wx _ _ _).alloc _)) (hb:=n) sO;have x:Blk g (w.heap.size+1) 92 jK:=Blk.below (h:=Blk.qN _ _ _ _) (hb:=n) sM;have H:=n.size;simp at H;obtain⟨a8,b3⟩:=e.cz 0;obtain⟨a9,b4⟩:=e.cz 1;obtain⟨b0,b5⟩:=e.cz 2;obtain⟨b1,b6⟩:=e.cz 3;obtain⟨b2,b7⟩:=e.cz 4;have r:=zH e;have B:=zH x;have q:=zH ((show bW w ((w.alloc (.cells #[.slice a1 a.length c1,.slice a2 b.length c2,uI d,uI i,bV f] 92)).alloc (.cells jK 92))from BEL).trans (n.mono sO));clear F u n e x)|go_values|go_skip|go_guarded|go_step|go_upon|go_back|go_simp));refine mZ ?_;have t:=y.o;refine⟨⟨_,_,_,_,_,_,rfl⟩,BEL⟩
theorem Blk.ne {g h:Nat} {t u:TypeId} {b c:Array Value} (hb:Blk w g t b) (a:Blk w h u c) (f:t≠u):¬(g=h):=by
 intro d;subst d;unfold Blk at hb a;rw[hb]at a;injection a with a;injection a with _ e;exact f e
structure EvAt (w:World) (S:X4) (b7 b15 b12 b13 b10 b4 p:Nat) (a1:X5) (c1:Nat) (a2:X5) (c2:Nat) (k:Ak) (gs:Array Value):Prop where
 now:∃x,Blk w b7 30 #[uI x]
 pn:∃x,Blk w b15 30 #[uI x]
 used:∃x,Blk w b12 30 #[uI x]
 why:∃x,Blk w b13 3 #[jI x]
 ack:Blk w b10 92 #[.slice a1 k.cu.length c1,.slice a2 k.aO.length c2,uI k.dw,uI k.xor,bV k.kZ]
 ptr:Blk w b4 150 #[pT p]
 gu:Blk w p 256 gs
 ak:nu w S a1 c1 a2 c2 k
theorem MS (S:X4) (v t r s c u p:Nat) (a1:X5) (c1:Nat) (a2:X5) (c2:Nat) (k:Ak) (a3 a4 a5 a6 a7 a8 a9 b0 b1 b2 b8 b9 c0 c3 c4 c5 c6 c7 c8:Value) (w:World)
  (h:EvAt w S v t r s c u p a1 c1 a2 c2 k #[a3,a4,a5,a6,a7,a8,a9,b0,b1,b2,b8,b9,c0,c3,c4,c5,c6,c7,c8]):
  Yk 118 #[pT v,pT t,pT r,pT s,pT c,pT u] w λJ a=>
   J=.returned (.tuple #[])/\(∃c9 d0 d1 d2 d3 d4 d5 d6 d7,Blk a p 256 #[a3,a4,a5,a6,a7,a8,a9,b0,b1,b2,c9,d0,d1,d2,d3,d4,d5,d6,d7])/\Mod (λk=>k=p) [some 256] w a:=by
 obtain⟨⟨i,z⟩,⟨j,A⟩,⟨l,B⟩,⟨m,C⟩,D,E,e,T⟩:=h;have b4:=zH (λa (e0:bW w a)=>Lp S a1 c1 a2 c2 k a (T.below e0));obtain⟨V,W,X,Y,Z⟩:=LX (z.cell 0) (A.cell 0) (B.cell 0) (C.cell 0) (E.cell 0);obtain⟨f6,g8,f7,g9,f8,h0,f9,h1,g0,h2⟩:=D.c5;obtain⟨e2,g2,g3,g4,g5,g6⟩:=MP e.lt (e.ne z dC) (e.ne A dC) (e.ne B dC) (e.ne C dC) (e.ne D dC);obtain⟨g7,e3,e4,e5,e6,g⟩:=MP (e.ne E dC) z.lt A.lt B.lt C.lt D.lt;have e7:=E.lt;have b5:=zH e;simp only[List.getElem?_toArray,List.getElem?_cons_zero]at V W X Y Z;clear z A B C D E e T;obtain⟨b7,b6,f,n,F⟩:=k;simp only at*
 go_enter Tryz.func118,Tryz.ntmps118;go_wp2_with fail;go_region_held3 (λa=>a.cell? ⟨u,0,none⟩=some ((pT p))/\a.cell? ⟨v,0,none⟩=some (uI i)/\a.cell? ⟨t,0,none⟩=some (uI j)/\a.cell? ⟨r,0,none⟩=some (uI l)/\a.cell? ⟨s,0,none⟩=some (jI m)/\
   a.cell? ⟨c,0,none⟩=some (.slice a1 b7.length c1)/\a.cell? ⟨c,1,none⟩=some (.slice a2 b6.length c2)/\a.cell? ⟨c,2,none⟩=some (uI f)/\a.cell? ⟨c,3,none⟩=some (uI n)/\a.cell? ⟨c,4,none⟩=some (bV F)) (first|with_reducible assumption|(iterate 9 (with_reducible refine(World.cell?_setCell_other _ _ _ _ (λh=>by have:=lY Addr.block h;simp at this;omega)).trans ?_);with_reducible assumption)|simp[go_sem, *]) (first
  |(go_simp;go_at_call 119;refine(b4.o _ (BEL)).mono ?_;rintro J a0 ⟨⟨o,G,x,q,H,y,rfl⟩,U⟩;have b:bW w a0:=(show bW w _ from BEL).trans (U.mono sM);have d:=b5.o.below b e2;have I:=zH d;have b3:=zH b;have g1:=d.lt;have j5:=(b.cell (p:=⟨u,0,none⟩) e7).trans Z;have j1:=(b.cell (p:=⟨v,0,none⟩) e3).trans V;have j2:=(b.cell (p:=⟨t,0,none⟩) e4).trans W;have j3:=(b.cell (p:=⟨r,0,none⟩) e5).trans X;have j4:=(b.cell (p:=⟨s,0,none⟩) e6).trans Y;have j6:=(b.cell (p:=⟨c,0,none⟩) g).trans f6;have j7:=(b.cell (p:=⟨c,1,none⟩) g).trans f7;have j8:=(b.cell (p:=⟨c,2,none⟩) g).trans f8;have j9:=(b.cell (p:=⟨c,3,none⟩) g).trans f9;have k0:=(b.cell (p:=⟨c,4,none⟩) g).trans g0;obtain⟨h3,i2⟩:=d.cz 10;obtain⟨h4,i3⟩:=d.cz 11;obtain⟨h5,i4⟩:=d.cz 12;obtain⟨h6,i5⟩:=d.cz 13;obtain⟨h7,i6⟩:=d.cz 14;obtain⟨h8,i7⟩:=d.cz 15;obtain⟨h9,i8⟩:=d.cz 16;obtain⟨i0,i9⟩:=d.cz 17;obtain⟨i1,j0⟩:=d.cz 18;clear b d U))
 all_goals (
  go_end0;refine⟨rfl,⟨uI i,uI j,uI l,jI m,.slice o G x,.slice q H y,uI f,uI n,bV F,?_⟩,?_⟩
  .have d9:=((((((((I.o.bF 10 (uI i)).bF 11 (uI j)).bF 12 (uI l)).bF 13 (jI m)).bF 14 (.slice o G x)).bF 15 (.slice q H y)).bF 16 (uI f)).bF 17 (uI n)).bF 18 (bV F)
   simpa using d9
  .have e1:Mod (λk=>k=p) [some 256] w a0:=aH b3.o
   have K:=I.o;have e8:=e1.setCell K (λ_=>rfl) sM 10 (uI i);have L:=K.bF 10 (uI i);have e9:=e8.setCell L (λ_=>rfl) sM 11 (uI j);have M:=L.bF 11 (uI j);have f0:=e9.setCell M (λ_=>rfl) sM 12 (uI l);have N:=M.bF 12 (uI l);have f1:=f0.setCell N (λ_=>rfl) sM 13 (jI m);have O:=N.bF 13 (jI m);have f2:=f1.setCell O (λ_=>rfl) sM 14 (.slice o G x);have P:=O.bF 14 (.slice o G x);have f3:=f2.setCell P (λ_=>rfl) sM 15 (.slice q H y);have Q:=P.bF 15 (.slice q H y);have f4:=f3.setCell Q (λ_=>rfl) sM 16 (uI f);have R:=Q.bF 16 (uI f);have f5:=f4.setCell R (λ_=>rfl) sM 17 (uI n);have d8:=R.bF 17 (uI n);exact f5.setCell d8 (λ_=>rfl) sM 18 (bV F))
theorem GQ (next:Int) (s:Sp) (t:List Sp):oZ next (s::t)=if next<=s.hi then some (max s.lo next)else oZ next t:=rfl
theorem Ih (a:List Sp) (s:Se) (t:List Se):xK a (s::t)=if s.aS=4/\oQ a s.pn=true then some s.pn else xK a t:=rfl
def chS (a:Rsu) (k:Ak):Rch:=if a.val≠k.xor then⟨6,0⟩else if a.odd≠k.kZ then⟨7,0⟩else⟨0,0⟩
def chO (a b:Option Int) (c:Rsu) (k:Ak):Rch:=match a with|some p=>⟨4,p⟩|none=>match b with|some p=>⟨5,p⟩|none=>chS c k
theorem OB {l:Le} {k:Ak} (a:qA k=true) (b:¬(k.cu.getD 0 ⟨0,0⟩).lo<gT l):kL l k=chO (oZ l.next k.cu) (xK k.cu l.kept) (Bn l k.cu k.aO) k:=by
 unfold kL;rw[a,Ww sM,Ww b];rfl
theorem Ah (S X:X4) (p:Nat) (l:Le) (a1:X5) (c1:Nat) (a2:X5) (c2:Nat) (k:Ak) (w:World) (h:iJ w S p l) (y:gM l) (n:nu w X a1 c1 a2 c2 k):
  Yk 115 #[pT p,.agg #[.slice a1 k.cu.length c1,.slice a2 k.aO.length c2,uI k.dw,uI k.xor,bV k.kZ]] w λY c=>
   Y=.returned (.tuple #[jI (kL l k).why,uI (kL l k).pn])/\bW w c:=by
 obtain⟨A,b0,a7,b1⟩:=Bq (λc (a:bW w c)=>wU X a1 c1 a2 c2 k c (n.below a)) (λc (a:bW w c)=>qY S p l c (h.below a) y) (λc (a:bW w c)=>sU S p l c (h.below a) y) (λc (a:bW w c)=>pK S p l c (h.below a));(have m5:l.kept.length<=1000:=by have:=y.len;have:=y.lW;omega);obtain⟨B,b2⟩:=yx n.cu n.sok;have g1:=n.scap;cases hm:qA k with
 |false=>
  (have a4:kL l k=⟨1,0⟩:=by unfold kL;rw[hm];rfl);rw[a4];rw[hm]at A;clear a4 hm h y n b0 a7 B b2;obtain⟨d,C,E,v,z⟩:=k;simp only at*
  go_enter Tryz.func115,Tryz.ntmps115;go_wp2_with fail;refine Yd (A.o _ (BEL)) ?_;intro q a;have o:bW w q:=pY a;have i:Blk q (w.heap.size) 92 #[.slice a1 d.length c1,.slice a2 C.length c2,uI E,uI v,bV z]:=iK a;obtain⟨d8,e3,d9,e4,e0,e5,e1,e6,e2,e7⟩:=i.c5;have Q:w.heap.size<q.heap.size:=i.lt;have b4:=zH i;clear i;have r:=zH o;clear a o;go_wp2_with fail;refine mV ?_;exact⟨rfl,r.o⟩
 |true=>
  rw[hm]at A;obtain⟨g5,g6,g7⟩:=IY hm;have P:0<k.cu.length:=oM;have a3:=B.o;(have b7:k.cu.getD 0 ⟨0,0⟩=k.cu[0]:=by rw[aW,aL oM];rfl);by_cases F:(k.cu.getD 0 ⟨0,0⟩).lo<gT l
  .have a4:kL l k=⟨2,0⟩:=by unfold kL;rw[hm,Ww sM,aB F]
   rw[a4];rw[b7]at F;clear a4 hm h y n a7 b2 a3 b7 b1;obtain⟨d,C,E,v,z⟩:=k;simp only at g5 g6 g7 P F g1 A B|-;go_enter Tryz.func115,Tryz.ntmps115;go_wp2_with fail;refine Yd (A.o _ (BEL)) ?_;intro q a;have o:bW w q:=pY a;have i:Blk q (w.heap.size) 92 #[.slice a1 d.length c1,.slice a2 C.length c2,uI E,uI v,bV z]:=iK a;obtain⟨d8,e3,d9,e4,e0,e5,e1,e6,e2,e7⟩:=i.c5;have Q:w.heap.size<q.heap.size:=i.lt;have b4:=zH i;clear i;have r:=zH o;clear a o;obtain⟨f7,g8,rfl,o,t,u⟩:=Sps.at_ B.o r.o (j:=0) P;simp only[Nat.zero_mul,Nat.add_zero]at t u;(have g2:decide (d[0].lo<gT l)=true:=by simpa using F);have a3:(0:Int)<(d.length:Int):=Int.ofNat_lt.2 P;go_wp2;refine bN kR kR ?_;(repeat (go_big_quiet_step (((go_at_call 70;exact dn (b0.o _ (aA r.o _)))))));refine aK ?_;rintro _ ⟨nq,rfl⟩;refine mV ?_;exact⟨rfl,by have a:=r.o;exact BEL⟩
  .rw[OB hm F]
   rw[b7]at F;have c8:=zH (λc (a:bW w c)=>RJ S X X p l a1 c1 k.cu a2 c2 k.aO c (h.below a) y (aD n.cu a) n.scap oM n.sok (aD n.aO a) n.mcap oM n.mok);obtain⟨f4,d0⟩:=eX (oZ l.next k.cu);obtain⟨c9,d1⟩:=eX (xK k.cu l.kept);generalize Bn l k.cu k.aO=h7 at*
   obtain⟨a5,c3,e9⟩:=h7;obtain⟨x,d2⟩:=eX (chO f4 c9 ⟨a5,c3,e9⟩ k);rw[<-d0,<-d1,<-d2];obtain⟨b3,c5,c6,l8⟩:=Bq d2 d0 d1 y.pnw_;clear d2 d0 d1 hm h y n a3 b7;generalize l.kept=R at*
   generalize l.next=next at*
   have f9:=zH (λ(j3:Int) c (a:bW w c)=>yZ X a1 c1 k.cu j3 c (aD B.o a) oM b2.o);obtain⟨d,C,E,v,z⟩:=k;simp only at g5 g6 g7 P F g1 A B b3 b2 f9 c5 c6 c8|-;go_enter Tryz.func115,Tryz.ntmps115;go_wp2_with fail;refine Yd (A.o _ (BEL)) ?_;intro q a;have o:bW w q:=pY a;have i:Blk q (w.heap.size) 92 #[.slice a1 d.length c1,.slice a2 C.length c2,uI E,uI v,bV z]:=iK a;obtain⟨d8,e3,d9,e4,e0,e5,e1,e6,e2,e7⟩:=i.c5;have Q:w.heap.size<q.heap.size:=i.lt;have b4:=zH i;clear i;have r:=zH o;clear a o;obtain⟨f7,g8,rfl,o,t,u⟩:=Sps.at_ B.o r.o (j:=0) P;simp only[Nat.zero_mul,Nat.add_zero]at t u;(have g2:decide (d[0].lo<gT l)=false:=by simpa using F);have a3:(0:Int)<(d.length:Int):=Int.ofNat_lt.2 P;go_wp2;refine bN kR kR ?_;(repeat (go_big_quiet_step (((go_at_call 70;exact dn (b0.o _ (aA r.o _)))))));refine aK ?_;rintro _ ⟨nq,rfl⟩;clear t u b0 a3 g2;generalize d3:World.drewN q _=f0;(have g0:bW w f0:=by rw[<-d3];have a:=r.o;exact BEL);(have b9:Blk f0 w.heap.size 92 #[.slice (some ⟨f7,g8,none⟩) d.length c1,.slice a2 C.length c2,uI E,uI v,bV z]:=by rw[<-d3];exact b4.o.drewN _);clear d3 d8 d9 e0 e1 e2 e3 e4 e5 e6 e7 r b4 Q A;obtain⟨f3,c4⟩:=yx b9 g0;obtain⟨k7,l2,k8,l3,k9,l4,l0,l5,l1,l6⟩:=b9.c5;have Q:=b9.lt;clear b9 g0;go_wp2;go_loopw [31,7,33,34] (λM p0 o6 o7 wr=>∃(e:Nat),e<=d.length/\M=jI e/\X3 (oZ next (d.drop e)=f4)/\X3 (bW f0 wr)) (λM _ _ _ _=>d.length -(intOf M).toNat);(case atStart=>exact⟨0,oM,rfl,c5.o.symm,aj _ _⟩);case round=>
    clear k7 k8 k9 l0 l1 l2 l3 l4 l5 l6;obtain⟨e,i2,rfl,H,g⟩:=hrel;clear c5;have d6:=c4.o.trans (g.o.mono c4.o.size);have f:=zH d6;have i5:=d6.size;have i4:=g.o.size;clear d6;by_cases a0:e<d.length
    .obtain⟨h8,j4,d7,i1,t,u⟩:=Sps.at_ B.o f.o a0
     injection d7 with d7;injection d7 with Z i0;subst Z i0;have b:=H.o;rw[aR a0,GQ]at b;generalize d[e]=e8 at*
     obtain⟨T,N⟩:=e8;simp only at t u b;by_cases D:next<=N
     .rw[aB D]at b
      have m:X3 (x=⟨4,max T next⟩):=zH (by rw[b3.o,<-b];rfl);(have f8:=bM D);clear b;go_wp2_with fail;generalize I:wr.alloc (.cells #[uI T,uI N] 272)=O;(have s:bW wr O:=by rw[<-I];exact BEL);(have L:Blk O wr.heap.size 272 #[uI T,uI N]:=by rw[<-I];exact Wx _ _ _);obtain⟨f1,h2⟩:=L.e2 0 1;have G:=zH (f.o.trans (s.mono f.o.size));clear I s L t u;refine bN kR kR ?_;(repeat (go_big_quiet_step (((go_at_call 61;exact aJ ((b1.o _ (aA G.o _)).mono λY c h=>⟨h.1,h.2.symm⟩))))));refine aK ?_;rintro _ ⟨nq,rfl⟩;go_wp2_with fail;generalize d5:World.drewN O _=f5;have f2:=zH (show bW w f5 from by rw[<-d5];exact aA G.o _);(have p2:f5.cell? ⟨wr.heap.size,0,none⟩=some (uI T):=by rw[<-d5];exact f1);clear d5 f1 h2;refine bN kR kR ?_;(repeat (go_big_quiet_step (((go_at_call 61;exact aJ ((b1.o _ (aA f2.o _)).mono λY c h=>⟨h.1,h.2.symm⟩))))));refine aK ?_;rintro _ ⟨nq,rfl⟩;refine mV ?_;rw[m.o];exact⟨rfl,by have a:=f2.o;have K:=a.size;exact BEL⟩
     .rw[Ww D]at b
      have V:=zH b;(have f8:=bJ D);clear b;go_wp2_with fail;generalize I:wr.alloc (.cells #[uI T,uI N] 272)=O;(have s:bW wr O:=by rw[<-I];exact BEL);(have L:Blk O wr.heap.size 272 #[uI T,uI N]:=by rw[<-I];exact Wx _ _ _);obtain⟨f1,h2⟩:=L.e2 0 1;obtain⟨G,a8⟩:=yx (f.o.trans (s.mono f.o.size)) (g.o.trans (s.mono g.o.size));clear I s L t u;refine bN kR kR ?_;(repeat (go_big_quiet_step (((go_at_call 61;exact aJ ((b1.o _ (aA G.o _)).mono λY c h=>⟨h.1,h.2.symm⟩))))));refine aK ?_;rintro _ ⟨nq,rfl⟩;go_wp2;go_roundw;(case rel=>exact⟨e+1,oM,by go_num,V,zH (by have a:=a8.o;have K:=a.size;exact BEL)⟩);case measure=>exact Yl
    .obtain rfl:e=d.length:=oM
     have b:=H.o;rw[List.drop_length]at b;have c7:X3 (x=chO none c9 ⟨a5,c3,e9⟩ ⟨d,C,E,v,z⟩):=zH (by rw[b3.o,<-b];rfl);clear b b3 H;go_wp2_with fail;refine(a7.o _ f.o).mono ?_;rintro Y h1 ⟨m1,m2,rfl,m4,g3,s⟩;obtain⟨h5,G,a8⟩:=Av g3 (f.o.trans (s.mono f.o.size)) (g.o.trans (s.mono g.o.size));have h6:=zH (f3.o.below a8.o Q);clear g3 s f3 c4 f g a7;go_wp2;go_loopw [49,9,51,52] (λM p1 o8 o9 wr=>∃(e:Nat),e<=R.length/\M=jI e/\X3 (xK d (R.drop e)=c9)/\X3 (bW h1 wr)) (λM _ _ _ _=>R.length -(intOf M).toNat);(case atStart=>exact⟨0,oM,rfl,c6.o.symm,aj _ _⟩);case round=>
      clear c6;obtain⟨e,i2,rfl,H,g⟩:=hrel;have f:=zH (G.o.trans (g.o.mono G.o.size));have i5:=f.o.size;have i4:=g.o.size;have i3:=aC Q a8.o.size;have b5:=h6.o.below g.o i3;obtain⟨j5,j8,j6,j9,j7,k0,g9,k1,h0,k2⟩:=b5.c5;have l9:=zH b5;have g4:=b5.lt;clear b5;by_cases a0:e<R.length
      .obtain⟨h8,j4,rfl,i1,t,u,i6,i7,i8,i9,j0,j1⟩:=h5.o.at_ g.o a0
       have b:=H.o;rw[aR a0,Ih]at b;generalize R[e]=e8 at*
       obtain⟨c0,k5,j2,h9,k4,k3,k6,f6⟩:=e8;simp only at t u i6 i7 i8 i9 j0 j1 b;by_cases D:f6=4
       .subst D
        have a9:=zH (f9.o c0);cases d4:oQ d c0 with
        |false=>
         rw[Ww (λh=>by rw[d4]at h;cases h.2)]at b;have V:=zH b;rw[d4]at a9;clear b d4;go_wp2_with fail;refine Yd (a9.o _ (by have a:=f.o;have K:=a.size;exact BEL)) ?_;intro a6 J;have h3:=zH J;clear J;go_wp2;go_roundw;(case rel=>exact⟨e+1,oM,by go_num,V,zH (bD (show bW h1 _ from by have a:=g.o;have K:=a.size;exact BEL) (h3.o.mono sO))⟩);case measure=>exact Yl
        |true=>
         rw[aB ⟨rfl,d4⟩]at b;have m:X3 (x=⟨5,c0⟩):=zH (by rw[c7.o,<-b];rfl);rw[d4]at a9;clear b d4;go_wp2_with fail;refine Yd (a9.o _ (by have a:=f.o;have K:=a.size;exact BEL)) ?_;intro a6 J;have h4:=zH (show bW w a6 from bD (by have a:=f.o;have K:=a.size;exact BEL) (J.mono sO));have o:bW wr a6:=pY J;have b8:Blk a6 (wr.heap.size) 177 #[uI c0,uI k5,uI j2,uI h9,uI k4,bV k3,bV k6,jI 4]:=iK J;obtain⟨m6,n4,m7,n5,m8,n6,m9,n7,n0,n8,n1,n9,n2,o0,n3,o1⟩:=b8.c8;have o2:wr.heap.size<a6.heap.size:=b8.lt;have m0:=zH b8;clear b8;have l7:=zH o;clear J o;go_wp2;refine mQ ?_;rintro _ ⟨nq,rfl⟩;refine mV ?_;rw[m.o];exact⟨rfl,by have a:=h4.o;have K:=a.size;exact BEL⟩
       .have f8:(f6==4)=false:=by simp[D]
        rw[Ww (λh=>D h.1)]at b;have V:=zH b;clear b;go_wp2;go_roundw;(case rel=>exact⟨e+1,oM,by go_num,V,zH (by have a:=g.o;have K:=a.size;exact BEL)⟩);case measure=>exact Yl
      .obtain rfl:e=R.length:=oM
       have b:=H.o;rw[List.drop_length]at b;have W:X3 (x=chS ⟨a5,c3,e9⟩ ⟨d,C,E,v,z⟩):=zH (by rw[c7.o,<-b];rfl);clear b c7 H;go_wp2_with fail;refine Yd (c8.o _ f.o) ?_;intro o5 b6;have U:=zH (f.o.trans (b6.mono f.o.size));have o3:=(b6.cell (p:=⟨w.heap.size,3,none⟩) g4).trans g9;have o4:=(b6.cell (p:=⟨w.heap.size,4,none⟩) g4).trans h0;clear b6 j5 j6 j7 g9 h0 j8 j9 k0 k1 k2 c8;by_cases Z:a5=v
       .subst Z
        cases c3<;>cases z
        .have m:X3 (x=⟨0,0⟩):=zH (by rw[W.o];simp[chS])
         go_wp2_with fail;refine mV ?_;rw[m.o];exact⟨rfl,by have a:=U.o;exact BEL⟩
        .have m:X3 (x=⟨7,0⟩):=zH (by rw[W.o];simp[chS])
         go_wp2_with fail;refine mV ?_;rw[m.o];exact⟨rfl,by have a:=U.o;exact BEL⟩
        .have m:X3 (x=⟨7,0⟩):=zH (by rw[W.o];simp[chS])
         go_wp2_with fail;refine mV ?_;rw[m.o];exact⟨rfl,by have a:=U.o;exact BEL⟩
        .have m:X3 (x=⟨0,0⟩):=zH (by rw[W.o];simp[chS])
         go_wp2_with fail;refine mV ?_;rw[m.o];exact⟨rfl,by have a:=U.o;exact BEL⟩
       .have m3:(a5 !=v)=true:=by simp[Z]
        have m:X3 (x=⟨6,0⟩):=zH (by rw[W.o];unfold chS;rw[aB Z]);go_wp2_with fail;refine mV ?_;rw[m.o];exact⟨rfl,by have a:=U.o;exact BEL⟩
theorem Am:∀(c a:List Se) (b:Int),gB b (c++a)=gB (gB b a) c
 |[],a,b=>rfl
 |s::t,a,b=>by
  have d:=Am t a b;simp only[List.cons_append,gB];rw[d]
theorem yR:∀(b:List Se) (a:Int),gB a b<=gB (a+1) b/\gB (a+1) b<=gB a b+1
 |[],a=>by simp only[gB];omega
 |s::t,a=>by
  have c:=yR t a;simp only[gB];split
  .omega
  .exact c
theorem xU {l:Le} (s:Se) (h:gM l) (f:¬l.dO<l.next) (b:¬eu l<1):
  (gG l s).err=0/\(gG l s).val=l.next/\(gG l s).led.next=l.next+1/\eY (gG l s).led=gB (if s.aS=1 then l.next else l.next+1) l.kept:=by
 unfold gG;rw[Ww f,Ww b];refine⟨rfl,rfl,rfl,?_⟩;unfold eY;dsimp only;have e:gB (l.next+1) (l.kept++[{s with pn:=l.next}])=gB (if s.aS=1 then l.next else l.next+1) l.kept:=by
  rw[Am];rfl
 split
 .next c=>
  rw[<-e];have a:=h.len;have j:=h.wZ;cases hk:l.kept with
  |nil=>rw[hk]at a c;simp at c a;omega
  |cons x t=>
   have d:x.aS≠1:=λd=>by
    have i:=h.pn 0 x (by rw[hk];rfl);(have g:eY l=x.pn:=by unfold eY;rw[hk];unfold gB;rw[aB d]);rw[nU]at i;rw[hk]at a c;unfold eu at b;rw[g]at b;have k:=h.pE;simp only[aY]at a c;omega
   rw[List.cons_append,List.drop_succ_cons,List.drop_zero]
   conv=>rhs;unfold gB
   rw[Ww d]
 .exact e
theorem DX {e:En} (h:dG k e) (i:¬e.c.dO<e.led.next) (a:¬eu e.led<1):¬e.c.dO<(eH e).led.next/\¬eu (eH e).led<1/\eu (eH e).led<=eu e.led:=by
 have p:=h.ll;unfold eH;split
 .next c=>
  unfold rQ at c;simp only[Bool.and_eq_true,decide_eq_true_eq]at c;obtain⟨l,m,f,b⟩:=xU {seZ with aS:=4} h.le oM a;have n:=yR e.led.kept e.led.next;have g:=(rP e.led {seZ with aS:=4}).1;rw[Ww dC]at b;have d:=c.1.2;have j:=c.2;show¬e.c.dO<(og e.led).led.next/\¬eu (og e.led).led<1/\eu (og e.led).led<=eu e.led;unfold og;unfold eu at d a|-;rw[f,b,g];have o:eY e.led=gB e.led.next e.led.kept:=rfl;omega
 .exact⟨i,a,bY _⟩
theorem Ea {e:En} {p:Pi} (h:dG k e) (n:iY e.dH e.c.mss=some p) (j:¬e.c.dO<e.led.next) (o:¬eu e.led<1):eu (jH e p).en.led<eu e.led/\(jH e p).en.cO=e.cO:=by
 obtain⟨x,y,z,A,B,C⟩:=nD h.qu n;obtain⟨q,r,D⟩:=DX h j o;have b:=wM h;have i:=(zh e).1;(have m:(eH e).cO=e.cO:=by unfold eH;split<;>rfl);refine⟨?_,m⟩;have v:=h.cf.Ca;have w:=h.qu.qx;unfold jH wN;show eu (jG (eH e).led _).led<_;unfold jG;rw[Ww (by simp only;omega)];have l:=b.ll;obtain⟨s,t,c,a⟩:=xU ({(⟨0,p.off,p.body.length,yP (jg (eH e)) (eH e).c.bits,(WG (WG (eH e))).now,zn (jg (WG (eH e))),false,0⟩:Se)with aS:=1,used:=false}) b.le (by rw[l,i];exact q) r;have d:=(rP (eH e).led ({(⟨0,p.off,p.body.length,yP (jg (eH e)) (eH e).c.bits,(WG (WG (eH e))).now,zn (jg (WG (eH e))),false,0⟩:Se)with aS:=1,used:=false})).1;rw[aB rfl]at a;have f:eY (eH e).led=gB (eH e).led.next (eH e).led.kept:=rfl;rw[<-f]at a;show eu (gG (eH e).led _).led<_;have u:eu (gG (eH e).led ({(⟨0,p.off,p.body.length,yP (jg (eH e)) (eH e).c.bits,(WG (WG (eH e))).now,zn (jg (WG (eH e))),false,0⟩:Se)with aS:=1,used:=false})).led=eu (eH e).led -1:=by
  unfold eu;rw[c,a,d];omega
 have g:eu (gG (eH e).led ({(⟨0,p.off,p.body.length,yP (jg (eH e)) (eH e).c.bits,(WG (WG (eH e))).now,zn (jg (WG (eH e))),false,0⟩:Se)with aS:=1,used:=false})).led<eu e.led:=oM;exact g
def pm (e:En):Int:=e.cO+eu e.led
theorem PU {e:En} (h:dG k e):0<=pm e/\pm e<=e.cO+256:=by
 obtain⟨a,b,c⟩:=Hl h.le.room h.rO h.le.lW;unfold pm;omega
theorem Ny {e:En} (h:dG k e) (a:(WQ e).err=0):pm (WQ e).en<pm e:=by
 rw[vk]at a|-;by_cases f:Yn e=true
 (.rw[aB f]at a;exact Wy a (show¬((9:Int)=0) by decide));rw[Ww f]at a|-;by_cases g:0<e.cO
 .rw[aB g]
  show e.cO -1+eu e.led<e.cO+eu e.led;omega
 rw[Ww g]at a|-;unfold uS at a|-;cases hq:iY e.dH e.c.mss with
 |none=>rw[hq]at a;exact Wy a (show¬((10:Int)=0) by decide)
 |some p=>
  rw[hq]at a;dsimp only at a|-;by_cases i:e.fP=false/\e.cc.win.cr<gq e.led+p.body.length
  (.rw[aB i]at a;exact Wy a (show¬((7:Int)=0) by decide));rw[Ww i]at a|-;by_cases b:e.c.dO<e.led.next
  (.rw[aB b]at a;exact Wy a (show¬((8:Int)=0) by decide));rw[Ww b]at a|-;by_cases c:eu e.led<1
  (.rw[aB c]at a;exact Wy a (show¬((7:Int)=0) by decide));rw[Ww c]at a|-;by_cases d:vw e.fM e.c.gD e.now p.body.length=true
  .rw[aB d]
   obtain⟨q,r,s,t,u,v⟩:=nD h.qu hq;have m:Word (p.body.length:Int):=⟨oM,by have:=h.cf.Ca;omega⟩;have l:dG k {e with fM:=WR e.fM e.c.gD e.now p.body.length}:={h with pa:=Yr h.pa h.cf.Ym h.now m d,ra0:=h.ra0,ra1:=h.ra1};have j:=Ea l hq b c;have n:eu (jH {e with fM:=WR e.fM e.c.gD e.now p.body.length} p).en.led<eu e.led:=j.1;have o:(jH {e with fM:=WR e.fM e.c.gD e.now p.body.length} p).en.cO=e.cO:=j.2;unfold pm;omega
  .rw[Ww d]at a;exact Wy a (show¬((7:Int)=0) by decide)
def GS (e:En):Prop:=e.gu.over=true->e.aS=4
theorem gs_new (c:Cf) (words:List Int):GS (nK c words):=λh=>by cases h
theorem Mi {e:En} (h:GS e) (now:Int):GS (nO e now):=h
theorem QC {e:En} (h:GS e) (b:List Int):GS (fU e b).en:=by
 unfold fU;split
 .exact h
 .exact h
theorem QE {e:En} (h:GS e):GS (kF e).en:=by
 unfold kF;split
 .exact h
 .next c=>
  intro a;have:=h a;exact Wy (by rw[this];decide) c
theorem over4 {e:En} (h:GS e) (c:¬Yn e=true):e.gu.over=false:=by
 cases ho:e.gu.over with
 |false=>rfl
 |true=>exact Wy (by unfold Yn;rw[h ho];rfl) c
theorem Xr (e:En) (l:Int) (b:Bool):(kD e l b).aS=e.aS:=by cases b<;>rfl
theorem zZ:∀(b:List Int) (a:En),(b.foldl jT a).aS=a.aS
 |[],_=>rfl
 |x::t,a=>zZ t (jT a x)
theorem UB (e:En):(iB e).en.aS=e.aS:=zZ (qi e).lost {e with gU:=(qi e).next}
theorem QD {e:En} (h:GS e):GS (jE e):=by
 have f:=(LM e e.now).1;have d:(jE e).aS=e.aS:=by
  rw[Bi];split
  (.rfl);split
  .show(kD _ _ _).aS=_
   rw[Xr,UB]
  split
  .split<;>rfl
  .rfl
 have c:(jE e).gu=e.gu:=by
  have a:=Hr e.gu e.told e.cO e;rw[<-yC]at a;rw[a];rfl
 intro b;rw[c]at b;rw[d];exact h b
theorem Jq {e:En} (h:GS e):GS (WQ e).en:=by
 rw[vk];split
 .exact h
 next c=>
 split
 .exact h
 .have b:=(PT e).1
  intro a;rw[b,over4 h c]at a;cases a
theorem gs_on1 {e:En} (h:GS e) (b:List Int):GS (xw e b).en:=by
 rw[Gc];split
 .exact h
 next c=>
 dsimp only;have d:=over4 h c;intro a;rw[(Qa _ _ _).1]at a;have f:(dN e.gu e.led b e.now).ver.kind=3:=by
  change (dN e.gu e.led b e.now).gu.over=true at a;revert a;unfold dN;rw[d];rw[Ww dC];split
  (.intro a;exact Wy (show false=true from a) dC);split
  (.intro a;exact Wy (show false=true from a) dC);dsimp only;split
  .intro _;rfl
  .intro a;exact Wy (show false=true from a) dC
 unfold onE;rw[aB f]
theorem tO:∀(a:Nat) (b:Int),dP (kM a b)
 |0,_,x,h=>by simp[kM]at h
 |a+1,b,x,h=>by
  rcases WB.1 h with h|h
  .exact tO a _ x h
  .obtain rfl:=dZ.1 h
   omega
theorem uO:∀(a:Nat) (b:Int),(kM a b).length=a
 |0,_=>rfl
 |a+1,b=>by simp[kM,uO a]
theorem Jo (m:Int) (l:List Int):(oP m l).length=l.length:=by cases l<;>rfl
theorem Po (n:Int):eU n<=8:=by unfold eU;split<;>(try split)<;>(try split)<;>(try split)<;>omega
theorem ui (n:Int):(kY n).length<=8:=by unfold kY;rw[Jo,uO];exact Po n
theorem uF {m:Int} {n:Int} (l:(k=1/\m=0/\0<=n/\n<64)\/(k=2/\m=64/\0<=n/\n<16384)\/(k=4/\m=128/\0<=n/\n<1073741824)\/(k=8/\m=192/\0<=n/\n<=4611686018427387903)):dP (oP m (kM k n)):=by
 have o:∀(b:List Int),dP b->(∀a e,b=a::e->a+m<256/\0<=m)->dP (oP m b):=by
  intro b g j p d;cases b with
  |nil=>cases d
  |cons a e=>
   obtain⟨c,q⟩:=j a e rfl;rcases bT.1 d with rfl|d
   .have:=g a sM;omega
   .exact g p (by simp[d])
 refine o _ (tO k n) (λa e i=>?_);rcases l with⟨rfl,rfl,f,c⟩|⟨rfl,rfl,f,c⟩|⟨rfl,rfl,f,c⟩|⟨rfl,rfl,f,c⟩<;>
  (simp only[kM,List.nil_append,List.cons_append,List.cons.injEq]at i;omega)
theorem uh {n:Int} (a:0<=n):dP (kY n):=by
 unfold kY eU;by_cases b:n<64
 (.rw[aB b];exact uF (.inl ⟨rfl,rfl,a,b⟩));rw[Ww b];by_cases c:n<16384
 (.rw[aB c];exact uF (.inr (.inl ⟨rfl,rfl,a,c⟩)));rw[Ww c];by_cases d:n<1073741824
 (.rw[aB d];exact uF (.inr (.inr (.inl ⟨rfl,rfl,a,d⟩))));rw[Ww d];by_cases e:n<=4611686018427387903
 (.rw[aB e];exact uF (.inr (.inr (.inr ⟨rfl,rfl,a,e⟩))));rw[Ww e];intro g f;simp[kM,oP]at f
theorem dP.app {a b:List Int} (d:dP a) (hb:dP b):dP (a++b):=λc e=>(WB.1 e).elim (d c) (hb c)
theorem Mm {d:Da} (h:DOk d):dP (rY d)/\(rY d).length<=100000:=by
 obtain⟨b,c,e,f,g⟩:=LX (ui d.pn) (ui d.bn) (ui d.off) (ui (d.body.length:Int)) h.xE;(have i:d.ecn=1\/d.ecn=2\/d.ecn=3:=by have:=h.ecn;simp[tF]at this;omega);refine⟨?_,?_⟩
 .unfold rY
  refine((((((dP.app (λj a=>?_) (uh h.pn0)).app (uh h.zM)).app (uh h.vz)).app (tO 8 _)).app (uh oM)).app h.bok);simp only[bT,List.not_mem_nil,or_false]at a;omega
 .unfold rY lu
  simp only[aU,aY,List.length_nil,uO];omega
theorem Io:∀(b:List Sp) (a:Int),GF a b->dP (rM a b)/\(rM a b).length<=16*b.length
 |[],_,_=>⟨λm d=>by simp[rM]at d,by simp[rM]⟩
 |s::t,a,h=>by
  obtain⟨f,g,i,c⟩:=h;obtain⟨e,j⟩:=Io t _ c;have k:=ui (s.lo -a);have l:=ui (s.hi -s.lo);unfold rM;refine⟨((uh oM).app (uh oM)).app e,?_⟩;simp only[aU,aY];omega
theorem LZ {l:List Sp} (h:Gd l) (d:l.length<=32):dP (xL l)/\(xL l).length<=1+16*32:=by
 obtain⟨b,e⟩:=Io l 0 h;unfold xL;refine⟨λc a=>?_,by simp only[aY];omega⟩;rcases bT.1 a with rfl|a
 .omega
 .exact b c a
theorem Sn {a:Ak} (c:Gd a.cu) (d:Gd a.aO) (g:a.cu.length<=32) (i:a.aO.length<=32):dP (zP a)/\(zP a).length<=100000:=by
 obtain⟨e,k⟩:=LZ c g;obtain⟨f,l⟩:=LZ d i;unfold zP;refine⟨((((dP.app (λj b=>?_) e).app f).app (tO 8 _)).app (tO 8 _)).app (λj b=>?_),?_⟩
 .obtain rfl:=dZ.1 b;omega
 .obtain rfl:=dZ.1 b;split<;>omega
 .unfold lu
  simp only[aU,aY,List.length_nil,uO];omega
theorem II {p:Pe} {g m:Nat} (h:jN k g m {p with fG:=0,due:=18446744073709551615}) (d:g<=32) (e:m<=32):dP (lZ p).b/\(lZ p).b.length<=100000:=by
 unfold lZ;dsimp only;split
 .have a:=h.lh
  have b:=h.sV;have c:=h.oq;exact Sn (h.got.gd a) (h.aO.gd a) (ay b d) (ay c e)
 .exact⟨(λi f=>by cases f),sM⟩
theorem vv {p:Pe} {now:Int} (h:jN k 32 32 p):dP (kK p now).b/\(kK p now).b.length<=100000:=by
 unfold kK;split
 .exact II {h with tX:=by simp,tV:=by simp,due:=⟨sM,sM⟩} (av _) (av _)
 .exact⟨(λb a=>by cases a),sM⟩
theorem IJ {p:Pe} {b:List Int} {now:Int} (h:jN k 32 32 p) (hb:dP b) (l:Word now):dP (oN p b now).b/\(oN p b now).b.length<=100000:=by
 have e:dP ([]:List Int)/\([]:List Int).length<=100000:=⟨(λt j=>by cases j),sM⟩;unfold oN;split
 .exact e
 next c=>
 simp only[not_or,Decidable.not_not,Int.not_lt,Bool.not_eq_true]at c;obtain⟨g,i,f⟩:=c;have d:=zm hb g;rw[Gy (h.got.gd h.lh)]at f;have a:=Ma h d i f;obtain⟨o,q,r,s,m,n⟩:=MP d.pn0 d.pn1 a.tX a.tV a.pE a.nI;dsimp only;split
 (.exact e);split
 .exact II {a with pE:=by simp only;omega,nI:=by simp only;omega,tX:=by simp,tV:=by simp,dw:=d.bX,due:=⟨sM,sM⟩} (av _) (av _)
 .exact e
theorem Q7 {n:Int} (h:0<=n):dP (rR n)/\(rR n).length<=100000:=by
 unfold rR;split
 .exact⟨(λb a=>by cases a),sM⟩
 .have:=ui n
  refine⟨λb a=>?_,by simp only[aY];omega⟩;rcases bT.1 a with rfl|a
  .omega
  .exact uh h b a
theorem send_b {e:En} {p:Pi} (c:dG k e) (w:iY e.dH e.c.mss=some p) (u:¬e.c.dO<e.led.next) (x:¬eu e.led<1):dP (jH e p).b/\(jH e p).b.length<=100000:=by
 obtain⟨O,P,z,Q,R,A⟩:=nD c.qu w;obtain⟨B,C,S⟩:=DX c u x;obtain⟨b,s,L,I,H⟩:=LX (wM c) ((zh e).1) c.cf.Ca c.qu.qx c.qu.base0;unfold jH;generalize J:eH e=a at*
 unfold wN;dsimp only;obtain⟨f,l⟩:=eX (yP (jg a) a.c.bits);obtain⟨d,t⟩:=eX (zn (jg (WG a)));rw[<-l,<-t];(have v:¬a.led.dO<a.led.next:=by rw[b.ll,s];exact B);have y:jG (WG (WG a)).led ⟨0,p.off,p.body.length,f,(WG (WG a)).now,d,false,0⟩=gG a.led ⟨0,p.off,p.body.length,f,(WG (WG a)).now,d,false,1⟩:=by
  unfold jG;rw[Ww (by simp only;omega)];rfl
 rw[y];obtain⟨D,o,E,q⟩:=xU ⟨0,p.off,p.body.length,f,(WG (WG a)).now,d,false,1⟩ b.le v C;generalize gG a.led ⟨0,p.off,p.body.length,f,(WG (WG a)).now,d,false,1⟩=i at*
 obtain⟨M,N,K⟩:=Hl b.le.pE b.le.nI b.le.mh;have j:0<=eY i.led/\eY i.led<=i.val:=by
  rw[q,o];simp only;have G:=b.le.bn;have F:=b.le.KN;have n:eY a.led=gB a.led.next a.led.kept:=rfl;rw[aB trivial,<-n];omega
 have r:dP p.body:=by
  rw[A];exact λm g=>c.qb m (dW (bf g))
 split
 .exact Mm ⟨by simp only;omega,by simp only;omega,j.1,j.2,by simp only;omega,by simp only;omega,by rw[l];exact zL (pG b.wok _),z,by simp only;omega,r,by cases d<;>rfl⟩
 .exact⟨(λm g=>by cases g),sM⟩
structure PollD (e:En) (r:Rpo):Prop where
 b:dP r.b/\r.b.length<=100000
 c:(0<e.cO/\r.en.cO=e.cO -1/\r.en.led=e.led/\(ky r.b).err≠0)\/(eu r.en.led<eu e.led/\r.en.cO=e.cO)
theorem SA (n:Int):(ky (rR n)).err≠0:=by
 unfold rR;split
 .simp[ky,fQ]
 .unfold ky
  rw[MR];simp
theorem RU {e:En} (b:dG k e) (a:(WQ e).err=0):PollD e (WQ e):=by
 rw[vk]at a|-;by_cases i:Yn e=true
 (.rw[aB i]at a;exact Wy a (show¬((9:Int)=0) by decide));rw[Ww i]at a|-;by_cases f:0<e.cO
 .rw[aB f]
  exact⟨Q7 b.Ho,.inl ⟨f,rfl,rfl,SA _⟩⟩
 rw[Ww f]at a|-;unfold uS at a|-;cases hq:iY e.dH e.c.mss with
 |none=>rw[hq]at a;exact Wy a (show¬((10:Int)=0) by decide)
 |some p=>
  rw[hq]at a;dsimp only at a|-;by_cases j:e.fP=false/\e.cc.win.cr<gq e.led+p.body.length
  (.rw[aB j]at a;exact Wy a (show¬((7:Int)=0) by decide));rw[Ww j]at a|-;by_cases c:e.c.dO<e.led.next
  (.rw[aB c]at a;exact Wy a (show¬((8:Int)=0) by decide));rw[Ww c]at a|-;by_cases d:eu e.led<1
  (.rw[aB d]at a;exact Wy a (show¬((7:Int)=0) by decide));rw[Ww d]at a|-;by_cases g:vw e.fM e.c.gD e.now p.body.length=true
  .rw[aB g]at a|-
   obtain⟨n,o,q,r,s,t⟩:=nD b.qu hq;have m:Word (p.body.length:Int):=⟨oM,by have:=b.cf.Ca;omega⟩;have l:dG k {e with fM:=WR e.fM e.c.gD e.now p.body.length}:={b with pa:=Yr b.pa b.cf.Ym b.now m g,ra0:=b.ra0,ra1:=b.ra1};exact⟨send_b l hq c d,.inr (Ea l hq c d)⟩
  .rw[Ww g]at a;exact Wy a (show¬((7:Int)=0) by decide)
theorem BS {e:En} {now:Int} (d:dG k e) (f:Word now) (c:(fD e now).err=0):PollD e (fD e now):=by
 obtain⟨a,b⟩:=RU (qO d f) c;exact⟨a,b⟩
theorem Nw {e:En} (a:(WQ e).err≠0):(WQ e).en.cO=e.cO/\(WQ e).en.led=e.led:=by
 rw[vk]at a|-;split
 .exact⟨rfl,rfl⟩
 next c=>
 rw[Ww c]at a;split
 .next c2=>rw[aB c2]at a;exact Wy rfl a
 next c2=>
 rw[Ww c2]at a;unfold uS at a|-;split
 .exact⟨rfl,rfl⟩
 next p hp=>
 rw[hp]at a;dsimp only at a;split
 (.exact⟨rfl,rfl⟩);split
 (.exact⟨rfl,rfl⟩);split
 (.exact⟨rfl,rfl⟩);split
 .next c3 c4 c5 c6=>rw[Ww c3,Ww c4,Ww c5,aB c6]at a;exact Wy rfl a
 .exact⟨rfl,rfl⟩
theorem Qb (e:En) (b:List Int):(xw e b).en.cO=e.cO\/(xw e b).en.cO=e.cO+1:=by
 rw[Gc];split
 .exact .inl rfl
 .dsimp only
  rw[(Qa _ _ _).2.2];show(if _ then _ else _)=_\/(if _ then _ else _)=_;split
  .exact .inr rfl
  .exact .inl rfl
structure WdX (n m:Nat) (pa pb:Nat) (w:Wo):Prop where
 en:dG (w.heard+w.sent+m) w.en
 gs:GS w.en
 pe:jN w.eO.toNat 32 32 w.pe
 now:Word w.now
 vR:0<=w.eO
 fu:(w.fu:Int)<=w.eO
 ahead:vY w.ahead.count w.ahead
 back:vY w.back.count w.back
 ahc:w.ahead.count<=256*m
 ahi:w.eO+w.ahead.items.length+pa<=2*w.ahead.count
 bkc:(w.back.count:Int)<=w.eO+n
 bki:w.heard+w.back.items.length+pb<=2*w.back.count+n
 sent:(w.sent:Int)+w.en.cO<=w.heard+256*m
theorem WdX.small {w:Wo} (h:WdX n m p b w) (j:n<=1000) (i:m<=1000):w.ahead.count<=256000/\w.eO<=512000/\w.back.count<=513000/\w.heard<=1027000/\w.sent<=1283000:=by
 obtain⟨a,c,d,e,f,g⟩:=MP h.ahc h.ahi h.bkc h.bki h.sent h.en.rO;omega
theorem IB {q:Pp} (h:vY q.count q) {b:List Int} {now:Int} (hb:dP b) (i:b.length<=100000) (o:Word now):vY (qD q b now).count (qD q b now)/\(qD q b now).count=q.count+1/\(qD q b now).items.length<=q.items.length+2:=by
 have m:Word (mK q).delay:=by
  unfold mK;rw[aW];cases f:q.qF[q.count]?with
  |none=>exact⟨dC,dC⟩
  |some c=>exact h.word c (List.mem_of_getElem? f)
 have n:dP ((qp b).getD b)/\((qp b).getD b).length<=100000:=by
  unfold qp;split
  .exact⟨hb,i⟩
  next e=>
  have l:=zm hb (by simpa using e);exact Mm {l with ecn:=rfl}
 have f:∀(a:It),a=⟨WI now (mK q).delay,if(mK q).mark then(qp b).getD b else b⟩->Word a.iat/\dP a.b/\a.b.length<=100000:=by
  rintro a rfl;refine⟨fB o m,?_⟩;show dP (if(mK q).mark then(qp b).getD b else b)/\(if(mK q).mark then(qp b).getD b else b).length<=100000;split
  .exact n
  .exact⟨hb,i⟩
 have p:=h.items;unfold qD;by_cases e:(mK q).drop=true
 .rw[aB e]
  exact⟨⟨av _,by simp only;omega,h.ok,h.qF,h.word⟩,rfl,by simp only;omega⟩
 .rw[Ww e]
  dsimp only;obtain⟨a,k⟩:∃a:It,a=⟨WI now (mK q).delay,if(mK q).mark then(qp b).getD b else b⟩:=⟨_,rfl⟩;rw[<-k];have j:=f a k;have r:=vE q.items a;have s:=vE (uD q.items a) a;have g:∀c∈uD q.items a,Word c.iat/\dP c.b/\c.b.length<=100000:=λc d=>by
   rcases vD d with rfl|d
   .exact j
   .exact h.ok c d
  split
  .refine⟨⟨av _,by simp only;omega,λc d=>?_,h.qF,h.word⟩,rfl,oM⟩
   rcases vD d with rfl|d
   .exact j
   .exact g c d
  .exact⟨⟨av _,by simp only;omega,g,h.qF,h.word⟩,rfl,oM⟩
theorem Fx {w:Wo} {b:List Int} (h:WdX n m p (k+1) w) (hb:dP b):WdX n m p k (je w b):=by
 have c:=Mo (b:=b) h.en hb h.now;have d:(lU w.en b w.now).en.cO<=w.en.cO+1:=by
  rcases Qb (nO w.en w.now) b with a|a
  .have:(lU w.en b w.now).en.cO=w.en.cO:=a
   omega
  .have:(lU w.en b w.now).en.cO=w.en.cO+1:=a
   omega
 have e:=h.bki;have f:=h.sent;refine{h with en:=?_,gs:=gs_on1 (Mi h.gs w.now) b,bki:=?_,sent:=?_}
 .show dG (w.heard+1+w.sent+m) _
  exact c.mono oM
 .show(w.heard+1)+w.back.items.length+k<=2*w.back.count+n
  omega
 .show(w.sent:Int)+(lU w.en b w.now).en.cO<=((w.heard+1:Nat):Int)+256*m
  omega
theorem Fw {w:Wo} {a:Rpe} (h:WdX n m p b w) (c:jN w.eO.toNat 32 32 a.pe) (hb:dP a.b) (e:a.b.length<=100000) (i:(w.back.count:Int)+1<=w.eO+n):WdX n m p b (jP w a):=by
 unfold jP;split
 .obtain⟨f,d,j⟩:=IB h.back hb e h.now
  have g:=h.bki;exact{h with pe:=c,back:=f,bkc:=by simp only;rw[d];push_cast;omega,bki:=by simp only;rw[d];omega}
 .exact{h with pe:=c}
theorem Xx {w:Wo} {b:List Int} (h:WdX n m (p+1) k w) (hb:dP b):WdX n m p k (jZ w b):=by
 unfold jZ;have j:=h.vR;have a:(w.eO+1).toNat=w.eO.toNat+1:=oM;have c:=NC (now:=w.now) h.pe hb h.now;obtain⟨d,e⟩:=IJ h.pe hb h.now;obtain⟨f,g,i⟩:=Hl h.ahi h.bkc h.fu;refine Fw ?_ (by show jN (w.eO+1).toNat 32 32 _;rw[a];exact c) d e (by show(w.back.count:Int)+1<=w.eO+1+n;omega);exact{h with
  pe:=by show jN (w.eO+1).toNat 32 32 w.pe;rw[a];exact h.pe.mono (Nat.le_succ _)
  vR:=by show 0<=w.eO+1;omega
  fu:=by
   show((if _ then _ else _:Nat):Int)<=w.eO+1;split
   .push_cast;omega
   .omega
  ahi:=by show w.eO+1+w.ahead.items.length+p<=2*(w.ahead.count:Int);omega
  bkc:=by show(w.back.count:Int)<=w.eO+1+n;omega}
theorem Hg {n m c:Nat}:∀(b:List (List Int)) {w:Wo},WdX n m b.length c w->(∀a∈b,dP a)->WdX n m 0 c (b.foldl jZ w)
 |[],_,h,_=>h
 |a::t,_,h,hb=>Hg t (Xx h (hb a sM)) (λe d=>hb e (by simp[d]))
theorem He {n m c:Nat}:∀(b:List (List Int)) {w:Wo},WdX n m c b.length w->(∀a∈b,dP a)->WdX n m c 0 (b.foldl je w)
 |[],_,h,_=>h
 |a::t,_,h,hb=>He t (Fx h (hb a sM)) (λe d=>hb e (by simp[d]))
theorem vY.rest {q:Pp} (h:vY k q) (now:Int):vY k {q with items:=iH now q.items}:=by
 have c:=pU now q.items;have d:=h.items;exact⟨h.count,by simp only;omega,λb a=>h.ok b (Nk a),h.qF,h.word⟩
def LQ (w:Wo) (n:Int):Wo:={w with now:=WI w.now n,ahead:={w.ahead with items:=iH (WI w.now n) w.ahead.items}}
def DL (w:Wo) (n:Int):Wo:=(iy (WI w.now n) w.ahead.items).foldl jZ (LQ w n)
def qB (w:Wo) (n:Int):Wo:=jP (DL w n) (kK (DL w n).pe (DL w n).now)
def LP (w:Wo) (n:Int):Wo:={qB w n with back:={(qB w n).back with items:=iH (qB w n).now (qB w n).back.items}}
def Bh (w:Wo) (n:Int):Wo:=(iy (qB w n).now (qB w n).back.items).foldl je (LP w n)
theorem MK (w:Wo) (n:Int):xF w n={Bh w n with en:=kr (Bh w n).en (Bh w n).now}:=rfl
theorem RA {w:Wo} {d:Int} (h:WdX n m 0 0 w) (y:0<=d):
  WdX n m (iy (WI w.now d) w.ahead.items).length 0 (LQ w d)/\WdX n m 0 0 (DL w d)/\WdX (n+1) m 0 0 (qB w d)/\WdX (n+1) m 0 (iy (qB w d).now (qB w d).back.items).length (LP w d)/\WdX (n+1) m 0 0 (Bh w d)/\WdX (n+1) m 0 0 (xF w d):=by
 have r:Word (WI w.now d):=by
  unfold WI;have:=h.now;unfold Word at*
  split<;>omega
 have v:=pU (WI w.now d) w.ahead.items;have t:=h.ahi;have j:WdX n m (iy (WI w.now d) w.ahead.items).length 0 (LQ w d):={h with now:=r,ahead:=h.ahead.rest _,ahi:=by simp only[LQ];omega};have l:∀c∈iy (WI w.now d) w.ahead.items,dP c:=λc f=>by
  obtain⟨i,g,rfl⟩:=wR f;exact(h.ahead.ok i g).2.1
 have a:WdX n m 0 0 (DL w d):=Hg _ j l;have p:WdX (n+1) m 0 0 (DL w d):=by
  have z:=a.bkc;have A:=a.bki;exact{a with bkc:=by push_cast;omega,bki:=by omega}
 have e:WdX (n+1) m 0 0 (qB w d):=Fw p (Ep a.pe) (vv a.pe).1 (vv a.pe).2 (by have:=a.bkc;push_cast;omega);have x:=pU (qB w d).now (qB w d).back.items;have u:=e.bki;have k:WdX (n+1) m 0 (iy (qB w d).now (qB w d).back.items).length (LP w d):={e with back:=e.back.rest _,bki:=by simp only[LP];omega};have o:∀c∈iy (qB w d).now (qB w d).back.items,dP c:=λc f=>by
  obtain⟨i,g,rfl⟩:=wR f;exact(e.back.ok i g).2.1
 have b:WdX (n+1) m 0 0 (Bh w d):=He _ k o;refine⟨j,a,e,k,b,?_⟩;rw[MK];have q:=LM (Bh w d).en (Bh w d).now;have s:=b.sent;exact{b with en:=EV b.en b.now,gs:=QD (Mi b.gs _),sent:=by simp only;rw[q.2.2];exact s}
structure EvOk (e:Ev):Prop where
 body:dP e.body
 n:0<=e.n
theorem Hf {w:Wo} {e:Ev} (h:WdX n n 0 0 w) (b:EvOk e):WdX (n+1) n 0 0 (Yp w e):=by
 obtain⟨j,k,c⟩:=Hl h.bkc h.bki h.sent;have a:WdX (n+1) n 0 0 w:={h with bkc:=by push_cast;omega,bki:=by omega};unfold Yp;split
 (.exact{a with en:=CE h.en b.body,gs:=QC h.gs _,sent:=by simp only;rw[(OO w.en e.body).2.2];exact c});split
 .have i:=b.n
  exact(RA h (d:=min e.n 1099511627776) oM).2.2.2.2.2
 split
 .have f:WdX (n+1) n 0 1 w:={h with bkc:=by push_cast;omega,bki:=by omega}
  exact Fx f b.body
 split
 (.exact{a with});split
 .exact{a with}
 .have g:(kF w.en).en.cO=w.en.cO:=by unfold kF;split<;>rfl
  exact{a with en:=Lg h.en,gs:=QE h.gs,sent:=by simp only;rw[g];exact c}
def polled (w:Wo):Wo:={w with en:=(fD w.en w.now).en,sent:=w.sent+1,ahead:=if(ky (fD w.en w.now).b).err=0 then qD w.ahead (fD w.en w.now).b w.now else w.ahead}
theorem BR {w:Wo} (k:Nat) (h:(fD w.en w.now).err≠0):qI (k+1) w={w with en:=(fD w.en w.now).en}:=by
 rw[qI];exact aB h
theorem IC {w:Wo} (k:Nat) (h:(fD w.en w.now).err=0):qI (k+1) w=qI k (polled w):=by
 rw[qI];exact Ww (by rw[h];decide)
structure WdP (n:Nat) (w:Wo):Prop where
 en:dG (w.heard+w.sent+n) w.en
 gs:GS w.en
 pe:jN w.eO.toNat 32 32 w.pe
 now:Word w.now
 vR:0<=w.eO
 fu:(w.fu:Int)<=w.eO
 ahead:vY w.ahead.count w.ahead
 back:vY w.back.count w.back
 ahc:(w.ahead.count:Int)+eu w.en.led<=256*(n+1)
 ahi:w.eO+w.ahead.items.length<=2*w.ahead.count
 bkc:(w.back.count:Int)<=w.eO+n+1
 bki:w.heard+w.back.items.length<=2*w.back.count+n+1
 sent:(w.sent:Int)+w.en.cO+eu w.en.led<=w.heard+256*(n+1)
theorem Yq {w:Wo} (h:WdX (n+1) n 0 0 w):WdP n w:=by
 obtain⟨b,c,d,e,a,f⟩:=MP h.en.le.room h.en.le.lW h.ahc h.ahi h.bkc h.bki;have g:=h.sent;exact⟨h.en,h.gs,h.pe,h.now,h.vR,h.fu,h.ahead,h.back,oM,oM,by push_cast at a;omega,oM,oM⟩
theorem DI {w:Wo} (h:WdP n w) (g:(fD w.en w.now).err=0):WdP n (polled w)/\pm (polled w).en<pm w.en:=by
 have m:=wO h.en h.now;obtain⟨⟨k,l⟩,a⟩:=BS h.en h.now g;obtain⟨q,i,s⟩:=IB h.ahead k l h.now;have p:pm (fD w.en w.now).en<pm w.en:=by
  have:=Ny (qO h.en h.now) g;exact this
 obtain⟨t,u,v⟩:=Hl h.ahc h.ahi h.sent;have e:GS (fD w.en w.now).en:=Jq (Mi h.gs w.now);have d:dG (w.heard+(w.sent+1)+n) (fD w.en w.now).en:=m.mono oM;refine⟨?_,p⟩;by_cases b:(ky (fD w.en w.now).b).err=0
 .have c:polled w={w with en:=(fD w.en w.now).en,sent:=w.sent+1,ahead:=qD w.ahead (fD w.en w.now).b w.now}:=by unfold polled;rw[aB b]
  rw[c];rcases a with⟨_,_,_,a⟩|⟨a,o⟩
  .exact Wy b a
  .exact⟨d,e,h.pe,h.now,h.vR,h.fu,q,h.back,by simp only;rw[i];push_cast;omega,by simp only;rw[i];push_cast;omega,h.bkc,h.bki,by simp only;push_cast;omega⟩
 .have c:polled w={w with en:=(fD w.en w.now).en,sent:=w.sent+1}:=by unfold polled;rw[Ww b]
  rw[c];rcases a with⟨r,j,f,_⟩|⟨a,o⟩
  .exact⟨d,e,h.pe,h.now,h.vR,h.fu,h.ahead,h.back,by simp only;rw[f];omega,by simp only;omega,h.bkc,h.bki,by simp only;rw[j,f];push_cast;omega⟩
  .exact⟨d,e,h.pe,h.now,h.vR,h.fu,h.ahead,h.back,by simp only;omega,by simp only;omega,h.bkc,h.bki,by simp only;push_cast;omega⟩
theorem Be {w:Wo} (h:WdP n w) (a:(fD w.en w.now).err≠0):WdX (n+1) (n+1) 0 0 {w with en:=(fD w.en w.now).en}:=by
 have b:=wO h.en h.now;have c:(fD w.en w.now).en.cO=w.en.cO:=(Nw a).1;obtain⟨d,e,f,g,i,j⟩:=MP h.en.le.room h.ahc h.ahi h.bkc h.bki h.sent;exact⟨b.mono (by simp only;omega),Jq (Mi h.gs w.now),h.pe,h.now,h.vR,h.fu,h.ahead,h.back,by simp only;omega,by simp only;omega,by simp only;push_cast;omega,by simp only;omega,by simp only;rw[c];push_cast;omega⟩
theorem Eo {n:Nat} (d:Wo->Prop) (f:∀a,WdP n a->d a->(fD a.en a.now).err=0->d (polled a)):
  ∀(c:Nat) (a:Wo),WdP n a->pm a.en<c->d a->∃b,WdP n b/\d b/\(fD b.en b.now).err≠0/\qI c a={b with en:=(fD b.en b.now).en}
 |0,a,h,hk,_=>Wy hk (by have:=(PU h.en).1;omega)
 |c+1,a,h,hk,hi=>by
  by_cases e:(fD a.en a.now).err=0
  .obtain⟨g,i⟩:=DI h e
   rw[IC c e];exact Eo d f c (polled a) g (by push_cast at hk;omega) (f a h hi e)
  .exact⟨a,h,hi,e,BR c e⟩
theorem PV {w:Wo} (h:WdP n w):pm w.en<((w.en.cO.toNat+257:Nat):Int):=by
 have b:=(PU h.en).2;have c:=h.en.rO;have a:((w.en.cO.toNat+257:Nat):Int)=w.en.cO+257:=oM;rw[a];omega
theorem wd_all {w:Wo} (h:WdX (n+1) n 0 0 w):WdX (n+1) (n+1) 0 0 (GY w):=by
 obtain⟨d,a,_,b,c⟩:=Eo (n:=n) (λ_=>True) (λ_ _ _ _=>trivial) _ w (Yq h) (PV (Yq h)) trivial;unfold GY;rw[c];exact Be a b
theorem U6 {w:Wo} {e:Ev} (h:WdX n n 0 0 w) (a:EvOk e) (b:1<=e.kind/\e.kind<=6):WdX (n+1) (n+1) 0 0 (Bc w e):=by
 unfold Bc;rw[aB b];exact wd_all (Hf h a)
theorem OU {c:Cf} {words:List Int} {a b:List Fa} (i:lV c) (l:rG words) (k:words.length<=1000000) (n:a.length<=1000000) (o:b.length<=1000000) (f:∀d∈a,Word d.delay) (g:∀d∈b,Word d.delay) (j:Word x):WdX 0 0 0 0 (mO c words a b x)where
 en:=JI i l k
 gs:=gs_new c words
 pe:=PW j
 now:=⟨by simp[mO],by simp[mO]⟩
 vR:=by simp[mO]
 fu:=by simp[mO]
 ahead:=⟨by simp[mO],by simp[mO],λm e=>by simp[mO]at e,by simp only[mO];omega,f⟩
 back:=⟨by simp[mO],by simp[mO],λm e=>by simp[mO]at e,by simp only[mO];omega,g⟩
 ahc:=by simp[mO]
 ahi:=by simp[mO]
 bkc:=by simp[mO]
 bki:=by simp[mO]
 sent:=by simp[mO,nK]
theorem UN (w:Wo) (a:Rpe):(jP w a).en=w.en:=by unfold jP;split<;>rfl
theorem VA (w:Wo) (b:List Int):(jZ w b).en=w.en:=UN _ _
theorem Ux:∀(c:List (List Int)) (a:Wo),(c.foldl jZ a).en=a.en
 |[],_=>rfl
 |b::t,a=>(Ux t _).trans (VA a b)
theorem U8 (w:Wo) (d:Int):(LP w d).en=w.en:=by
 show(jP (DL w d) _).en=w.en;rw[UN];exact Ux _ _
theorem Uq (a b:Int) (q:Word a) (hb:Word b) (w:World):Yk 207 #[uI a,uI b] w λn r=>∃g,n=.returned (uI g)/\Word g/\(a*b<18446744073709551616->g=a*b)/\w=r:=by
 obtain⟨l,s⟩:=q;obtain⟨m,t⟩:=hb;by_cases c:a=0
 .subst c
  go_enter Tryz.func207,Tryz.ntmps207;go_wp2;go_ret;exact⟨_,rfl,by simp[IntKind.wrap,IntKind.bits,IntKind.signed,Word],λ_=>by simp[IntKind.wrap,IntKind.bits,IntKind.signed],rfl⟩
 .have u:(a !=0)=true:=by simpa using c
  (have v:(a==0)=false:=by simpa using c);have x:¬a=0:=c;have j:0<a:=oM;by_cases f:(18446744073709551615:Int)/a<b
  .have o:=bM f
   have d:¬a*b<18446744073709551616:=by
    intro k;have i:b<=18446744073709551615/a:=(Int.le_ediv_iff_mul_le j).2 (by rw[Int.mul_comm];omega);omega
   have e:=zH d;clear d f c;go_enter Tryz.func207,Tryz.ntmps207;go_wp2;go_ret;exact⟨_,rfl,⟨dC,dC⟩,λk=>Wy k (by have:=e.o;omega),rfl⟩
  .have o:=bJ f
   have d:0<=a*b/\a*b<=18446744073709551615:=by
    have i:b<=18446744073709551615/a:=oM;have p:=(Int.le_ediv_iff_mul_le j).1 i;rw[Int.mul_comm]at p;exact⟨dK l m,oM⟩
   have y:IntKind.u64.wrap (a*b)=a*b:=Wz _ d;have e:=zH d;clear d f c;go_enter Tryz.func207,Tryz.ntmps207;go_wp2;go_ret;exact⟨_,rfl,⟨e.o.1,by have:=e.o.2;omega⟩,λ_=>rfl,rfl⟩
theorem UY (a:Int) (e:Word a) (w:World):Yk 209 #[uI a] w λc d=>∃b,c=.returned (uI b)/\Word b/\w=d:=by
 go_enter Tryz.func209,Tryz.ntmps209;go_wp2_with fail;refine(Uq a 1000000 e ⟨dC,dC⟩ w).mono ?_;rintro c d ⟨b,rfl,f,-,rfl⟩;go_wp2;go_ret;exact⟨_,rfl,f,rfl⟩
structure Fp (w0 wr:World) (v:Value) (n:Nat):Prop where
 ex:∃a c,∃l:List Fa,v=.slice a l.length c/\OwnAt wr (λk=>w0.heap.size<=k) 187 4 a l.length c (l.flatMap faV)/\l.length<=n/\∀f∈l,Word f.delay
theorem Fp.below {w0 w w':World} {v:Value} (h:Fp w0 w v n) (hb:bW w w'):Fp w0 w' v n:=by
 obtain⟨a,b,j,c,d,e,i⟩:=h.ex;exact⟨a,b,j,c,d.below hb,e,i⟩
theorem Fp.mono {w0 w:World} {v:Value} (h:Fp w0 w v n) (k:n<=m):Fp w0 w v m:=by
 obtain⟨a,b,i,c,d,j,e⟩:=h.ex;exact⟨a,b,i,c,d,oM,e⟩
section
variable {n g:Nat} {v:Value} {f:Fa} {w0 w:World} {ops:Array Oper} {rest:List Oper} {o:Oper} {a:Act} {K:Act->World->Prop} {Q:X7}
theorem Uk (t:o.guard=none) (s x:Operand) (z:o.op=.call {callee:=.builtin .append,args:= #[s,x],argTypes:= #[100,100]})
  (B:a.eval s=v) (u:Fp w0 w v n) (C:a.eval x=.slice (some ⟨g,0,none⟩) 1 1) (r:Blk w g 187 (faV f).toArray) (hy:Word f.delay) (H:n<=1000000) (hb:w0.heap.size<=w.heap.size)
  (h:∀i d,Fp w0 d i (n+1)->Below w0.heap.size w d->Go.wpList prog ops Q rest (a.put o.dst i) d):Go.wpList prog ops Q (o::rest) a w:=by
 obtain⟨j,l,e,rfl,p,F,q⟩:=u.ex;refine Sm.jO t s x z j l e B p (some ⟨g,0,none⟩) 1 [f] C (Sm.single f r rfl) sO dC (λk m d A y _=>h _ d ⟨k,m,e++[f],rfl,A.mono ?_,by simp;omega,?_⟩ (y.cZ hb (λD b G=>by omega)))
 .intro D b
  rcases b with b|b
  .exact b
  .exact ay hb b.1
 .intro E c
  rcases WB.1 c with c|c
  .exact q E c
  .rw[dZ.1 c];exact hy
end
theorem XJ (S:X4) (a:X5) (c:Nat) (k:List Int) (w:World) (h:Row w S t 1 a k.length (k.flatMap u3V)) (b1:U32 k):
  Yk 31 #[.slice a k.length c] w λd0 s=>(∃v,d0=.returned v/\Fp w s v 40)/\bW w s:=by
 obtain⟨c5,c6⟩:=yx h b1;clear h b1;go_enter Tryz.func31,Tryz.ntmps31;go_wp2;go_loopg [3,4] 40 (λV d9 e0 wr=>e0=jI ((40:Int) -V)/\V<=40/\X3 (Fp w wr d9 (40 -V))/\X3 (bW w wr));(case atStart=>exact⟨rfl,av _,zH ⟨none,0,[],rfl,OwnAt.WH,jV _,λf d5=>by cases d5⟩,zH (aj _ _)⟩);case round=>
  obtain⟨rfl,e3,G,q⟩:=hrel;obtain⟨d,a6⟩:=eX (40 -gk);have a7:(40:Int) -gk=(d:Int):=oM;rw[a7];have E:=zH a6;have e4:d<=40:=oM;clear a6 a7;by_cases a8:d<k.length
  .have d1:decide ((d:Int)<(k.length:Int))=true:=bM oM
   by_cases e8:d<40
   .have d2:decide ((d:Int)<40)=true:=bM oM
    obtain⟨j,m,rfl,_,R,a5⟩:=c5.o.at_ oM;have T:=a5 (d*1) _ (mr RB k d 0 a8 oM);rw[Nat.mul_one]at T;have Z:wr.cell? ⟨j,m+d,none⟩=some (.int .u32 k[d]):=(q.o.cell (p:=⟨j,m+d,none⟩) R).trans T;obtain⟨e1,e2⟩:=c6.o _ (aN a8);generalize k[d]=e at*
    have e5:(d:Int)<k.length:=oM;have a4:j<wr.heap.size:=aC R q.o.size;clear a5 T R;go_upto_region 5 with fail;have F:=zH (λc8 (d4:bW wr c8)=>(d4.cell (p:=⟨j,m+d,none⟩) a4).trans Z);have l:bW wr wr.drew:=bA (aj _ _);have b:=F.o _ l;refine aZ (S:=λs=>s.cell? ⟨j,m+d,none⟩=some (.int .u32 e)) kR b (λd3=>?_);clear d3;refine tK 0 16 b ?_;refine tK 1 17 b ?_;refine tK 2 18 b ?_;refine X6 3 19 b ?_ (y:=by intro w u;have b2:w.cell? ⟨j,m+d,none⟩=_:=u;exact gS);refine tK 4 20 b ?_;refine tK 5 21 b ?_;refine tK 6 22 b ?_;refine tK 7 23 b ?_;refine tK 8 24 b ?_;refine X6 9 25 b ?_ (y:=by intro w u;have b2:w.cell? ⟨j,m+d,none⟩=_:=u;exact gS);refine tK 10 26 b ?_;refine tK 11 27 b ?_;refine tK 12 28 b ?_;refine tK 13 29 b ?_;refine tK 14 30 b ?_;refine tK 15 31 b ?_;refine X6 16 32 b ?_ (y:=by intro w u;have b2:w.cell? ⟨j,m+d,none⟩=_:=u;exact gS);refine tK 17 33 b ?_;refine tK 18 34 b ?_;refine tK 19 35 b ?_;refine tK 20 36 b ?_;refine nrm 23 2097151 ?_;refine aI 21 kR ?_;refine opA 5 187 #[bV false,bV false,bV false,uI 0] ?_;intro r X a3 C P;have O:=l.trans (a3.mono l.size);have U:=F.o _ O;refine⟨U,?_⟩;refine mP ?_;refine dJ (i:=22) 187 (.tmp 5) (.tmp 36) r 0 #[bV (bits .and .u32 e 3==1),bV (bits .and .u32 (e/4) 3==1),bV (bits .and .u32 (e/16) 3==1),uI 0] rfl kR kR kR kR kR kR (P.there _ sM) kR XF (?_) ?_
    (.exact((Below.bZ (av _) _ _ _ (aj r X)).cell (p:=⟨j,m+d,none⟩) (aC a4 (ay l.size C))).trans U);intro M N;(have A:bW wr M:=by rw[N];exact O.trans ((Below.bZ (av _) _ _ _ (aj r X)).mono (ay l.size C)));have D:=Blk.gF P [bV (bits .and .u32 e 3==1),bV (bits .and .u32 (e/4) 3==1),bV (bits .and .u32 (e/16) 3==1),uI 0] rfl;rw[<-show M=_ from N]at D;have d6:w.heap.size<=r:=ay q.o.size (ay l.size C);have b0:wr.heap.size<=r:=ay l.size C;clear N O P U a3 C b l;refine mP ?_;refine bg kR ?_ _;generalize(bits .and .u32 e 3==1)=a0 at*
    generalize(bits .and .u32 (e/4) 3==1)=a1 at*
    generalize(bits .and .u32 (e/16) 3==1)=a2 at*
    have c9:=F.o _ A;obtain⟨b3,b4,b5,b6,b7,b8,b9,c0⟩:=D.c4;have a9:=D.lt;obtain⟨c7,J,c2⟩:=Av D (q.o.trans (A.mono q.o.size)) (G.o.below A);have e6:=J.o.size;obtain⟨c1,c4⟩:=yx A b0;clear D A Z F b0;go_upto_if 43 with fail;generalize((_:Int)==1)=d7;cases d7 with
    |false=>
     go_wp2_with (at_builtin;refine Uk (f:=⟨a0,a1,a2,0⟩) rfl (.tmp 52) (.tmp 54) rfl (by rfl) (c2.o.below BEL) (by rfl) (Wx _ _ _) (show Word 0 from⟨dC,dC⟩) oM sO ?_;intro d8 s B z;have L:=zH B;have I:=zH z;clear B z);go_roundg (gk -1);(case measure=>have:=E.o;omega);case rel=>have:=E.o;exact⟨by congr 1;omega,oM,zH (L.o.mono oM),zH (J.o.trans (bD BEL I.o))⟩
    |true=>
     go_upto_region 8 with fail;obtain⟨Y,x⟩:=eX (M.setCell ⟨r,3,none⟩ (uI (e/128%40000)));rw[<-x];have H:=c7.o.bF 3 (uI (e/128%40000));rw[<-x]at H;obtain⟨W,c3⟩:=yx (show bW w Y by rw[x];exact J.o.setCell d6 _) (show Fp w Y u3 (40 -gk) by rw[x];exact G.o.below (c1.o.setCell c4.o _));clear x b3 b4 b5 b6 b7 b8 b9 c0 a9 c9;obtain⟨b3,b4,b5,b6,b7,b8,b9,c0⟩:=H.c4;have a9:=H.lt;have e7:=W.o.size;clear H;go_wp2_with (at_builtin;refine Uk (f:=⟨a0,a1,a2,e/128%40000⟩) rfl (.tmp 52) (.tmp 54) rfl (by rfl) (c3.o.below BEL) (by rfl) (Wx _ _ _) (show Word (e/128%40000)from⟨oM,oM⟩) oM sO ?_;intro d8 s B z;have L:=zH B;have I:=zH z;clear B z);go_roundg (gk -1);(case measure=>have:=E.o;omega);case rel=>have:=E.o;exact⟨by congr 1;omega,oM,zH (L.o.mono oM),zH (W.o.trans (bD BEL I.o))⟩
   .have d2:decide ((d:Int)<40)=false:=bJ oM
    go_wp2;go_ret;exact⟨⟨_,rfl,G.o.mono oM⟩,q.o⟩
  .have d1:decide ((d:Int)<(k.length:Int))=false:=bJ oM
   go_wp2;go_ret;exact⟨⟨_,rfl,G.o.mono oM⟩,q.o⟩
end Go.Proofs.YtiflndepmgnojaaGreat
