import Derived.Laws.LoneSync
import Derived.Defers
import Derived.Laws.Pointers
import Derived.ChangeAlike
import Derived.RegionCalls
import Derived.Test.YtiflndepmgnojaaGreatLok
import Derived.Test.YtiflndepmgnojaaGreatLawK
import Derived.Test.YtiflndepmgnojaaGreatRhd
namespace Go.Proofs.YtiflndepmgnojaaGreat
open Go.RowKit
set_option linter.unusedSimpArgs false
set_option linter.unusedVariables false
set_option maxHeartbeats 4000000
set_option maxRecDepth 100000
attribute[local go_sem] BW.cell BW.frozen
def b32 (b:Bool):Int:=if b then 1 else 0
theorem pV (a:Addr) (b:Bool) (w:World) (d:w.cell? a=some (.int .u32 (b32 b))):
  Calls Tryz.prog 109 #[.pointer (some a)] w λf g=>f=.returned (bV b)/\g=w:=by
 have e:=run_call_load (P:=Tryz.prog) Tryz.func180 kR kR kR .u32 kR d;cases b
 ·have c:b32 false=0:=rfl
  rw[c]at e d;go_enter Tryz.func109,Tryz.ntmps109;go_wp2_with fail;go_ret;exact⟨rfl,rfl⟩
 ·have c:b32 true=1:=rfl
  rw[c]at e d;go_enter Tryz.func109,Tryz.ntmps109;go_wp2_with fail;go_ret;exact⟨rfl,rfl⟩
theorem DJ (a:Addr) (x:Int) (w:World) (c:w.cell? a=some (uI x)):
  Calls Tryz.prog 148 #[.pointer (some a)] w λb d=>b=.returned (uI x)/\d=w:=by
 have e:=run_call_load (P:=Tryz.prog) Tryz.func205 kR kR kR .u64 kR c;go_enter Tryz.func148,Tryz.ntmps148;go_wp2_with fail;go_ret;exact⟨rfl,rfl⟩
theorem uX (a:Addr) (x:Int) (w:World) (i:0<=x) (g:x+1<18446744073709551616) (c:w.cell? a=some (uI x)) (d:w.frozen? a=false):
  Calls Tryz.prog 110 #[.pointer (some a),uI 1] w λb e=>b=.returned (uI (x+1))/\e=w.setCell a (uI (x+1)):=by
 have f:=run_call_add (P:=Tryz.prog) Tryz.func181 kR kR kR .u64 kR (y:=1) (s:=x+1) c d (by simp[go_sem];rw[IntKind.wrap_u64];omega);go_enter Tryz.func110,Tryz.ntmps110;go_wp2_with fail;go_ret;exact⟨rfl,rfl⟩
theorem Lv (a:Addr) (x:Value) (w:World) (f:w.cell? a=some x) (i:w.frozen? a=false):
  Calls Tryz.prog 116 #[.pointer (some a),bV true] w λb e=>b=.returned (.tuple #[])/\e=w.drew.setCell a (.int .u32 1):=by
 (have c:w.drew.cell? a=some x:=by go_simp);(have d:w.drew.frozen? a=false:=by go_simp);have g:=run_call_store (P:=Tryz.prog) Tryz.func187 kR kR kR kR (k:=.u32) (y:=1) c d;go_enter Tryz.func116,Tryz.ntmps116;go_wp2;go_region_calls;all_goals (go_end0;exact⟨rfl,rfl⟩)
theorem disable (w:World):(callFunc 257 #[]).run Tryz.prog w=.ok (.value (.tuple #[])) w:=run_call_mark0 Tryz.func257 kR kR kR .disable kR w
theorem enable (w:World):(callFunc 259 #[]).run Tryz.prog w=.ok (.value (.tuple #[])) w:=run_call_mark0 Tryz.func259 kR kR kR .enable kR w
theorem acquire (a:Addr) (w:World):(callFunc 260 #[.pointer (some a)]).run Tryz.prog w=.ok (.value (.tuple #[])) w:=run_call_marked Tryz.func260 kR kR kR .acquire kR a w
theorem releaseMerge (a:Addr) (w:World):(callFunc 262 #[.pointer (some a)]).run Tryz.prog w=.ok (.value (.tuple #[])) w:=run_call_marked Tryz.func262 kR kR kR .releaseMerge kR a w
theorem u7 (a:Addr) (x:Value) (u:FrameMode) (w:World) (g:w.cell? a=some x) (j:w.frozen? a=false):
  CallsD Tryz.prog 116 #[.pointer (some a),bV true] u w λb e f=>e=u/\(b=.returned (.tuple #[])/\f=w.drew.setCell a (.int .u32 1)):=by
 (have c:w.drew.cell? a=some x:=by go_simp);(have d:w.drew.frozen? a=false:=by go_simp);have i:=run_call_store (P:=Tryz.prog) Tryz.func187 kR kR kR kR (k:=.u32) (y:=1) c d;go_enter_d Tryz.func116,Tryz.ntmps116;go_wp2;go_region_calls;all_goals (go_end0;exact⟨rfl,rfl⟩)
theorem unlock_deferred (a:Addr) (u:FrameMode) (w:World) (b:w.cell? a=some (.int .i32 1)) (d:w.frozen? a=false):
  CallsD Tryz.prog 237 #[.pointer (some a)] u w λc e f=>e=u/\(c=.returned (.tuple #[])/\f=w.setCell a (.int .i32 0)):=by
 have j:=disable;have k:=enable;have l:=releaseMerge;have g:=run_call_add (P:=Tryz.prog) Tryz.func263 kR kR kR .i32 kR (y:= -1) (s:=0) b d (by simp[go_sem];rfl);have i:=run_convert_to_unsafe (P:=Tryz.prog) (src:=388) (dst:=392) Tryz.underlying388 Tryz.underlying392 kR b;go_enter_d Tryz.func237,Tryz.ntmps237;go_wp2;go_end0;go_wp2;all_goals (go_end0;exact⟨rfl,rfl⟩)
theorem lock_free (a:Addr) (w:World) (b:w.cell? a=some (.int .i32 0)) (e:w.frozen? a=false):
  Calls Tryz.prog 236 #[.pointer (some a)] w λc f=>c=.returned (.tuple #[])/\f=w.setCell a (.int .i32 1):=by
 have k:=disable;have l:=enable;have g:=acquire;have i:=run_call_cas_hit (P:=Tryz.prog) Tryz.func258 kR kR kR .i32 kR (y:=1) b e;have d:(w.setCell a (.int .i32 1)).cell? a=some (.int .i32 1):=World.cell?_setCell_same w a _ b;have j:=run_convert_to_unsafe (P:=Tryz.prog) (src:=388) (dst:=392) Tryz.underlying388 Tryz.underlying392 kR d;go_enter Tryz.func236,Tryz.ntmps236;go_wp2;(first|go_end0|(simp only[Exit.inBlock,Exit.then];refine eG (results_none rfl _ _ _) rfl ?_)|refine eG (results_none rfl _ _ _) rfl ?_);go_wp2;all_goals (go_end0;exact⟨rfl,rfl⟩)
structure mI (w:World) (S:Nat->Prop) (p:Nat) (g:Gu):Prop where
 ex:∃(pb:Nat) (x9 e0 e1 e2 e3 e4 e5 e6 e7 e8:Value),Blk w p 256 #[pT pb,uI g.n.dB,uI g.n.eT,uI g.n.fI,uI g.n.bE,uI g.n.late,.int .u32 (b32 g.over),.int .u32 (b32 g.over),.int .i32 0,x9,e0,e1,e2,e3,e4,e5,e6,e7,e8]/\wX w S pb g.bu
 mem:S p
section
variable {w w':World} {S S':Nat->Prop} {p:Nat} {g:Gu} {ts:List (Option TypeId)}
theorem mI.lt (h:mI w S p g):p<w.heap.size:=by obtain⟨l,m,a,b,c,d,e,f,i,j,k,h,_⟩:=h.ex;exact h.lt
theorem mI.keep (h:mI w S p g) (a:bQ S ts w w') (m:some 256∈ts) (n:some 314∈ts) (o:some 30∈ts):mI w' S p g:=by
 obtain⟨s,t,b,c,d,e,f,i,j,k,l,q,r⟩:=h.ex;exact⟨⟨s,t,b,c,d,e,f,i,j,k,l,q.keep a h.mem m,r.keep a n o⟩,h.mem⟩
theorem mI.below (h:mI w S p g) (hb:bW w w'):mI w' S p g:=h.keep (ts:=[some 256,some 314,some 30]) (bQ.below hb) sM sM sM
theorem mI.mono (h:mI w S p g) (a:∀b,S b->S' b):mI w S' p g:=by
 obtain⟨q,r,c,d,e,f,i,j,k,l,m,n,o⟩:=h.ex;exact⟨⟨q,r,c,d,e,f,i,j,k,l,m,n,o.mono a⟩,a _ h.mem⟩
end
theorem QH (f d:Int) (w:World):
  Calls Tryz.prog 46 #[jI f,uI d] w λj w'=>∃p,j=.returned ((pT p))/\w.heap.size<=p/\mI w' (λa=>w.heap.size<=a/\a<w'.heap.size) p (guNew f d)/\bW w w':=by
 have m:=zH (Rl f d);go_enter Tryz.func46,Tryz.ntmps46;go_wp2_with fail;refine(m.out _).mono ?_;rintro j c ⟨o,rfl,q,k,b⟩;have n:=zH k;have i:=zH b;clear k b;go_wp2_with fail;go_ret;have l:=i.out.size;refine⟨c.heap.size,rfl,l,⟨⟨o,_,_,_,_,_,_,_,_,_,_,Wx _ _ _,(n.out.mono (S':=λa=>w.heap.size<=a/\a<c.heap.size+1) (λa e=>⟨e.1,oM⟩)).below (by have b:=aj c.heap.size c;exact BEL)|>.mono (λa e=>⟨e.1,by simp;omega⟩)⟩,⟨l,sM⟩⟩,by have b:=i.out;exact BEL⟩
theorem Js (S:Nat->Prop) (p:Nat) (g:Gu) (w:World) (h:mI w S p g):
  Calls Tryz.prog 73 #[pT p] w λu w'=>u=.returned (.agg #[uI g.n.dB,uI g.n.eT,uI g.n.fI,uI g.n.bE,uI g.n.late])/\bW w w':=by
 obtain⟨Q,R,C,D,E,F,G,H,I,J,K,a,_⟩:=h.ex;have i:=a.Wu 1;have j:=a.Wu 2;have k:=a.Wu 3;have l:=a.Wu 4;have m:=a.Wu 5;have c:=a.lt;have N:¬(p=w.heap.size):=oM;have O:¬(w.heap.size=p):=oM;clear h a;obtain⟨B,⟨v,x,y,z,A⟩,P⟩:=g;simp only at*
 go_enter Tryz.func73,Tryz.ntmps73;go_wp2_with fail;obtain⟨f,d⟩:=eX (w.alloc (.cells #[uI 0,uI 0,uI 0,uI 0,uI 0] 36));rw[<-d];(have b:bW w f:=by rw[d];exact BEL);have n:=(b.cell (p:=⟨p,1,none⟩) c).trans i;have o:=(b.cell (p:=⟨p,2,none⟩) c).trans j;have q:=(b.cell (p:=⟨p,3,none⟩) c).trans k;have r:=(b.cell (p:=⟨p,4,none⟩) c).trans l;have s:=(b.cell (p:=⟨p,5,none⟩) c).trans m;(have e:Blk f w.heap.size 36 #[uI 0,uI 0,uI 0,uI 0,uI 0]:=by rw[d];exact Wx _ _ _);obtain⟨T,Y,U,Z,V,a0,W,a1,X,a2⟩:=e.c5;have L:=e.lt;have t:=zH b;clear d b i j k l m e;refine bP 21 kR kR ?_;refine mD ?_;(repeat (first|go_big_quiet_step ((go_at_call 148;exact aJ (DJ _ _ _ (by first|exact n|exact o|exact q|exact r|exact s))))|quiet_step ((go_at_call 148;exact aJ (DJ _ _ _ (by first|exact n|exact o|exact q|exact r|exact s))))));refine aK ?_;rintro _ ⟨M,rfl⟩;refine dA rfl rfl ?_;go_simp;refine aK ?_;refine mV ?_;have a:=t.out;refine⟨?_,BEL⟩;simp
theorem Lp (S:Nat->Prop) (a1:Option Addr) (c1:Nat) (a2:Option Addr) (c2:Nat) (k:Ak) (w:World) (h:nu w S a1 c1 a2 c2 k):
  Calls Tryz.prog 119 #[.agg #[.slice a1 k.cu.length c1,.slice a2 k.aO.length c2,uI k.dw,uI k.xor,bV k.kZ]] w λE L=>(∃C J c D K s,E=.returned (.agg #[.slice C J c,.slice D K s,uI k.dw,uI k.xor,bV k.kZ]))/\bW w L:=by
 have z:=zH h.cu;have A:=zH h.aO;have P:=h.Ks;have O:=h.mlen;clear h;obtain⟨a,b,d,i,f⟩:=k;simp only at*
 go_enter Tryz.func119,Tryz.ntmps119;(repeat ((fail_if_success (with_reducible apply eG));first|first|(at_builtin;have N:=r;refine iP.wpList rfl _ (.tmp 8) rfl (g.setCell ⟨w.heap.size,0,none⟩ (.slice j a.length c)).heap.size none 0 [] (by rfl) (iq _ _ _ _) a2 c2 b (by rfl) (aD A.out (by have t:=q.out;exact BEL)) sO dC sM ?_;intro M s p G v;have o:Below (g.setCell ⟨w.heap.size,0,none⟩ (.slice j a.length c)).heap.size (g.setCell ⟨w.heap.size,0,none⟩ (.slice j a.length c)) p:=(aj _ _).grown v (av _) (by simp[Value.ownBlock]);have l:Blk p w.heap.size 92 #[.slice j a.length c,.slice a2 b.length c2,uI d,uI i,bV f]:=Blk.below (h:=(by have:=r.out.bF 0 (.slice j a.length c);simpa using this)) (hb:=o) sO;have m:Blk p (w.heap.size+1) 92 jK:=Blk.below (h:=B.out.far sM _) (hb:=o) sO;have I:=o.size;simp at I;obtain⟨u0,Q⟩:=l.cz 0;obtain⟨u1,R⟩:=l.cz 1;obtain⟨u2,T⟩:=l.cz 2;obtain⟨u3,U⟩:=l.cz 3;obtain⟨u4,V⟩:=l.cz 4;obtain⟨W,a3⟩:=m.cz 0;obtain⟨X,a4⟩:=m.cz 1;obtain⟨Y,a5⟩:=m.cz 2;obtain⟨Z,a6⟩:=m.cz 3;obtain⟨a0,a7⟩:=m.cz 4;have y:=zH ((show bW w (g.setCell ⟨w.heap.size,0,none⟩ (.slice j a.length c))from(by have t:=q.out;exact BEL)).trans (o.mono sO));clear G v o l m)|(at_builtin;refine iP.wpList rfl _ (.tmp 4) rfl (w.heap.size+1+1) none 0 [] (by rfl) (iq _ _ _ _) a1 c1 a (by rfl) (aD z.out (BEL)) sO dC sM ?_;intro j c g F u;have n:Below ((w.alloc (.cells #[.slice a1 a.length c1,.slice a2 b.length c2,uI d,uI i,bV f] 92)).alloc (.cells jK 92)).heap.size ((w.alloc (.cells #[.slice a1 a.length c1,.slice a2 b.length c2,uI d,uI i,bV f] 92)).alloc (.cells jK 92)) g:=(aj _ _).grown u (av _) (by simp[Value.ownBlock]);have e:Blk g w.heap.size 92 #[.slice a1 a.length c1,.slice a2 b.length c2,uI d,uI i,bV f]:=Blk.below (h:=(show Blk ((w.alloc (.cells #[.slice a1 a.length c1,.slice a2 b.length c2,uI d,uI i,bV f] 92)).alloc (.cells jK 92)) w.heap.size 92 #[.slice a1 a.length c1,.slice a2 b.length c2,uI d,uI i,bV f]from(Wx _ _ _).alloc _)) (hb:=n) sO;have x:Blk g (w.heap.size+1) 92 jK:=Blk.below (h:=Blk.qN _ _ _ _) (hb:=n) sM;have H:=n.size;simp at H;obtain⟨a8,b3⟩:=e.cz 0;obtain⟨a9,b4⟩:=e.cz 1;obtain⟨b0,b5⟩:=e.cz 2;obtain⟨b1,b6⟩:=e.cz 3;obtain⟨b2,b7⟩:=e.cz 4;have r:=zH e;have B:=zH x;have q:=zH ((show bW w ((w.alloc (.cells #[.slice a1 a.length c1,.slice a2 b.length c2,uI d,uI i,bV f] 92)).alloc (.cells jK 92))from BEL).trans (n.mono sO));clear F u n e x)|go_values|go_skip|go_guarded|go_step|go_upon|go_back|go_simp));refine mZ ?_;have t:=y.out;refine⟨⟨_,_,_,_,_,_,rfl⟩,BEL⟩
theorem Blk.ne {w:World} {g h:Nat} {t u:TypeId} {b c:Array Value} (hb:Blk w g t b) (a:Blk w h u c) (f:t≠u):¬(g=h):=by
 intro d;subst d;unfold Blk at hb a;rw[hb]at a;injection a with a;injection a with _ e;exact f e
structure EvAt (w:World) (S:Nat->Prop) (b7 b15 b12 b13 b10 b4 p:Nat) (a1:Option Addr) (c1:Nat) (a2:Option Addr) (c2:Nat) (k:Ak) (gs:Array Value):Prop where
 now:∃x,Blk w b7 30 #[uI x]
 pn:∃x,Blk w b15 30 #[uI x]
 used:∃x,Blk w b12 30 #[uI x]
 why:∃x,Blk w b13 3 #[jI x]
 ack:Blk w b10 92 #[.slice a1 k.cu.length c1,.slice a2 k.aO.length c2,uI k.dw,uI k.xor,bV k.kZ]
 ptr:Blk w b4 150 #[pT p]
 gu:Blk w p 256 gs
 ak:nu w S a1 c1 a2 c2 k
theorem MS (S:Nat->Prop) (v t r s c u p:Nat) (a1:Option Addr) (c1:Nat) (a2:Option Addr) (c2:Nat) (k:Ak) (a3 a4 a5 a6 a7 a8 a9 b0 b1 b2 b8 b9 c0 c3 c4 c5 c6 c7 c8:Value) (w:World)
  (h:EvAt w S v t r s c u p a1 c1 a2 c2 k #[a3,a4,a5,a6,a7,a8,a9,b0,b1,b2,b8,b9,c0,c3,c4,c5,c6,c7,c8]):
  Calls Tryz.prog 118 #[pT v,pT t,pT r,pT s,pT c,pT u] w λJ a=>
   J=.returned (.tuple #[])/\(∃c9 d0 d1 d2 d3 d4 d5 d6 d7,Blk a p 256 #[a3,a4,a5,a6,a7,a8,a9,b0,b1,b2,c9,d0,d1,d2,d3,d4,d5,d6,d7])/\Mod (λk=>k=p) [some 256] w a:=by
 obtain⟨⟨i,z⟩,⟨j,A⟩,⟨l,B⟩,⟨m,C⟩,D,E,e,T⟩:=h;have b4:=zH (λa (e0:bW w a)=>Lp S a1 c1 a2 c2 k a (T.below e0));have V:=z.cell 0;have W:=A.cell 0;have X:=B.cell 0;have Y:=C.cell 0;have Z:=E.cell 0;obtain⟨f6,g8,f7,g9,f8,h0,f9,h1,g0,h2⟩:=D.c5;have e2:=e.lt;have g2:=e.ne z dC;have g3:=e.ne A dC;have g4:=e.ne B dC;have g5:=e.ne C dC;have g6:=e.ne D dC;have g7:=e.ne E dC;have e3:=z.lt;have e4:=A.lt;have e5:=B.lt;have e6:=C.lt;have g:=D.lt;have e7:=E.lt;have b5:=zH e;simp only[List.getElem?_toArray,List.getElem?_cons_zero]at V W X Y Z;clear z A B C D E e T;obtain⟨b7,b6,f,n,F⟩:=k;simp only at*
 go_enter Tryz.func118,Tryz.ntmps118;go_wp2_with fail;go_region_held3 (λa=>a.cell? ⟨u,0,none⟩=some ((pT p))/\a.cell? ⟨v,0,none⟩=some (uI i)/\a.cell? ⟨t,0,none⟩=some (uI j)/\a.cell? ⟨r,0,none⟩=some (uI l)/\a.cell? ⟨s,0,none⟩=some (jI m)/\
   a.cell? ⟨c,0,none⟩=some (.slice a1 b7.length c1)/\a.cell? ⟨c,1,none⟩=some (.slice a2 b6.length c2)/\a.cell? ⟨c,2,none⟩=some (uI f)/\a.cell? ⟨c,3,none⟩=some (uI n)/\a.cell? ⟨c,4,none⟩=some (bV F)) (first|with_reducible assumption|(iterate 9 (with_reducible refine(World.cell?_setCell_other _ _ _ _ (λh=>by have:=lY Addr.block h;simp at this;omega)).trans ?_);with_reducible assumption)|simp[go_sem, *]) (first
  |(go_simp;go_at_call 119;refine(b4.out _ (BEL)).mono ?_;rintro J a0 ⟨⟨o,G,x,q,H,y,rfl⟩,U⟩;have b:bW w a0:=(show bW w _ from BEL).trans (U.mono sM);have d:=b5.out.below b e2;have I:=zH d;have b3:=zH b;have g1:=d.lt;have j5:=(b.cell (p:=⟨u,0,none⟩) e7).trans Z;have j1:=(b.cell (p:=⟨v,0,none⟩) e3).trans V;have j2:=(b.cell (p:=⟨t,0,none⟩) e4).trans W;have j3:=(b.cell (p:=⟨r,0,none⟩) e5).trans X;have j4:=(b.cell (p:=⟨s,0,none⟩) e6).trans Y;have j6:=(b.cell (p:=⟨c,0,none⟩) g).trans f6;have j7:=(b.cell (p:=⟨c,1,none⟩) g).trans f7;have j8:=(b.cell (p:=⟨c,2,none⟩) g).trans f8;have j9:=(b.cell (p:=⟨c,3,none⟩) g).trans f9;have k0:=(b.cell (p:=⟨c,4,none⟩) g).trans g0;obtain⟨h3,i2⟩:=d.cz 10;obtain⟨h4,i3⟩:=d.cz 11;obtain⟨h5,i4⟩:=d.cz 12;obtain⟨h6,i5⟩:=d.cz 13;obtain⟨h7,i6⟩:=d.cz 14;obtain⟨h8,i7⟩:=d.cz 15;obtain⟨h9,i8⟩:=d.cz 16;obtain⟨i0,i9⟩:=d.cz 17;obtain⟨i1,j0⟩:=d.cz 18;clear b d U))
 all_goals (
  go_end0;refine⟨rfl,⟨uI i,uI j,uI l,jI m,.slice o G x,.slice q H y,uI f,uI n,bV F,?_⟩,?_⟩
  ·have d9:=((((((((I.out.bF 10 (uI i)).bF 11 (uI j)).bF 12 (uI l)).bF 13 (jI m)).bF 14 (.slice o G x)).bF 15 (.slice q H y)).bF 16 (uI f)).bF 17 (uI n)).bF 18 (bV F)
   simpa using d9
  ·have e1:Mod (λk=>k=p) [some 256] w a0:=aH b3.out
   have K:=I.out;have e8:=e1.setCell K (λ_=>rfl) sM 10 (uI i);have L:=K.bF 10 (uI i);have e9:=e8.setCell L (λ_=>rfl) sM 11 (uI j);have M:=L.bF 11 (uI j);have f0:=e9.setCell M (λ_=>rfl) sM 12 (uI l);have N:=M.bF 12 (uI l);have f1:=f0.setCell N (λ_=>rfl) sM 13 (jI m);have O:=N.bF 13 (jI m);have f2:=f1.setCell O (λ_=>rfl) sM 14 (.slice o G x);have P:=O.bF 14 (.slice o G x);have f3:=f2.setCell P (λ_=>rfl) sM 15 (.slice q H y);have Q:=P.bF 15 (.slice q H y);have f4:=f3.setCell Q (λ_=>rfl) sM 16 (uI f);have R:=Q.bF 16 (uI f);have f5:=f4.setCell R (λ_=>rfl) sM 17 (uI n);have d8:=R.bF 17 (uI n);exact f5.setCell d8 (λ_=>rfl) sM 18 (bV F))
theorem EvAt.store {w:World} {S:Nat->Prop} {g e c d b f p:Nat} {a1:Option Addr} {c1:Nat} {a2:Option Addr} {c2:Nat} {k:Ak} {j:Array Value} (h:EvAt w S g e c d b f p a1 c1 a2 c2 k j) (i:Nat) (u:Value):
  EvAt (w.setCell ⟨p,i,none⟩ u) S g e c d b f p a1 c1 a2 c2 k (j.setIfInBounds i u):=by
 obtain⟨⟨t,l⟩,⟨v,m⟩,⟨x,n⟩,⟨y,o⟩,q,r,a,s⟩:=h;exact⟨⟨t,l.far (l.ne a dC) _⟩,⟨v,m.far (m.ne a dC) _⟩,⟨x,n.far (n.ne a dC) _⟩,⟨y,o.far (o.ne a dC) _⟩,q.far (q.ne a dC) _,r.far (r.ne a dC) _,a.bF i u,
  s.keep (bQ.setCell (ts:=[some 272]) (fz:=(0,0)) a dC i u) sM⟩
theorem NF (S:Nat->Prop) (J H F G E I p:Nat) (a1:Option Addr) (c1:Nat) (a2:Option Addr) (c2:Nat) (k:Ak) (q r s t u v x y M N O P Q R T U V:Value) (w:World)
  (h:EvAt w S J H F G E I p a1 c1 a2 c2 k #[q,r,s,t,u,v,x,.int .u32 0,.int .i32 0,y,M,N,O,P,Q,R,T,U,V]):
  Calls Tryz.prog 189 #[.pointer (some ⟨p,7,none⟩),.func (.func 118) #[] #[pT J,pT H,pT F,pT G,pT E,pT I]] w λm B=>
   m=.returned (.tuple #[])/\(∃a b c d e g i j l,Blk B p 256 #[q,r,s,t,u,v,x,.int .u32 1,.int .i32 0,y,a,b,c,d,e,g,i,j,l])/\Mod (λk=>k=p) [some 256] w B:=by
 have n:=h.gu;have b2:=n.Wu 7;have Y:=n.Wu 8;have b9:=n.frozen 7;have a3:=n.frozen 8;have z:=h.store 8 (.int .i32 1);obtain⟨D,A⟩:=eX (w.setCell ⟨p,8,none⟩ (.int .i32 1));rw[<-A]at z;(have W:Mod (λk=>k=p) [some 256] w D:=by rw[A];exact(aV (λk=>k=p) [some 256] w).setCell n (λ_=>rfl) (List.Mem.head _) 8 _);have Z:=z.gu.Wu 7;have L:=zH (lock_free ⟨p,8,none⟩ w Y a3);rw[<-A]at L;have a4:=zH (pV ⟨p,7,none⟩ false D Z);have a8:=zH (MS S J H F G E I p a1 c1 a2 c2 k q r s t u v x (.int .u32 0) (.int .i32 1) y M N O P Q R T U V D z);have a6:=zH W;have c0:∀(a0:Bool) (w:World),(Op.unary .not (bV a0)).run Tryz.prog w=.ok (bV (!a0)) w:=λ_ _=>rfl;clear h n z W b2 Y b9 a3 Z A;go_enter_defers Tryz.func189,Tryz.ntmps189;go_wp2_with (first|(go_at_call 236;refine(L.out).mono ?_;rintro m B ⟨rfl,rfl⟩)|(go_at_call 109;refine(a4.out).mono ?_;rintro m B ⟨rfl,rfl⟩)|(go_at_call 118;refine(a8.out).mono ?_;rintro m C ⟨rfl,⟨a,b,c,d,e,g,i,j,l,o⟩,X⟩;have a5:=zH o;have a7:=zH X;clear o X));have o:=a5.out;obtain⟨b3,b7⟩:=o.cz 7;have K:Blk (C.drew.setCell ⟨p,7,none⟩ (.int .u32 1)) p 256 #[q,r,s,t,u,v,x,.int .u32 1,.int .i32 1,y,a,b,c,d,e,g,i,j,l]:=o.drew.bF 7 (.int .u32 1);obtain⟨b4,b8⟩:=K.cz 8;have b0:Blk ((C.drew.setCell ⟨p,7,none⟩ (.int .u32 1)).setCell ⟨p,8,none⟩ (.int .i32 0)) p 256 #[q,r,s,t,u,v,x,.int .u32 1,.int .i32 0,y,a,b,c,d,e,g,i,j,l]:=K.bF 8 (.int .i32 0);have b1:Mod (λk=>k=p) [some 256] w ((C.drew.setCell ⟨p,7,none⟩ (.int .u32 1)).setCell ⟨p,8,none⟩ (.int .i32 0)):=
  ((a6.out.trans a7.out).drew.setCell o.drew (λ_=>rfl) sM 7 _).setCell K (λ_=>rfl) sM 8 _
 refine leaves_cons (f:=116) (args:= #[.pointer (some ⟨p,7,none⟩),bV true]) sM (by simp[go_sem]) ?_;refine(u7 ⟨p,7,none⟩ (.int .u32 0) .returning _ b3 b7).mono ?_;rintro m b5 b6 ⟨rfl,rfl,rfl⟩;refine leaves_cons (f:=237) (args:= #[.pointer (some ⟨p,8,none⟩)]) (by simp[settle]) (by simp[go_sem]) ?_;refine(unlock_deferred ⟨p,8,none⟩ _ _ b4 b8).mono ?_;rintro m b5 b6 ⟨rfl,rfl,rfl⟩;have a9:(∃a b c d e g i j l,Blk ((C.drew.setCell ⟨p,7,none⟩ (.int .u32 1)).setCell ⟨p,8,none⟩ (.int .i32 0)) p 256 #[q,r,s,t,u,v,x,.int .u32 1,.int .i32 0,y,a,b,c,d,e,g,i,j,l]):=⟨a,b,c,d,e,g,i,j,l,b0⟩;simp only[Leaves,settle];exact⟨_,results_none rfl _ _ _,rfl,a9,b1⟩
theorem P9 (S:Nat->Prop) (f d b c a e p:Nat) (a1:Option Addr) (c1:Nat) (a2:Option Addr) (c2:Nat) (k:Ak) (j l m n o q r s t u v x y z A B C:Value) (w:World)
  (h:EvAt w S f d b c a e p a1 c1 a2 c2 k #[j,l,m,n,o,q,r,.int .u32 0,.int .i32 0,s,t,u,v,x,y,z,A,B,C]):
  Calls Tryz.prog 117 #[.pointer (some ⟨p,7,none⟩),.func (.func 118) #[] #[pT f,pT d,pT b,pT c,pT a,pT e]] w λg i=>
   g=.returned (.tuple #[])/\(∃L M N O P Q R T U,Blk i p 256 #[j,l,m,n,o,q,r,.int .u32 1,.int .i32 0,s,L,M,N,O,P,Q,R,T,U])/\Mod (λk=>k=p) [some 256] w i:=by
 have F:=h.gu.Wu 7;have H:=zH (pV ⟨p,7,none⟩ false w F);have K:=zH (NF S f d b c a e p a1 c1 a2 c2 k j l m n o q r s t u v x y z A B C w h);have V:∀(G:Bool) (w:World),(Op.unary .not (bV G)).run Tryz.prog w=.ok (bV (!G)) w:=λ_ _=>rfl;clear h F;go_enter Tryz.func117,Tryz.ntmps117;go_wp2_with fail;refine(H.out).mono ?_;rintro g i ⟨rfl,rfl⟩;go_wp2_with fail;refine(K.out).mono ?_;rintro g W ⟨rfl,D,E⟩;have I:=zH D;have J:=zH E;clear D E;go_wp2_with fail;go_end0;exact⟨rfl,I.out,J.out⟩
structure jN (k g m:Nat) (p:Pe):Prop where
 delay:Word p.delay
 lh:0<=p.floor
 QI:p.floor<=4611686018427387903
 pE:0<=p.next
 nI:p.next<=4611686018427387904
 GN:0<=p.bytes
 yh:p.bytes<=1500*k
 got:GF p.floor p.got
 sV:p.got.length<=g
 aO:GF p.floor p.aO
 oq:p.aO.length<=m
 kept:∀x∈p.kept,Word x.bX/\0<=x.pn/\x.pn<=4611686018427387903
 Ap:p.kept.Pairwise (λx y=>x.pn≠y.pn)
 Cm:∀x∈p.kept,dI p.got x.pn=true
 yV:p.kept.length<=k
 tX:0<=p.fG
 tV:p.fG<=1
 dw:Word p.dw
 due:Word p.due
 fK:Gd p.fK
 EL:p.fK.length<=k
 pieces:LF p.pieces
 pok:∀x∈p.pieces,dP x.body/\x.body.length<=1500/\x.off+x.body.length<=4611686018427387904
 cov:∀n,Cov p.pieces n↔dI p.fK n=true
 plen:(p.pieces.length:Int)<=p.bytes
theorem PW {c:Int} (h:Word c):jN 0 32 32 (kU c)where
 delay:=h
 lh:=by simp[kU]
 QI:=by simp[kU]
 pE:=by simp[kU]
 nI:=by simp[kU]
 GN:=by simp[kU]
 yh:=by simp[kU]
 got:=trivial
 sV:=by simp[kU]
 aO:=trivial
 oq:=by simp[kU]
 kept:=λb a=>by simp[kU]at a
 Ap:=List.Pairwise.nil
 Cm:=λb a=>by simp[kU]at a
 yV:=by simp[kU]
 tX:=by simp[kU]
 tV:=by simp[kU]
 dw:=⟨by simp[kU],by simp[kU]⟩
 due:=⟨by simp[kU],by simp[kU]⟩
 fK:=trivial
 EL:=by simp[kU]
 pieces:=⟨List.Pairwise.nil,λb a=>by simp[kU]at a⟩
 pok:=λb a=>by simp[kU]at a
 cov:=λd=>⟨λ⟨b,a,_⟩=>by simp[kU]at a,λh=>by simp[kU,dI]at h⟩
 plen:=by simp[kU]
theorem xV (lo:Int):∀(a:List Sp),(jr lo a).length<=a.length
 |[]=>av _
 |s::t=>by
  have:=xV lo t;unfold jr;split
  ·simpa using this
  ·simp only[aY];omega
theorem GF.gd {b:Int} {l:List Sp} (h:GF b l) (hb:0<=b):Gd l:=h.mono hb
theorem EQ {l:List Sp} (h:Gd l) (lo:Int):(gV l lo).length<=l.length:=by rw[vJ h];exact xV lo l
theorem um {k g m:Nat} {p:Pe} (h:jN k g m p) {f:Int} (l:f<=4611686018427387903):jN k g m (gz p f):=by
 unfold gz;split
 ·exact h
 next c=>
 have a:=h.lh;have e:=pP (lo:=f) h.got a;have i:=pP (lo:=f) h.aO a;have n:max p.floor f=f:=oM;rw[n]at e i;exact{h with
  lh:=by simp only;omega
  QI:=l
  got:=e
  sV:=ay (EQ (h.got.gd a) f) h.sV
  aO:=i
  oq:=ay (EQ (h.aO.gd a) f) h.oq
  kept:=λb d=>h.kept b (dx.1 d).1
  Ap:=h.Ap.filter _
  Cm:=λb d=>by
   have j:=dx.1 d;show dI (gV p.got f) b.pn=true;rw[sW (h.got.gd a),h.Cm b j.1];simpa using j.2
  yV:=ay (List.length_filter_le _ _) h.yV}
theorem GF.two {b:Int} {l:List Sp} (h:GF b l) (d:2<=l.length):b<(l.getD 1 ⟨0,0⟩).lo/\(l.getD 1 ⟨0,0⟩).lo<=4611686018427387903/\(jr (l.getD 1 ⟨0,0⟩).lo l).length+1<=l.length:=by
 rcases l with _|⟨f,_|⟨a,c⟩⟩
 ·simp at d
 ·simp at d
 ·obtain⟨g,i,j,k,m,n,o⟩:=h
  simp only[List.getD_cons_succ,List.getD_cons_zero];refine⟨oM,oM,?_⟩;have e:jr a.lo (f::a::c)=jr a.lo (a::c):=by
   conv=>lhs;unfold jr
   rw[Ww oM]
  rw[e];have:=xV a.lo (a::c);simp only[aY]at this|-;omega
theorem qM {k m:Nat} {p:Pe} (h:jN k 33 m p):jo p.got.length p=(if 32<p.got.length then gz p (p.got.getD 1 ⟨0,0⟩).lo else p)/\jN k 32 m (jo p.got.length p):=by
 have l:=h.sV;by_cases b:32<p.got.length
 ·obtain⟨i,e,j⟩:=h.got.two oM
  have f:=um h e;have g:(gz p (p.got.getD 1 ⟨0,0⟩).lo).got.length<=32:=by
   unfold gz;rw[Ww oM];show(gV p.got (p.got.getD 1 ⟨0,0⟩).lo).length<=32;rw[vJ (h.got.gd h.lh)];omega
  have c:jo p.got.length p=gz p (p.got.getD 1 ⟨0,0⟩).lo:=by
   obtain⟨a,d⟩:∃a,p.got.length=a+1:=⟨p.got.length -1,oM⟩;rw[d,jo,aB b];cases a with
   |zero=>rfl
   |succ a=>rw[jo,Ww oM]
  rw[aB b,c];exact⟨rfl,{f with sV:=g}⟩
 ·have c:jo p.got.length p=p:=by
   cases d:p.got.length with
   |zero=>rfl
   |succ a=>rw[jo,Ww b]
  rw[Ww b,c];exact⟨rfl,{h with sV:=by omega}⟩
theorem nX {k g:Nat} {p:Pe} (h:jN k g 33 p):iC p.aO.length p=(if 32<p.aO.length then gz p (p.aO.getD 1 ⟨0,0⟩).lo else p)/\jN k g 32 (iC p.aO.length p):=by
 have m:=h.oq;by_cases b:32<p.aO.length
 ·obtain⟨j,e,l⟩:=h.aO.two oM
  have f:=um h e;have i:(gz p (p.aO.getD 1 ⟨0,0⟩).lo).aO.length<=32:=by
   unfold gz;rw[Ww oM];show(gV p.aO (p.aO.getD 1 ⟨0,0⟩).lo).length<=32;rw[vJ (h.aO.gd h.lh)];omega
  have c:iC p.aO.length p=gz p (p.aO.getD 1 ⟨0,0⟩).lo:=by
   obtain⟨a,d⟩:∃a,p.aO.length=a+1:=⟨p.aO.length -1,oM⟩;rw[d,iC,aB b];cases a with
   |zero=>rfl
   |succ a=>rw[iC,Ww oM]
  rw[aB b,c];exact⟨rfl,{f with oq:=i}⟩
 ·have c:iC p.aO.length p=p:=by
   cases d:p.aO.length with
   |zero=>rfl
   |succ a=>rw[iC,Ww b]
  rw[Ww b,c];exact⟨rfl,{h with oq:=by omega}⟩
def nW (d:Da):Sp:=⟨d.off,d.off+d.body.length -1⟩
def uT (p:Pe) (d:Da):List Sp:=p.fK.foldl jh [nW d]
def nZ (d:Da) (x:Sp):Pi:=⟨x.lo,(d.body.take (x.hi -d.off+1).toNat).drop (x.lo -d.off).toNat⟩
theorem PY (p:Pe) (d:Da):Es p d={p with pieces:=p.pieces++(uT p d).map (nZ d),fK:=iV p.fK (nW d)}:=rfl
theorem IQ {p:Pe} {d:Da} (n:Gd p.fK) (e:DOk d):GF d.off (uT p d)/\(∀a,dI (uT p d) a=(nV a (nW d)&& !dI p.fK a))/\∀b∈uT p d,b.hi<d.off+d.body.length:=by
 have l:=e.vz;have o:=e.off1;have q:=e.CW;have k:GF d.off [nW d]:=⟨bY _,by simp only[nW];omega,by simp only[nW];omega,trivial⟩;obtain⟨f,j⟩:=tN p.fK [nW d] d.off k l (λb c=>(GF.low n b c).2);have g:∀a,dI (uT p d) a=(nV a (nW d)&& !dI p.fK a):=λa=>by
  unfold uT;rw[j a,iX,LB,Bool.or_false]
 refine⟨f,g,λb c=>?_⟩;have m:=GF.low f b c;have:dI (uT p d) b.hi=true:=pW.2 ⟨b,c,m.2.1,bY _⟩;rw[g,Bool.and_eq_true]at this;have i:=this.1;(have r:b.hi<=(nW d).hi:=by simp[nV]at i;exact i.2);have s:(nW d).hi=d.off+d.body.length -1:=rfl;omega
theorem vo {d:Da} {x:Sp} (a:d.off<=x.lo) (b:x.lo<=x.hi) (c:x.hi<d.off+d.body.length):((nZ d x).body.length:Int)=x.hi -x.lo+1:=by
 unfold nZ;simp only[bI,aT];omega
theorem ID {d:Da} {x:Sp} (a:d.off<=x.lo) (b:x.lo<=x.hi) (c:x.hi<d.off+d.body.length) (n:Int):((nZ d x).off<=n/\n<(nZ d x).off+((nZ d x).body.length:Int))↔(x.lo<=n/\n<=x.hi):=by
 rw[vo a b c];unfold nZ;simp only;omega
theorem Gh {d:Da} {l:List Sp} (c:GF d.off l) (e:∀a∈l,a.hi<d.off+d.body.length) (n:Int):Cov (l.map (nZ d)) n↔dI l n=true:=by
 rw[pW];constructor
 ·rintro⟨g,f,h⟩
  obtain⟨a,b,rfl⟩:=List.mem_map.1 f;have:=GF.low c a b;exact⟨a,b,(ID this.1 this.2.1 (e a b) n).1 h⟩
 ·rintro⟨a,b,h⟩
  have:=GF.low c a b;exact⟨nZ d a,List.mem_map.2 ⟨a,b,rfl⟩,(ID this.1 this.2.1 (e a b) n).2 h⟩
theorem Qg {d:Da}:∀(f:List Sp) (c:Int),GF c f->d.off<=c->(∀a∈f,a.hi<d.off+d.body.length)->(f.map (nZ d)).Pairwise Dj
 |[],_,_,_,_=>List.Pairwise.nil
 |a::t,c,h,hb,hh=>by
  obtain⟨k,i,l,g⟩:=h;refine List.pairwise_cons.2 ⟨λn j=>?_,Qg t (a.hi+2) g oM (λb e=>hh b (by simp[e]))⟩;obtain⟨b,e,rfl⟩:=List.mem_map.1 j;have m:=GF.low g b e;have:=vo (d:=d) (x:=a) oM i (hh a sM);refine .inl ?_;rw[this];show a.lo+(a.hi -a.lo+1)<=b.lo;omega
theorem dj_of {x y:Pi} (d:1<=x.body.length) (hy:1<=y.body.length) (h:∀a,(x.off<=a/\a<x.off+x.body.length)->(y.off<=a/\a<y.off+y.body.length)->False):Dj x y:=by
 unfold Dj;by_cases b:x.off<=y.off
 ·exact .inl (Decidable.byContradiction λc=>h y.off ⟨b,oM⟩ ⟨bY _,oM⟩)
 ·exact .inr (Decidable.byContradiction λc=>h x.off ⟨bY _,oM⟩ ⟨oM,oM⟩)
theorem PX {k g m:Nat} {p:Pe} {d:Da} (h:jN k g m {p with bytes:=p.bytes -d.body.length}) (l:DOk d):jN (k+1) g m (Es p d):=by
 obtain⟨i,t,j⟩:=IQ (p:=p) h.fK l;have B:=h.yh;have C:=h.GN;have J:=l.xE;have I:=l.CW;simp only at B C;have L:=l.vz;have M:=l.off1;have K:=i.count (e:=d.off+d.body.length) j oM;(have w:(nW d).lo<=(nW d).hi:=by simp only[nW];omega);(have x:(nW d).hi<=4611686018427387903:=by simp only[nW];omega);have v:∀b∈(uT p d).map (nZ d),0<=b.off/\1<=b.body.length:=by
  intro b a;obtain⟨f,q,rfl⟩:=List.mem_map.1 a;have o:=GF.low i f q;have:=vo (d:=d) o.1 o.2.1 (j f q);exact⟨by show 0<=f.lo;omega,oM⟩
 rw[PY];exact{h with
  GN:=by simp only;omega
  yh:=by simp only;omega
  yV:=Nat.le_succ_of_le h.yV
  fK:=zV h.fK (by simp only[nW];omega) w x
  EL:=ay (zu _ _) (Nat.succ_le_succ h.EL)
  pieces:=⟨List.pairwise_append.2 ⟨h.pieces.dj,Qg _ _ i (bY _) j,λb a z y=>dj_of (h.pieces.pos b a).2 (v z y).2 (λc E F=>by
   have s:dI p.fK c=true:=(h.cov c).1 ⟨b,a,E⟩;have u:dI (uT p d) c=true:=(Gh i j c).1 ⟨z,y,F⟩;rw[t,s]at u;simp at u)⟩,λb a=>(WB.1 a).elim (h.pieces.pos b) (v b)⟩
  pok:=λb a=>by
   rcases WB.1 a with a|a
   ·exact h.pok b a
   ·obtain⟨f,q,rfl⟩:=List.mem_map.1 a
    have o:=GF.low i f q;have A:=j f q;have:=vo (d:=d) o.1 o.2.1 A;refine⟨λH G=>l.bok H (bf (dW G)),oM,?_⟩;rw[this];show f.lo+(f.hi -f.lo+1)<=_;omega
  cov:=λc=>by
   show Cov (p.pieces++(uT p d).map (nZ d)) c↔dI (iV p.fK (nW d)) c=true;rw[vW h.fK w x,Bool.or_eq_true];constructor
   ·rintro⟨b,a,n⟩
    rcases WB.1 a with a|a
    ·exact .inl ((h.cov c).1 ⟨b,a,n⟩)
    ·have:=(Gh i j c).1 ⟨b,a,n⟩
     rw[t,Bool.and_eq_true]at this;exact .inr this.1
   ·intro D
    by_cases r:dI p.fK c=true
    ·obtain⟨b,a,n⟩:=(h.cov c).2 r
     exact⟨b,by simp[a],n⟩
    ·have s:=D.resolve_left r
     obtain⟨b,a,n⟩:=(Gh i j c).2 (by rw[t,s];simp[r]);exact⟨b,WB.2 (.inr a),n⟩
  plen:=by
   have:=h.plen;simp only at this;show((p.pieces++(uT p d).map (nZ d)).length:Int)<=p.bytes;rw[aU,bR];omega}
theorem Gy {l:List Sp} (h:Gd l) (n:Int):oQ l n=dI l n:=by unfold oQ;rw[h.good];rfl
def sK (p:Pe) (d:Da):Pe:=
 {Es {p with bytes:=p.bytes+d.body.length} d with got:=iV p.got ⟨d.pn,d.pn⟩,kept:=p.kept++[⟨d.pn,d.bX,uM d.ecn⟩],aO:=if jB d.ecn then p.aO else iV p.aO ⟨d.pn,d.pn⟩}
theorem Mb (p:Pe) (d:Da):Ga p d=iC (jo (gz (sK p d) d.bn).got.length (gz (sK p d) d.bn)).aO.length (jo (gz (sK p d) d.bn).got.length (gz (sK p d) d.bn)):=rfl
theorem Qz (n a:Int):nV n ⟨a,a⟩=(n==a):=by
 rw[mU];simp[nV];omega
theorem IK {k:Nat} {p:Pe} {d:Da} (h:jN k 32 32 p) (e:DOk d) (j:p.floor<=d.pn) (o:dI p.got d.pn=false):jN (k+1) 33 33 (sK p d):=by
 have l:jN k 32 32 {{p with bytes:=p.bytes+d.body.length}with bytes:={p with bytes:=p.bytes+d.body.length}.bytes -d.body.length}:=by
  have c:p.bytes+d.body.length -d.body.length=p.bytes:=oM;simp only[c];exact h
 have m:=PX l e;have i:=h.lh;have g:=e.pn1;have r:=e.pn0;(have n:∀f,dI (iV p.got ⟨d.pn,d.pn⟩) f=(dI p.got f||f==d.pn):=λf=>by rw[vW (h.got.gd i) (bY _) g,Qz]);exact{m with
  got:=Dh h.got i j (bY _) g
  sV:=ay (zu _ _) (Nat.succ_le_succ h.sV)
  aO:=by
   show GF p.floor (if jB d.ecn then p.aO else iV p.aO ⟨d.pn,d.pn⟩);split
   ·exact h.aO
   ·exact Dh h.aO i j (bY _) g
  oq:=by
   show(if jB d.ecn then p.aO else iV p.aO ⟨d.pn,d.pn⟩).length<=33;split
   ·have:=h.oq;omega
   ·exact ay (zu _ _) (Nat.succ_le_succ h.oq)
  kept:=λb a=>by
   rcases WB.1 a with a|a
   ·exact h.kept b a
   ·obtain rfl:=dZ.1 a
    exact⟨e.bX,r,g⟩
  Ap:=List.pairwise_append.2 ⟨h.Ap,List.pairwise_singleton _ _,λb a s q c=>by
   obtain rfl:=dZ.1 q;have:=h.Cm b a;simp only at c;rw[c,o]at this;cases this⟩
  Cm:=λb a=>by
   show dI (iV p.got ⟨d.pn,d.pn⟩) b.pn=true;rw[n];rcases WB.1 a with a|a
   ·rw[h.Cm b a];rfl
   ·obtain rfl:=dZ.1 a
    simp
  yV:=by
   show(p.kept++[_]).length<=k+1;rw[aU];exact Nat.succ_le_succ h.yV}
theorem Ma {k:Nat} {p:Pe} {d:Da} (h:jN k 32 32 p) (a:DOk d) (g:p.floor<=d.pn) (i:dI p.got d.pn=false):jN (k+1) 32 32 (Ga p d):=by
 have b:=IK h a g i;have c:=um b (f:=d.bn) (by have:=a.Gt;have:=a.pn1;omega);have e:=(qM c).2;rw[Mb];exact(nX e).2
theorem Er {k:Nat} {p:Pe} {g m:Nat} (h:jN k g m {p with fG:=0,due:=18446744073709551615}):jN k g m (lZ p).pe:=h
theorem Ep {k:Nat} {p:Pe} {now:Int} (h:jN k 32 32 p):jN k 32 32 (kK p now).pe:=by
 unfold kK;split
 ·exact Er {h with tX:=by simp,tV:=by simp,due:=⟨sM,sM⟩}
 ·exact h
theorem jN.mono {k k' g m:Nat} {p:Pe} (h:jN k g m p) (a:k<=k'):jN k' g m p:=
 {h with yh:=by have:=h.yh;omega,yV:=ay h.yV a,EL:=ay h.EL a}
theorem NC {k:Nat} {p:Pe} {b:List Int} {now:Int} (h:jN k 32 32 p) (hb:dP b) (l:Word now):jN (k+1) 32 32 (oN p b now).pe:=by
 unfold oN;split
 ·exact h.mono (Nat.le_succ k)
 next c=>
 simp only[not_or,Decidable.not_not,Int.not_lt,Bool.not_eq_true]at c;obtain⟨g,i,f⟩:=c;have d:=zm hb g;rw[Gy (h.got.gd h.lh)]at f;have a:=Ma h d i f;have q:=d.pn0;have r:=d.pn1;have s:=a.tX;have t:=a.tV;have n:=a.pE;have o:=a.nI;dsimp only;split
 (·exact a);split
 ·exact Er {a with pE:=by simp only;omega,nI:=by simp only;omega,tX:=by simp,tV:=by simp,dw:=d.bX,due:=⟨sM,sM⟩}
 next c4=>
 have m:¬2<=(Ga p (ky b).val).fG+1:=λj=>c4 (.inl j);have e:jN (k+1) 32 32 {Ga p (ky b).val with next:=max (Ga p (ky b).val).next ((ky b).val.pn+1),fG:=(Ga p (ky b).val).fG+1,dw:=(ky b).val.bX}:=
  {a with pE:=by simp only;omega,nI:=by simp only;omega,tX:=by simp only;omega,tV:=by simp only;omega,dw:=d.bX}
 show jN (k+1) 32 32 (if _ then _ else _);split
 ·exact{e with due:=fB l e.delay}
 ·exact e
structure Sh where
 kind:Int
 a:Option Addr
 c:Nat
 b:List Int
 k0:Int
 k1:Int
 k2:Int
 k3:Int
 x:Int
 right:Bool
 wait:Int
def shV (s:Sh):List Value:=[jI s.kind,.slice s.a s.b.length s.c,.int .u16 s.k0,.int .u16 s.k1,.int .u16 s.k2,.int .u16 s.k3,uI s.x,bV s.right,.int .u16 s.wait]
def U16 (k:Int):Prop:=0<=k/\k<65536
structure zW (w:World) (S:Nat->Prop) (s:Sh):Prop where
 ex:∃tb,Byt tb w S s.a s.b
 cap:s.b.length<=s.c
 by_:dP s.b
 k0:U16 s.k0
 k1:U16 s.k1
 k2:U16 s.k2
 k3:U16 s.k3
 x:Word s.x
 wait:U16 s.wait
 kind: -9223372036854775808<=s.kind/\s.kind<9223372036854775808
theorem zW.below {w w':World} {S:Nat->Prop} {s:Sh} (h:zW w S s) (hb:bW w w'):zW w' S s:=
 {h with ex:=by obtain⟨b,a⟩:=h.ex;exact⟨b,aD a hb⟩}
structure FrAt (w w':World) (S:Nat->Prop) (a:Option Addr) (c:Nat) (b:List Int):Prop where
 ex:∃tb,Byt tb w' (λk=>S k\/w.heap.size<=k/\k<w'.heap.size) a b
 cap:b.length<=c
 by_:dP b
 len:b.length<=4000
theorem Rc {tb:TypeId} {w:World} {S:Nat->Prop} {a:Option Addr} {l:List Int} {n c:Nat} (h:Byt tb w S a l) (f:n<=l.length):Byt tb w S (fE a c 0 1) (l.take n):=by
 (have e:(l.take n).length=n:=by rw[aT];omega);have g:=Row.take h (k:=n) f;have d:=g.drop (k:=0) oM (a':=fE a c 0 1) (λ_ i j b=>by
  subst b;unfold fE;split
  ·simp
  ·simp[Go.WideShapes.add_plain])
 unfold Byt;rw[e,pQ fe.len];simpa using d
theorem ER (S f3:Nat->Prop) (p:Nat) (u1:Value) (a6 d1:Int) (Y:List Se) (s:Sh) (w:World) (h:Dw w S p a6 d1 Y) (g2:Y.length<=1000000000) (g5:0<=a6) (g6:a6<=1000000) (f7:∀s∈Y,Word s.bX) (y:zW w f3 s):
  Calls Tryz.prog 21 #[.agg (shV s).toArray,.agg #[u1,pT p]] w λF T=>∃f4 f6 f5,F=.returned (.slice f4 f5.length f6)/\FrAt w T f3 f4 f6 f5/\bW w T:=by
 have e3:=zH (λT (l5:bW w T)=>h.below l5);have e2:=zH f7;obtain⟨Q,k,g,b,z,A,B,C,d,right,U⟩:=s;obtain⟨⟨m2,g7⟩,g0,f9,m3,m4,m5,m6,h1,n1,m8⟩:=y;dsimp only[shV]at*
 have i9:=zH g7;have i0:=zH f9;clear h f7 g7 f9;go_enter Tryz.func21,Tryz.ntmps21;go_upto_if 12 with fail;generalize((_:Int)==0)=m0;cases m0 with
 |true=>
  obtain⟨n3,g1,l7,h2,l8⟩:=info_parts lF;have n0:min (b.length:Int) 300=((min b.length 300:Nat):Int):=oM;have d5:min b.length 300<=b.length:=oM;have g4:min b.length 300<=300:=oM;generalize min b.length 300=R at*
  have hcut:∀w,(Instr.slice 47 (.slice k b.length g) none (some (jI (R:Int))) none).run Tryz.prog w=.ok (.slice (fE k g 0 1) R g) w:=λw=>by
   have h:=tY (P:=Tryz.prog) fe.ht g1 k b.length g R oM w;rw[h2]at h;exact h
  have h9:=zH (Rc (c:=g) i9.out d5);have c5:=zH (And.intro d5 (And.intro g4 g0));generalize fE k g 0 1=j8 at*
  clear g1 l7 h2 l8 d5 g4 g0;go_wp2_with fail;go_ret;(have m:(b.take R).length=R:=by rw[aT];have:=c5.out;omega);exact⟨j8,g,b.take R,(by rw[m];exact rfl),⟨⟨m2,aF (aD h9.out BEL) (λO a=>.inl a)⟩,by rw[m];have:=c5.out;omega,λV c0=>i0.out V (bf c0),by rw[m];have:=c5.out;omega⟩,BEL⟩
 |false=>
  obtain⟨c1,a5⟩:=sG w #[jI Q,.slice k b.length g,.int .u16 z,.int .u16 A,.int .u16 B,.int .u16 C,uI d,bV right,.int .u16 U] 53 #[u1,pT p] 80;have f8:bW w ((w.alloc (.cells #[jI Q,.slice k b.length g,.int .u16 z,.int .u16 A,.int .u16 B,.int .u16 C,uI d,bV right,.int .u16 U] 53)).alloc (.cells #[u1,pT p] 80)):=BEL;go_upto_region 3 with fail;generalize(World.alloc _ _)=j6 at*
  obtain⟨E,b6⟩:=eX w.heap.size;obtain⟨b3,b7⟩:=eX (E+1);rw[<-b6]at c1 a5;rw[<-b7]at a5;rw[<-b6,<-b7];have e8:=zH c1;have f1:=zH a5;have c3:=zH f8;have i3:=zH (And.intro b6 b7);obtain⟨j9,-,k0,-,k1,-,k2,-,k3,-,k4,-,k5,-,k6,-,k7,-⟩:=c1.c9;obtain⟨k8,-,k9,-⟩:=a5.c2;clear c1 a5 f8 b6 b7;go_wp2_with fail;refine(SG S p u1 a6 d1 Y _ z A B C j6 (e3.out _ c3.out) g2 g5 g6 e2.out (zq _ _ _) m3 m4 m5 m6).mono ?_;rintro F a7 ⟨⟨e,l,f,v,h8,rfl,m9,g8,g9,d8,n2⟩,b8⟩;have e0:=zH b8;have i5:=zH g8;have c7:=zH g9;have e9:=zH (e8.out.below b8 e8.out.lt);have d0:=zH (f1.out.below b8 f1.out.lt);clear b8 g8 g9 j9 k0 k1 k2 k3 k4 k5 k6 k7 k8 k9;go_upto_region 4 with fail;obtain⟨o,b4⟩:=eX (a7.alloc (.cells #[.slice e f.length l,.slice none 0 0,uI v,uI h8,bV false] 92));rw[<-b4];(have a3:bW a7 o:=by rw[b4];exact BEL);(have d6:Blk o a7.heap.size 92 #[.slice e f.length l,.slice none 0 0,uI v,uI h8,bV false]:=by rw[b4];exact Wx _ _ _);have g3:b3<a7.heap.size:=d0.out.lt;have l3:=i3.out;obtain⟨i,d4⟩:=eX a7.heap.size;rw[<-d4]at d6 g3;rw[<-d4];have h3:E≠i:=oM;have f0:=zH h3;have h4:b3≠i:=oM;have f2:=zH h4;have h0:w.heap.size<=i:=oM;have e5:=zH (e9.out.below a3 e9.out.lt);have e6:=zH (d0.out.below a3 d0.out.lt);have e7:=zH d6;have i6:=zH (show Sps o _ e f from aD i5.out a3);have e1:=zH (c3.out.trans ((e0.out.trans (a3.mono e0.out.size)).mono c3.out.size));have a9:=zH h0;clear b4 a3 d6 g3 l3 d4 h3 h4 h0;have N:bW o o.drew:=bA (aj _ _);have j:Blk o.drew E 53 #[jI Q,.slice k b.length g,.int .u16 z,.int .u16 A,.int .u16 B,.int .u16 C,uI d,bV right,.int .u16 U]:=e5.out.below N e5.out.lt;refine aZ (S:=λT=>Blk T E 53 #[jI Q,.slice k b.length g,.int .u16 z,.int .u16 A,.int .u16 B,.int .u16 C,uI d,bV right,.int .u16 U]) kR j (λl4=>?_);clear l4;have c8:=zH (e7.out.below N e7.out.lt);have j2:=zH (e6.out.below N e6.out.lt);have i7:=zH (show Sps o.drew _ e f from aD i6.out N);have i1:=zH (e1.out.trans (N.mono e1.out.size));clear N;generalize o.drew=m7 at*
  refine tK 0 27 j ?_;refine tk 1 (some 28) j (hy:=by intro w d3;have m1:=d3.cell 6;exact gS) (h:=?_);refine tK 2 29 j ?_;refine tk 3 (some 30) j (hy:=by intro w d3;have m1:=d3.cell 6;exact gS) (h:=?_);refine tK 4 31 j ?_;refine tK 5 32 j ?_;refine tK 6 33 j ?_;refine nrm 10 127 ?_;refine aI 7 kR ?_;refine fF (op:=_) rfl kR kR 30 (.tmp 33) (.tmp 28) kR i 3 (uI d) kR kR rfl kR c8.out sM ?_;intro Z L;(have b9:Blk Z E 53 #[jI Q,.slice k b.length g,.int .u16 z,.int .u16 A,.int .u16 B,.int .u16 C,uI d,bV right,.int .u16 U]:=by rw[L];exact j.far f0.out _);have c9:=zH (show Blk Z i 92 #[.slice e f.length l,.slice none 0 0,uI v,uI d,bV false] by rw[L];exact c8.out.bF 3 _);have j3:=zH (show Blk Z b3 80 #[u1,pT p] by rw[L];exact j2.out.far f2.out _);have i8:=zH (show Sps Z _ e f by rw[L];exact Row.S9 (t':=92) i7.out c8.out dC [uI d] 3);have i2:=zH (show bW w Z by rw[L];exact bG i1.out a9.out _);clear L;refine⟨b9,?_⟩;refine mP ?_;refine tK 8 34 b9 ?_;refine nrm 10 511 ?_;refine aI 9 kR ?_;refine fF (op:=_) rfl kR kR 4 (.tmp 34) (.tmp 32) kR i 4 (bV (bits .and .u64 d 1==1)) kR kR rfl kR c9.out sM ?_;intro x M;(have d7:Blk x E 53 #[jI Q,.slice k b.length g,.int .u16 z,.int .u16 A,.int .u16 B,.int .u16 C,uI d,bV right,.int .u16 U]:=by rw[M];exact b9.far f0.out _);have b1:=zH (show Blk x i 92 #[.slice e f.length l,.slice none 0 0,uI v,uI d,bV (bits .and .u64 d 1==1)] by rw[M];exact c9.out.bF 4 _);have j4:=zH (show Blk x b3 80 #[u1,pT p] by rw[M];exact j3.out.far f2.out _);have c6:=zH (show Sps x _ e f by rw[M];exact Row.S9 (t':=92) i8.out c9.out dC [bV (bits .and .u64 d 1==1)] 4);have D:=zH (show bW w x by rw[M];exact bG i2.out a9.out _);clear M;refine⟨d7,?_⟩;refine mP ?_;refine bg kR ?_ _;have j0:=zH d7;clear j b9 d7;generalize(bits .and .u64 d 1==1)=h5 at*
  have j7:=j0.out.Wu 7;cases right with
  |false=>
   obtain⟨G,-,H,-,I,-,J,-,K,-⟩:=b1.out.c5;go_wp2_with fail;refine(ve _ e none l 0 f [] v d h5 x (Row.lt_ c6.out) Row.WH (λO a=>a.2) oM dC c7.out (λs y=>by cases y) d8 h1).mono ?_;rintro F h7 ⟨h6,rfl,t,q⟩;obtain⟨a0,a1,a4,rfl,u,r,m⟩:=t.ex;have n:=zH u;have X:=zH r;have W:=zH q;clear t u r q;go_wp2_with fail;go_ret;exact⟨a0,a1,a4,rfl,⟨⟨5,(Row.lt_ n.out.row).mono (λO a=>.inr ⟨ay D.out.size a.1,a.2⟩)⟩,n.out.cap_,X.out,m⟩,D.out.trans (W.out.mono D.out.size)⟩
  |true=>
   have l2:=j4.out.Wu 1;obtain⟨G,-,H,-,I,-,J,-,K,-⟩:=b1.out.c5;go_wp2_with fail;refine(Pz S _ p a6 d1 Y e none l 0 f [] x (e3.out _ D.out) g2 g5 g6 e2.out c6.out Row.WH oM dC).mono ?_;rintro F d9 ⟨⟨V,c2,l9,rfl,c0⟩,b5⟩;have j1:=zH c0;have b0:=zH (b1.out.below b5 b1.out.lt);have e4:=zH (show Sps d9 _ e f from aD c6.out b5);have a8:=zH (D.out.trans (b5.mono D.out.size));clear c0 b5 G H I J K l2 j7;cases l9 with
   |false=>
    obtain⟨G,-,H,-,I,-,J,-,K,-⟩:=b0.out.c5;go_wp2_with fail;refine(ve _ e none l 0 f [] v d h5 d9 (Row.lt_ e4.out) Row.WH (λO a=>a.2) oM dC c7.out (λs y=>by cases y) d8 h1).mono ?_;rintro F h7 ⟨h6,rfl,t,q⟩;obtain⟨a0,a1,a4,rfl,u,r,m⟩:=t.ex;have n:=zH u;have X:=zH r;have W:=zH q;clear t u r q;go_wp2_with fail;go_ret;exact⟨a0,a1,a4,rfl,⟨⟨5,(Row.lt_ n.out.row).mono (λO a=>.inr ⟨ay a8.out.size a.1,a.2⟩)⟩,n.out.cap_,X.out,m⟩,a8.out.trans (W.out.mono a8.out.size)⟩
   |true=>
    have d2:=b0.out;obtain⟨G,-,H,-,I,-,J,l0,K,l1⟩:=d2.c5;have l6:=d2.lt;clear d2;go_upto_region 9 with fail;obtain⟨b2,a2⟩:=eX ((d9.setCell ⟨i,3,none⟩ (uI V)).setCell ⟨i,4,none⟩ (bV c2));rw[<-a2];have j5:=zH (show Blk b2 i 92 #[.slice e f.length l,.slice none 0 0,uI v,uI V,bV c2] by rw[a2];exact(b0.out.bF 3 _).bF 4 _);have i4:=zH (show Sps b2 _ e f by rw[a2];exact Row.S9 (t':=92) e4.out b0.out dC [uI V,bV c2] 3);have c4:=zH (show bW w b2 by rw[a2];exact bG (bG a8.out a9.out _) a9.out _);clear a2 G H I J l0 K l1 l6;obtain⟨G,-,H,-,I,-,J,-,K,-⟩:=j5.out.c5;go_wp2_with fail;refine(ve _ e none l 0 f [] v V c2 b2 (Row.lt_ i4.out) Row.WH (λO a=>a.2) oM dC c7.out (λs y=>by cases y) d8 j1.out).mono ?_;rintro F h7 ⟨h6,rfl,t,q⟩;obtain⟨a0,a1,a4,rfl,u,r,m⟩:=t.ex;have n:=zH u;have X:=zH r;have W:=zH q;clear t u r q;go_wp2_with fail;go_ret;exact⟨a0,a1,a4,rfl,⟨⟨5,(Row.lt_ n.out.row).mono (λO a=>.inr ⟨ay c4.out.size a.1,a.2⟩)⟩,n.out.cap_,X.out,m⟩,c4.out.trans (W.out.mono c4.out.size)⟩
def nJ (f:Nat->Int) (m j:Nat):List Int:=(List.range m).map λa=>if a<j then f a else 0
theorem wL (f:Nat->Int) (m j:Nat):(nJ f m j).length=m:=by simp[nJ]
theorem Sl (f:Nat->Int) (m:Nat):nJ f m 0=List.replicate m 0:=by
 apply List.ext_getElem
 ·simp[nJ]
 ·intro c a b;simp[nJ]
theorem NZ (f:Nat->Int) (m:Nat):nJ f m m=(List.range m).map f:=by
 apply List.ext_getElem
 ·simp[nJ]
 ·intro c a b
  simp[nJ]at a;simp[nJ,a]
theorem NY (f:Nat->Int) (m j:Nat):(nJ f m j).set j (f j)=nJ f m (j+1):=by
 apply List.ext_getElem
 ·simp[nJ]
 ·intro b c d
  simp only[nJ,List.getElem_set,List.getElem_map,List.getElem_range];by_cases h:j=b
  ·subst h;simp
  ·rw[Ww h]
   by_cases a:b<j
   ·rw[aB a,aB oM]
   ·rw[Ww a,Ww oM]
theorem QK {f:Nat->Int} (b:∀a,0<=f a/\f a<256) (m j:Nat):dP (nJ f m j):=λd c=>by
 obtain⟨a,-,rfl⟩:=List.mem_map.1 c;split
 ·exact b a
 ·exact⟨dC,dC⟩
structure Fil (w0 wr:World) (f:Nat->Int) (m j:Nat):Prop where
 own:OwnAt wr (λk=>w0.heap.size<=k/\k<wr.heap.size) 5 1 (some ⟨w0.heap.size,0,none⟩) m m ((nJ f m j).flatMap byV)
 lo:bW w0 wr
theorem Fil.new {a c:World} (f:Nat->Int) (m:Nat) (h:c.ownsRow a.heap.size 5 1 (.slice (some ⟨a.heap.size,0,none⟩) m m) m (madeCells (Value.cells (.int .u8 0)) (m*1)).toList) (b:a.grownBy c none):Fil a c f m 0:=by
 refine⟨OwnAt.fresh (w:=a) ?_,(aj _ _).grown b (av _) (λd b=>by cases b)⟩;rw[Sl,vT,List.map_replicate];rw[pJ (.int .u8 0) rfl]at h;exact h
theorem Fil.put {a wr:World} {f:Nat->Int} {m j:Nat} (h:Fil a wr f m j) (s:j<m):(∃o,wr.cell? ⟨a.heap.size,j,none⟩=some o)/\wr.frozen? ⟨a.heap.size,j,none⟩=false/\a.heap.size<wr.heap.size/\Fil a (wr.setCell ⟨a.heap.size,j,none⟩ (.int .u8 (f j))) f m (j+1):=by
 (have t:((nJ f m j).flatMap byV).length=m:=by rw[vT,bR,wL]);obtain⟨q,p,b,r,c,k,n⟩:=h.own.bF (i:=j) oM;injection b with b;injection b with b;subst b;refine⟨?_,c.frozen _,c.lt,⟨?_,h.lo.setCell (av _) _⟩⟩
 ·have g:=k j _ (aL oM)
  rw[c.cell];exact⟨_,g⟩
 ·have d:=n (.int .u8 (f j))
  have e:((nJ f m j).flatMap byV).set j (.int .u8 (f j))=(nJ f m (j+1)).flatMap byV:=by
   rw[vT,vT,<-NY,List.map_set]
  rw[e]at d;exact d.mono (λu l=>by simpa[World.setCell]using l)
def yx (n:Int):List Int:=(List.range (n%300).toNat).map λ(a:Nat)=>(n+7*(a:Int))%256
theorem OW (n:Int) (H:U16 n) (w:World):Calls Tryz.prog 18 #[.int .u16 n] w λE o=>∃p,E=.returned (.slice p (yx n).length (yx n).length)/\Bys o (λv=>w.heap.size<=v/\v<o.heap.size) p (yx n)/\bW w o:=by
 obtain⟨W,X⟩:=H;obtain⟨a,G⟩:∃a:Nat,n%300=a:=⟨(n%300).toNat,oM⟩;have T:a<300:=oM;obtain⟨c,f⟩:∃c:Nat->Int,c=λ(b:Nat)=>(n+7*(b:Int))%256:=⟨_,rfl⟩;(have l:yx n=nJ c a a:=by rw[NZ,f];unfold yx;rw[G];rfl);have B:=zH l;have x:=zH f;have k:=wL c a a;rw[<-l]at k;rw[k];obtain⟨M,F,J,K,L⟩:=info_parts lF;clear l f k;go_enter Tryz.func18,Tryz.ntmps18;go_wp2_with (at_make;refine wpList_make_full _ rfl (.tmp 7) (.tmp 7) 47 rfl w.heap.size 5 M (.int .u8 0) 1 Tryz.underlying47 F J K .i64 .i64 (a:Int) (a:Int) a (by rfl) (by rfl) rfl rfl (by rw[L];omega) (by simp only[maxLen];omega) (av _) ?_;intro a0 u s;have y:=zH (Fil.new c a u s);clear u s);go_loopg [4,11] a (λm Z N wr=>N=jI ((a:Int) -m)/\m<=a/\Hid (Fil w wr c a (a -m)));(case atStart=>exact⟨by congr 1;omega,av _,by rw[Nat.sub_self];exact y⟩);case round=>
  obtain⟨rfl,S,g⟩:=hrel;by_cases V:0<gk
  ·have q:decide ((a:Int) -gk<a)=true:=bM oM
   go_upto_region 4 with fail;obtain⟨b,i⟩:=eX (a -gk);have t:(a:Int) -gk=(b:Int):=oM;rw[t];obtain⟨⟨Y,C⟩,D,U,d⟩:=g.out.put (j:=a -gk) oM;rw[<-i]at C D d;have O:(b:Int)<a:=oM;have P:IntKind.i64.wrap (7*(b:Int))=7*b:=eP _ ⟨oM,oM⟩;have Q:IntKind.i64.wrap (n+7*(b:Int))=n+7*b:=eP _ ⟨oM,oM⟩;have R:IntKind.i64.wrap ((b:Int)+1)=(b:Int)+1:=eP _ ⟨oM,oM⟩;(have r:c b=(n+7*(b:Int))%256:=by rw[x.out]);rw[r]at d;have A:=zH d;have z:=zH i;clear r d i t q g;go_wp2_with fail;go_roundg (gk -1);(case measure=>omega);case rel=>have:=z.out;exact⟨by congr 1;omega,oM,by rw[show a -(gk -1)=b+1 by omega];exact A⟩
  ·have q:decide ((a:Int) -gk<a)=false:=bJ oM
   go_wp2_with fail;go_ret;have e:=g.out;rw[show a -gk=a by omega]at e;refine⟨_,rfl,?_,e.lo⟩;have I:=e.own.row;unfold Bys;rw[B.out,wL];exact I
end Go.Proofs.YtiflndepmgnojaaGreat
