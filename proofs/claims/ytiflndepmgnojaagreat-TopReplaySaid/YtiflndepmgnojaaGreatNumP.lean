import Derived.Test.YtiflndepmgnojaaGreatDra
import Derived.Test.YtiflndepmgnojaaGreatNumW
namespace Go.Proofs.YtiflndepmgnojaaGreat
open Go.RowKit
set_option linter.unusedSimpArgs false
set_option linter.unusedVariables false
set_option maxHeartbeats 1000000
set_option maxRecDepth 100000
theorem NW (c f now:Int) (w:World):
  Calls Tryz.prog 64 #[.agg #[jI c,uI f],uI now] w λd e=>d=.returned (.agg #[jI ((jR ⟨c,f⟩ now).count),uI now])/\∃a b,e=(w.alloc (.cells a 126)).alloc (.cells b 126):=by
 have g:0<=min (max c 0) 59:=oM;have i:min (max c 0) 59<=59:=oM;go_enter Tryz.func64,Tryz.ntmps64;go_wp2;go_returns;exact⟨rfl,_,_,rfl⟩
theorem Ra (c f now:Int) (w:World):
  Calls Tryz.prog 127 #[.agg #[jI c,uI f],uI now] w λd e=>d=.returned (.agg #[jI 0,uI now])/\∃a b,e=(w.alloc (.cells a 126)).alloc (.cells b 126):=by
 go_enter Tryz.func127,Tryz.ntmps127;go_wp2;go_returns;exact⟨rfl,_,_,rfl⟩
theorem Py (c f now:Int) (w:World):
  Calls Tryz.prog 171 #[.agg #[jI c,uI f],uI now] w λd e=>d=.returned (.agg #[jI c,uI now])/\∃a b,e=(w.alloc (.cells a 126)).alloc (.cells b 126):=by
 go_enter Tryz.func171,Tryz.ntmps171;go_wp2;go_returns;exact⟨rfl,_,_,rfl⟩
theorem Lx {t c a:Int} (d:Word t) (b:Word a):Word (MB t c a):=by
 have:=Na (n:=c) d;obtain⟨_,_⟩:=this;obtain⟨_,_⟩:=b;unfold MB;exact⟨oM,oM⟩
theorem JN (c f t b:Int) (w:World):
  Calls Tryz.prog 140 #[.agg #[jI c,uI f],bV false,uI t,uI b] w λa e=>a=.returned (uI 18446744073709551615)/\∃d,e=(w.alloc (.cells #[jI c,uI f] 126)).drewN d:=by
 go_enter Tryz.func140,Tryz.ntmps140;go_wp2_with fail;go_ret;exact⟨rfl,0,rfl⟩
theorem GL (c f t a:Int) (j:Word f) (e:Word t) (k:Word a) (i:c<=9223372036854775807) (w:World):
  Calls Tryz.prog 140 #[.agg #[jI c,uI f],bV true,uI t,uI a] w λb d=>b=.returned (uI (qW ⟨c,f⟩ true t a))/\∃l,d=(w.alloc (.cells #[jI c,uI f] 126)).drewN l:=by
 have g:=Lx (c:=c) e k;go_enter Tryz.func140,Tryz.ntmps140;go_wp2_with fail;go_quiet (first|((go_at_call 198;exact aJ ((Rq t c a e i _).mono λb d h=>⟨h.1,h.2.symm⟩)))|((go_at_call 83;exact aJ ((lT f _ j g _).mono λb d h=>⟨h.1,h.2.symm⟩))));go_wp2_with fail;go_ret;exact⟨rfl,_,rfl⟩
theorem NT (a b c:Int) (w:World):
  Calls Tryz.prog 125 #[.agg #[uI a,uI b],uI c] w λe f=>e=.returned (bV (decide (a<=c)))/\∃d,f=w.alloc (.cells d 130):=by
 go_enter Tryz.func125,Tryz.ntmps125;go_wp2;go_ret;exact⟨rfl,_,rfl⟩
theorem Rn (a b c next:Int) (w:World) (h:c<a):
  Calls Tryz.prog 197 #[.agg #[uI a,uI b],uI c,uI next] w λg i=>g=.returned (.tuple #[.agg #[uI a,uI b],bV false])/\∃d e f,i=((w.alloc (.cells d 130)).alloc (.cells e 130)).alloc (.cells f 130):=by
 (have j:decide (a<=c)=false:=by simp;omega);go_enter Tryz.func197,Tryz.ntmps197;go_wp2;refine eG (v:=.tuple #[.agg #[uI a,uI b],bV false]) (by simp[results,Tryz.results197,go_sem]) rfl ⟨rfl,_,_,_,rfl⟩
theorem OH (a b c next:Int) (w:World) (h:a<=c) (i:Word c) (hb:Word b):
  Calls Tryz.prog 197 #[.agg #[uI a,uI b],uI c,uI next] w λg j=>g=.returned (.tuple #[.agg #[uI (Az c next),uI (Gx b)],bV true])/\∃d e f,j=((w.alloc (.cells d 130)).alloc (.cells e 130)).alloc (.cells f 130):=by
 obtain⟨k,l⟩:=i;obtain⟨m,n⟩:=hb;go_enter Tryz.func197,Tryz.ntmps197;go_wp2;all_goals
  refine eG (v:=.tuple #[.agg #[uI (Az c next),uI (Gx b)],bV true]) (by simp[results,Tryz.results197,go_sem];unfold Az Gx;exact⟨by(repeat' split)<;>omega,by split<;>omega⟩) rfl ⟨rfl,_,_,_,rfl⟩
theorem pO {b:Int} (h:Word b):Word (xu b):=kN h ⟨dC,dC⟩
theorem Cv (b:Int) (h:Word b) (w:World):
  Calls Tryz.prog 107 #[uI b] w λa c=>a=.returned (uI (xu b))/\w=c:=by
 go_enter Tryz.func107,Tryz.ntmps107;go_wp2_with fail;refine(wH b 1000000 h ⟨dC,dC⟩ _).mono ?_;rintro a c ⟨rfl,rfl⟩;go_wp2_with fail;go_ret;exact⟨rfl,rfl⟩
theorem PI (cr bK a:Int) (f:Word cr) (g:Word bK) (j:Word a) (w:World):
  Calls Tryz.prog 108 #[uI cr,uI bK,uI a] w λc d=>c=.returned (uI (xg cr bK a))/\∃b,d=w.drewN b:=by
 have i:Word (max bK 1):=⟨oM,by have:=g.2;omega⟩;have e:=zH (lS cr 1250000 _ f ⟨dC,dC⟩ i);go_enter Tryz.func108,Tryz.ntmps108;go_wp2_with fail;refine(e.out _).mono ?_;rintro c d ⟨rfl,b,rfl⟩;go_wp2_with fail;go_ret;exact⟨rfl,b,rfl⟩
theorem MW (a now b:Int) (h:Word a) (w:World):
  Calls Tryz.prog 48 #[uI a,uI now,uI b] w λc d=>c=.returned (.agg #[uI (qd a now b).fC,uI (qd a now b).pat,uI (qd a now b).gP])/\bW w d:=by
 go_enter Tryz.func48,Tryz.ntmps48;go_wp2_with fail;refine(Cv a h _).mono ?_;rintro c d ⟨rfl,rfl⟩;go_wp2_with fail;go_returns;exact⟨rfl,BEL⟩
theorem JE (p:Pa) (a now:Int) (f:Word p.fC) (d:Word p.pat) (e:Word p.gP) (l:Word a) (g:Word now) (w:World):
  Calls Tryz.prog 163 #[.agg #[uI p.fC,uI p.pat,uI p.gP],uI a,uI now] w λb c=>b=.returned (.agg #[uI (lM p a now).fC,uI (lM p a now).pat,uI (lM p a now).gP])/\bW w c:=by
 obtain⟨j,m,k⟩:=p;simp only at f d e;have i:=nC g d;have n:=kN e i;go_enter Tryz.func163,Tryz.ntmps163;go_wp2_with fail;refine bP 14 kR kR ?_;refine mD ?_;(repeat (quiet_step ((first|(go_at_call 122;exact aJ ((sI now m g d _).mono λb c h=>⟨h.1,h.2.symm⟩))|(go_at_call 178;exact aJ ((wH k _ e i _).mono λb c h=>⟨h.1,h.2.symm⟩))|(go_at_call 146;exact aJ ((nY j _ f n _).mono λb c h=>⟨h.1,h.2.symm⟩))|(go_at_call 107;exact aJ ((Cv a l _).mono λb c h=>⟨h.1,h.2.symm⟩))))));refine aK ?_;rintro _ ⟨o,rfl⟩;refine dA rfl rfl ?_;go_simp;refine aK ?_;go_wp2_with fail;go_returns;exact⟨rfl,BEL⟩
end Go.Proofs.YtiflndepmgnojaaGreat
