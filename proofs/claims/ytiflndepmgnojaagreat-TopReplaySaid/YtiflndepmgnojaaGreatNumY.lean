import Derived.Test.YtiflndepmgnojaaGreatNumX
namespace Go.Proofs.YtiflndepmgnojaaGreat
open Go.RowKit
set_option linter.unusedSimpArgs false
set_option linter.unusedVariables false
set_option maxHeartbeats 8000000
set_option maxRecDepth 100000
attribute[local go_sem] BW.cell BW.frozen
theorem Ja (c:Cf) (s:Cc) (a next:Int) (v:lV c) (z:Xf s) (x:Word a) (w:World):
  Calls Tryz.prog 60 #[.agg (cfV c),.agg #[uI s.win.cr,uI s.win.dL,uI s.win.acc,uI s.win.jF,uI s.win.gX,uI s.win.k,uI s.win.fair,uI s.round.iO,uI s.round.mX],uI a,uI next] w λt P=>t=.returned (.tuple #[.agg #[uI (uN c s a next).win.cr,uI (uN c s a next).win.dL,uI (uN c s a next).win.acc,uI (uN c s a next).win.jF,uI (uN c s a next).win.gX,uI (uN c s a next).win.k,uI (uN c s a next).win.fair,uI (uN c s a next).round.iO,uI (uN c s a next).round.mX],bV (WM s.round a)])/\bW w P:=by
 have q:=zH (Fj c s a next 1 2 7 10 v z x (by constructor<;>decide) (by constructor<;>decide) (by constructor<;>decide) (by constructor<;>decide));(have A:uN c s a next=oV c s a next 1 2 7 10:=rfl);rw[A];clear A z v x;generalize WM s.round a=Y at*
 generalize oV c s a next 1 2 7 10=Q at*
 obtain⟨T,b3,d4,W,d5,b2,a9,U,b1,b4,first,b0,V,Z,R,S,X⟩:=c;obtain⟨⟨d6,d7,d8,d9,e0,e1,e2⟩,⟨e3,e4⟩⟩:=s;obtain⟨⟨j,k,l,m,n,o,p⟩,⟨g,i⟩⟩:=Q;simp only at q|-;go_enter Tryz.func60,Tryz.ntmps60;go_wp2_with fail;refine(q.out _).mono ?_;rintro t e ⟨rfl,f⟩;have u:bW w e:=pY f;have d:Blk e (w.heap.size+1+1) 132 #[uI 0,uI 0,uI 0,uI 0,uI 0,uI 0,uI 0,uI 0,uI 0]:=iK f;obtain⟨F,a0,G,a1,H,a2,I,a3,J,a4,K,a5,L,a6,M,a7,N,a8⟩:=d.c9;have O:w.heap.size+1+1<e.heap.size:=d.lt;have C:=zH d;clear d;have B:=zH u;clear f u;obtain⟨_,b5,_⟩:=rU O
 iterate 18 (first|go_values|go_skip|go_guarded|go_step|go_upon|go_back|go_simp)
 obtain⟨r,b⟩:=eX ((((((((((e.setCell ⟨w.heap.size+1+1,0,none⟩ (uI j)).setCell ⟨w.heap.size+1+1,1,none⟩ (uI k)).setCell ⟨w.heap.size+1+1,2,none⟩ (uI l)).setCell ⟨w.heap.size+1+1,3,none⟩ (uI m)).setCell ⟨w.heap.size+1+1,4,none⟩ (uI n)).setCell ⟨w.heap.size+1+1,5,none⟩ (uI o)).setCell ⟨w.heap.size+1+1,6,none⟩ (uI p)).setCell ⟨w.heap.size+1+1,7,none⟩ (uI g)).setCell ⟨w.heap.size+1+1,8,none⟩ (uI i)));rw[<-b];have y:Blk r (w.heap.size+1+1) 132 #[uI j,uI k,uI l,uI m,uI n,uI o,uI p,uI g,uI i]:=by
  rw[b];have D:=(((((((((C.out.bF 0 (uI j)).bF 1 (uI k)).bF 2 (uI l)).bF 3 (uI m)).bF 4 (uI n)).bF 5 (uI o)).bF 6 (uI p)).bF 7 (uI g)).bF 8 (uI i));simpa using D
 (have E:bW w r:=by have:=B.out;rw[b];exact BEL);obtain⟨b6,c5,b7,c6,b8,c7,b9,c8,c0,c9,c1,d0,c2,d1,c3,d2,c4,d3⟩:=y.c9;clear b y F G H I J K L M N;refine mZ ?_;refine⟨?_,E⟩;simp
theorem Oy (c:Cf) (s:Cc) (a next:Int) (v:lV c) (z:Xf s) (x:Word a) (w:World):
  Calls Tryz.prog 124 #[.agg (cfV c),.agg #[uI s.win.cr,uI s.win.dL,uI s.win.acc,uI s.win.jF,uI s.win.gX,uI s.win.k,uI s.win.fair,uI s.round.iO,uI s.round.mX],uI a,uI next] w λt P=>t=.returned (.tuple #[.agg #[uI (yg c s a next).win.cr,uI (yg c s a next).win.dL,uI (yg c s a next).win.acc,uI (yg c s a next).win.jF,uI (yg c s a next).win.gX,uI (yg c s a next).win.k,uI (yg c s a next).win.fair,uI (yg c s a next).round.iO,uI (yg c s a next).round.mX],bV (WM s.round a)])/\bW w P:=by
 have q:=zH (Fj c s a next 4 5 17 20 v z x (by constructor<;>decide) (by constructor<;>decide) (by constructor<;>decide) (by constructor<;>decide));(have A:yg c s a next=oV c s a next 4 5 17 20:=rfl);rw[A];clear A z v x;generalize WM s.round a=Y at*
 generalize oV c s a next 4 5 17 20=Q at*
 obtain⟨T,b3,d4,W,d5,b2,a9,U,b1,b4,first,b0,V,Z,R,S,X⟩:=c;obtain⟨⟨d6,d7,d8,d9,e0,e1,e2⟩,⟨e3,e4⟩⟩:=s;obtain⟨⟨j,k,l,m,n,o,p⟩,⟨g,i⟩⟩:=Q;simp only at q|-;go_enter Tryz.func124,Tryz.ntmps124;go_wp2_with fail;refine(q.out _).mono ?_;rintro t e ⟨rfl,f⟩;have u:bW w e:=pY f;have d:Blk e (w.heap.size+1+1) 132 #[uI 0,uI 0,uI 0,uI 0,uI 0,uI 0,uI 0,uI 0,uI 0]:=iK f;obtain⟨F,a0,G,a1,H,a2,I,a3,J,a4,K,a5,L,a6,M,a7,N,a8⟩:=d.c9;have O:w.heap.size+1+1<e.heap.size:=d.lt;have C:=zH d;clear d;have B:=zH u;clear f u;obtain⟨_,b5,_⟩:=rU O
 iterate 18 (first|go_values|go_skip|go_guarded|go_step|go_upon|go_back|go_simp)
 obtain⟨r,b⟩:=eX ((((((((((e.setCell ⟨w.heap.size+1+1,0,none⟩ (uI j)).setCell ⟨w.heap.size+1+1,1,none⟩ (uI k)).setCell ⟨w.heap.size+1+1,2,none⟩ (uI l)).setCell ⟨w.heap.size+1+1,3,none⟩ (uI m)).setCell ⟨w.heap.size+1+1,4,none⟩ (uI n)).setCell ⟨w.heap.size+1+1,5,none⟩ (uI o)).setCell ⟨w.heap.size+1+1,6,none⟩ (uI p)).setCell ⟨w.heap.size+1+1,7,none⟩ (uI g)).setCell ⟨w.heap.size+1+1,8,none⟩ (uI i)));rw[<-b];have y:Blk r (w.heap.size+1+1) 132 #[uI j,uI k,uI l,uI m,uI n,uI o,uI p,uI g,uI i]:=by
  rw[b];have D:=(((((((((C.out.bF 0 (uI j)).bF 1 (uI k)).bF 2 (uI l)).bF 3 (uI m)).bF 4 (uI n)).bF 5 (uI o)).bF 6 (uI p)).bF 7 (uI g)).bF 8 (uI i));simpa using D
 (have E:bW w r:=by have:=B.out;rw[b];exact BEL);obtain⟨b6,c5,b7,c6,b8,c7,b9,c8,c0,c9,c1,d0,c2,d1,c3,d2,c4,d3⟩:=y.c9;clear b y F G H I J K L M N;refine mZ ?_;refine⟨?_,E⟩;simp
end Go.Proofs.YtiflndepmgnojaaGreat
