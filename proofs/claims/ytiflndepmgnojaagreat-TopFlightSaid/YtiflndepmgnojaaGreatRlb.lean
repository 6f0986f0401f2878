import Derived.Test.YtiflndepmgnojaaGreatRga
namespace Go.Proofs.YtiflndepmgnojaaGreat
open Go.RowKit Tryz
set_option linter.unusedSectionVars false
set_option linter.unusedSimpArgs false
set_option linter.unusedVariables false
set_option maxHeartbeats 16000000
set_option maxRecDepth 100000
variable {K:Act->World->Prop} {w w':World} {c b k m p:Nat} {C:Array Value} {D:Wo} {V:List Value} {l:List Int} {t:TypeId}
def Yb (n:Nat):Code->Option (Array Oper)
 | .region m ops true=>if m=n then some ops else none
 | .seq a b=>(Yb n a).or (Yb n b)
 | .cond _ a b=>(Yb n a).or (Yb n b)
 | .loop c=>Yb n c
 | .block _ c=>Yb n c
 | .scope c=>Yb n c
 |_=>none
def TP:List (List Nat):=[[],[0],[1],[2],[3],[4,3],[5,3],[3,6],[],[8],[9],[],[11],[12],[13,3],[14],[15,14],[16,14],[14,17],[],[19],[20],[],[22],[23],[24,14],[25],[26,25],[27,25],[25,28],[],[30],[31],[32,25],[33],[34,33],[35,33],[33,36],[],[38],[],[40],[39,41],[42,33],[43],[44,43],[43],[46,43],[45,47,43],[43,48],[],[50],[],[52],[53,43],[51,54],[],[56],[],[58],[57,59],[60,54],[61],[62,61],[63,61],[61,64],[],[66],[67],[68,61],[69],[70,69],[71,69],[69,72],[],[74],[75],[76,69],[77],[78,77],[79,77],[77,80],[],[82],[83],[84,77],[85],[86,85],[87,85],[85,88],[],[90],[],[92],[91,93],[94,85],[95],[96,95],[97,95],[95,98],[],[100],[],[102],[101,103],[104,95],[105],[106,105],[107,105],[105,108],[],[110],[111],[112,105],[113],[114,113],[115,113],[113,116],[],[118],[119],[120,113],[121],[122,121],[123,121],[121,124],[],[126],[127],[128,121],[129],[130,129],[131,129],[129,132],[7,10,18,21,29,37,49,55,65,73,81,89,99,109,117,125,133],[],[135,134,129,0,1,2,3,4,5,6,7,8,9,10,11,12,13,14,15,16,17,18,19,20,21,22,23,24,25,26,27,28,29,30,31,32,33,34,35,36,37,38,39,40,41,42,43,44,45,46,47,48,49,50,51,52,53,54,55,56,57,58,59,60,61,62,63,64,65,66,67,68,69,70,71,72,73,74,75,76,77,78,79,80,81,82,83,84,85,86,87,88,89,90,91,92,93,94,95,96,97,98,99,100,101,102,103,104,105,106,107,108,109,110,111,112,113,114,115,116,117,118,119,120,121,122,123,124,125,126,127,128,129,130,131,132,133,134,135]]
def TN:List Nat:=[6,7,8,9,10,11,12,13,14,15,16,17,18,19,20,21,22,23,24,25,26,27,28,29,30,31,32,33,34,35,36,37,38,39,40,41,42,43,44,45,46,47,48,49,50,51,52,53,54,55,56,57,58,59,60,61,62,63,64,65,66,67,68,69,70,71,72,73,74,75,76,77,78,79,80,81,82,83,84,85,86,87,88,89,90,91,92,93,94,95,96,97,98,99,100,101,102,103,104,105,106,107,108,109,110,111,112,113,114,115,116,117,118,119,120,121,122,123,124,125,126,127,128,129,130,131,132,133,134,135,136,137,138,139,140,4,0]
def TM:List (List Nat):=[[1],[5],[6],[7],[1,8],[9,8],[10,8],[8,11],[1],[13],[14],[1],[16],[17],[18],[1,19],[20,19],[21,19],[19,22],[1],[24],[25],[1],[27],[28],[29],[1,30],[31,30],[32,30],[30,33],[1],[35],[36],[37],[1,38],[39,38],[40,38],[38,41],[1],[43],[1],[45],[44,46],[47],[1,48],[49,48],[1,48],[51,48],[50,52,48],[48,53],[1],[55],[1],[57],[58],[56,59],[1],[61],[1],[63],[62,64],[65],[1,66],[67,66],[68,66],[66,69],[1],[71],[72],[73],[1,74],[75,74],[76,74],[74,77],[1],[79],[80],[81],[1,82],[83,82],[84,82],[82,85],[1],[87],[88],[89],[1,90],[91,90],[92,90],[90,93],[1],[95],[1],[97],[96,98],[99],[1,100],[101,100],[102,100],[100,103],[1],[105],[1],[107],[106,108],[109],[1,110],[111,110],[112,110],[110,113],[1],[115],[116],[117],[1,118],[119,118],[120,118],[118,121],[1],[123],[124],[125],[1,126],[127,126],[128,126],[126,129],[1],[131],[132],[133],[1,134],[135,134],[136,134],[134,137],[12,15,23,26,34,42,54,60,70,78,86,94,104,114,122,130,138],[],[3,139]]
theorem tv {P:Program} {ops:Array Oper} {S:World->Prop} {c:Act->Prop} {i:Nat} {t:List Nat} {o:Oper} {a a':Act} {v:Value} (d:Tmp) (h:Di P ops S c t a') (g:ops[i]?=some o:=by exact rfl) (f:o.dst=some d:=by kernel_rfl) (j:Region.wanted o (yielded ops a.tmps)=true:=by kernel_rfl) (hy:∀b,S b->(execOp a.eval o).run P b=.ok (.value v) b:=by intro l k;exact gS) (e:a.put (some d) v=a':=by simp only[aP];exact rfl):Di P ops S c (i::t) a:=
 Di.val g (some d) f j hy e h
theorem tc {P:Program} {ops:Array Oper} {S:World->Prop} {e:Act->Prop} {i:Nat} {t:List Nat} {o:Oper} {a a':Act} {v:Value} (d:Tmp) (b k:Nat) (h:Di P ops S e t a') (l:ops[i]?=some o:=by exact rfl) (j:o.dst=some d:=by kernel_rfl) (m:Region.wanted o (yielded ops a.tmps)=true:=by kernel_rfl) (n:∀c,S c->c.cell? ⟨b,k,none⟩=some v:=by exact λc h=>h.Wu _) (hy:∀c,S c->c.cell? ⟨b,k,none⟩=some v->(execOp a.eval o).run P c=.ok (.value v) c:=by intro r p q;exact gS) (g:a.put (some d) v=a':=by simp only[aP];exact rfl):Di P ops S e (i::t) a:=
 Di.val l (some d) j m (λc f=>hy c f (n c f)) g h
abbrev T17:List Value:=[bV true,bV true,bV true,bV true,bV true,bV true,bV true,bV true,bV true,bV true,bV true,bV true,bV true,bV true,bV true,bV true,bV true]
abbrev upd (l:List Value) (t:List (Nat×Value)):List Value:=t.foldl (λl p=>l.set p.1 p.2) l
theorem uP:(∀(b:List Value) (e:Nat×Value) (g:List (Nat×Value)),upd b (e::g)=upd (b.set e.1 e.2) g)/\(∀b:List Value,upd b []=b)/\(∀(a:Value) (d:Nat),List.replicate (d+1) a=a::List.replicate d a)/\(∀a:Value,List.replicate 0 a=[])/\(∀(a:Value) (b f:List Value),a::b++f=a::(b++f))/\(∀b:List Value,[]++b=b)/\(∀(a c:Value) (b:List Value) (d:Nat),(a::b).set (d+1) c=a::b.set d c)/\∀(a c:Value) (b:List Value),(a::b).set 0 c=c::b:=
 ⟨λ_ _ _=>rfl,λ_=>rfl,λ_ _=>rfl,λ_=>rfl,λ_ _ _=>rfl,λ_=>rfl,λ_ _ _ _=>rfl,λ_ _ _=>rfl⟩
def fr0 (c0:Nat) (x0 b:Value) (C:Cf) (z:Bool):List Value:=[x0,pT c0,jI 0,b]++List.replicate 146 undef
def fr1 (c0:Nat) (x0 b:Value) (C:Cf) (z:Bool):List Value:=upd (fr0 c0 x0 b C z) [(5,(pT c0)),(6,jI C.bits),(7,bV true),(8,bV true),(9,(pT c0)),(10,jI C.bits),(11,bV true),(12,bV true),(13,.pointer (some ⟨c0,1,none⟩)),(14,uI C.one),(15,bV true),(16,.pointer (some ⟨c0,2,none⟩)),(17,jI C.ring),(18,bV true),(19,bV true),(20,.pointer (some ⟨c0,2,none⟩)),(21,jI C.ring),(22,bV true),(23,bV true),(24,.pointer (some ⟨c0,3,none⟩)),(25,uI C.dO),(26,bV true),(27,.pointer (some ⟨c0,4,none⟩)),(28,jI C.room),(29,bV true),(30,bV true),(31,.pointer (some ⟨c0,4,none⟩)),(32,jI C.room),(33,bV true),(34,bV true)]
def fr2 (c0:Nat) (x0 b:Value) (C:Cf) (z:Bool):List Value:=upd (fr1 c0 x0 b C z) [(35,.pointer (some ⟨c0,5,none⟩)),(36,uI C.mss),(37,bV true),(38,bV true),(39,.pointer (some ⟨c0,5,none⟩)),(40,uI C.mss),(41,bV true),(42,bV true),(43,.pointer (some ⟨c0,6,none⟩)),(44,uI C.jD),(45,.pointer (some ⟨c0,7,none⟩)),(46,uI C.bn),(47,bV true),(48,bV true),(49,.pointer (some ⟨c0,6,none⟩)),(50,uI C.jD),(51,.pointer (some ⟨c0,8,none⟩)),(52,uI C.most),(53,bV true),(54,bV true),(55,.pointer (some ⟨c0,7,none⟩)),(56,uI C.bn),(57,.pointer (some ⟨c0,5,none⟩)),(58,uI C.mss),(61,.pointer (some ⟨c0,8,none⟩)),(62,uI C.most),(63,.pointer (some ⟨c0,7,none⟩)),(64,uI C.bn),(65,bV true),(71,.pointer (some ⟨c0,9,none⟩))]
def fr3 (c0:Nat) (x0 b:Value) (C:Cf) (z:Bool):List Value:=upd (fr2 c0 x0 b C z) [(72,jI C.pX),(73,bV z),(79,.pointer (some ⟨c0,10,none⟩)),(80,uI C.first),(81,bV true),(87,.pointer (some ⟨c0,11,none⟩)),(88,uI C.jc),(89,bV true),(95,.pointer (some ⟨c0,12,none⟩)),(96,uI C.cap),(97,.pointer (some ⟨c0,11,none⟩)),(98,uI C.jc),(99,bV true),(105,.pointer (some ⟨c0,13,none⟩)),(106,uI C.gD),(107,.pointer (some ⟨c0,5,none⟩)),(108,uI C.mss),(109,bV true),(115,.pointer (some ⟨c0,14,none⟩)),(116,uI C.WL),(117,bV true),(123,.pointer (some ⟨c0,15,none⟩)),(124,jI C.bE),(125,bV true),(131,.pointer (some ⟨c0,16,none⟩)),(132,uI C.every),(133,bV true)]
def fr4 (c0:Nat) (x0 b:Value) (C:Cf):List Value:=upd (fr3 c0 x0 b C true) [(59,uI (2*C.mss))]
def fr5 (c0:Nat) (x0 b:Value) (C:Cf):List Value:=upd (fr4 c0 x0 b C) [(60,bV true),(66,bV true),(67,.pointer (some ⟨c0,8,none⟩)),(68,uI C.most),(69,bV true),(70,bV true),(74,bV true),(78,bV true),(82,bV true),(83,.pointer (some ⟨c0,10,none⟩)),(84,uI C.first),(85,bV true),(86,bV true),(90,bV true),(91,.pointer (some ⟨c0,11,none⟩)),(92,uI C.jc),(93,bV true),(94,bV true),(100,bV true),(101,.pointer (some ⟨c0,12,none⟩)),(102,uI C.cap),(103,bV true),(104,bV true),(110,bV true),(111,.pointer (some ⟨c0,13,none⟩)),(112,uI C.gD),(113,bV true)]
def fr6 (c0:Nat) (x0 b:Value) (C:Cf):List Value:=upd (fr5 c0 x0 b C) [(114,bV true),(118,bV true),(119,.pointer (some ⟨c0,14,none⟩)),(120,uI C.WL),(121,bV true),(122,bV true),(126,bV true),(127,.pointer (some ⟨c0,15,none⟩)),(128,jI C.bE),(129,bV true),(130,bV true),(134,bV true),(135,.pointer (some ⟨c0,16,none⟩)),(136,uI C.every),(137,bV true),(138,bV true),(139,.agg #[bV true,bV true,bV true,bV true,bV true,bV true,bV true,bV true,bV true,bV true,bV true,bV true,bV true,bV true,bV true,bV true,bV true])]
def fr7 (c0:Nat) (x0 b:Value) (C:Cf):List Value:=upd (fr3 c0 x0 b C false) [(59,uI (2*C.mss))]
def fr8 (c0:Nat) (x0 b:Value) (C:Cf):List Value:=upd (fr7 c0 x0 b C) [(60,bV true),(66,bV true),(67,.pointer (some ⟨c0,8,none⟩)),(68,uI C.most),(69,bV true),(70,bV true),(74,bV false),(75,.pointer (some ⟨c0,9,none⟩)),(76,jI C.pX),(77,bV true),(78,bV true),(82,bV true),(83,.pointer (some ⟨c0,10,none⟩)),(84,uI C.first),(85,bV true),(86,bV true),(90,bV true),(91,.pointer (some ⟨c0,11,none⟩)),(92,uI C.jc),(93,bV true),(94,bV true),(100,bV true),(101,.pointer (some ⟨c0,12,none⟩)),(102,uI C.cap),(103,bV true),(104,bV true),(110,bV true),(111,.pointer (some ⟨c0,13,none⟩)),(112,uI C.gD),(113,bV true)]
def fr9 (c0:Nat) (x0 b:Value) (C:Cf):List Value:=upd (fr8 c0 x0 b C) [(114,bV true),(118,bV true),(119,.pointer (some ⟨c0,14,none⟩)),(120,uI C.WL),(121,bV true),(122,bV true),(126,bV true),(127,.pointer (some ⟨c0,15,none⟩)),(128,jI C.bE),(129,bV true),(130,bV true),(134,bV true),(135,.pointer (some ⟨c0,16,none⟩)),(136,uI C.every),(137,bV true),(138,bV true),(139,.agg #[bV true,bV true,bV true,bV true,bV true,bV true,bV true,bV true,bV true,bV true,bV true,bV true,bV true,bV true,bV true,bV true,bV true])]
section
variable {Q:X7} (hQ:∀d v c (a:Act) w,Q (.panic c) (a.put d v) w->Q (.panic c) a w) {ops:Array Oper} (hO:ops=(Tryz.f150.body.bind (Yb 1)).getD #[]) (c0:Nat) (x0:Value) (C:Cf)
 (e1:1<=C.bits) (e2:C.bits<=64) (f4:(C.one !=1)=true) (e5:4<=C.ring) (e6:C.ring<=256) (e8:C.dO<=4611686018427387903) (e9:1<=C.room) (e10:C.room<=65536) (c1:1<=C.mss) (c2:C.mss<=1500) (c3:2*C.mss<=C.bn) (c4:C.bn<=C.jD) (c5:C.jD<=C.most) (c6:C.most<=1073741824)
  (d1:1<=C.first) (d2:C.first<=1099511627776) (d3:1<=C.jc) (d4:C.jc<=1099511627776) (d5:C.jc<=C.cap) (d6:C.cap<=1099511627776) (d7:C.mss<=C.gD) (d8:C.gD<=1073741824) (d9:1<=C.WL) (d10:C.WL<=4294967296) (d11:0<=C.bE) (d12:C.bE<=64) (d13:1<=C.every) (d14:C.every<=1099511627776) (f7:C.bn<=C.most)
include hQ hO e1 e2 f4 e5 e6 e8 e9 e10 c1 c2 c3 c4 c5 c6 d1 d2 d3 d4 d5 d6 d7 d8 d9 d10 d11 d12 d13 d14 f7
theorem Vf (f:Value) (z:Bool) (l:(C.pX==1)=z) (e m c:Nat) (b:World) (j:Blk b c0 32 (cfV C)) (g:T7 TP TN TM [0,1,2,3,4,5,6,7,8,9,10,11,12,13,14,15,16,17,18,19,20,21,22,23,24,25,26,27,28,29] m=true) (i:[0,1,2,3,4,5,6,7,8,9,10,11,12,13,14,15,16,17,18,19,20,21,22,23,24,25,26,27,28,29].foldl (λm k=>m|||2^k) m=c)
  (h:Go.wpAnyH prog .any ops Q (λd=>Blk d c0 32 (cfV C)) e (XH ops.size c) ⟨(fr1 c0 x0 f C z).toArray,[]⟩ b):Go.wpAnyH prog .any ops Q (λd=>Blk d c0 32 (cfV C)) (e+30) (XH ops.size m) ⟨(fr0 c0 x0 f C z).toArray,[]⟩ b:=by
 conv at hO=>rhs;whnf
 subst hO;simp only[fr0,uP];refine TF (A:=TP) (D:=TN) (K:=TM) kR kR kR kR hQ j _ _ m c _ _ rfl g i ?_;refine tv 5 ?_;refine tc 6 c0 0 ?_;refine tv 7 ?_;refine tv 8 ?_;refine tv 9 ?_;refine tc 10 c0 0 ?_;refine tv 11 ?_;refine tv 12 ?_;refine tv 13 ?_;refine tc 14 c0 1 ?_;refine tv 15 ?_;refine tv 16 ?_;refine tc 17 c0 2 ?_;refine tv 18 ?_;refine tv 19 ?_;refine tv 20 ?_;refine tc 21 c0 2 ?_;refine tv 22 ?_;refine tv 23 ?_;refine tv 24 ?_;refine tc 25 c0 3 ?_;refine tv 26 ?_;refine tv 27 ?_;refine tc 28 c0 4 ?_;refine tv 29 ?_;refine tv 30 ?_;refine tv 31 ?_;refine tc 32 c0 4 ?_;refine tv 33 ?_;refine tv 34 ?_;simp only[fr1,fr0,uP]at h;exact h
theorem Vd (f:Value) (z:Bool) (l:(C.pX==1)=z) (e m c:Nat) (b:World) (j:Blk b c0 32 (cfV C)) (g:T7 TP TN TM [30,31,32,33,34,35,36,37,38,39,40,41,42,43,44,45,46,47,48,49,50,51,52,53,56,57,58,59,60,66] m=true) (i:[30,31,32,33,34,35,36,37,38,39,40,41,42,43,44,45,46,47,48,49,50,51,52,53,56,57,58,59,60,66].foldl (λm k=>m|||2^k) m=c)
  (h:Go.wpAnyH prog .any ops Q (λd=>Blk d c0 32 (cfV C)) e (XH ops.size c) ⟨(fr2 c0 x0 f C z).toArray,[]⟩ b):Go.wpAnyH prog .any ops Q (λd=>Blk d c0 32 (cfV C)) (e+30) (XH ops.size m) ⟨(fr1 c0 x0 f C z).toArray,[]⟩ b:=by
 conv at hO=>rhs;whnf
 subst hO;simp only[fr1,fr0,uP];refine TF (A:=TP) (D:=TN) (K:=TM) kR kR kR kR hQ j _ _ m c _ _ rfl g i ?_;refine tv 35 ?_;refine tc 36 c0 5 ?_;refine tv 37 ?_;refine tv 38 ?_;refine tv 39 ?_;refine tc 40 c0 5 ?_;refine tv 41 ?_;refine tv 42 ?_;refine tv 43 ?_;refine tc 44 c0 6 ?_;refine tv 45 ?_;refine tc 46 c0 7 ?_;refine tv 47 ?_;refine tv 48 ?_;refine tv 49 ?_;refine tc 50 c0 6 ?_;refine tv 51 ?_;refine tc 52 c0 8 ?_;refine tv 53 ?_;refine tv 54 ?_;refine tv 55 ?_;refine tc 56 c0 7 ?_;refine tv 57 ?_;refine tc 58 c0 5 ?_;refine tv 61 ?_;refine tc 62 c0 8 ?_;refine tv 63 ?_;refine tc 64 c0 7 ?_;refine tv 65 ?_;refine tv 71 ?_;simp only[fr2,fr1,fr0,uP]at h;exact h
theorem Vb (f:Value) (z:Bool) (l:(C.pX==1)=z) (e m c:Nat) (b:World) (j:Blk b c0 32 (cfV C)) (g:T7 TP TN TM [67,68,74,75,76,82,83,84,90,91,92,93,94,100,101,102,103,104,110,111,112,118,119,120,126,127,128] m=true) (i:[67,68,74,75,76,82,83,84,90,91,92,93,94,100,101,102,103,104,110,111,112,118,119,120,126,127,128].foldl (λm k=>m|||2^k) m=c)
  (h:Go.wpAnyH prog .any ops Q (λd=>Blk d c0 32 (cfV C)) e (XH ops.size c) ⟨(fr3 c0 x0 f C z).toArray,[]⟩ b):Go.wpAnyH prog .any ops Q (λd=>Blk d c0 32 (cfV C)) (e+27) (XH ops.size m) ⟨(fr2 c0 x0 f C z).toArray,[]⟩ b:=by
 conv at hO=>rhs;whnf
 subst hO;simp only[fr2,fr1,fr0,uP];refine TF (A:=TP) (D:=TN) (K:=TM) kR kR kR kR hQ j _ _ m c _ _ rfl g i ?_;refine tc 72 c0 9 ?_;refine tv 73 ?_;refine tv 79 ?_;refine tc 80 c0 10 ?_;refine tv 81 ?_;refine tv 87 ?_;refine tc 88 c0 11 ?_;refine tv 89 ?_;refine tv 95 ?_;refine tc 96 c0 12 ?_;refine tv 97 ?_;refine tc 98 c0 11 ?_;refine tv 99 ?_;refine tv 105 ?_;refine tc 106 c0 13 ?_;refine tv 107 ?_;refine tc 108 c0 5 ?_;refine tv 109 ?_;refine tv 115 ?_;refine tc 116 c0 14 ?_;refine tv 117 ?_;refine tv 123 ?_;refine tc 124 c0 15 ?_;refine tv 125 ?_;refine tv 131 ?_;refine tc 132 c0 16 ?_;refine tv 133 ?_;simp only[fr3,fr2,fr1,fr0,uP]at h;exact h
theorem Vw (f:Value) (e m c:Nat) (b:World) (j:Blk b c0 32 (cfV C)) (g:T7 TP TN TM [55,61,62,63,64,65,69,70,71,72,73,77,78,79,80,81,85,86,87,88,89,95,96,97,98,99,105,106,107,108] m=true) (i:[55,61,62,63,64,65,69,70,71,72,73,77,78,79,80,81,85,86,87,88,89,95,96,97,98,99,105,106,107,108].foldl (λm k=>m|||2^k) m=c)
  (h:Go.wpAnyH prog .any ops Q (λd=>Blk d c0 32 (cfV C)) e (XH ops.size c) ⟨(fr5 c0 x0 f C).toArray,[]⟩ b):Go.wpAnyH prog .any ops Q (λd=>Blk d c0 32 (cfV C)) (e+30) (XH ops.size m) ⟨(fr4 c0 x0 f C).toArray,[]⟩ b:=by
 conv at hO=>rhs;whnf
 subst hO;simp only[fr4,fr3,fr2,fr1,fr0,uP];refine TF (A:=TP) (D:=TN) (K:=TM) kR kR kR kR hQ j _ _ m c _ _ rfl g i ?_;refine tv 60 ?_;refine tv 66 ?_;refine tv 67 ?_;refine tc 68 c0 8 ?_;refine tv 69 ?_;refine tv 70 ?_;refine tv 74 ?_;refine Di.und rfl (some 75) rfl kR (by simp only[aP];exact rfl) ?_;refine Di.und rfl (some 76) rfl kR (by simp only[aP];exact rfl) ?_;refine Di.und rfl (some 77) rfl kR (by simp only[aP];exact rfl) ?_;refine tv 78 ?_;refine tv 82 ?_;refine tv 83 ?_;refine tc 84 c0 10 ?_;refine tv 85 ?_;refine tv 86 ?_;refine tv 90 ?_;refine tv 91 ?_;refine tc 92 c0 11 ?_;refine tv 93 ?_;refine tv 94 ?_;refine tv 100 ?_;refine tv 101 ?_;refine tc 102 c0 12 ?_;refine tv 103 ?_;refine tv 104 ?_;refine tv 110 ?_;refine tv 111 ?_;refine tc 112 c0 13 ?_;refine tv 113 ?_;simp only[fr5,fr4,fr3,fr2,fr1,fr0,uP]at h;exact h
theorem Vv (f:Value) (e m c:Nat) (b:World) (j:Blk b c0 32 (cfV C)) (g:T7 TP TN TM [109,113,114,115,116,117,121,122,123,124,125,129,130,131,132,133,134] m=true) (i:[109,113,114,115,116,117,121,122,123,124,125,129,130,131,132,133,134].foldl (λm k=>m|||2^k) m=c)
  (h:Go.wpAnyH prog .any ops Q (λd=>Blk d c0 32 (cfV C)) e (XH ops.size c) ⟨(fr6 c0 x0 f C).toArray,[]⟩ b):Go.wpAnyH prog .any ops Q (λd=>Blk d c0 32 (cfV C)) (e+17) (XH ops.size m) ⟨(fr5 c0 x0 f C).toArray,[]⟩ b:=by
 conv at hO=>rhs;whnf
 subst hO;simp only[fr5,fr4,fr3,fr2,fr1,fr0,uP];refine TF (A:=TP) (D:=TN) (K:=TM) kR kR kR kR hQ j _ _ m c _ _ rfl g i ?_;refine tv 114 ?_;refine tv 118 ?_;refine tv 119 ?_;refine tc 120 c0 14 ?_;refine tv 121 ?_;refine tv 122 ?_;refine tv 126 ?_;refine tv 127 ?_;refine tc 128 c0 15 ?_;refine tv 129 ?_;refine tv 130 ?_;refine tv 134 ?_;refine tv 135 ?_;refine tc 136 c0 16 ?_;refine tv 137 ?_;refine tv 138 ?_;refine tv 139 ?_;simp only[fr6,fr5,fr4,fr3,fr2,fr1,fr0,uP]at h;exact h
theorem Vu (f:Value) (l:(C.pX==2)=true) (e m c:Nat) (b:World) (j:Blk b c0 32 (cfV C)) (g:T7 TP TN TM [55,61,62,63,64,65,69,70,71,72,73,77,78,79,80,81,85,86,87,88,89,95,96,97,98,99,105,106,107,108] m=true) (i:[55,61,62,63,64,65,69,70,71,72,73,77,78,79,80,81,85,86,87,88,89,95,96,97,98,99,105,106,107,108].foldl (λm k=>m|||2^k) m=c)
  (h:Go.wpAnyH prog .any ops Q (λd=>Blk d c0 32 (cfV C)) e (XH ops.size c) ⟨(fr8 c0 x0 f C).toArray,[]⟩ b):Go.wpAnyH prog .any ops Q (λd=>Blk d c0 32 (cfV C)) (e+30) (XH ops.size m) ⟨(fr7 c0 x0 f C).toArray,[]⟩ b:=by
 conv at hO=>rhs;whnf
 subst hO;simp only[fr7,fr3,fr2,fr1,fr0,uP];refine TF (A:=TP) (D:=TN) (K:=TM) kR kR kR kR hQ j _ _ m c _ _ rfl g i ?_;refine tv 60 ?_;refine tv 66 ?_;refine tv 67 ?_;refine tc 68 c0 8 ?_;refine tv 69 ?_;refine tv 70 ?_;refine tv 74 ?_;refine tv 75 ?_;refine tc 76 c0 9 ?_;refine tv 77 ?_;refine tv 78 ?_;refine tv 82 ?_;refine tv 83 ?_;refine tc 84 c0 10 ?_;refine tv 85 ?_;refine tv 86 ?_;refine tv 90 ?_;refine tv 91 ?_;refine tc 92 c0 11 ?_;refine tv 93 ?_;refine tv 94 ?_;refine tv 100 ?_;refine tv 101 ?_;refine tc 102 c0 12 ?_;refine tv 103 ?_;refine tv 104 ?_;refine tv 110 ?_;refine tv 111 ?_;refine tc 112 c0 13 ?_;refine tv 113 ?_;simp only[fr8,fr7,fr3,fr2,fr1,fr0,uP]at h;exact h
theorem Vt (f:Value) (l:(C.pX==2)=true) (e m c:Nat) (b:World) (j:Blk b c0 32 (cfV C)) (g:T7 TP TN TM [109,113,114,115,116,117,121,122,123,124,125,129,130,131,132,133,134] m=true) (i:[109,113,114,115,116,117,121,122,123,124,125,129,130,131,132,133,134].foldl (λm k=>m|||2^k) m=c)
  (h:Go.wpAnyH prog .any ops Q (λd=>Blk d c0 32 (cfV C)) e (XH ops.size c) ⟨(fr9 c0 x0 f C).toArray,[]⟩ b):Go.wpAnyH prog .any ops Q (λd=>Blk d c0 32 (cfV C)) (e+17) (XH ops.size m) ⟨(fr8 c0 x0 f C).toArray,[]⟩ b:=by
 conv at hO=>rhs;whnf
 subst hO;simp only[fr8,fr7,fr3,fr2,fr1,fr0,uP];refine TF (A:=TP) (D:=TN) (K:=TM) kR kR kR kR hQ j _ _ m c _ _ rfl g i ?_;refine tv 114 ?_;refine tv 118 ?_;refine tv 119 ?_;refine tc 120 c0 14 ?_;refine tv 121 ?_;refine tv 122 ?_;refine tv 126 ?_;refine tv 127 ?_;refine tc 128 c0 15 ?_;refine tv 129 ?_;refine tv 130 ?_;refine tv 134 ?_;refine tv 135 ?_;refine tc 136 c0 16 ?_;refine tv 137 ?_;refine tv 138 ?_;refine tv 139 ?_;simp only[fr9,fr8,fr7,fr3,fr2,fr1,fr0,uP]at h;exact h
theorem rckR1 (s:(C.pX==1)=true) (y:X3 (∀g,Yk 207 #[uI 2,uI C.mss] g λM V=>M=.returned (uI (2*C.mss))/\g=V))
  (wc:World) (A:Blk wc c0 32 (cfV C)) (o:∀q p,(X3 (bW wc p)/\X3 (Blk p q 340 T17.toArray)/\wc.heap.size<=q)->Q .normal ⟨(fr6 c0 x0 ((pT q)) C).toArray,[]⟩ p):(Code.region 1 ops true).wp prog Q ⟨(fr0 c0 x0 undef C true).toArray,[]⟩ wc:=by
 (have w:ops.size=137:=by rw[hO];kernel_rfl);have e:bW wc wc.drew:=bA (aj _ _);have b:=A.below e A.lt;refine aZ (S:=(λg=>Blk g c0 32 (cfV C))) kR b (λR=>?_);clear R;(have z:Array.replicate ops.size false=XH ops.size 0:=by rw[w];kernel_rfl);rw[z];suffices U:∀r,r=137->Go.wpAnyH prog .any ops Q (λg=>Blk g c0 32 (cfV C)) r (XH ops.size 0) ⟨(fr0 c0 x0 undef C true).toArray,[]⟩ wc.drew from U _ w;intro r T;subst T;refine Vf hQ hO c0 x0 C e1 e2 f4 e5 e6 e8 e9 e10 c1 c2 c3 c4 c5 c6 d1 d2 d3 d4 d5 d6 d7 d8 d9 d10 d11 d12 d13 d14 f7 undef true s 107 0 1073741823 _ b kR kR ?_;refine Vd hQ hO c0 x0 C e1 e2 f4 e5 e6 e8 e9 e10 c1 c2 c3 c4 c5 c6 d1 d2 d3 d4 d5 d6 d7 d8 d9 d10 d11 d12 d13 d14 f7 undef true s 77 1073741823 76038776108523454463 _ b kR kR ?_;refine Vb hQ hO c0 x0 C e1 e2 f4 e5 e6 e8 e9 e10 c1 c2 c3 c4 c5 c6 d1 d2 d3 d4 d5 d6 d7 d8 d9 d10 d11 d12 d13 d14 f7 undef true s 50 76038776108523454463 597829416959347080747766752493843775487 _ b kR kR ?_;have m:=Vw hQ hO c0 x0 C e1 e2 f4 e5 e6 e8 e9 e10 c1 c2 c3 c4 c5 c6 d1 d2 d3 d4 d5 d6 d7 d8 d9 d10 d11 d12 d13 d14 f7;simp only[fr5,fr4,fr3,fr2,fr1,fr0,uP]at m;have n:=Vv hQ hO c0 x0 C e1 e2 f4 e5 e6 e8 e9 e10 c1 c2 c3 c4 c5 c6 d1 d2 d3 d4 d5 d6 d7 d8 d9 d10 d11 d12 d13 d14 f7;simp only[fr6,fr5,fr4,fr3,fr2,fr1,fr0,uP]at n
 conv at hO=>rhs;whnf
 subst hO;clear z w;simp only[fr3,fr2,fr1,fr0,uP];simp only[fr6,fr5,fr4,fr3,fr2,fr1,fr0,uP]at o;refine fo 54 135 kR ?_ ?_
 .refine opC 59 207 #[uI 2,uI C.mss] ((y.o _).mono ?_)
  rintro N W ⟨k,rfl⟩;refine⟨_,k,b,?_⟩;clear k;refine mP ?_;refine m (undef) 19 597829416959347080747784766892353257471 597830026660875666640290720041702260735 _ b kR kR ?_;refine n (undef) 2 597830026660875666640290720041702260735 43556142965880123323311949751266331066367 _ b kR kR ?_;refine aI 135 kR ?_;refine opA 3 340 #[bV false,bV false,bV false,bV false,bV false,bV false,bV false,bV false,bV false,bV false,bV false,bV false,bV false,bV false,bV false,bV false,bV false] ?_;intro j Z d l u;have v:=b.below d b.lt;have E:wc.heap.size<=j:=ay e.size l;have P:=e.trans (d.mono e.size);refine⟨v,?_⟩;clear d l;refine mP ?_;have x:j≠c0:=dF u v dC;have H:=Blk.gy (Ne.symm x) T17 0 _ v;refine dJ (i:=136) 340 (.tmp 3) (.tmp 139) j 0 #[bV true,bV true,bV true,bV true,bV true,bV true,bV true,bV true,bV true,bV true,bV true,bV true,bV true,bV true,bV true,bV true,bV true] rfl kR kR kR kR kR kR (u.there _ sM) kR XF (H) ?_;intro a0 L;have I:=Blk.gF u T17 rfl;have D:bW wc (Z.setCells j 0 T17):=Below.bZ E _ _ _ P;rw[<-show a0=_ from L]at I H D;clear L;refine mP ?_;refine bg kR ?_ _;exact o j _ ⟨zH D,zH I,E⟩
 .refine opA 3 340 #[bV false,bV false,bV false,bV false,bV false,bV false,bV false,bV false,bV false,bV false,bV false,bV false,bV false,bV false,bV false,bV false,bV false] ?_
  intro c X d l t;have f:=b.below d b.lt;have F:wc.heap.size<=c:=ay e.size l;have O:=e.trans (d.mono e.size);refine⟨f,?_⟩;clear d l;refine mP ?_;refine aI 54 kR ?_;refine opC 59 207 #[uI 2,uI C.mss] ((y.o _).mono ?_);rintro N W ⟨k,rfl⟩;refine⟨_,k,f,?_⟩;clear k;refine mP ?_;refine m ((pT c)) 18 44153972382839470404059734518158684323839 44153972992540998989952240471308033327103 _ f kR kR ?_;refine n ((pT c)) 1 44153972992540998989952240471308033327103 87112285931760246646623899502532662132735 _ f kR kR ?_;have x:c≠c0:=dF t f dC;have G:=Blk.gy (Ne.symm x) T17 0 _ f;refine dJ (i:=136) 340 (.tmp 3) (.tmp 139) c 0 #[bV true,bV true,bV true,bV true,bV true,bV true,bV true,bV true,bV true,bV true,bV true,bV true,bV true,bV true,bV true,bV true,bV true] rfl kR kR kR kR kR kR (t.there _ sM) kR XF (G) ?_;intro Y K;have J:=Blk.gF t T17 rfl;have B:bW wc (X.setCells c 0 T17):=Below.bZ F _ _ _ O;rw[<-show Y=_ from K]at J G B;clear K;refine mP ?_;refine bg kR ?_ _;exact o c _ ⟨zH B,zH J,F⟩
theorem rckR2 (t:(C.pX==1)=false) (m:(C.pX==2)=true) (z:X3 (∀g,Yk 207 #[uI 2,uI C.mss] g λN W=>N=.returned (uI (2*C.mss))/\g=W))
  (wc:World) (B:Blk wc c0 32 (cfV C)) (p:∀r q,(X3 (bW wc q)/\X3 (Blk q r 340 T17.toArray)/\wc.heap.size<=r)->Q .normal ⟨(fr9 c0 x0 ((pT r)) C).toArray,[]⟩ q):(Code.region 1 ops true).wp prog Q ⟨(fr0 c0 x0 undef C false).toArray,[]⟩ wc:=by
 (have x:ops.size=137:=by rw[hO];kernel_rfl);have e:bW wc wc.drew:=bA (aj _ _);have b:=B.below e B.lt;refine aZ (S:=(λg=>Blk g c0 32 (cfV C))) kR b (λT=>?_);clear T;(have A:Array.replicate ops.size false=XH ops.size 0:=by rw[x];kernel_rfl);rw[A];suffices V:∀s,s=137->Go.wpAnyH prog .any ops Q (λg=>Blk g c0 32 (cfV C)) s (XH ops.size 0) ⟨(fr0 c0 x0 undef C false).toArray,[]⟩ wc.drew from V _ x;intro s U;subst U;refine Vf hQ hO c0 x0 C e1 e2 f4 e5 e6 e8 e9 e10 c1 c2 c3 c4 c5 c6 d1 d2 d3 d4 d5 d6 d7 d8 d9 d10 d11 d12 d13 d14 f7 undef false t 107 0 1073741823 _ b kR kR ?_;refine Vd hQ hO c0 x0 C e1 e2 f4 e5 e6 e8 e9 e10 c1 c2 c3 c4 c5 c6 d1 d2 d3 d4 d5 d6 d7 d8 d9 d10 d11 d12 d13 d14 f7 undef false t 77 1073741823 76038776108523454463 _ b kR kR ?_;refine Vb hQ hO c0 x0 C e1 e2 f4 e5 e6 e8 e9 e10 c1 c2 c3 c4 c5 c6 d1 d2 d3 d4 d5 d6 d7 d8 d9 d10 d11 d12 d13 d14 f7 undef false t 50 76038776108523454463 597829416959347080747766752493843775487 _ b kR kR ?_;have n:=Vu hQ hO c0 x0 C e1 e2 f4 e5 e6 e8 e9 e10 c1 c2 c3 c4 c5 c6 d1 d2 d3 d4 d5 d6 d7 d8 d9 d10 d11 d12 d13 d14 f7;simp only[fr8,fr7,fr3,fr2,fr1,fr0,uP]at n;have o:=Vt hQ hO c0 x0 C e1 e2 f4 e5 e6 e8 e9 e10 c1 c2 c3 c4 c5 c6 d1 d2 d3 d4 d5 d6 d7 d8 d9 d10 d11 d12 d13 d14 f7;simp only[fr9,fr8,fr7,fr3,fr2,fr1,fr0,uP]at o
 conv at hO=>rhs;whnf
 subst hO;clear A x;simp only[fr3,fr2,fr1,fr0,uP];simp only[fr9,fr8,fr7,fr3,fr2,fr1,fr0,uP]at p;refine fo 54 135 kR ?_ ?_
 .refine opC 59 207 #[uI 2,uI C.mss] ((z.o _).mono ?_)
  rintro O X ⟨k,rfl⟩;refine⟨_,k,b,?_⟩;clear k;refine mP ?_;refine n (undef) m 19 597829416959347080747784766892353257471 597830026660875666640290720041702260735 _ b kR kR ?_;refine o (undef) m 2 597830026660875666640290720041702260735 43556142965880123323311949751266331066367 _ b kR kR ?_;refine aI 135 kR ?_;refine opA 3 340 #[bV false,bV false,bV false,bV false,bV false,bV false,bV false,bV false,bV false,bV false,bV false,bV false,bV false,bV false,bV false,bV false,bV false] ?_;intro j a0 d l v;have w:=b.below d b.lt;have F:wc.heap.size<=j:=ay e.size l;have R:=e.trans (d.mono e.size);refine⟨w,?_⟩;clear d l;refine mP ?_;have y:j≠c0:=dF v w dC;have I:=Blk.gy (Ne.symm y) T17 0 _ w;refine dJ (i:=136) 340 (.tmp 3) (.tmp 139) j 0 #[bV true,bV true,bV true,bV true,bV true,bV true,bV true,bV true,bV true,bV true,bV true,bV true,bV true,bV true,bV true,bV true,bV true] rfl kR kR kR kR kR kR (v.there _ sM) kR XF (I) ?_;intro a1 M;have J:=Blk.gF v T17 rfl;have E:bW wc (a0.setCells j 0 T17):=Below.bZ F _ _ _ R;rw[<-show a1=_ from M]at J I E;clear M;refine mP ?_;refine bg kR ?_ _;exact p j _ ⟨zH E,zH J,F⟩
 .refine opA 3 340 #[bV false,bV false,bV false,bV false,bV false,bV false,bV false,bV false,bV false,bV false,bV false,bV false,bV false,bV false,bV false,bV false,bV false] ?_
  intro c Y d l u;have f:=b.below d b.lt;have G:wc.heap.size<=c:=ay e.size l;have P:=e.trans (d.mono e.size);refine⟨f,?_⟩;clear d l;refine mP ?_;refine aI 54 kR ?_;refine opC 59 207 #[uI 2,uI C.mss] ((z.o _).mono ?_);rintro O X ⟨k,rfl⟩;refine⟨_,k,f,?_⟩;clear k;refine mP ?_;refine n ((pT c)) m 18 44153972382839470404059734518158684323839 44153972992540998989952240471308033327103 _ f kR kR ?_;refine o ((pT c)) m 1 44153972992540998989952240471308033327103 87112285931760246646623899502532662132735 _ f kR kR ?_;have y:c≠c0:=dF u f dC;have H:=Blk.gy (Ne.symm y) T17 0 _ f;refine dJ (i:=136) 340 (.tmp 3) (.tmp 139) c 0 #[bV true,bV true,bV true,bV true,bV true,bV true,bV true,bV true,bV true,bV true,bV true,bV true,bV true,bV true,bV true,bV true,bV true] rfl kR kR kR kR kR kR (u.there _ sM) kR XF (H) ?_;intro Z L;have K:=Blk.gF u T17 rfl;have D:bW wc (Y.setCells c 0 T17):=Below.bZ G _ _ _ P;rw[<-show Z=_ from L]at K H D;clear L;refine mP ?_;refine bg kR ?_ _;exact p c _ ⟨zH D,zH K,G⟩
end
theorem TZ (c:Cf) (h:lV c) (w:World):
  Yk 150 #[.agg (cfV c)] w λi j=>i=.returned (jI 0)/\bW w j:=by
 obtain⟨I,K,Z,L,M,N,a0,O,P,J,n,o,p,q,r,s,Y,t,A,B,C,D,E,F,G,H,u,v,x,y,z⟩:=h;(have Q:(c.one !=1)=true:=by simpa using L);have R:c.bn<=c.most:=oM;have S:Word c.mss:=⟨oM,oM⟩;have m:X3 (∀w,Yk 207 #[uI 2,uI c.mss] w λi j=>i=.returned (uI (2*c.mss))/\w=j):=zH (λw=>(Uq 2 c.mss ⟨dC,dC⟩ S w).mono (by
  rintro i j ⟨b3,rfl,b2,a4,rfl⟩;rw[a4 oM];exact⟨rfl,rfl⟩))
 clear Z L a0 S;go_enter Tryz.func150,Tryz.ntmps150;go_upto_region 1 with fail;generalize l:w.alloc (.cells (cfV c) 32)=wc at*
 (have U:bW w wc:=by rw[<-l];exact BEL);(have T:Blk wc w.heap.size 32 (cfV c):=by rw[<-l];exact Wx _ _ _);clear l;have X:∀d b,(X3 (bW wc b)/\X3 (Blk b d 340 T17.toArray)/\wc.heap.size<=d)->bW w b/\X3 (∀e:Nat,e<17->b.cell? ⟨d,e,none⟩=some (bV true)):=λd b f=>⟨U.trans (f.1.o.mono U.size),zH (λe b1=>by
  have a1:=f.2.1.o;rcases e with _|_|_|_|_|_|_|_|_|_|_|_|_|_|_|_|_|e;all_goals first|exact a1.cell _|omega)⟩
 rcases Y with g|g;refine rckR1 (λk _ _ _ _ h=>by cases k<;>exact h) (by rfl) _ _ c I K Q M N O P J n o p q r s t A B C D E F G H u v x y z R (by rw[g];rfl) m wc T (λd b f=>?_);rotate_left;refine rckR2 (λk _ _ _ _ h=>by cases k<;>exact h) (by rfl) _ _ c I K Q M N O P J n o p q r s t A B C D E F G H u v x y z R (by rw[g];rfl) (by rw[g];rfl) m wc T (λd b f=>?_);rotate_left;all_goals
  obtain⟨V,a5⟩:=X d b f;clear g;(first|simp only[fr6,fr5,fr4,fr3,fr2,fr1,fr0,uP]|simp only[fr9,fr8,fr7,fr3,fr2,fr1,fr0,uP]);have W:=zH V;clear V;(try simp only[]);go_wp2;go_loopg [4] 17 (λe a6 wr=>∃a:Nat,a6=jI (a:Int)/\a+e=17/\wr=b);(case atStart=>exact⟨0,rfl,rfl,rfl⟩);case round=>
   obtain⟨a,rfl,b0,rfl⟩:=hrel;by_cases h:a<17
   .have a2:decide ((a:Int)<17)=true:=bM oM
    have a3:(a:Int)<17:=oM;have a7:=a5.o a h;have a8:((a:Int)).toNat=a:=Int.toNat_natCast a;have a9:IntKind.i64.wrap ((a:Int)+1)=(a:Int)+1:=eP _ ⟨oM,oM⟩;go_wp2;go_roundg (gk -1);(case measure=>omega);case rel=>exact⟨a+1,sM,oM,rfl⟩
   .have a2:decide ((a:Int)<17)=false:=bJ oM
    have a3:¬(a:Int)<17:=oM;go_wp2;go_ret;exact⟨rfl,W.o⟩
theorem UM (w:World) (c1:Array Value) (a:TypeId) (c2:Array Value) (b:TypeId):
  Blk ((w.alloc (.cells c1 a)).alloc (.cells c2 b)) w.heap.size a c1/\Blk ((w.alloc (.cells c1 a)).alloc (.cells c2 b)) (w.heap.size+1) b c2:=by
 have c:=Wx w a c1;have e:=(aj (w.alloc (.cells c1 a)).heap.size (w.alloc (.cells c1 a))).alloc (av _) (.cells c2 b);have d:=Wx (w.alloc (.cells c1 a)) b c2;have f:(w.alloc (.cells c1 a)).heap.size=w.heap.size+1:=sM;rw[f]at d;exact⟨c.below e c.lt,d⟩
structure TmI (w wr:World):Prop where
 c4:Blk wr w.heap.size 374 #[uI 0,uI 0]
 c5:∃h l:Int,Blk wr (w.heap.size+1) 374 #[uI h,uI l]
 lo:bW w wr
theorem TmI.get {w wr:World} (h:TmI w wr):∃c b:Int,wr.cell? ⟨w.heap.size+1,0,none⟩=some (uI c)/\wr.cell? ⟨w.heap.size+1,1,none⟩=some (uI b)/\wr.frozen? ⟨w.heap.size+1,0,none⟩=false/\wr.frozen? ⟨w.heap.size+1,1,none⟩=false:=by
 obtain⟨c,b,a⟩:=h.c5;exact⟨c,b,a.cell 0,a.cell 1,a.frozen 0,a.frozen 1⟩
theorem TmI.set0 {w wr:World} (h:TmI w wr) (v:Int):TmI w (wr.setCell ⟨w.heap.size+1,0,none⟩ (uI v)):=by
 obtain⟨c,b,a⟩:=h.c5;exact⟨h.c4.far (by show w.heap.size≠w.heap.size+1;omega) _,⟨_,_,a.bF 0 _⟩,h.lo.setCell (by show w.heap.size<=w.heap.size+1;omega) _⟩
theorem TmI.set1 {w wr:World} (h:TmI w wr) (v:Int):TmI w (wr.setCell ⟨w.heap.size+1,1,none⟩ (uI v)):=by
 obtain⟨c,b,a⟩:=h.c5;exact⟨h.c4.far (by show w.heap.size≠w.heap.size+1;omega) _,⟨_,_,a.bF 1 _⟩,h.lo.setCell (by show w.heap.size<=w.heap.size+1;omega) _⟩
theorem UD (a b:Int) (w:World):Yk 243 #[uI a,uI b] w λE H=>∃h c,E=.returned (.agg #[uI h,uI c])/\bW w H:=by
 go_enter Tryz.func243,Tryz.ntmps243;go_wp2_with fail;obtain⟨t,u⟩:=UM w #[uI 0,uI 0] 374 #[uI 0,uI 0] 374;generalize o:World.alloc _ _=y at*
 have n:TmI w y:=⟨t,⟨0,0,u⟩,by rw[<-o];exact BEL⟩;clear o t u;have v:=zH n;clear n;go_loopg [6] 64 (λs G wr=>G=jI ((s:Int) -1)/\X3 (TmI w wr)/\s<=64);(case atStart=>exact⟨rfl,v,dC⟩);case round=>
  obtain⟨rfl,d,Q⟩:=hrel;by_cases R:0<gk
  .have M:decide ((0:Int)<=(gk:Int) -1)=true:=bM oM
   have N:(0:Int)<=(gk:Int) -1:=oM;have O:IntKind.i64.wrap ((gk:Int) -1 -1)=(gk:Int) -1 -1:=eP _ ⟨oM,oM⟩;have m:(gk:Int) -1 -1=((gk -1:Nat):Int) -1:=oM;obtain⟨h,c,f,g,i,j⟩:=d.o.get;go_upto_region 7 with fail;generalize p:World.setCell _ _ _=z at*
   have k:X3 (TmI w z):=zH (by rw[<-p];exact(d.o.set0 _).set1 _);clear p f g i j d;go_upto_if 28 with fail;generalize(bits _ _ _ _==(1:Int))=C;cases C with
   |false=>
    go_wp2;go_roundg (gk -1);(case measure=>omega);case rel=>exact⟨by rw[<-m],k,oM⟩
   |true=>
    obtain⟨h,c,f,g,i,j⟩:=k.o.get;go_upto_region 9 with fail;generalize q:World.setCell _ _ _=A at*
    have l:X3 (TmI w A):=zH (by rw[<-q];exact k.o.set1 _);clear q f g i j k;obtain⟨h,c,f,g,i,j⟩:=l.o.get;go_upto_if 37 with fail;generalize decide (c<a)=D;cases D with
    |false=>
     go_wp2;go_roundg (gk -1);(case measure=>omega);case rel=>exact⟨by rw[<-m],l,oM⟩
    |true=>
     go_wp2_with fail;generalize r:World.setCell _ _ _=B at*
     have x:X3 (TmI w B):=zH (by rw[<-r];exact l.o.set0 _);clear r;go_roundg (gk -1);(case measure=>omega);case rel=>exact⟨by rw[<-m],x,oM⟩
  .have F:gk=0:=oM
   subst F;obtain⟨h,c,f,g,i,j⟩:=d.o.get;have e:=d.o.c4;obtain⟨I,J⟩:=e.e2 0 1;have K:=e.frozen 0;have L:=e.frozen 1;have P:decide ((0:Int)<=((0:Nat):Int) -1)=false:=dC;go_wp2;refine iZ 4 374 w.heap.size #[uI h,uI c] kR kR ((e.bF 0 _).bF 1 _) _ Tryz.underlying374 kR kR rfl ?_;exact⟨_,_,rfl,(d.o.lo.setCell (av _) _).setCell (av _) _⟩
theorem Va (e lo d:Int) (w:World):Yk 244 #[uI e,uI lo,uI d] w λl q=>∃a b g,l=.returned (.tuple #[uI a,uI b,bV g])/\w=q:=by
 go_enter Tryz.func244,Tryz.ntmps244;go_upto_if 15 with fail;generalize decide (d<=e)=j;cases j with
 |true=>
  go_wp2_with fail;go_ret3;exact⟨_,_,_,rfl,rfl⟩
 |false=>
  go_wp2;go_loopg [9,10,11] 64 (λf p n o wr=>∃a b,p=uI a/\n=uI b/\o=jI ((f:Int) -1)/\wr=w/\f<=64);(case atStart=>exact⟨_,_,rfl,rfl,rfl,rfl,dC⟩);case round=>
   obtain⟨a,b,rfl,rfl,rfl,rfl,v⟩:=hrel;by_cases x:0<gk
   .have r:decide ((0:Int)<=(gk:Int) -1)=true:=bM oM
    have s:(0:Int)<=(gk:Int) -1:=oM;have t:IntKind.i64.wrap ((gk:Int) -1 -1)=(gk:Int) -1 -1:=eP _ ⟨oM,oM⟩;have c:(gk:Int) -1 -1=((gk -1:Nat):Int) -1:=oM;go_upto_region 8 with fail;generalize(_==(1:Int))=i;cases i with
    |true=>
     go_wp2;go_roundg (gk -1);(case measure=>omega);case rel=>exact⟨_,_,rfl,rfl,by rw[<-c],rfl,oM⟩
    |false=>
     go_upto_if 39 with fail;generalize decide (d<=_)=k;cases k with
     |true=>
      go_wp2;go_roundg (gk -1);(case measure=>omega);case rel=>exact⟨_,_,rfl,rfl,by rw[<-c],rfl,oM⟩
     |false=>
      go_wp2;go_roundg (gk -1);(case measure=>omega);case rel=>exact⟨_,_,rfl,rfl,by rw[<-c],rfl,oM⟩
   .have m:gk=0:=oM
    subst m;have u:decide ((0:Int)<=((0:Nat):Int) -1)=false:=dC;go_wp2_with fail;go_ret3;exact⟨_,_,_,rfl,rfl⟩
theorem UZ (a b d:Int) (w:World):Yk 210 #[uI a,uI b,uI d] w λc l=>∃k,c=.returned (uI k)/\bW w l:=by
 go_enter Tryz.func210,Tryz.ntmps210;go_wp2_with fail;refine(UD a b w).mono ?_;rintro c m ⟨h,i,rfl,g⟩;have e:=zH g;clear g;go_wp2_with fail;refine(Va h i d _).mono ?_;rintro c p ⟨n,o,j,rfl,rfl⟩;have f:X3 (bW w (m.alloc (.cells #[uI h,uI i] 374))):=zH (e.o.alloc e.o.size _);cases j with
 |true=>
  go_wp2;go_ret;exact⟨_,rfl,f.o⟩
 |false=>
  go_wp2;go_ret;exact⟨_,rfl,f.o⟩
theorem UU (a b d:Int) (w:World):Yk 155 #[uI a,uI b,uI d] w λc i=>∃f,c=.returned (uI f)/\bW w i:=by
 go_enter Tryz.func155,Tryz.ntmps155;go_wp2_with fail;refine(UZ _ _ _ _).mono ?_;rintro c j ⟨f,rfl,e⟩;have g:=zH e;clear e;go_wp2;go_ret;exact⟨_,rfl,g.o⟩
theorem UW (a b d:Int) (e:Word a) (w:World):Yk 154 #[uI a,uI b,uI d] w λc g=>∃i j k,c=.returned (.agg #[uI i,uI j,uI k])/\bW w g:=by
 go_enter Tryz.func154,Tryz.ntmps154;go_wp2_with fail;refine(UY a e _).mono ?_;rintro c m ⟨f,rfl,l,rfl⟩;go_wp2;refine iZ (t:=134) 6 134 w.heap.size #[uI f,uI b,uI (min d 4294967296)] kR kR ?_ _ Tryz.underlying134 kR kR rfl ?_
 .exact Wx _ _ _
 .exact⟨_,_,_,rfl,BEL⟩
theorem UV (d:Int) (w:World):Yk 82 #[uI d] w λa c=>∃b,a=.returned ((pT b))/\bW w c:=by
 go_enter Tryz.func82,Tryz.ntmps82;go_wp2;go_ret;exact⟨_,rfl,BEL⟩
theorem UF (d:Int) (w:World):Yk 151 #[jI d] w λa c=>∃b,a=.returned ((pT b))/\bW w c:=by
 go_enter Tryz.func151,Tryz.ntmps151;go_wp2;go_ret;exact⟨_,rfl,BEL⟩
theorem Ur (d n:Int) (w:World):Yk 208 #[jI d,uI n] w λa c=>∃b,a=.returned ((pT b))/\bW w c:=by
 go_enter Tryz.func208,Tryz.ntmps208;go_wp2;go_ret;exact⟨_,rfl,BEL⟩
theorem UG (d n:Int) (w:World):Yk 152 #[jI d,uI n] w λb f=>∃e,b=.returned ((pT e))/\bW w f:=by
 go_enter Tryz.func152,Tryz.ntmps152;go_wp2_with fail;refine(Ur d n w).mono ?_;rintro b g ⟨e,rfl,c⟩;have a:=zH c;clear c;go_wp2;go_ret;exact⟨_,rfl,a.o.alloc a.o.size _⟩
theorem UE (c:Cf) (h:lV c) (w:World):Yk 153 #[.agg (cfV c)] w λq r=>q=.returned (.agg #[uI c.jD,uI 18446744073709551615,uI 0,uI 0,uI 18446744073709551615,uI 0,uI 0,uI 0,uI 0])/\bW w r:=by
 have g:=zH h;clear h;go_enter Tryz.func153,Tryz.ntmps153;go_wp2_with fail;refine Yd (TZ c g.o _) ?_;intro t b;obtain⟨e,f⟩:=UM w (cfV c) 32 Yh 132;have n:=zH ((show bW w ((w.alloc (.cells (cfV c) 32)).alloc (.cells Yh 132))from BEL).trans (b.mono sO));have l:=e.below b e.lt;have i:=zH (f.below b f.lt);have s:=l.Wu 6;clear e f b l;go_upto_region 3 with fail;generalize k:c.jD=a at*
 have p:=zH k;clear k g;repeat ((fail_if_success (with_reducible apply eG));first|(refine iG 132 (.tmp 2) (.tmp 10) rfl rfl rfl (w.heap.size+1) 0 #[uI a,uI 18446744073709551615,uI 0,uI 0,uI 18446744073709551615,uI 0,uI 0,uI 0,uI 0] kR kR (i.o.there _ sM) kR XF ?_;intro j d;have m:=zH (show Blk j (w.heap.size+1) 132 #[uI a,uI 18446744073709551615,uI 0,uI 0,uI 18446744073709551615,uI 0,uI 0,uI 0,uI 0] by rw[d];exact Blk.gF i.o [uI a,uI 18446744073709551615,uI 0,uI 0,uI 18446744073709551615,uI 0,uI 0,uI 0,uI 0] rfl);have o:=zH (show bW w j by rw[d];exact Below.bZ (Nat.le_succ _) _ _ _ n.o);clear d)|go_values|go_skip|go_guarded|go_step|go_upon|go_back|go_simp)
 (try simp only[Exit.inBlock,Exit.then])
 refine iZ 2 132 (w.heap.size+1) #[uI a,uI 18446744073709551615,uI 0,uI 0,uI 18446744073709551615,uI 0,uI 0,uI 0,uI 0] kR kR m.o _ Tryz.underlying132 kR kR rfl ?_;exact⟨by rw[p.o],o.o⟩
structure NeAt (w w':World) (en l:Nat):Prop where
 lo:w.heap.size<=l
 eo:w.heap.size<=en
 he:w'.cell? ⟨en,20,none⟩=some ((pT l))
 lt:en<w'.heap.size
 hx:∃ring dO,Blk w' l 166 #[jI ring,uI dO,zzN]/\0<=ring/\ring<=1000000
section
variable {P:Program} {md:Region.Mode} {ops:Array Oper} {Q:X7} {i:Nat} {op:Oper} {a:Act} {w:World}
theorem Vk (j:ops[i]?=some op) (g:op.guard=none) (d:Option Tmp) (f:op.dst=d) (h:∀b:Act->World->Prop,(∀c e,K (a.put d c) e->b (a.put op.dst c) e)->op.wp P a w b Q):wpOp P ops Q i K a w:=
 jl j g (h K (by subst f;exact λ_ _ h=>h))
end
theorem Up {tw:TypeId} (c:Cf) (a5:lV c) (S:X4) (o:X5) (b0:Nat) (words:List Int) (w:World) (a9:Wot tw w S o words) (f9:words.length<=1000000):
  Yk 81 #[.agg (cfV c),.slice o words.length b0] w λa1 C=>∃a2 d6,a1=.returned (.tuple #[pT a2,jI 0])/\NeAt w C a2 d6/\bW w C:=by
 obtain⟨a0,l⟩:=eX (w.alloc (.cells (cfV c) 32));(have a3:bW w a0:=by rw[l];exact BEL);(have E:Blk a0 w.heap.size 32 (cfV c):=by rw[l];exact Wx _ _ _);obtain⟨k,p⟩:=eX w.heap.size;rw[<-p]at E;obtain⟨U,D,b8,g,f0⟩:=BF a3 E (λZ (c3:bW w Z)=>(show Wot tw Z S o words from aD a9 c3)) a5 p;have c2:=l;have X:=zH l;clear a9 a5 a3 E l c2;go_enter Tryz.func81,Tryz.ntmps81;go_upto_region 1 with fail;rw[<-X.o,<-p];clear p;(repeat (first|(refine kP 32 (.tmp 2) rfl rfl (some 6) rfl k kR (cfV c) D.o _ Tryz.underlying32 kR kR ?_;clear X)|(fail_if_success (go_at_call 150));first|go_values|go_skip|go_guarded|go_step|go_upon|go_back|go_simp));go_at_call 150;refine(TZ c g.o _).mono ?_;rintro a1 j ⟨rfl,F⟩;obtain⟨Y,V⟩:=yx (D.o.below F D.o.lt) (U.o.trans (F.mono U.o.size));clear F;go_upto_region 3 with fail;have c4:Word c.gD:=⟨by have:=g.o.Rh;have:=g.o.Gj;omega,by have:=g.o.Rf;omega⟩;have a6:bW j j.drew:=bA (aj _ _);have d:Blk j.drew k 32 (cfV c):=Y.o.below a6 Y.o.lt;have q:bW w j.drew:=V.o.trans (a6.mono V.o.size);refine aZ (S:=λC=>Blk C k 32 (cfV c)) kR d (λc0=>?_);clear c0;refine iL (v:=.agg (cfV c)) 0 (some 9) rfl kR kR kR kR (λ_ _ _ h=>h) (lH 32 (.tmp 2) rfl rfl k kR (cfV c) (λw e=>e) _ Tryz.underlying32 kR kR) d ?_;refine Yf 1 10 d ?_;refine tK 4 13 d ?_;refine X6 5 14 d ?_ (y:=by intro w e;have f:=e.Wu 4;exact gS);refine tK 7 16 d ?_;refine X6 8 17 d ?_ (y:=by intro w e;have f:=e.Wu 2;exact gS);refine nrm 33 435 ?_;refine tK 9 18 d ?_;refine X6 10 19 d ?_ (y:=by intro w e;have f:=e.Wu 3;exact gS);refine tK 12 21 d ?_;refine X6 13 22 d ?_ (y:=by intro w e;have f:=e.Wu 15;exact gS);refine tK 14 23 d ?_;refine X6 15 24 d ?_ (y:=by intro w e;have f:=e.Wu 16;exact gS);refine nrm 33 63411 ?_;refine iL (v:=.agg (cfV c)) 17 (some 26) rfl kR kR kR kR (λ_ _ _ h=>h) (lH 32 (.tmp 2) rfl rfl k kR (cfV c) (λw e=>e) _ Tryz.underlying32 kR kR) d ?_;refine Yf 19 28 d ?_;refine X6 20 29 d ?_ (y:=by intro w e;have f:=e.Wu 13;exact gS);refine tK 21 30 d ?_;refine X6 22 31 d ?_ (y:=by intro w e;have f:=e.Wu 6;exact gS);refine tK 23 32 d ?_;refine nrm 33 16447411 ?_;refine X6 24 33 d ?_ (y:=by intro w e;have f:=e.Wu 10;exact gS);refine tK 25 34 d ?_;refine X6 26 35 d ?_ (y:=by intro w e;have f:=e.Wu 14;exact gS);refine nrm 33 133887923 ?_;refine aI 2 kR ?_;refine Vk (op:=_) rfl kR (some 11) kR (λf1 c1=>qH.wp _ (.tmp 10) rfl j.drew.heap.size none 0 [] kR (iq _ _ _ _) o b0 words kR (b8.o _ q) sO dC (av _) ?_);intro b3 b9 b2 f8 d1;refine c1 _ _ ?_;have b:Below j.drew.heap.size j.drew b2:=(aj _ _).grown d1 (av _) XI;have m:=d.below b d.lt;have J:bW w b2:=q.trans (b.mono q.size);refine⟨m,?_⟩;refine Yf 3 12 m ?_;refine nrm 33 133887935 ?_;refine aI 6 kR ?_;refine opC 15 151 #[jI c.room] ((UF c.room _).mono ?_);rintro f7 e9 ⟨d8,d0,b⟩;have B:=m.below b m.lt;have s:bW w e9:=J.trans (b.mono J.size);refine⟨_,d0,B,?_⟩;refine mP ?_;refine aI 11 kR ?_;refine opC 20 57 #[jI c.ring,uI c.dO] ((Nh c.ring c.dO _).mono ?_);rintro f2 e3 ⟨T,c5,d3,d5,b⟩;have d4:w.heap.size<=T:=ay s.size d3;have t:=B.below b B.lt;have G:bW w e3:=s.trans (b.mono s.size);refine⟨_,c5,t,?_⟩;refine mP ?_;have L:=d5;refine aI 16 kR ?_;refine opC 25 152 #[jI c.bE,uI c.every] ((UG c.bE c.every _).mono ?_);rintro f3 e4 ⟨d7,c6,b⟩;have u:=t.below b t.lt;have H:bW w e4:=G.trans (b.mono G.size);refine⟨_,c6,u,?_⟩;refine mP ?_;have M:=L.below b L.lt;refine aI 18 kR ?_;refine opC 27 153 #[.agg (cfV c)] ((UE c g.o _).mono ?_);rintro f4 e5 ⟨c7,b⟩;have x:=u.below b u.lt;have I:bW w e5:=H.trans (b.mono H.size);refine⟨_,c7,x,?_⟩;refine mP ?_;have N:=M.below b M.lt;refine aI 27 kR ?_;refine opC 36 155 #[uI c.jD,uI c.first,uI c.WL] ((UU c.jD c.first c.WL _).mono ?_);rintro f5 e6 ⟨b1,c8,b⟩;have z:=x.below b x.lt;have K:bW w e6:=I.trans (b.mono I.size);refine⟨_,c8,z,?_⟩;refine mP ?_;have O:=N.below b N.lt;refine aI 28 kR ?_;refine opC 37 154 #[uI c.gD,uI 0,uI b1] ((UW c.gD 0 b1 c4 _).mono ?_);rintro f6 e7 ⟨e0,e1,e2,c9,b⟩;have n:=z.below b z.lt;have r:bW w e7:=K.trans (b.mono K.size);refine⟨_,c9,n,?_⟩
 refine mP ?_;have R:=O.below b O.lt;refine tK 29 38 n ?_;refine nrm 33 1073741823 ?_;refine aI 30 kR ?_;refine RX (op:=_) rfl kR (some 39) kR 136 (.tmp 38) kR #[jI c.bits,uI c.one,jI c.ring,uI c.dO,jI c.room,uI c.mss,uI c.jD,uI c.bn,uI c.most,jI c.pX,uI c.first,uI c.jc,uI c.cap,uI c.gD,uI c.WL,jI c.bE,uI c.every,.slice b3 words.length b9,jI 0,pT d8,pT T,pT d7,bV false,uI 0,uI 0,uI 0,uI 0,jI 0,uI 0,uI c.jD,uI 18446744073709551615,uI 0,uI 0,uI 18446744073709551615,uI 0,uI 0,uI 0,uI 0,uI e0,uI e1,uI e2,uI 18446744073709551615,uI 0,uI 0,jI 1,jI 0,uI 0,jI 0] kR kR ?_;intro d9 e8 b d2 a4;have A:=n.below b n.lt;have a7:bW w e8:=r.trans (b.mono r.size);refine⟨A,?_⟩;refine mP ?_;have a8:=R.below b R.lt;refine tK 31 4 A ?_;refine tK 32 5 A ?_;refine nrm 33 8589934591 ?_;refine bg kR ?_ _;obtain⟨b5,b4,W,b6,b7⟩:=BF a8 a7 a4 d4 (ay r.size d2);clear L M N O R a8 d m B t u x z n A a4 q J s G H I K r a7;go_wp2;go_ret2;exact⟨d9,rfl,⟨T,⟨b6.o,b7.o,W.o.cell 20,W.o.lt,⟨_,_,b5.o,by have:=g.o.wZ;omega,by have:=g.o.lW;omega⟩⟩⟩,b4.o⟩
structure Dv (w:World) (r en l:Nat):Prop where
 hr:w.cell? ⟨r,0,none⟩=some ((pT en))
 he:w.cell? ⟨en,20,none⟩=some ((pT l))
 hx:∃ring dO,Blk w l 166 #[jI ring,uI dO,zzN]/\0<=ring/\ring<=1000000
theorem Dv.keep {c b l:Nat} (h:Dv w c b l) (d:∀a,a=c\/a=b\/a=l->w'.heap[a]?=w.heap[a]?):Dv w' c b l:=by
 obtain⟨i,e,f,g⟩:=h.hx;exact⟨(World.cell?_of_block (w:=w) (d c (.inl rfl))).trans h.hr,(World.cell?_of_block (w:=w) (d b (.inr (.inl rfl)))).trans h.he,i,e,(d l (.inr (.inr rfl))).trans f,g⟩
theorem Dv.below {b a l:Nat} (h:Dv w b a l) (hb:bW w w'):Dv w' b a l:=by
 obtain⟨i,f,c,g⟩:=h.hx;refine h.keep (λe d=>hb.block e ?_);rcases d with rfl|rfl|rfl
 .exact dY w _ h.hr
 .exact dY w _ h.he
 .exact c.lt
theorem Dv.ok {g b l:Nat} (h:Dv w g b l):Ka w l:=by
 obtain⟨i,a,c,d,e⟩:=h.hx;exact⟨i,a,[],λ_=>True,⟨none,0,c,Row.WH,av _⟩,jV _,d,e,λj f=>by cases f⟩
theorem Ub {tw:TypeId} (c:Cf) (n:lV c) (S N O:X4) (x:X5) (a5:Nat) (words:List Int) (a2 k:X5) (c2 P:Nat) (a b:List Fa) (Q:Int) (w:World) (a1:Wot tw w S x words) (c3:words.length<=1000000) (T:Row w N 187 4 a2 a.length (a.flatMap faV)) (U:Row w O 187 4 k b.length (b.flatMap faV)) (d0:a.length<=1000000) (d1:b.length<=1000000):
  Yk 32 #[.agg (cfV c),.slice x words.length a5,.slice a2 a.length c2,.slice k b.length P,uI Q] w λz a7=>(∃I d o,z=.returned (.tuple #[pT I,jI 0])/\Dv a7 I d o/\w.heap.size<=I/\w.heap.size<=d/\w.heap.size<=o)/\bW w a7:=by
 obtain⟨u,l⟩:=eX (w.alloc (.cells (cfV c) 32));(have D:bW w u:=by rw[l];exact BEL);(have B:Blk u w.heap.size 32 (cfV c):=by rw[l];exact Wx _ _ _);obtain⟨b5,m⟩:=eX w.heap.size;rw[<-m]at B;obtain⟨b4,r,b3,b0,b1,M⟩:=Fy B D (Up c n S x a5 words u (aD a1 D) c3) (λj (C:bW w j)=>(show Row j N 187 4 a2 a.length (a.flatMap faV)from aD T C)) (λj (C:bW w j)=>(show Row j O 187 4 k b.length (b.flatMap faV)from aD U C)) l;obtain⟨c6,c7⟩:=yx m (And.intro n.wZ n.lW);clear a1 T U D B l n;go_enter Tryz.func32,Tryz.ntmps32;go_upto_region 1 with fail;rw[<-M.o,<-m];clear m;(repeat (first|(refine kP 32 (.tmp 5) rfl rfl (some 15) rfl b5 kR (cfV c) b4.o _ Tryz.underlying32 kR kR ?_;clear M)|(fail_if_success (go_at_call 81));first|go_values|go_skip|go_guarded|go_step|go_upon|go_back|go_simp));go_at_call 81;refine(b3.o).mono ?_;rintro z J ⟨d,o,rfl,a0,W⟩;obtain⟨g,i⟩:=yx (r.o.trans (W.mono r.o.size)) a0;clear W a0;go_wp2_with fail;refine(UV Q J).mono ?_;rintro z a8 ⟨a6,rfl,E⟩;obtain⟨s,K⟩:=yx (g.o.trans (E.mono g.o.size)) E;clear E;go_wp2_with (at_builtin;first|(have c8:=t;refine Sm.wpList rfl _ (.tmp 30) rfl (e.alloc (.cells #[.slice q a.length y,zzN,jI 0] 193)).heap.size none 0 [] (by rfl) (iq _ _ _ _) k P b (by rfl) (b1.o _ (t.o.alloc t.o.size _)) sO dC (av _) ?_;intro a9 b6 f c1 Z;have X:Below (e.alloc (.cells #[.slice q a.length y,zzN,jI 0] 193)).heap.size (e.alloc (.cells #[.slice q a.length y,zzN,jI 0] 193)) f:=(aj _ _).grown Z (av _) XI;have b2:=zH X;clear c1 Z X)|(refine Sm.wpList rfl _ (.tmp 26) rfl a8.heap.size none 0 [] (by rfl) (iq _ _ _ _) a2 c2 a (by rfl) (b0.o _ s.o) sO dC (av _) ?_;intro q y e c0 Y;have F:bW a8 e:=(aj _ _).grown Y (av _) XI;have L:=zH F;have t:=zH (s.o.trans (F.mono s.o.size));clear c0 Y F));go_ret2;have b9:bW e f:=((aj _ _).alloc (av _) _).trans (b2.o.mono sM);have G:bW J f:=K.o.trans ((L.o.trans (b9.mono L.o.size)).mono K.o.size);obtain⟨v,A⟩:=eX ((f.alloc (.cells #[.slice a9 b.length b6,zzN,jI 0] 193)));(have V:bW J v:=by rw[A];exact G.alloc G.size _);(have c4:v.heap.size=f.heap.size+1:=by rw[A];simp);rw[<-A];have a4:=Wx v 141 #[pT d,pT a6,(pT e.heap.size),(pT f.heap.size),uI 0,bV false,uI 0,zzN,zzN,zzN];rw[c4]at a4;have H:=V.alloc V.size (.cells #[pT d,pT a6,(pT e.heap.size),(pT f.heap.size),uI 0,bV false,uI 0,zzN,zzN,zzN] 141);obtain⟨c5,b7,R,b8⟩:=i.o.hx;obtain⟨a3,d2,c9⟩:=Hl r.o.size g.o.size G.size;exact⟨⟨_,d,o,rfl,⟨a4.cell 0,(H.cell (p:=⟨d,20,none⟩) i.o.lt).trans i.o.he,c5,b7,R.below H R.lt,b8⟩,oM,ay a3 i.o.eo,ay a3 i.o.lo⟩,g.o.trans (H.mono g.o.size)⟩
structure Pl where
 ka:Option Addr
 kc:Nat
 k:List Int
 wa:Option Addr
 wc:Nat
 ws:List Int
 aa:Option Addr
 ac:Nat
 ah:List Int
 ba:Option Addr
 bc:Nat
 bk:List Int
 delay:Int
abbrev Yi (q:Pl):Array Value:= #[.slice q.ka q.k.length q.kc,.slice q.wa q.ws.length q.wc,.slice q.aa q.ah.length q.ac,.slice q.ba q.bk.length q.bc,.int .u16 q.delay]
structure UL (w:World) (S:X4) (q:Pl):Prop where
 k:∃t,Row w S t 1 q.ka q.k.length (q.k.flatMap u3V)
 ku:U32 q.k
 ws:∃t,Wot t w S q.wa q.ws
 wu:rG q.ws
 wl:q.ws.length<=q.wc
 ah:∃t,Row w S t 1 q.aa q.ah.length (q.ah.flatMap u3V)
 au:U32 q.ah
 bk:∃t,Row w S t 1 q.ba q.bk.length (q.bk.flatMap u3V)
 bu:U32 q.bk
 delay:U16 q.delay
theorem UL.below {S:X4} {q:Pl} (h:UL w S q) (hb:bW w w'):UL w' S q:=
 {h with k:=by obtain⟨b,a⟩:=h.k;exact⟨b,aD a hb⟩,ws:=by obtain⟨b,a⟩:=h.ws;exact⟨b,aD a hb⟩,ah:=by obtain⟨b,a⟩:=h.ah;exact⟨b,aD a hb⟩,bk:=by obtain⟨b,a⟩:=h.bk;exact⟨b,aD a hb⟩}
structure BgAt (w w':World) (b p r en l:Nat) (own:Nat->Nat) (rp:Wp) (q:Pl) (fa fb:List Fa):Prop where
 bb:w.heap.size<=b
 blk:Blk w' b 45 #[pT p,pT r]
 wo:iW w' own p rp 0 (mO (fV q.k) (q.ws.take 60) fa fb q.delay)
 rw_:Dv w' r en l
 old:∀k,k<w.heap.size->own k=9
 o:own b=9/\own r=9/\own en=9/\own l=9
 fa:fa.length<=40/\fb.length<=40/\(∀f∈fa,Word f.delay)/\∀f∈fb,Word f.delay
theorem U4 (S:X4) (q:Pl) (w:World) (z:UL w S q):
  Yk 8 #[.agg (Yi q)] w λa4 j=>(∃d9 b8 Y O X N b9 k2 k3,a4=.returned ((pT d9))/\BgAt w j d9 b8 Y O X N b9 q k2 k3)/\bW w j:=by
 obtain⟨b,R⟩:=eX (fV q.k);(have g6:lV b:=by rw[R];exact CS z.ku);obtain⟨i,c4,j3,j5⟩:=Bq (λs (a8:bW w s)=>z.below a8) g6 R z.delay;obtain⟨a3,P⟩:=eX (w.alloc (.cells (Yi q) 26));(have e6:bW w a3:=by rw[P];exact BEL);obtain⟨F,T⟩:=eX w.heap.size;(have b5:Blk a3 F 26 (Yi q):=by rw[P,T];exact Wx _ _ _);obtain⟨a0,c8,c7,m0⟩:=Bq e6 b5 P T;have e7:=λs (a8:bW w s)=>(by obtain⟨m6,l8⟩:=(z.below a8).k;have h:=JR S q.ka q.kc q.k s l8 z.ku;rw[<-R]at h;exact h:Yk 9 #[.slice q.ka q.k.length q.kc] s λa4 j=>a4=.returned (.agg (cfV b))/\bW s j);have j4:=zH e7;have j8:=b5.Wu 0;clear z g6 R e6 b5 e7 P;go_enter Tryz.func8,Tryz.ntmps8;go_upto_region 1 with fail;rw[<-c7.o,<-T];clear T c7;go_wp2_with fail;refine Yd (j4.o a3 a0.o) ?_;intro E a9;obtain⟨c1,c9⟩:=yx (a0.o.trans (a9.mono a0.o.size)) (c8.o.below a9 c8.o.lt);clear a9 j8;(repeat (go_not_at_region 2;first|(refine iG 32 (.tmp 3) (.tmp 10) rfl rfl rfl E.heap.size 0 (cfV b) kR kR ((Wx E 32 #[jI 0,uI 0,jI 0,uI 0,jI 0,uI 0,uI 0,uI 0,uI 0,jI 0,uI 0,uI 0,uI 0,uI 0,uI 0,jI 0,uI 0]).there _ sM) kR XF ?_;intro k a7;have i2:Blk k E.heap.size 32 (cfV b):=(by rw[a7];exact Blk.gF (Wx E 32 _) [jI b.bits,uI b.one,jI b.ring,uI b.dO,jI b.room,uI b.mss,uI b.jD,uI b.bn,uI b.most,jI b.pX,uI b.first,uI b.jc,uI b.cap,uI b.gD,uI b.WL,jI b.bE,uI b.every] rfl);have d0:=zH i2;have c2:=zH (show bW E k by rw[a7];exact Below.bZ (av _) _ _ _ BEL);clear a7 i2)|go_values|go_skip|go_guarded|go_step|go_upon|go_back|go_simp));obtain⟨t,Q⟩:=eX E.heap.size;rw[<-Q]at d0;rw[<-Q];have d1:=d0;obtain⟨c5,c3,m1⟩:=Av (c9.o.below c2.o c9.o.lt) (c1.o.trans (c2.o.mono c1.o.size)) Q;clear Q;have m4:0<=q.delay/\q.delay<65536:=j5.o;have m5:IntKind.u64.wrap q.delay=q.delay:=Wz _ ⟨oM,oM⟩;have u:bW k k.drew:=bA (aj _ _);have e:Blk k.drew t 32 (cfV b)/\Blk k.drew F 26 (Yi q):=⟨d1.o.below u d1.o.lt,c5.o.below u c5.o.lt⟩;have n:bW w k.drew:=c3.o.trans (u.mono c3.o.size);refine aZ (S:=λj=>Blk j t 32 (cfV b)/\Blk j F 26 (Yi q)) kR e (λa6=>?_);clear a6;refine iL (v:=.agg (cfV b)) 0 (some 12) rfl kR kR kR kR (λ_ _ _ h=>h) (lH 32 (.tmp 3) rfl rfl t kR (cfV b) (λw c=>c.1) _ Tryz.underlying32 kR kR) e ?_;refine Yf 1 13 e ?_;refine X6 2 14 e ?_ (y:=by intro w c;have r:=c.2.Wu 1;exact gS);refine tK 4 16 e ?_;refine X6 5 17 e ?_ (y:=by intro w c;have r:=c.2.Wu 2;exact gS);refine tK 7 19 e ?_;refine X6 8 20 e ?_ (y:=by intro w c;have r:=c.2.Wu 3;exact gS);refine tK 10 22 e ?_;refine X6 11 23 e ?_ (y:=by intro w c;have r:=c.2.Wu 4;exact gS);refine tK 12 24 e ?_;refine nrm 19 7607 ?_;refine aI 3 kR ?_;obtain⟨n1,h2⟩:=(i.o _ n).ws;refine opC 15 16 #[.slice q.wa q.ws.length q.wc,jI 60] ((MZ S q.wa q.wc q.ws _ h2 (i.o _ n).wl).mono ?_);rintro j9 l9 ⟨⟨d3,G,h4⟩,rfl⟩;refine⟨_,G,e,?_⟩;refine mP ?_;obtain⟨m7,g8⟩:=(i.o _ n).ah;refine aI 6 kR ?_;refine opC 18 31 #[.slice q.aa q.ah.length q.ac] ((XJ S q.aa q.ac q.ah _ g8 (i.o _ n).au).mono ?_);rintro k0 i6 ⟨⟨n3,H,f2⟩,a⟩;obtain⟨d5,e0,b6,rfl,g0,f8,e8⟩:=f2.ex;have A:=And.intro (e.1.below a e.1.lt) (e.2.below a e.2.lt);have K:bW w i6:=n.trans (a.mono n.size);have b1:bW k i6:=u.trans (a.mono u.size);have h6:=aD h4 a;refine⟨_,H,A,?_⟩;refine mP ?_;obtain⟨m9,h0⟩:=(i.o _ K).bk;refine aI 9 kR ?_;refine opC 21 31 #[.slice q.ba q.bk.length q.bc] ((XJ S q.ba q.bc q.bk _ h0 (i.o _ K).bu).mono ?_);rintro k1 i8 ⟨⟨n5,I,f4⟩,a⟩;obtain⟨d7,e2,b7,rfl,g4,f9,e9⟩:=f4.ex;have C:=And.intro (A.1.below a A.1.lt) (A.2.below a A.2.lt);have V:bW w i8:=K.trans (a.mono K.size);have k7:bW k i8:=b1.trans (a.mono b1.size);have h8:=aD h6 a;have g2:=g0.below a;refine⟨_,I,C,?_⟩;refine mP ?_;(have i0:(q.ws.take 60).length<=1000000:=by rw[aT];omega);refine aI 13 kR ?_;refine opC 25 30 #[.agg (cfV b),.slice d3 (q.ws.take 60).length q.wc,.slice d5 b6.length e0,.slice d7 b7.length e2,uI q.delay] ((OT b S _ _ d3 q.wc (q.ws.take 60) d5 e0 b6 d7 e2 b7 q.delay _ c4.o h8 i0 g2.row oM g4.row oM).mono ?_);rintro m2 g ⟨b8,b9,N,f0,e5,e4,a⟩;have l:=And.intro (C.1.below a C.1.lt) (C.2.below a C.2.lt);have f6:bW w g:=V.trans (a.mono V.size)
 refine⟨_,f0,l,?_⟩;refine Yf 14 11 l ?_;refine tK 15 26 l ?_;refine tK 16 27 l ?_;refine nrm 19 131071 ?_;refine tK 17 4 l ?_;refine tK 18 5 l ?_;refine nrm 19 524287 ?_;refine bg kR ?_ _;have l7:=V.size;obtain⟨d2,c6,a1,c0,j1,j0⟩:=Fy l.1 l.2 f6 e5 (λd (m:d<w.heap.size)=>e4 d oM) (And.intro f8 (And.intro f9 (And.intro e8 e9)));clear l f6 e5 e4 a b1 k7 e n A K C V h4 h6 h8 g0 g2 g4 f2 f4 g8 h0 h2 u f0 G H I i0 l7 f8 f9 e8 e9;go_upto_region 3 with fail;have x:bW g g.drew:=bA (aj _ _);have f:Blk g.drew t 32 (cfV b)/\Blk g.drew F 26 (Yi q):=⟨d2.o.below x d2.o.lt,c6.o.below x c6.o.lt⟩;have o:bW w g.drew:=a1.o.trans (x.mono a1.o.size);refine aZ (S:=λj=>Blk j t 32 (cfV b)/\Blk j F 26 (Yi q)) kR f (λa6=>?_);clear a6;refine iL (v:=.agg (cfV b)) 0 (some 29) rfl kR kR kR kR (λ_ _ _ h=>h) (lH 32 (.tmp 3) rfl rfl t kR (cfV b) (λw c=>c.1) _ Tryz.underlying32 kR kR) f ?_;refine Yf 1 30 f ?_;refine X6 2 31 f ?_ (y:=by intro w c;have r:=c.2.Wu 1;exact gS);refine tK 4 33 f ?_;refine X6 5 34 f ?_ (y:=by intro w c;have r:=c.2.Wu 2;exact gS);refine tK 7 36 f ?_;refine X6 8 37 f ?_ (y:=by intro w c;have r:=c.2.Wu 3;exact gS);refine tK 10 39 f ?_;refine X6 11 40 f ?_ (y:=by intro w c;have r:=c.2.Wu 4;exact gS);refine tK 12 41 f ?_;refine nrm 19 7607 ?_;refine aI 3 kR ?_;obtain⟨n2,h3⟩:=(i.o _ o).ws;refine opC 32 16 #[.slice q.wa q.ws.length q.wc,jI 60] ((MZ S q.wa q.wc q.ws _ h3 (i.o _ o).wl).mono ?_);rintro j9 l9 ⟨⟨d4,G,h5⟩,rfl⟩;refine⟨_,G,f,?_⟩;refine mP ?_;obtain⟨m8,g9⟩:=(i.o _ o).ah;refine aI 6 kR ?_;refine opC 35 31 #[.slice q.aa q.ah.length q.ac] ((XJ S q.aa q.ac q.ah _ g9 (i.o _ o).au).mono ?_);rintro k0 i7 ⟨⟨n4,H,f3⟩,a⟩;obtain⟨d6,e1,i3,rfl,g1,k9,k4⟩:=f3.ex;have B:=And.intro (f.1.below a f.1.lt) (f.2.below a f.2.lt);have L:bW w i7:=o.trans (a.mono o.size);have b2:bW g i7:=x.trans (a.mono x.size);have h7:=aD h5 a;refine⟨_,H,B,?_⟩;refine mP ?_;obtain⟨n0,h1⟩:=(i.o _ L).bk;refine aI 9 kR ?_;refine opC 38 31 #[.slice q.ba q.bk.length q.bc] ((XJ S q.ba q.bc q.bk _ h1 (i.o _ L).bu).mono ?_);rintro k1 i9 ⟨⟨n6,I,f5⟩,a⟩;obtain⟨d8,e3,i4,rfl,g5,l0,k5⟩:=f5.ex;have D:=And.intro (B.1.below a B.1.lt) (B.2.below a B.2.lt);have b4:bW w i9:=L.trans (a.mono L.size);have U:bW g i9:=b2.trans (a.mono b2.size);have h9:=aD h7 a;have g3:=g1.below a;refine⟨_,I,D,?_⟩;refine mP ?_;(have i1:(q.ws.take 60).length<=1000000:=by rw[aT];omega);refine aI 13 kR ?_;refine opC 42 32 #[.agg (cfV b),.slice d4 (q.ws.take 60).length q.wc,.slice d6 i3.length e1,.slice d8 i4.length e3,uI q.delay] ((Ub b c4.o S _ _ d4 q.wc (q.ws.take 60) d6 d8 e1 e3 i3 i4 q.delay _ h9 i1 g3.row g5.row oM oM).mono ?_);rintro m3 Z ⟨⟨Y,O,X,f1,g7,l5,k6,k8⟩,a⟩;have b0:bW g Z:=U.trans (a.mono U.size);have b3:=U.size;have p:=And.intro (D.1.below a D.1.lt) (D.2.below a D.2.lt);have f7:bW w Z:=b4.trans (a.mono b4.size);refine⟨_,f1,p,?_⟩;refine Yf 14 28 p ?_;refine tK 15 43 p ?_;refine tK 16 44 p ?_;refine nrm 19 131071 ?_;refine tK 17 6 p ?_;refine tK 18 7 p ?_;refine nrm 19 524287 ?_;refine bg kR ?_ _;obtain⟨j2,j7,a2⟩:=Av (c0.o.below b0) g7 f7;have M:∀d,g.heap.size<=d->ext g N 9 d=9:=λd m=>uG m;(have W:∀d,d<w.heap.size->ext g N 9 d=9:=λd m=>by rw[nE (aC m a1.o.size)];exact j1.o d m);have j6:=zH (And.intro W (And.intro (M Y (ay b3 l5)) (And.intro (M O (ay b3 k6)) (And.intro (M X (ay b3 k8)) (M Z.heap.size b0.size)))));clear M W b0 f7 p g7 a f o B L D b4 b2 U h5 h7 h9 g1 g3 g5 f3 f5 g9 h1 h3 x f1 G H I i1 k9 l0 k4 k5 c0;go_wp2;go_ret;obtain⟨W,l4,l2,l3,l1⟩:=j6.o;have l6:=a2.o.size;(have J:∀(i5:World) (a5:Nat->Nat) d,a5 d=9->ext i5 a5 9 d=9:=λi5 a5 d h=>by unfold ext;split<;>first|exact h|rfl);refine⟨⟨_,b8,Y,O,X,ext Z (ext g N 9) 9,b9,b6,b7,rfl,⟨l6,Wx _ _ _,?_,j7.o.below (Below.alloc (aj _ _) (av _) _),λd m=>J _ _ d (W d m),⟨J _ _ _ l1,J _ _ _ l4,J _ _ _ l2,J _ _ _ l3⟩,j0.o⟩⟩,a2.o.alloc a2.o.size _⟩;rw[<-j3.o];exact j2.o.below (Below.alloc (aj _ _) (av _) _)
theorem Ry.out_ {w v y:World} {S:X4} {i:Bool} {kind n:Int} {a:X5} {b:List Int} (h:Ry v y (λe=>S e/\e<w.heap.size) i kind n a c b) (q:w.heap.size<=v.heap.size) (hy:v.heap.size<=y.heap.size) {g:Nat} (m:w.heap.size<=g) (p:g<v.heap.size) (f:List Value) (o:Nat):Ry w (y.setCells g o f) S i kind n a c b:=by
 have k:(y.setCells g o f).heap.size=y.heap.size:=sM;refine⟨h.hk,h.hh,h.hn,⟨?_,h.fr.cap,h.fr.by_,h.fr.len⟩,λd=>?_⟩
 .obtain⟨l,j⟩:=h.fr.ex
  refine⟨l,aF (Row.lt_ (Row.setD (g:=g) j (λe d=>by rcases d with d|d;have:=d.2;omega;have:=d.1;omega) f o)) (λe d=>?_)⟩;rcases d.1 with h|h
  .exact .inl h.1
  .exact .inr ⟨oM,d.2⟩
 .exact aF (Row.setD (g:=g) (h.five d) (λe d=>by have:=d.1;omega) f o) (λe d=>⟨by have:=d.1;omega,by rw[k];exact d.2⟩)
theorem U7 (S:X4) (m:Mv) (b p r a7 l:Nat) (w:World) (N:T9 w S m) (hb:w.cell? ⟨b,1,none⟩=some ((pT r))) (b2:Dv w r a7 l):
  Yk 13 #[pT b,.agg (mvV m).toArray] w λc1 K=>(∃d b5 a4 a6 a5,c1=.returned (.agg #[jI d,uI b5,.slice a4 a5.length a6])/\Ry w K S true d b5 a4 a6 a5)/\bW w K:=by
 have b3:=N.zD.lt_;obtain⟨b9,c4,Q⟩:=Av (show T9 w (λb4=>S b4/\b4<w.heap.size) m from⟨N.kind,N.n,b3⟩) hb b2;obtain⟨A,L⟩:=eX ((w.alloc (.cells (mvV m).toArray 55)).alloc (.cells #[jI 0,uI 0,zzN] 49));obtain⟨P,I⟩:=sG w (mvV m).toArray 55 #[jI 0,uI 0,zzN] 49;rw[<-L]at P I;(have U:bW w A:=by rw[L];exact BEL);obtain⟨B,V⟩:=eX w.heap.size;obtain⟨e,W⟩:=eX (B+1);rw[<-V]at P I;rw[<-W]at I;obtain⟨a2,a3,f,a1⟩:=Bq P I U L;have X:=dY w _ hb;obtain⟨b6,J⟩:=yx ((U.cell (p:=⟨b,1,none⟩) X).trans hb) (show w.heap.size<=e/\e<A.heap.size/\b<e/\B<e from⟨oM,I.lt,by dsimp only at X;omega,oM⟩);clear b2 hb L U N b3 P I X;obtain⟨d,q,o,s,u,t,g,j,k,n,z,right,x⟩:=m;dsimp only[mvV,shV]at*
 go_enter Tryz.func13,Tryz.ntmps13;go_upto_region 1 with fail;rw[<-a1.o,<-V,<-W];clear V W a1;have a:bW A A.drew:=bA (aj _ _);have c:Blk A.drew B 55 #[.int .u8 d,.int .u32 q,jI o,.slice s t.length u,.int .u16 g,.int .u16 j,.int .u16 k,.int .u16 n,uI z,bV right,.int .u16 x]/\A.drew.cell? ⟨b,1,none⟩=some ((pT r)):=⟨a2.o.below a a2.o.lt,b6.o⟩;refine aZ (S:=λK=>Blk K B 55 #[.int .u8 d,.int .u32 q,jI o,.slice s t.length u,.int .u16 g,.int .u16 j,.int .u16 k,.int .u16 n,uI z,bV right,.int .u16 x]/\K.cell? ⟨b,1,none⟩=some ((pT r))) kR c (λc2=>?_);clear c2;refine iL (v:=.agg #[.int .u8 d,.int .u32 q,jI o,.slice s t.length u,.int .u16 g,.int .u16 j,.int .u16 k,.int .u16 n,uI z,bV right,.int .u16 x]) 0 (some 5) rfl kR kR kR kR (λ_ _ _ h=>h) (lH 55 (.tmp 3) rfl rfl B kR #[.int .u8 d,.int .u32 q,jI o,.slice s t.length u,.int .u16 g,.int .u16 j,.int .u16 k,.int .u16 n,uI z,bV right,.int .u16 x] (λw T=>T.1) _ Tryz.underlying55 kR kR) c ?_;refine Yf 1 6 c ?_;refine tK 2 7 c ?_;refine tK 3 8 c ?_;refine X6 4 9 c ?_ (y:=by intro w T;have c6:=T.2;exact gS);refine nrm 7 31 ?_;refine aI 5 kR ?_;refine opC 10 12 #[.agg (mvV ⟨d,q,⟨o,s,u,t,g,j,k,n,z,right,x⟩⟩).toArray,pT r,bV true] ((Oa true _ ⟨d,q,⟨o,s,u,t,g,j,k,n,z,right,x⟩⟩ r a7 l _ ((b9.o.below f.o).below a) ((Q.o.below f.o).below a).hr ((Q.o.below f.o).below a).he ((Q.o.below f.o).below a).ok).mono ?_);rintro c5 a0 ⟨⟨F,G,C,E,D,a8,a9⟩,H⟩;have O:Blk a0 B 55 #[.int .u8 d,.int .u32 q,jI o,.slice s t.length u,.int .u16 g,.int .u16 j,.int .u16 k,.int .u16 n,uI z,bV right,.int .u16 x]/\a0.cell? ⟨b,1,none⟩=some ((pT r)):=⟨c.1.below H c.1.lt,(H.cell (p:=⟨b,1,none⟩) (dY _ _ c.2)).trans c.2⟩;refine⟨_,a8,O,?_⟩;refine mP ?_;have Y:=a3.o.below (a.trans (H.mono a.size)) a3.o.lt;refine dJ (i:=6) 49 (.tmp 4) (.tmp 10) e 0 #[jI F,uI G,.slice C D.length E] rfl kR kR kR kR kR kR (Y.there _ sM) kR XF (?_) ?_
 .have c3:=Below.bZ (av e) [jI F,uI G,.slice C D.length E] 0 _ (aj e a0)
  exact⟨O.1.gy (by have:=J.o;omega) _ _ _,(c3.cell (p:=⟨b,1,none⟩) J.o.2.2.1).trans O.2⟩
 intro R M;have Z:=Blk.gF Y [jI F,uI G,.slice C D.length E] rfl;rw[<-show R=_ from M]at Z;(have b1:bW w R:=by rw[M];exact Below.bZ J.o.1 _ _ _ (f.o.trans ((a.trans (H.mono a.size)).mono f.o.size)));have b0:Ry w R S true F G C E D:=by
  rw[M];exact a9.out_ (ay f.o.size a.size) H.size J.o.1 (aC J.o.2.1 a.size) _ _
 obtain⟨b7,c0,b8⟩:=Av b0 Z b1;clear M Z b1 a9 b0 Y O c H a8;refine mP ?_;refine bg kR ?_ _;go_wp2;refine iZ 4 49 e #[jI F,uI G,.slice C D.length E] kR kR c0.o _ Tryz.underlying49 kR kR rfl ?_;exact⟨⟨F,G,C,E,D,rfl,b7.o⟩,b8.o⟩
def rwV (y:Rw):Array Value:=(zzRow y y.err)
structure Tp where
 (p r en l:Nat)
 rp:Wp
abbrev Bl:=List (Nat×TypeId×Array Value)
abbrev Bo:=List (Option Addr×List Int×Int)
structure Tq (w wr:World) (q:Tp) (n:Nat) (x:Wo) (bL:Bl) (bo:Bo):Prop where
 ex:∃own,iW wr own q.p q.rp x.eO.toNat x/\(∀k,k<w.heap.size->own k=9)/\own q.r=9/\own q.en=9/\own q.l=9/\(∀z∈bL,own z.1=9)/\∀z∈bo,∃tb,(z.2.2=1->tb=5)/\Byt tb wr (λk=>own k=9) z.1 z.2.1
 rw_:Dv wr q.r q.en q.l
 loc:∀z∈bL,Blk wr z.1 z.2.1 z.2.2
 lo:∀z∈bL,w.heap.size<=z.1
 wd:WdX n n 0 0 x
 bel:bW w wr
theorem Uo (m:Mv):(mvV m).length=11:=rfl
theorem UX {S:X4} {a:X5} {c:List Mv} (h:Row w S t 11 a c.length (c.flatMap mvV)) {i:Nat} (k:i<c.length):∃b d,a=some ⟨b,d,none⟩/\b<w.heap.size/\w.rangeAt b (d+i*11) (mvV c[i]):=by
 obtain⟨b,d,rfl,_,g,j⟩:=h.at_ oM;refine⟨b,d,rfl,g,λe m f=>?_⟩;(have l:e<11:=by have:=(List.getElem?_eq_some_iff.1 f).1;rwa [Uo]at this);have:=j (i*11+e) m ((mr Uo c i e k l).trans f)
 rwa [<-Nat.add_assoc]at this
theorem Ag {B b o:Nat} (h:w.rangeAt b o V) (hb:Below B w w') (c:b<B):w'.rangeAt b o V:=λa e d=>(hb.cell (p:=⟨b,o+a,none⟩) c).trans (h a e d)
theorem jd {a:Nat->Nat} (v:World) (h:a k=9):ext v a 9 k=9:=by unfold ext;split<;>first|exact h|rfl
section
variable {w wr W:World} {q:Tp} {n:Nat} {x:Wo} {bL bL':Bl} {bo:Bo}
theorem Tq.below (h:Tq w wr q n x bL bo) (hb:bW wr W):Tq w W q n x bL bo:=by
 obtain⟨p,g,i,j,k,l,m,o⟩:=h.ex;refine⟨⟨ext wr p 9,g.below hb,λd c=>jd _ (i d c),jd _ j,jd _ k,jd _ l,λb a=>jd _ (m b a),λb a=>?_⟩,h.rw_.below hb,λb a=>(h.loc b a).below hb (h.loc b a).lt,h.lo,h.wd,h.bel.trans (hb.mono h.bel.size)⟩;obtain⟨r,e,f⟩:=o b a;exact⟨r,e,aF (aD f hb) (λd c=>jd _ c)⟩
theorem Tq.sub (h:Tq w wr q n x bL bo) (c:∀a∈bL',a∈bL):Tq w wr q n x bL' bo:=by
 obtain⟨l,d,e,f,g,i,j,k⟩:=h.ex;exact⟨⟨l,d,e,f,g,i,λa b=>j a (c a b),k⟩,h.rw_,λa b=>h.loc a (c a b),λa b=>h.lo a (c a b),h.wd,h.bel⟩
theorem Tq.new {g:Nat} (h:Tq w wr q n x bL bo) (hb:bW wr W) (e:wr.heap.size<=g) (u:Blk W g t C):Tq w W q n x ((g,t,C)::bL) bo:=by
 obtain⟨v,k,l,m,o,p,r,s⟩:=h.ex;have c:=h.below hb;refine⟨⟨ext wr v 9,k.below hb,λf d=>jd _ (l f d),jd _ m,jd _ o,jd _ p,λb a=>?_,λb a=>?_⟩,c.rw_,λb a=>?_,λb a=>?_,h.wd,c.bel⟩
 .rcases bT.1 a with rfl|a
  .exact uG e
  .exact jd _ (r b a)
 .obtain⟨y,i,j⟩:=s b a
  exact⟨y,i,aF (aD j hb) (λf d=>jd _ d)⟩
 .rcases bT.1 a with rfl|a
  .exact u
  .exact c.loc b a
 .rcases bT.1 a with rfl|a
  .exact ay h.bel.size e
  .exact c.lo b a
theorem Tq.alloc (h:Tq w wr q n x bL bo) (a:Array Value) (t:TypeId):Tq w (wr.alloc (.cells a t)) q n x ((wr.heap.size,t,a)::bL) bo:=
 h.new ((aj _ _).alloc (av _) _) (av _) (Wx _ _ _)
theorem iW.keepN {d:Nat->Nat} {e:Wp} (h:iW wr d p e k x) (b:∀a,a<=4->∀g,bQ (Own wr d a) g wr W) (f:wr.heap.size<=W.heap.size):iW W d p e k x:=by
 have c:∀a k,Own wr d a k->Own W d a k:=λa k h=>⟨aC h.1 f,h.2⟩;exact⟨(h.l.keep (b 0 dC _)).mono (c 0),(h.e.keep (b 1 dC _)).mono (c 1),(h.pe.keep (ts:=uV) (b 2 dC _) (λ_ h=>h)).mono (c 2),(h.a.keep (ts:=[some 218,some 187,some 222,some 5]) (b 3 dC _) sM sM sM sM).mono (c 3),(h.b.keep (ts:=[some 218,some 187,some 222,some 5]) (b 4 dC _) sM sM sM sM).mono (c 4)⟩
theorem Tq.set {g:Nat} {p cs':Array Value} (h:Tq w wr q n x ((g,t,p)::bL) []) (A:∀c∈bL,c.1≠g) (K:q.r≠g) (H:q.en≠g) (J:q.l≠g) (z:Blk W g t cs') (a:W.heap.size=wr.heap.size) (hb:Below g wr W) (e:∀b,b≠g->W.heap[b]?=wr.heap[b]?):Tq w W q n x ((g,t,cs')::bL) []:=by
 obtain⟨f,r,s,u,v,y,j,F⟩:=h.ex;have k:f g=9:=j _ kT;have E:w.heap.size<=g:=h.lo _ kT;have m:Mod (λb=>b=g) [some t] wr W:=⟨hb.os,hb.tape,hb.output,oM,λb l=>by
  by_cases d:b=g
  .exact .inr ⟨d,by subst d;exact⟨_,h.loc _ kT,by simp[nH]⟩⟩
  .exact .inl (e b d)⟩
 have D:∀(i:Nat),i<=4->∀o,bQ (Own wr f i) o wr W:=λi I o=>m.iD (λb B C=>by
  (have G:f b=9:=by rw[C];exact k);have:=B.2;omega)
 refine⟨⟨f,r.keepN D oM,s,u,v,y,λc a=>?_,λc a=>by cases a⟩,?_,λc a=>?_,λc a=>?_,h.wd,h.bel.trans (m.cZ h.bel.size (λb e d=>by subst d;omega))⟩
 .rcases bT.1 a with rfl|a
  .exact k
  .exact j c (jQ _ a)
 .exact h.rw_.keep (λb l=>e b (by rcases l with rfl|rfl|rfl<;>assumption))
 .rcases bT.1 a with rfl|a
  .exact z
  .exact(e c.1 (A c a)).trans (h.loc c (jQ _ a))
 .rcases bT.1 a with rfl|a
  .exact E
  .exact h.lo c (jQ _ a)
theorem Tq.gF {g:Nat} {a cs':Array Value} (h:Tq w wr q n x ((g,t,a)::bL) []) (b:∀j∈bL,j.1≠g) (f:q.r≠g) (c:q.en≠g) (e:q.l≠g) (i:cs'.size=a.size):Tq w (wr.setCells g 0 cs'.toList) q n x ((g,t,cs')::bL) []:=
 h.set b f c e (by have:=Blk.gF (h.loc _ kT) cs'.toList (by simpa using i);simpa using this) sM (Below.bZ (av _) _ _ _ (aj _ _)) (λk d=>WW d _ _ _)
theorem Tq.ne (h:Tq w wr q n x bL bo) {g:Nat} (i:wr.heap.size<=g):(∀a∈bL,a.1≠g)/\q.r≠g/\q.en≠g/\q.l≠g:=by
 obtain⟨_,_,d,_⟩:=h.rw_.hx;have b:=dY wr _ h.rw_.hr;have c:=dY wr _ h.rw_.he;have f:=d.lt;dsimp only at b c;exact⟨λa e=>by have:=(h.loc a e).lt;omega,oM,oM,oM⟩
theorem Tq.box (h:Tq w wr q n x bL bo) (a cs':Array Value) (t:TypeId) (b:cs'.size=a.size):Tq w ((wr.alloc (.cells a t)).setCells wr.heap.size 0 cs'.toList) q n x ((wr.heap.size,t,cs')::bL) bo:=
 h.new (Below.bZ (av _) _ _ _ ((aj _ _).alloc (av _) _)) (av _) (by have:=Blk.gF (Wx wr t a) cs'.toList (by simpa using b);simpa using this)
structure EvF (hon:Bool) (kind en:Int) (c:Nat) (bs:List Int):Prop where
 hk:1<=kind/\kind<=6
 hh:hon=true->kind≠3
 hn:Word en
 cap:bs.length<=c
 by_:dP bs
 len:bs.length<=4000
theorem Tq.got {S:X4} {m:Bool} {kind i:Int} {a:X5} (h:Tq w wr q n x bL bo) (z:∀e,S e->e<w.heap.size) (d:Ry wr W S m kind i a c l) (hb:bW wr W):EvF m kind i c l/\Tq w W q n x bL [(a,l,kind)]:=by
 refine⟨⟨d.hk,d.hh,d.hn,d.fr.cap,d.fr.by_,d.fr.len⟩,?_⟩;obtain⟨A,s,k,t,u,v,y,C⟩:=h.ex;have f:=h.below hb;refine⟨⟨ext wr A 9,s.below hb,λe b=>jd _ (k e b),jd _ t,jd _ u,jd _ v,λo g=>jd _ (y o g),λo g=>?_⟩,f.rw_,f.loc,f.lo,f.wd,f.bel⟩;obtain rfl:=dZ.1 g;by_cases j:kind=1
 .exact⟨5,λ_=>rfl,aF (d.five j) (λe b=>uG b.1)⟩
 .obtain⟨B,r⟩:=d.fr.ex
  refine⟨B,λp=>Wy p j,aF r (λe b=>?_)⟩;rcases b with b|b
  .exact jd _ (k e (z e b))
  .exact uG b.1
theorem Tq.event {S:X4} (h:Tq w wr q n x bL bo) (p:∀k,S k->k<w.heap.size) (f:Bool) (m:Mv) (t:T9 w S m):
  Yk 12 #[.agg (mvV m).toArray,(pT q.r),bV f] wr λi g=>(∃b e c d a,i=.returned (.agg #[jI b,uI e,.slice c a.length d])/\EvF f b e d a/\Tq w g q n x bL [(c,a,b)])/\bW wr g:=by
 refine(Oa f S m q.r q.en q.l wr (t.below h.bel) h.rw_.hr h.rw_.he h.rw_.ok).mono ?_;rintro i g ⟨⟨b,e,c,d,a,r,s⟩,j⟩;obtain⟨l,o⟩:=h.got p s j;exact⟨⟨b,e,c,d,a,r,l,o⟩,j⟩
theorem Tq.ways {S:X4} (h:Tq w wr q n x bL bo) (o:∀j,S j->j<w.heap.size) (hb:(b,45,#[pT p,(pT q.r)])∈bL) (m:Mv) (t:T9 w S m):
  Yk 13 #[pT b,.agg (mvV m).toArray] wr λi g=>(∃c f d e a,i=.returned (.agg #[jI c,uI f,.slice d a.length e])/\EvF true c f e a/\Tq w g q n x bL [(d,a,c)])/\bW wr g:=by
 refine(U7 S m b p q.r q.en q.l wr (t.below h.bel) ((h.loc _ hb).cell 1) h.rw_).mono ?_;rintro i g ⟨⟨c,f,d,e,a,r,s⟩,hb⟩;obtain⟨k,l⟩:=h.got o s hb;exact⟨⟨c,f,d,e,a,r,k,l⟩,hb⟩
theorem Tq.did {e:Nat->Nat} (h:Tq w wr q n x bL bo) (y:iW wr e q.p q.rp x.eO.toNat x) (j:∀a,a<w.heap.size->e a=9) (p:e q.r=9) (r:e q.en=9) (s:e q.l=9) (k:∀c∈bL,e c.1=9) (i:dD e wr q.p q.rp D.eO.toNat D W) (t:WdX m m 0 0 D):Tq w W q m D bL []:=by
 obtain⟨v,f,o⟩:=i.ex;have b:∀a,a<wr.heap.size->e a=9->W.heap[a]?=wr.heap[a]?:=λa b A=>by
  rcases i.m.block a b with h|⟨h,-⟩
  .exact h
  .omega
 have g:∀a,(a=q.r\/a=q.en\/a=q.l)->a<wr.heap.size:=λa b=>by
  obtain⟨_,_,u,_⟩:=h.rw_.hx;rcases b with rfl|rfl|rfl
  .exact dY wr _ h.rw_.hr
  .exact dY wr _ h.rw_.he
  .exact u.lt
 refine⟨⟨v,o,λa b=>(f a (aC b h.bel.size)).trans (j a b),(f _ (g _ (.inl rfl))).trans p,(f _ (g _ (.inr (.inl rfl)))).trans r,(f _ (g _ (.inr (.inr rfl)))).trans s,λc d=>(f _ (h.loc c d).lt).trans (k c d),λc d=>by cases d⟩,h.rw_.keep (λa l=>b a (g a l) (by rcases l with rfl|rfl|rfl<;>assumption)),λc d=>(b _ (h.loc c d).lt (k c d)).trans (h.loc c d),h.lo,t,h.bel.trans (i.m.cZ h.bel.size (λa b z=>by have:=j a b;omega))⟩
theorem Tq.doIt {kind d:Int} {a:X5} {z:Bool} (h:Tq w wr q n x bL bo) (v:(a,l,kind)∈bo) (b:EvF z kind d c l) (y:n<=148):
  Yk 11 #[(pT q.p),.agg #[jI kind,uI d,.slice a l.length c]] wr λg j=>g=.returned (.agg (rwV (zz x ⟨kind,d,l⟩)))/\Tq w j q (n+1) (Bc x ⟨kind,d,l⟩) bL []:=by
 obtain⟨f,i,k,m,o,p,r,s⟩:=h.ex;obtain⟨D,B,C⟩:=s _ v;refine(LJ (tb:=D) f wr q.p n q.rp x kind d (λe=>f e=9) a c l i h.wd y b.hk b.hn (aF C (λe u=>by show 4<f e;rw[u];decide)) b.cap (ay b.len dC) b.by_ B).mono ?_;rintro g j ⟨t,A⟩;exact⟨t,h.did i k m o p r A (U6 h.wd ⟨b.by_,b.hn.1⟩ b.hk)⟩
theorem Tq.row (h:Tq w wr q n x bL bo) (a:n<=148):
  Yk 14 #[(pT q.p)] wr λb f=>b=.returned (.agg (rwV (woRow x)))/\bW wr f:=by
 obtain⟨e,c,g⟩:=h.ex;have i:=h.wd.small (ay a dC) (ay a dC);(have d:x.eO.toNat<=100000:=by have:=h.wd.ahi;have:=h.wd.ahc;omega);exact GV e wr wr q.p x.eO.toNat x.eO.toNat _ q.rp x (dD.refl c) h.wd.en h.wd.pe d oM oM
theorem Tq.start {b p i j l:Nat} {r:Nat->Nat} {s:Wp} {d:Pl} {k m:List Fa} {S:X4} (h:BgAt w' wr b p i j l r s d k m) (f:bW w w') (hb:bW w' wr) (g:UL w S d) (e:∀c∈bL,w.heap.size<=c.1/\Blk w' c.1 c.2.1 c.2.2):
  Tq w wr ⟨p,i,j,l,s⟩ 0 (mO (fV d.k) (d.ws.take 60) k m d.delay) ((b,45,#[pT p,pT i])::bL) []:=by
 refine⟨⟨r,h.wo,λv t=>h.old v (aC t f.size),h.o.2.1,h.o.2.2.1,h.o.2.2.2,λc a=>?_,λc a=>by cases a⟩,h.rw_,λc a=>?_,λc a=>?_,?_,f.trans (hb.mono f.size)⟩
 .rcases bT.1 a with rfl|a
  .exact h.o.1
  .exact h.old _ (e c a).2.lt
 .rcases bT.1 a with rfl|a
  .exact h.blk
  .exact(e c a).2.below hb (e c a).2.lt
 .rcases bT.1 a with rfl|a
  .exact ay f.size h.bb
  .exact(e c a).1
 .have o:=g.delay
  exact OU (CS g.ku) (λy u=>g.wu y (bf u)) (by rw[aT];omega) (by have:=h.fa.1;omega) (by have:=h.fa.2.1;omega) h.fa.2.2.1 h.fa.2.2.2 ⟨o.1,by have:=o.2;omega⟩
end
end Go.Proofs.YtiflndepmgnojaaGreat
