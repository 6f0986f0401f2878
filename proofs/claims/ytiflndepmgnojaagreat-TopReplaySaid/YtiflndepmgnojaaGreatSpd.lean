import Derived.Test.YtiflndepmgnojaaGreatOct
import Derived.Test.YtiflndepmgnojaaGreatInv
namespace Go.Proofs.YtiflndepmgnojaaGreat
open Go.RowKit
set_option linter.unusedSimpArgs false
set_option linter.unusedVariables false
set_option maxHeartbeats 4000000
set_option maxRecDepth 100000
attribute[local go_sem] BW.cell BW.frozen
def spV (s:Sp):List Value:=[uI s.lo,uI s.hi]
def spVs (l:List Sp):List Value:=l.flatMap spV
structure SpW (s:Sp):Prop where
 lo:Word s.lo
 hi:Word s.hi
def Sps (w:World) (S:Nat->Prop) (a:Option Addr) (l:List Sp):Prop:=Row w S 272 2 a l.length (spVs l)
theorem Sps.at_ {w w':World} {S:Nat->Prop} {a:Option Addr} {l:List Sp} {j:Nat} (h:Sps w S a l) (hb:bW w w') (r:j<l.length):
  ∃b d,a=some ⟨b,d,none⟩/\b<w.heap.size/\w'.cell? ⟨b,d+j*2,none⟩=some (uI l[j].lo)/\w'.cell? ⟨b,d+j*2+1,none⟩=some (uI l[j].hi):=by
 obtain⟨b,d,n,t,k,e⟩:=Row.at_ h oM;have q:=λc e=>mr (f:=spV) (m:=2) (λ_=>rfl) l j c r e;have i:∀c g,c<2->(spV l[j])[c]?=some g->w'.cell? ⟨b,d+j*2+c,none⟩=some g:=λc g o s=>by
  rw[Nat.add_assoc];exact(hb.cell (p:=⟨b,d+(j*2+c),none⟩) k).trans (e _ _ ((q c o).trans s))
 exact⟨b,d,n,k,i 0 _ oM rfl,i 1 _ oM rfl⟩
theorem zG (s:Sp) (w:World):
  Calls Tryz.prog 212 #[.agg #[uI s.lo,uI s.hi]] w λe f=>e=.returned (bV (jf s))/\bW w f:=by
 obtain⟨b,a⟩:=s;by_cases c:b<=a
 ·go_enter Tryz.func212,Tryz.ntmps212
  go_wp2_with fail;go_ret;exact⟨eF (by unfold jf;simp[c]),BEL⟩
 ·have d:decide (b<=a)=false:=by simp;omega
  go_enter Tryz.func212,Tryz.ntmps212;go_wp2_with fail;go_ret;exact⟨eF (by unfold jf;simp[d]),BEL⟩
theorem Ar (p:Option Int) (s:Sp) (t:List Sp):oh p (s::t)=(jf s&&(match p with|none=>true|some h=> !decide (s.lo<=h+1))&&oh (some s.hi) t):=rfl
def uj (l:List Sp) (j:Nat):Option Int:=if j=0 then none else(l[j -1]?).map (·.hi)
theorem IA {l:List Sp} {j:Nat} (h:j<l.length):uj l (j+1)=some l[j].hi:=by unfold uj;simp[h]
theorem qw (S:Nat->Prop) (a:Option Addr) (c:Nat) (l:List Sp) (w:World) (h:Sps w S a l) (a9:l.length<=9223372036854775807) (P:∀f∈l,SpW f):
  Calls Tryz.prog 211 #[.slice a l.length c] w λQ X=>Q=.returned (bV (iR l))/\bW w X:=by
 have F:=zH h;have G:=zH P;clear h P;go_enter Tryz.func211,Tryz.ntmps211;go_wp2_with fail;go_loopw [7] (λz wr=>∃(b:Nat),b<=l.length/\z=jI b/\Hid (oh (uj l b) (l.drop b)=iR l)/\(0<b->(l[b -1]?.map (·.hi)).getD 0<=4611686018427387903)/\Hid (bW w wr)) (λz _=>l.length -(intOf z).toNat);(case atStart=>exact⟨0,oM,rfl,rfl,λh=>by omega,aj _ _⟩);case round=>
  obtain⟨b,a8,rfl,E,m,g⟩:=hrel;have r:=g.out.size;by_cases o:b<l.length
  ·obtain⟨H,b3,rfl,a5,b1,b2⟩:=F.out.at_ g.out o
   have d:=E.out;rw[aR o,Ar]at d;have M:=IA o;have q:=G.out _ (aN o);have b9:=q.lo.1;have c0:=q.lo.2;have c1:=q.hi.1;have c2:=q.hi.2;have e:=zH (zG l[b]);have D:Hid (uj l (b+1)=some l[b].hi):=zH M;have C:Hid ((l[b+1 -1]?.map (·.hi)).getD 0=l[b].hi):=zH (by simp[o]);clear M q;by_cases k:jf l[b]=true
   ·rw[k]at d e
    (have L:l[b].hi<=4611686018427387903:=by unfold jf at k;simp at k;exact k.2);clear k;by_cases s:b=0
    ·have U:decide (0<(b:Int))=false:=by simp;omega
     (have V:decide (0<b)=false:=by simp;omega);(have p:uj l b=none:=by unfold uj;rw[aB s]);rw[p]at d;simp only[Bool.true_and]at d;rw[<-D.out]at d;have u:=zH d;clear d p s m;generalize l[b]=f at*
     obtain⟨A,x⟩:=f;simp only at*
     go_wp2_with fail;refine fq kR kR ?_;(repeat (first|go_big_quiet_step ((go_at_call 212;exact bU _ (e.out _)))|quiet_step ((go_at_call 212;exact bU _ (e.out _)))));refine aK ?_;refine bwI ?_;intro B i;go_wp2_with fail;go_roundw;(case rel=>exact⟨b+1,oM,by go_num,u,λ_=>by rw[C.out];exact L,(g.out.alloc r _).trans (i.mono sO)⟩);case measure=>simp[intOf];omega
    ·have U:decide (0<(b:Int))=true:=by simp;omega
     (have V:decide (0<b)=true:=by simp;omega);have W:0<b:=oM;have m:=m W;obtain⟨Z,b4,v,_,b7,b8⟩:=F.out.at_ g.out (j:=b -1) oM;injection v with v;injection v with R T;subst R T;(have p:uj l b=some l[b -1].hi:=by unfold uj;rw[Ww s];simp[show b -1<l.length by omega]);(have N:(l[b -1]?.map (·.hi)).getD 0=l[b -1].hi:=by simp[show b -1<l.length by omega]);rw[N]at m;rw[p]at d;have b5:=(G.out _ (aN (show b -1<l.length by omega))).hi.1;generalize l[b -1].hi=t at*
     generalize l[b -1].lo=b6 at*
     have I:(b:Int) -1=((b -1:Nat):Int):=oM;have a0:(0:Int)<=(b:Int) -1:=oM;have a1:(b:Int) -1<(l.length:Int):=oM;have a2:((b:Int) -1).toNat=b -1:=oM;have a3:IntKind.i64.wrap ((b:Int) -1)=(b:Int) -1:=eP _ oM;have a4:IntKind.u64.wrap (t+1)=t+1:=Wz _ oM;have Y:=zH I;have a6:H<wr.heap.size:=oM;have a7:H<wr.heap.size+1:=oM;clear p s N I;by_cases y:l[b].lo<=t+1
     ·have K:iR l=false:=by rw[<-d];simp[y]
      have n:=zH K;clear d K;generalize l[b]=f at*
      obtain⟨A,x⟩:=f;simp only at*
      go_wp2_with fail;refine fq kR kR ?_;(repeat (first|go_big_quiet_step ((go_at_call 212;exact bU _ (e.out _)))|quiet_step ((go_at_call 212;exact bU _ (e.out _)))));refine aK ?_;refine bwI ?_;intro B i;go_wp2_with fail;go_ret;exact⟨eF n.out.symm,(g.out.alloc r _).trans (i.mono sO)⟩
     ·have J:oh (uj l (b+1)) (l.drop (b+1))=iR l:=by rw[D.out,<-d];simp[y]
      (have b0:decide (l[b].lo<=t+1)=false:=by simp;omega);have u:=zH J;clear d J y;generalize l[b]=f at*
      obtain⟨A,x⟩:=f;simp only at*
      go_wp2_with fail;refine fq kR kR ?_;(repeat (first|go_big_quiet_step ((go_at_call 212;exact bU _ (e.out _)))|quiet_step ((go_at_call 212;exact bU _ (e.out _)))));refine aK ?_;refine bwI ?_;intro B i;go_wp2_with fail;go_roundw;(case rel=>exact⟨b+1,oM,by go_num,u,λ_=>by rw[C.out];exact L,(g.out.alloc r _).trans (i.mono sO)⟩);case measure=>simp[intOf];omega
   ·have O:jf l[b]=false:=by simpa using k
    rw[O]at d e;simp only[Bool.false_and]at d;have n:=zH d.symm;clear d k O m;generalize l[b]=f at*
    obtain⟨A,x⟩:=f;simp only at*
    go_wp2_with fail;refine fq kR kR ?_;(repeat (first|go_big_quiet_step ((go_at_call 212;exact bU _ (e.out _)))|quiet_step ((go_at_call 212;exact bU _ (e.out _)))));refine aK ?_;refine bwI ?_;intro B i;go_wp2_with fail;go_ret;exact⟨eF n.out.symm,(g.out.alloc r _).trans (i.mono sO)⟩
  ·obtain rfl:b=l.length:=oM
   have d:=E.out;rw[List.drop_length]at d;have n:Hid (iR l=true):=zH d.symm;clear d m;go_wp2_with fail;go_ret;exact⟨eF n.out.symm,g.out⟩
theorem iP:Elem Tryz.prog 90 272 2 16 spV:=
 ⟨Tryz.underlying90,by
  obtain⟨a,c,d,e,f⟩:=info_parts (show(Tryz.prog.info? 272).map (λa=>(a.zero,a.size,a.bytes))=some (some (.agg #[uI 0,uI 0]),2,16) by kernel_rfl);exact⟨a,_,c,d,e,f,rfl⟩,dC,λ_=>rfl,λi g b=>by simp[spV]at b;rcases b with rfl|rfl<;>rfl⟩
theorem CX (x:Sp) (t:List Sp) (n:Int):dI (x::t) n=(nV n x||dI t n):=rfl
theorem yZ (S:Nat->Prop) (a:Option Addr) (c:Nat) (l:List Sp) (n:Int) (w:World) (h:Sps w S a l) (D:l.length<=9223372036854775807) (A:∀t∈l,SpW t):
  Calls Tryz.prog 156 #[.slice a l.length c,uI n] w λp G=>p=.returned (bV (oQ l n))/\bW w G:=by
 have k:=zH (qw S a c l w h D A);have C:=zH h;clear h A;by_cases g:iR l=true
 ·rw[g]at k
  (have i:oQ l n=dI l n:=by unfold oQ;rw[g];rfl);rw[i];clear g i;go_enter Tryz.func156,Tryz.ntmps156;go_wp2_with fail;refine(k.out).mono ?_;rintro p H ⟨rfl,f⟩;have j:=zH f;clear f;go_wp2_with fail;go_loopw [12] (λs wr=>∃(d:Nat),d<=l.length/\s=jI d/\Hid (dI (l.drop d) n=dI l n)/\Hid (bW w wr)) (λs _=>l.length -(intOf s).toNat);(case atStart=>exact⟨0,oM,rfl,rfl,j⟩);case round=>
   obtain⟨d,M,rfl,u,e⟩:=hrel;have r:=e.out.size;clear j;by_cases z:d<l.length
   ·obtain⟨I,N,rfl,L,E,F⟩:=C.out.at_ e.out z
    have b:=u.out;rw[aR z,CX]at b;generalize l[d]=t at*
    obtain⟨B,y⟩:=t;simp only at E F;by_cases v:B<=n
    ·by_cases x:n<=y
     ·have o:Hid (dI l n=true):=zH (by rw[<-b];simp[nV,v,x])
      clear b;go_wp2_with fail;go_ret;exact⟨eF o.out.symm,e.out.alloc r _⟩
     ·have K:decide (n<=y)=false:=by simp;omega
      have m:Hid (dI (l.drop (d+1)) n=dI l n):=zH (by rw[<-b];simp[nV,x]);clear b;go_wp2_with fail;go_roundw;(case rel=>exact⟨d+1,oM,by go_num,m,e.out.alloc r _⟩);case measure=>simp[intOf];omega
    ·have J:decide (B<=n)=false:=by simp;omega
     have m:Hid (dI (l.drop (d+1)) n=dI l n):=zH (by rw[<-b];simp[nV,v]);clear b;go_wp2_with fail;go_roundw;(case rel=>exact⟨d+1,oM,by go_num,m,e.out.alloc r _⟩);case measure=>simp[intOf];omega
   ·obtain rfl:d=l.length:=oM
    have b:=u.out;rw[List.drop_length]at b;have o:Hid (dI l n=false):=zH b.symm;clear b;go_wp2_with fail;go_ret;exact⟨eF o.out.symm,e.out⟩
 ·have q:iR l=false:=by simpa using g
  rw[q]at k;(have i:oQ l n=false:=by unfold oQ;rw[q];rfl);rw[i];clear g q i;go_enter Tryz.func156,Tryz.ntmps156;go_wp2_with fail;refine(k.out).mono ?_;rintro p H ⟨rfl,f⟩;have j:=zH f;clear f;go_wp2_with fail;go_ret;exact⟨rfl,j.out⟩
theorem kQ {w:World} {g:Nat} {lo a:Int} (h:Blk w g 272 #[uI lo,uI a]):Row w (λb=>b=g) 272 2 (some ⟨g,0,none⟩) [(⟨lo,a⟩:Sp)].length ([(⟨lo,a⟩:Sp)].flatMap spV):=iP.single _ h rfl
theorem yM {w:World} {b:Nat} {e:TypeId} {size n c m:Nat} {a:Option Addr} {xs:List Value} (h:w.ownsRow b e size (.slice a n c) m xs):n<=c:=by
 rcases h.2 with⟨d,l⟩|⟨k,g,i,d,_,_,o,_⟩
 ·injection d with _ f _;omega
 ·injection d with _ f j;omega
theorem AV (S:Nat->Prop) (a:Option Addr) (c:Nat) (l:List Sp) (s:Sp) (w:World) (h:Sps w S a l) (i3:l.length<=1000000000) (a9:∀s∈l,SpW s) (f0:SpW s):
  Calls Tryz.prog 201 #[.slice a l.length c,.agg #[uI s.lo,uI s.hi]] w λx P=>∃a5 a6,x=.returned (.tuple #[.slice a5 (jh l s).length a6,bV (iR l&&jf s)])/\(jh l s).length<=a6/\Sps P (λb1=>w.heap.size<=b1/\b1<P.heap.size) a5 (jh l s)/\bW w P:=by
 have M:=zH (λP (e7:bW w P)=>qw S a c l P (h.below e7) oM a9);have d5:=zH h;have X:=zH (zG s);have d6:=zH a9;clear h a9;obtain⟨d,b⟩:=s;obtain⟨⟨g0,g1⟩,⟨g2,g3⟩⟩:=f0;simp only at g0 g1 g2 g3;by_cases y:iR l=true
 ·by_cases H:jf ⟨d,b⟩=true
  ·rw[y]at M
   rw[H]at X;(have J:jh l ⟨d,b⟩=l.flatMap (ji ⟨d,b⟩):=by unfold jh;rw[y,H];rfl);rw[y,H,J];(have i4:b<=4611686018427387903:=by unfold jf at H;simp at H;exact H.2);clear y H J;go_enter Tryz.func201,Tryz.ntmps201;go_wp2_with fail;refine(M.out _ BEL).mono ?_;rintro x z ⟨rfl,o⟩;have a3:Hid (Below (w.alloc (.cells #[uI d,uI b] 272)).heap.size (w.alloc (.cells #[uI d,uI b] 272)) z):=o;have b4:=o.cell (p:=⟨w.heap.size,0,none⟩) sM;have b5:=o.cell (p:=⟨w.heap.size,1,none⟩) sM;simp[go_sem]at b4 b5;(have c7:w.heap.size<z.heap.size:=by have:=o.size;simp at this;omega);clear o;go_wp2_with fail;refine(X.out _).mono ?_;rintro x c8 ⟨rfl,T⟩;have V:Hid (Below (w.alloc (.cells #[uI d,uI b] 272)).heap.size (w.alloc (.cells #[uI d,uI b] 272)) c8):=zH (a3.out.trans (T.mono a3.out.size));clear T b4 b5 c7 a3;go_wp2_with fail;generalize Z:w.alloc (.cells #[uI d,uI b] 272)=i at*
   (have c4:bW w i:=by rw[<-Z];exact BEL);(have c2:i.heap.size=w.heap.size+1:=by rw[<-Z];simp);(have c0:Blk i w.heap.size 272 #[uI d,uI b]:=by rw[<-Z];exact Wx _ _ _);have a4:=zH c0;have d1:=zH c4;have h5:=zH c2;have a2:w.heap.size<i.heap.size:=oM;clear Z c0 c4 c2;go_loopw [6,19] (λg4 b0 wr=>∃(g:Nat) (e:List Sp) (u:Option Addr) (v:Nat),g<=l.length/\b0=jI g/\g4=.slice u e.length v/\e.length<=2*g/\
    Hid (wr.ownsRow i.heap.size 272 2 (.slice u e.length v) e.length (e.flatMap spV))/\Hid (e++(l.drop g).flatMap (ji ⟨d,b⟩)=l.flatMap (ji ⟨d,b⟩))/\Hid (bW i wr)) (λ_ b0 _=>l.length -(intOf b0).toNat)
   (case atStart=>exact⟨0,[],none,0,oM,rfl,rfl,sM,iq _ _ _ _,rfl,V⟩);case round=>
    obtain⟨g,e,u,v,i2,rfl,rfl,i0,Q,b8,B⟩:=hrel;clear V;have O:=B.out.size;have b6:Hid (Blk wr w.heap.size 272 #[uI d,uI b]):=zH (a4.out.below B.out a2);have b4:=b6.out.Wu 0;have b5:=b6.out.Wu 1;have c7:w.heap.size<wr.heap.size:=oM;have a7:=d1.out.trans (B.out.mono (fO a2));by_cases a8:g<l.length
    ·obtain⟨h6,i5,rfl,N,f8,f9⟩:=d5.out.at_ a7 a8
     have L:=b8.out;rw[aR a8,List.flatMap_cons]at L;have K:=zH L;have U:=d6.out _ (aN a8);have g7:=U.lo.1;have g8:=U.lo.2;have g9:=U.hi.1;have h0:=U.hi.2;clear L a7 U;generalize l[g]=g6 at*
     obtain⟨j,f⟩:=g6;simp only at f8 f9 g7 g8 g9 h0;have c1:∀(b2 b3:Obj),((wr.alloc b2).alloc b3).ownsRow i.heap.size 272 2 (.slice u e.length v) e.length (e.flatMap spV):=λb2 b3=>(Q.out.alloc b2).alloc b3;have t:=zH c1;have b7:=zH (zI Q.out);clear c1;by_cases b9:f<d
     ·go_wp2_with (at_builtin;refine iP.wpList rfl (.tmp 35) (.tmp 37) rfl i.heap.size u v (e) (by rfl) (t.out _ _) (some ⟨wr.heap.size+1,0,none⟩) 1 [⟨j,f⟩] (by rfl) (kQ (Blk.qN _ _ _ _)) sO dC sO ?_;intro A E q n m)
      have k:bW i q:=((B.out.alloc O _).alloc sO _).grown m sO (jM (t.out (.cells #[] 0) (.cells #[] 0)));have D:Hid ((e++[⟨j,f⟩])++(l.drop (g+1)).flatMap (ji ⟨d,b⟩)=l.flatMap (ji ⟨d,b⟩)):=zH (by have:=K.out;simpa[ji,b9]using this);have r:=zH n;have C:=zH k;clear n k m;go_wp2_with fail;go_roundw;(case rel=>exact⟨g+1,_,A,E,oM,by go_num,sM,by simp only[aU,bO];omega,r,D,C⟩);case measure=>simp[intOf];omega
     ·by_cases e2:b<j
      ·have e1:decide (f<d)=false:=by simp;omega
       go_wp2_with (at_builtin;refine iP.wpList rfl (.tmp 35) (.tmp 37) rfl i.heap.size u v (e) (by rfl) (t.out _ _) (some ⟨wr.heap.size+1,0,none⟩) 1 [⟨j,f⟩] (by rfl) (kQ (Blk.qN _ _ _ _)) sO dC sO ?_;intro A E q n m);have k:bW i q:=((B.out.alloc O _).alloc sO _).grown m sO (jM (t.out (.cells #[] 0) (.cells #[] 0)));have D:Hid ((e++[⟨j,f⟩])++(l.drop (g+1)).flatMap (ji ⟨d,b⟩)=l.flatMap (ji ⟨d,b⟩)):=zH (by have:=K.out;simpa[ji,b9,e2]using this);have r:=zH n;have C:=zH k;clear n k m;go_wp2_with fail;go_roundw;(case rel=>exact⟨g+1,_,A,E,oM,by go_num,sM,by simp only[aU,bO];omega,r,D,C⟩);case measure=>simp[intOf];omega
      ·have e1:decide (f<d)=false:=by simp;omega
       (have h7:decide (b<j)=false:=by simp;omega);by_cases Y:j<d
       ·by_cases R:b<f
        ·have h4:=K
         go_wp2_with (first|(at_builtin;refine iP.wpList rfl (.tmp 58) (.tmp 65) rfl i.heap.size A E (e++[⟨j,d -1⟩]) (by first|rfl|simp[Act.eval]) (r.out.alloc _) (some ⟨q.heap.size,0,none⟩) 1 [⟨(b+1),f⟩] (by rfl) (kQ (Wx _ _ _)) sO dC sO ?_;intro c9 e3 g5 c6 c5)|(at_builtin;refine iP.wpList rfl (.tmp 44) (.tmp 51) rfl i.heap.size u v (e) (by rfl) (t.out _ _) (some ⟨wr.heap.size+1,0,none⟩) 1 [⟨j,(d -1)⟩] (by rfl) (kQ (Blk.qN _ _ _ _)) sO dC sO ?_;intro A E q n m;have k:bW i q:=((B.out.alloc O _).alloc sO _).grown m sO (jM (t.out (.cells #[] 0) (.cells #[] 0)));have G:Blk q wr.heap.size 272 #[uI j,uI f]:=((Wx wr _ _).alloc _).grown m (λx=>by have:=b7.out wr.heap.size x.symm;omega);have h1:=G.Wu 0;have h2:=G.Wu 1;have h3:=G.lt;have F:=a4.out.below k a2;have d8:=F.Wu 0;have d9:=F.Wu 1;have e0:=F.lt;have r:=zH n;have C:=zH k;have f1:=k.size;clear n k m G F));have D:Hid (((e++[⟨j,d -1⟩])++[⟨b+1,f⟩])++(l.drop (g+1)).flatMap (ji ⟨d,b⟩)=l.flatMap (ji ⟨d,b⟩)):=zH (by have:=K.out;simpa[ji,(show¬(f<d\/b<j)from by omega),Y,R]using this);have c3:bW i g5:=(C.out.alloc oM _).grown c5 sO (jM r.out);have d4:=zH c6;have d0:=zH c3;clear c6 c3 c5;go_wp2_with fail;go_roundw;(case rel=>exact⟨g+1,_,c9,e3,oM,by go_num,sM,by simp only[aU,bO];omega,d4,D,d0⟩);case measure=>simp[intOf];omega
        ·have e4:decide (b<f)=false:=by simp;omega
         go_wp2_with (at_builtin;refine iP.wpList rfl (.tmp 44) (.tmp 51) rfl i.heap.size u v (e) (by rfl) (t.out _ _) (some ⟨wr.heap.size+1,0,none⟩) 1 [⟨j,(d -1)⟩] (by rfl) (kQ (Blk.qN _ _ _ _)) sO dC sO ?_;intro A E q n m;have k:bW i q:=((B.out.alloc O _).alloc sO _).grown m sO (jM (t.out (.cells #[] 0) (.cells #[] 0)));have G:Blk q wr.heap.size 272 #[uI j,uI f]:=((Wx wr _ _).alloc _).grown m (λx=>by have:=b7.out wr.heap.size x.symm;omega);have h1:=G.Wu 0;have h2:=G.Wu 1;have h3:=G.lt;have F:=a4.out.below k a2;have d8:=F.Wu 0;have d9:=F.Wu 1;have e0:=F.lt;have r:=zH n;have C:=zH k;have f1:=k.size;clear n k m G F);have D:Hid ((e++[⟨j,d -1⟩])++(l.drop (g+1)).flatMap (ji ⟨d,b⟩)=l.flatMap (ji ⟨d,b⟩)):=zH (by have:=K.out;simpa[ji,(show¬(f<d\/b<j)from by omega),Y,eq_false R]using this);go_wp2_with fail;go_roundw;(case rel=>exact⟨g+1,_,A,E,oM,by go_num,sM,by simp only[aU,bO];omega,r,D,C⟩);case measure=>simp[intOf];omega
       ·have h8:decide (j<d)=false:=by simp;omega
        by_cases R:b<f
        ·go_wp2_with (at_builtin;refine iP.wpList rfl (.tmp 58) (.tmp 65) rfl i.heap.size u v (e) (by rfl) (t.out _ _) (some ⟨wr.heap.size+1,0,none⟩) 1 [⟨(b+1),f⟩] (by rfl) (kQ (Blk.qN _ _ _ _)) sO dC sO ?_;intro A E q n m)
         have k:bW i q:=((B.out.alloc O _).alloc sO _).grown m sO (jM (t.out (.cells #[] 0) (.cells #[] 0)));have D:Hid ((e++[⟨b+1,f⟩])++(l.drop (g+1)).flatMap (ji ⟨d,b⟩)=l.flatMap (ji ⟨d,b⟩)):=zH (by have:=K.out;simpa[ji,(show¬(f<d\/b<j)from by omega),eq_false Y,R]using this);have r:=zH n;have C:=zH k;clear n k m;go_wp2_with fail;go_roundw;(case rel=>exact⟨g+1,_,A,E,oM,by go_num,sM,by simp only[aU,bO];omega,r,D,C⟩);case measure=>simp[intOf];omega
        ·have e4:decide (b<f)=false:=by simp;omega
         have d2:Hid (e++(l.drop (g+1)).flatMap (ji ⟨d,b⟩)=l.flatMap (ji ⟨d,b⟩)):=zH (by have:=K.out;simpa[ji,(show¬(f<d\/b<j)from by omega),eq_false Y,eq_false R]using this);go_wp2_with fail;go_roundw;(case rel=>exact⟨g+1,e,u,v,oM,by go_num,rfl,oM,Q.out.alloc _,d2,B.out.alloc O _⟩);case measure=>simp[intOf];omega
    ·obtain rfl:g=l.length:=oM
     have L:=b8.out;rw[List.drop_length,List.flatMap_nil,List.append_nil]at L;have d3:=zH L;clear L;go_wp2_with fail;go_ret2;obtain⟨a5,a6,f2,i1,e9⟩:=nT Q.out;injection f2 with e5 h9 e6;subst e5 e6;rw[<-d3.out];exact⟨_,_,rfl,yM Q.out,aF e9 (λb1 e8=>⟨oM,e8.2⟩),a7⟩
  ·have a1:jf ⟨d,b⟩=false:=by simpa using H
   rw[y]at M;rw[a1]at X;(have J:jh l ⟨d,b⟩=[]:=by unfold jh;rw[y,a1];rfl);rw[y,a1,J];clear y H a1 J;go_enter Tryz.func201,Tryz.ntmps201;go_wp2_with fail;refine(M.out _ BEL).mono ?_;rintro x z ⟨rfl,o⟩;have N:bW w z:=by
    refine bD ?_ (o.mono ?_)
    ·exact BEL
    ·first|(simp;done)|(simp;omega)
   have I:Blk z (w.heap.size) 272 #[uI d,uI b]:=iK o;obtain⟨f3,f5,f4,f6⟩:=I.c2;have f7:w.heap.size<z.heap.size:=I.lt;have d7:=zH I;clear I;have W:=zH N;clear o N;go_wp2_with fail;refine(X.out _).mono ?_;rintro x c8 ⟨rfl,T⟩;have V:=zH T;clear T;go_wp2_with fail;go_ret2;exact⟨none,0,rfl,av _,Row.WH,W.out.trans (V.out.mono W.out.size)⟩
 ·have a0:iR l=false:=by simpa using y
  rw[a0]at M;(have J:jh l ⟨d,b⟩=[]:=by unfold jh;rw[a0];rfl);rw[a0,J,Bool.false_and];clear y a0 J;go_enter Tryz.func201,Tryz.ntmps201;go_wp2_with fail;refine(M.out _ BEL).mono ?_;rintro x z ⟨rfl,o⟩;have N:bW w z:=by
   refine bD ?_ (o.mono ?_)
   ·exact BEL
   ·first|(simp;done)|(simp;omega)
  have I:Blk z (w.heap.size) 272 #[uI d,uI b]:=iK o;obtain⟨f3,f5,f4,f6⟩:=I.c2;have f7:w.heap.size<z.heap.size:=I.lt;have d7:=zH I;clear I;have W:=zH N;clear o N;go_wp2_with fail;go_ret2;exact⟨none,0,rfl,av _,Row.WH,W.out⟩
theorem Jt (lo:Int) (s:Sp) (t:List Sp):jr lo (s::t)=if lo<=s.hi then⟨max s.lo lo,s.hi⟩::jr lo t else jr lo t:=rfl
theorem zb (S:Nat->Prop) (a:Option Addr) (c:Nat) (l:List Sp) (lo:Int) (w:World) (h:Sps w S a l) (b1:l.length<=1000000000) (N:∀Y∈l,SpW Y):
  Calls Tryz.prog 200 #[.slice a l.length c,uI lo] w λD H=>∃A B,D=.returned (.slice A (gV l lo).length B)/\(gV l lo).length<=B/\Sps H (λO=>w.heap.size<=O/\O<H.heap.size) A (gV l lo)/\bW w H:=by
 have u:=zH (qw S a c l w h oM N);have Q:=zH h;clear h N;by_cases o:iR l=true
 ·rw[o]at u
  (have r:gV l lo=jr lo l:=by unfold gV;rw[o];rfl);rw[r];clear o r;go_enter Tryz.func200,Tryz.ntmps200;go_wp2_with fail;refine(u.out).mono ?_;rintro D a0 ⟨rfl,m⟩;have t:=zH m;clear m;go_wp2_with fail;go_loopw [5,13] (λZ G wr=>∃(d:Nat) (b:List Sp) (j:Option Addr) (k:Nat),d<=l.length/\G=jI d/\Z=.slice j b.length k/\b.length<=d/\
   Hid (wr.ownsRow w.heap.size 272 2 (.slice j b.length k) b.length (b.flatMap spV))/\Hid (b++jr lo (l.drop d)=jr lo l)/\Hid (bW w wr)) (λ_ G _=>l.length -(intOf G).toNat)
  (case atStart=>exact⟨0,[],none,0,oM,rfl,rfl,sM,iq _ _ _ _,rfl,t⟩);case round=>
   obtain⟨d,b,j,k,b0,rfl,rfl,a7,e,K,g⟩:=hrel;clear t;have F:=g.out.size;by_cases M:d<l.length
   ·obtain⟨a2,b2,rfl,a8,W,X⟩:=Q.out.at_ g.out M
    have f:=K.out;rw[aR M,Jt]at f;have J:=zH f;clear f;generalize l[d]=a1 at*
    obtain⟨v,s⟩:=a1;simp only at W X;by_cases L:lo<=s
    ·have i:Hid ((b++[⟨max v lo,s⟩])++jr lo (l.drop (d+1))=jr lo l):=zH (by have:=J.out;simpa[L]using this)
     by_cases a4:v<lo
     ·rw[Int.max_eq_right oM]at i
      go_wp2_with (at_builtin;refine iP.wpList rfl (.tmp 21) (.tmp 29) rfl w.heap.size j k b (by rfl) ((e.out.alloc _).alloc _) (some ⟨wr.heap.size+1,0,none⟩) 1 [⟨lo,s⟩] (by rfl) (kQ (Blk.qN _ _ _ _)) sO dC sO ?_;intro x C I q p;have n:bW w I:=((g.out.alloc F _).alloc sO _).grown p sO (jM e.out);have z:=zH q;have y:=zH n;clear q n p);go_roundw;(case rel=>exact⟨d+1,_,x,C,oM,by go_num,sM,by simp;omega,z,i,y⟩);case measure=>simp[intOf];omega
     ·rw[Int.max_eq_left oM]at i
      have a5:lo<=v:=oM;go_wp2_with (at_builtin;refine iP.wpList rfl (.tmp 21) (.tmp 29) rfl w.heap.size j k b (by rfl) ((e.out.alloc _).alloc _) (some ⟨wr.heap.size+1,0,none⟩) 1 [⟨v,s⟩] (by rfl) (kQ (Blk.qN _ _ _ _)) sO dC sO ?_;intro x C I q p;have n:bW w I:=((g.out.alloc F _).alloc sO _).grown p sO (jM e.out);have z:=zH q;have y:=zH n;clear q n p);go_roundw;(case rel=>exact⟨d+1,_,x,C,oM,by go_num,sM,by simp;omega,z,i,y⟩);case measure=>simp[intOf];omega
    ·have a3:decide (lo<=s)=false:=by simp;omega
     have i:Hid (b++jr lo (l.drop (d+1))=jr lo l):=zH (by have:=J.out;rwa [Ww L]at this);go_wp2_with fail;go_roundw;(case rel=>exact⟨d+1,b,j,k,oM,by go_num,rfl,oM,e.out.alloc _,i,g.out.alloc F _⟩);case measure=>simp[intOf];omega
   ·obtain rfl:d=l.length:=oM
    have f:=K.out;rw[List.drop_length]at f;have P:Hid (b=jr lo l):=zH (by simpa[jr]using f);clear f;go_wp2_with fail;go_ret;obtain⟨A,B,V,a9,U⟩:=nT e.out;injection V with R a6 T;subst R T;rw[<-P.out];exact⟨_,_,rfl,yM e.out,U,g.out⟩
 ·have E:iR l=false:=by simpa using o
  rw[E]at u;(have r:gV l lo=[]:=by unfold gV;rw[E];rfl);rw[r];clear o E r;go_enter Tryz.func200,Tryz.ntmps200;go_wp2_with fail;refine(u.out).mono ?_;rintro D a0 ⟨rfl,m⟩;have t:=zH m;clear m;go_wp2_with fail;go_ret;exact⟨none,0,rfl,av _,Row.WH,t.out⟩
theorem Ig (s x:Sp) (t:List Sp):qU s (x::t)=if x.hi<s.lo then qU s t else x::t:=rfl
theorem Dm (s:Sp) (t b:List Sp):lI (s::t) b=match qU s b with|[]=>false|x::r=>if s.lo<x.lo\/x.hi<s.hi then false else lI t (x::r):=rfl
theorem xG (S S':Nat->Prop) (a:Option Addr) (c:Nat) (l:List Sp) (a2:Option Addr) (c2:Nat) (m:List Sp) (w:World) (h:Sps w S a l) (e0:l.length<=1000000000) (a9:∀W∈l,SpW W)
  (O:Sps w S' a2 m) (e1:m.length<=1000000000) (b0:∀W∈m,SpW W):
  Calls Tryz.prog 183 #[.slice a l.length c,.slice a2 m.length c2] w λx J=>x=.returned (bV (jA l m))/\bW w J:=by
 have u:=zH (qw S a c l w h oM a9);have G:=zH (λJ (i:bW w J)=>qw S' a2 c2 m J (O.below i) oM b0);have b8:=zH h;have b9:=zH O;clear h a9 O b0;by_cases q:iR l=true
 ·by_cases B:iR m=true
  ·rw[q]at u
   rw[B]at G;(have r:jA l m=lI l m:=by unfold jA;rw[q,B];rfl);rw[r];clear q r B;go_enter Tryz.func183,Tryz.ntmps183;go_wp2_with fail;refine(u.out).mono ?_;rintro x b4 ⟨rfl,i⟩;have f:=zH i;clear i;go_wp2_with fail;refine(G.out _ f.out).mono ?_;rintro x c7 ⟨rfl,A⟩;have F:=zH (f.out.trans (A.mono f.out.size));clear A f;go_wp2_with fail;go_loopw [5,18] (λD T wr=>∃(n o:Nat),n<=l.length/\o<=m.length/\T=jI n/\D=jI o/\Hid (lI (l.drop n) (m.drop o)=lI l m)/\Hid (bW w wr)) (λ_ T _=>l.length -(intOf T).toNat);(case atStart=>exact⟨0,0,oM,oM,rfl,rfl,rfl,F⟩);case round=>
    obtain⟨n,o,d8,c4,rfl,rfl,Z,E⟩:=hrel;clear F;have c5:=E.out.size;by_cases a8:n<l.length
    ·obtain⟨d2,e4,rfl,d6,b1,b2⟩:=b8.out.at_ E.out a8
     have s:=Z.out;rw[aR a8,Dm]at s;have X:=zH s;clear s;generalize l[n]=c8 at*
     obtain⟨d,e⟩:=c8;simp only at b1 b2;go_wp2_with fail;have a6:bW w (wr.alloc (.cells #[uI d,uI e] 272)):=E.out.alloc c5 _;have a5:Blk (wr.alloc (.cells #[uI d,uI e] 272)) wr.heap.size 272 #[uI d,uI e]:=Wx _ _ _;generalize c3:wr.alloc (.cells #[uI d,uI e] 272)=wx at*
     have j:=zH a6;have a1:=zH a5;clear c3 a6 a5 b1 b2;obtain⟨y,rfl⟩:∃y:World,y=wr:=⟨_,rfl⟩;go_loopw [5] (λD wr=>∃(b:Nat),b<=m.length/\D=jI b/\Hid (qU ⟨d,e⟩ (m.drop b)=qU ⟨d,e⟩ (m.drop o))/\Hid (∃I,wr=wx.drewN I)) (λD _=>m.length -(intOf D).toNat);(case atStart=>exact⟨o,c4,rfl,rfl,0,rfl⟩);case round=>
      obtain⟨b,d9,rfl,a0,b7⟩:=hrel;obtain⟨I,rfl⟩:=b7.out;have K:=a1.out.Wu 0;have L:=a1.out.Wu 1;have e5:(0:Int)<=(b:Int):=oM;by_cases H:b<m.length
      ·obtain⟨a3,b3,rfl,d7,U,V⟩:=b9.out.at_ j.out H
       have P:=a0.out;rw[aR H,Ig]at P;have Y:=zH P;clear P;(have c6:decide (b<m.length)=true:=by simpa using H);(have e6:((b:Int)==(m.length:Int))=false:=by simp;omega);have e7:(b:Int)<(m.length:Int):=oM;have a7:(m[b]::m.drop (b+1))=m.drop b:=(aR H).symm;have b6:=zH a7;clear a7;generalize m[b]=c9 at*
       obtain⟨M,z⟩:=c9;simp only at U V;generalize g:wx.drewN I=t at*
       (have e2:t.cell? ⟨a3,b3+b*2,none⟩=some (uI M):=by rw[<-g];exact U);(have e3:t.cell? ⟨a3,b3+b*2+1,none⟩=some (uI z):=by rw[<-g];exact V);(have d0:t.cell? ⟨y.heap.size,0,none⟩=some (uI d):=by rw[<-g];exact K);(have d1:t.cell? ⟨y.heap.size,1,none⟩=some (uI e):=by rw[<-g];exact L);have v:=zH g;clear g U V K L;by_cases a4:z<d
       ·have b5:Hid (qU ⟨d,e⟩ (m.drop (b+1))=qU ⟨d,e⟩ (m.drop o)):=zH (by have:=Y.out;rwa [aB a4]at this)
        go_wp2_with fail;refine mQ ?_;rintro _ ⟨nq,rfl⟩;go_wp2_with fail;go_roundw;(case rel=>exact⟨b+1,oM,by go_num,b5,by rw[<-v.out,World.drewN_drewN];exact⟨_,rfl⟩⟩);case measure=>simp[intOf];omega
       ·have d3:decide (z<d)=false:=by simp;omega
        (have C:qU ⟨d,e⟩ (m.drop o)=⟨M,z⟩::m.drop (b+1):=by have:=Y.out;rw[Ww a4]at this;exact this.symm);have p:=X.out;rw[C]at p;simp only at p;have N:=zH p;clear C p;by_cases c0:d<M
        ·have k:Hid (lI l m=false):=zH (by have:=N.out;rw[aB (Or.inl c0)]at this;exact this.symm)
         go_wp2_with fail;refine mQ ?_;rintro _ ⟨nq,rfl⟩;go_wp2_with fail;refine mQ ?_;rintro _ ⟨nq,rfl⟩;go_wp2_with fail;go_ret;exact⟨eF k.out.symm,by rw[<-v.out];first|exact aA (aA (aA j.out _) _) _|exact aA (aA j.out _) _⟩
        ·have d4:decide (d<M)=false:=by simp;omega
         by_cases c1:z<e
         ·have k:Hid (lI l m=false):=zH (by have:=N.out;rw[aB (Or.inr c1)]at this;exact this.symm)
          go_wp2_with fail;refine mQ ?_;rintro _ ⟨nq,rfl⟩;go_wp2_with fail;refine mQ ?_;rintro _ ⟨nq,rfl⟩;go_wp2_with fail;go_ret;exact⟨eF k.out.symm,by rw[<-v.out];first|exact aA (aA (aA j.out _) _) _|exact aA (aA j.out _) _⟩
         ·have d5:decide (z<e)=false:=by simp;omega
          have k:Hid (lI (l.drop (n+1)) (m.drop b)=lI l m):=zH (by have:=N.out;rw[Ww oM]at this;rw[<-b6.out];exact this);go_wp2_with fail;refine mQ ?_;rintro _ ⟨nq,rfl⟩;go_wp2_with fail;refine mQ ?_;rintro _ ⟨nq,rfl⟩;go_wp2_with fail;go_roundw;(case rel=>exact⟨n+1,b,oM,oM,by go_num,rfl,k,by rw[<-v.out];first|exact aA (aA (aA j.out _) _) _|exact aA (aA j.out _) _⟩);case measure=>simp[intOf];omega
      ·obtain rfl:b=m.length:=oM
       have c6:decide (m.length<m.length)=false:=sM;(have C:qU ⟨d,e⟩ (m.drop o)=[]:=by have:=a0.out;rw[List.drop_length]at this;exact this.symm);have p:=X.out;rw[C]at p;have k:Hid (lI l m=false):=zH p.symm;clear C p;generalize g:wx.drewN I=t at*
       (have d0:t.cell? ⟨y.heap.size,0,none⟩=some (uI d):=by rw[<-g];exact K);(have d1:t.cell? ⟨y.heap.size,1,none⟩=some (uI e):=by rw[<-g];exact L);have v:=zH g;clear g K L;go_wp2_with fail;refine mQ ?_;rintro _ ⟨nq,rfl⟩;go_wp2_with fail;refine mQ ?_;rintro _ ⟨nq,rfl⟩;go_wp2_with fail;go_ret;exact⟨eF k.out.symm,by rw[<-v.out];first|exact aA (aA (aA j.out _) _) _|exact aA (aA j.out _) _⟩
    ·obtain rfl:n=l.length:=oM
     have s:=Z.out;rw[List.drop_length]at s;have k:Hid (lI l m=true):=zH s.symm;clear s;go_wp2_with fail;go_ret;exact⟨eF k.out.symm,E.out⟩
  ·have R:iR m=false:=by simpa using B
   rw[q]at u;rw[R]at G;(have r:jA l m=false:=by unfold jA;rw[q,R];rfl);rw[r];clear q r B R;go_enter Tryz.func183,Tryz.ntmps183;go_wp2_with fail;refine(u.out).mono ?_;rintro x b4 ⟨rfl,i⟩;have f:=zH i;clear i;go_wp2_with fail;refine(G.out _ f.out).mono ?_;rintro x c7 ⟨rfl,A⟩;have F:=zH (f.out.trans (A.mono f.out.size));clear A f;go_wp2_with fail;go_ret;exact⟨rfl,F.out⟩
 ·have Q:iR l=false:=by simpa using q
  rw[Q]at u;(have r:jA l m=false:=by unfold jA;rw[Q];rfl);rw[r];clear q r Q;go_enter Tryz.func183,Tryz.ntmps183;go_wp2_with fail;refine(u.out).mono ?_;rintro x b4 ⟨rfl,i⟩;have f:=zH i;clear i;go_wp2_with fail;go_ret;exact⟨rfl,f.out⟩
theorem zx (s x:Sp) (t:List Sp):jb s (x::t)=if x.hi+1<s.lo then x::jb s t else[]:=rfl
theorem zw (s x:Sp) (t:List Sp):ja s (x::t)=if x.hi+1<s.lo then ja s t else x::t:=rfl
theorem Gl (s x:Sp) (t:List Sp):WJ s (x::t)=if x.lo<=s.hi+1 then WJ ⟨min s.lo x.lo,max s.hi x.hi⟩ t else s::x::t:=rfl
theorem GA {p:Option Int}:∀{l:List Sp},oh p l=true->∀b∈l,jf b=true
 |[],_,b,a=>by cases a
 |x::t,h,b,a=>by
  rw[Ar]at h;simp only[Bool.and_eq_true]at h;rcases bT.1 a with rfl|a
  ·exact h.1.1
  ·exact GA h.2 b a
theorem BJ {s:Sp} (h:jf s=true):s.lo<=s.hi/\s.hi<=4611686018427387903:=by unfold jf at h;simpa using h
theorem Ib {w:World} {S:Nat->Prop} {b f:Nat} {l:List Sp} {j:Nat} (h:Sps w S (some ⟨b,f,none⟩) l) (e:j<=l.length) (a':Option Addr) (d:j<l.length->a'=some ⟨b,f+j*2,none⟩):Row w S 272 2 a' (l.drop j).length ((l.drop j).flatMap spV):=by
 have c:=Row.drop h e (a':=a') (λm n o a=>by injection a with a;injection a with i k;subst i k;exact d m);rw[bI];have g:(spVs l).drop (j*2)=(l.drop j).flatMap spV:=by
  unfold spVs;clear h c d
  induction l generalizing j with
  |nil=>simp
  |cons x t ih=>
   cases j with
   |zero=>simp
   |succ j=>
    rw[List.drop_succ_cons,List.flatMap_cons,show(j+1)*2=(spV x).length+j*2 by simp[spV];omega,List.drop_append];simp only[Nat.add_sub_cancel_left];rw[List.drop_of_length_le oM,List.nil_append];exact ih (by simpa using e)
 rw[<-g];exact c
theorem AQ:(Tryz.prog.info? 272).map (λa=>(a.zero,a.size,a.bytes))=some (some (.agg #[uI 0,uI 0]),2,16):=by kernel_rfl
theorem sH (S:Nat->Prop) (a:Option Addr) (c:Nat) (l:List Sp) (s:Sp) (w:World) (h:Sps w S a l) (p1:l.length<=1000000000) (p0:l.length<=c) (h1:∀s∈l,SpW s) (m2:SpW s):
  Calls Tryz.prog 158 #[.slice a l.length c,.agg #[uI s.lo,uI s.hi]] w λc3 c7=>∃d2 d3,c3=.returned (.tuple #[.slice d2 (iV l s).length d3,bV (iR l&&jf s)])/\(iV l s).length<=d3/\Sps c7 (λf=>w.heap.size<=f/\f<c7.heap.size) d2 (iV l s)/\bW w c7:=by
 have c1:=zH (λc7 (l8:bW w c7)=>qw S a c l c7 (h.below l8) oM h1);have d0:=zH h;have f4:=zH (zG s);have g2:=zH h1;clear h h1;obtain⟨b,e⟩:=s;obtain⟨⟨h7,h8⟩,⟨h9,i0⟩⟩:=m2;simp only at h7 h8 h9 i0;by_cases k:iR l=true
 ·by_cases b7:jf ⟨b,e⟩=true
  ·have i4:=zH (GA k)
   rw[k]at c1;rw[b7]at f4;(have j5:iV l ⟨b,e⟩=jb ⟨b,e⟩ l++WJ ⟨b,e⟩ (ja ⟨b,e⟩ l):=by unfold iV;rw[k,b7];rfl);rw[k,b7,j5];obtain⟨n7,h0⟩:=BJ b7;simp only at n7 h0;clear k b7 j5;go_enter Tryz.func158,Tryz.ntmps158;go_wp2_with fail;refine(c1.out _ BEL).mono ?_;rintro c3 R ⟨rfl,C⟩;have g1:Hid (Below (w.alloc (.cells #[uI b,uI e] 272)).heap.size (w.alloc (.cells #[uI b,uI e] 272)) R):=C;have b9:=C.cell (p:=⟨w.heap.size,0,none⟩) sM;have c0:=C.cell (p:=⟨w.heap.size,1,none⟩) sM;simp[go_sem]at b9 c0;(have k4:w.heap.size<R.heap.size:=by have:=C.size;simp at this;omega);clear C;go_wp2_with fail;refine(f4.out _).mono ?_;rintro c3 F ⟨rfl,z⟩;have y:Hid (Below (w.alloc (.cells #[uI b,uI e] 272)).heap.size (w.alloc (.cells #[uI b,uI e] 272)) F):=zH (g1.out.trans (z.mono g1.out.size));clear z b9 c0 k4 g1;go_wp2_with fail;generalize f5:w.alloc (.cells #[uI b,uI e] 272)=g at*
   (have j4:bW w g:=by rw[<-f5];exact BEL);(have j3:g.heap.size=w.heap.size+1:=by rw[<-f5];simp);(have j2:Blk g w.heap.size 272 #[uI b,uI e]:=by rw[<-f5];exact Wx _ _ _);have k6:=zH j2;have k5:=zH j4;have o4:=zH j3;have U:w.heap.size<g.heap.size:=oM;clear f5 j2 j4 j3;go_loopw [6,7] (λZ h3 wr=>∃(i:Nat) (d:List Sp) (t:Option Addr) (u:Nat),i<=l.length/\h3=jI i/\Z=.slice t d.length u/\d.length<=i/\
    Hid (wr.ownsRow g.heap.size 272 2 (.slice t d.length u) d.length (d.flatMap spV))/\Hid (d++jb ⟨b,e⟩ (l.drop i)=jb ⟨b,e⟩ l)/\Hid (ja ⟨b,e⟩ (l.drop i)=ja ⟨b,e⟩ l)/\Hid (bW g wr)) (λ_ h3 _=>l.length -(intOf h3).toNat)
   (case atStart=>exact⟨0,[],none,0,oM,rfl,rfl,sM,iq _ _ _ _,rfl,rfl,y⟩);case round=>
    obtain⟨i,d,t,u,j8,rfl,rfl,o6,c2,i5,i6,e9⟩:=hrel;clear y;have k0:=e9.out.size;have e7:Hid (Blk wr w.heap.size 272 #[uI b,uI e]):=zH (k6.out.below e9.out U);have b9:=e7.out.Wu 0;have c0:=e7.out.Wu 1;have k4:w.heap.size<wr.heap.size:=oM;have c5:=k5.out.trans (e9.out.mono (fO U));have p2:(0:Int)<=(i:Int):=oM;by_cases d7:∃v:i<l.length,l[i].hi+1<b
    ·obtain⟨v,g3⟩:=d7
     obtain⟨i8,n5,rfl,b3,h4,h5⟩:=d0.out.at_ c5 v;have b4:=i5.out;have g8:=i6.out;rw[aR v,zx,aB g3]at b4;rw[aR v,zw,aB g3]at g8;have f1:=zH b4;have k8:=zH g8;have n:=g2.out _ (aN v);have i1:=n.hi.1;(have k2:decide (i<l.length)=true:=by simpa using v);have n1:(i:Int)<(l.length:Int):=oM;clear b4 g8 n c5;generalize l[i]=e6 at*
     obtain⟨h6,f7⟩:=e6;simp only at h4 h5 g3 i1;have l0:=zH (zI c2.out);have l9:i8<wr.heap.size:=oM;have k7:Hid ((d++[⟨h6,f7⟩])++jb ⟨b,e⟩ (l.drop (i+1))=jb ⟨b,e⟩ l):=zH (by have:=f1.out;simpa using this);have p4:f7<18446744073709551616:=oM;go_wp2_with fail;refine mQ ?_;rintro _ ⟨nq,rfl⟩;have a5:(wr.drewN nq).ownsRow g.heap.size 272 2 (.slice t d.length u) d.length (d.flatMap spV):=c2.out;have z:bW g (wr.drewN nq):=aA e9.out nq;have W:=zH a5;have y:=zH z;clear a5 z;go_wp2_with (at_builtin;refine iP.wpList rfl (.tmp 33) (.tmp 38) rfl g.heap.size t u d (by rfl) (W.out.alloc _) (some ⟨wr.heap.size,0,none⟩) 1 [⟨h6,f7⟩] (by rfl) (kQ (Wx (wr.drewN nq) _ _)) sO dC sO ?_;intro a9 b1 T M A;have L:bW g T:=(y.out.alloc sO _).grown A sO (jM c2.out);have Q:=zH M;have V:=zH L;clear M L A);go_roundw;(case rel=>exact⟨i+1,_,a9,b1,oM,by go_num,sM,by simp;omega,Q,k7,k8,V⟩);case measure=>simp[intOf];omega
    ·have g7:jb ⟨b,e⟩ (l.drop i)=[]/\ja ⟨b,e⟩ (l.drop i)=l.drop i:=by
      by_cases v:i<l.length
      ·have f8:¬l[i].hi+1<b:=λb5=>d7 ⟨v,b5⟩
       rw[aR v,zx,zw,Ww f8,Ww f8];exact⟨rfl,rfl⟩
      ·rw[List.drop_of_length_le oM];exact⟨rfl,rfl⟩
     have g6:=i5.out;have g9:=i6.out;rw[g7.1,List.append_nil]at g6;rw[g7.2]at g9;have g0:=zH g6;have i7:=zH g9;clear g6 g9 g7;have l0:=zH (zI c2.out);have i3:=zH c5;by_cases v:i<l.length
     ·obtain⟨I,a8,rfl,o7,h4,h5⟩:=d0.out.at_ c5 v
      have f8:¬l[i].hi+1<b:=λb5=>d7 ⟨v,b5⟩;have n:=g2.out _ (aN v);have Y:=(BJ (i4.out _ (aN v))).2;have i1:=n.hi.1;(have k2:decide (i<l.length)=true:=by simpa using v);have n1:(i:Int)<(l.length:Int):=oM;(have m1:decide (l[i].hi+1<b)=false:=by simp;omega);clear n c5 f8 d7;generalize l[i]=e6 at*
      obtain⟨h6,f7⟩:=e6;simp only at h4 h5 i1 Y m1;have o9:I<wr.heap.size:=oM;go_wp2_with fail;refine mQ ?_;rintro _ ⟨nq,rfl⟩;have a5:(wr.drewN nq).ownsRow g.heap.size 272 2 (.slice t d.length u) d.length (d.flatMap spV):=c2.out;have z:bW w (wr.drewN nq):=aA i3.out nq;have Y:Blk (wr.drewN nq) w.heap.size 272 #[uI b,uI e]:=e7.out;have W:=zH a5;have y:=zH z;have X:=zH Y;clear a5 z Y b9 c0;go_wp2_with fail;obtain⟨a0,b8⟩:∃a0:World,a0=wr.drewN nq:=⟨_,rfl⟩;rw[<-b8]at W y X|-;(have h2:g.heap.size<=a0.heap.size:=by rw[b8];exact k0);have m4:w.heap.size<a0.heap.size:=X.out.lt;clear b8;go_loopw [7] (λZ F=>∃(f:Nat) (E:Sp),f<=l.length/\i<=f/\g.heap.size<=F.heap.size/\Z=jI f/\Hid (Word E.lo/\Word E.hi/\E.hi<=4611686018427387903)/\Hid (Blk F w.heap.size 272 #[uI E.lo,uI E.hi])/\Hid (WJ E (l.drop f)=WJ ⟨b,e⟩ (ja ⟨b,e⟩ l))/\
       Hid (F.ownsRow g.heap.size 272 2 (.slice t d.length u) d.length (d.flatMap spV))/\Hid (bW w F)) (λZ _=>l.length -(intOf Z).toNat)
      (case atStart=>exact⟨i,⟨b,e⟩,j8,av _,h2,rfl,⟨⟨h7,h8⟩,⟨h9,i0⟩,h0⟩,X,zH (by rw[i7.out]),W,y⟩);case round=>
       obtain⟨f,⟨m,j⟩,b6,m0,m5,rfl,d1,o,f2,H,G⟩:=hrel;clear W y X;simp only at d1 o;obtain⟨⟨n8,n9⟩,⟨o0,o1⟩,o2⟩:=d1.out;have b9:=o.out.Wu 0;have c0:=o.out.Wu 1;have l4:=o.out.frozen 0;have l5:=o.out.frozen 1;have n6:=o.out.lt;have m3:=G.out.size;have n2:(0:Int)<=(f:Int):=oM;by_cases c6:f<l.length
       ·obtain⟨i8,n5,g5,b3,n3,n4⟩:=d0.out.at_ G.out c6
        injection g5 with g5;injection g5 with l6 l7;subst l6 l7;have l9:I<wr.heap.size:=oM;have o8:¬(I=w.heap.size):=oM;have b4:=f2.out;rw[aR c6,Gl]at b4;have f1:=zH b4;have n:=g2.out _ (aN c6);have Y:=(BJ (i4.out _ (aN c6))).2;have u0:=n.lo.1;have u1:=n.lo.2;have u2:=n.hi.1;have u3:=n.hi.2;(have k3:decide (f<l.length)=true:=by simpa using c6);have p3:(f:Int)<(l.length:Int):=oM;clear b4 n;have j6:l[f]::l.drop (f+1)=l.drop f:=(aR c6).symm;have k9:=zH j6;clear j6;generalize l[f]=e6 at*
        obtain⟨x,D⟩:=e6;simp only at n3 n4 u0 u1 u2 u3 Y;have j1:IntKind.u64.wrap (j+1)=j+1:=Wz _ oM;have o3:=zH j1;clear j1;by_cases j0:x<=j+1
        ·have B:=f1.out
         rw[aB j0]at B;simp only at B;have f3:=zH B;clear B;by_cases c4:x<m<;>by_cases g4:j<D
         ·have q:min m x=x:=oM
          have J:max j D=D:=oM;have r:=f3.out;rw[q,J]at r;have b0:=zH r;clear r q J;go_wp2_with fail;refine mQ ?_;rintro _ ⟨nq,rfl⟩;go_wp2_with fail;refine bP 17 kR kR ?_;refine mB ?_;rintro _ ⟨O,rfl⟩;refine dA rfl rfl ?_;go_simp;refine aK ?_;go_wp2_with fail;go_roundw;(case rel=>exact⟨f+1,⟨x,D⟩,oM,oM,by simp[World.setCell];omega,by go_num,zH ⟨⟨oM,oM⟩,⟨oM,oM⟩,oM⟩,zH (by have:=((o.out.drewN (nq+O)).bF 0 (uI x)).bF 1 (uI D);simpa using this),b0,zH (ownsRow_setCell_below (ownsRow_setCell_below (show(wr.drewN (nq+O)).ownsRow _ _ _ _ _ _ from H.out) (a:=⟨w.heap.size,0,none⟩) U _) (a:=⟨w.heap.size,1,none⟩) U _),zH (((aA G.out _).setCell (av _) _).setCell (av _) _)⟩);case measure=>simp[intOf];omega
         ·have q:min m x=x:=oM
          have J:max j D=j:=oM;have r:=f3.out;rw[q,J]at r;have b0:=zH r;clear r q J;have l3:D<=j:=oM;go_wp2_with fail;refine mQ ?_;rintro _ ⟨nq,rfl⟩;go_wp2_with fail;refine bP 17 kR kR ?_;refine mB ?_;rintro _ ⟨O,rfl⟩;refine dA rfl rfl ?_;go_simp;refine aK ?_;go_wp2_with fail;go_roundw;(case rel=>exact⟨f+1,⟨x,j⟩,oM,oM,by simp[World.setCell];omega,by go_num,zH ⟨⟨oM,oM⟩,⟨oM,oM⟩,oM⟩,zH (by have:=((o.out.drewN (nq+O)).bF 0 (uI x)).bF 1 (uI j);simpa using this),b0,zH (ownsRow_setCell_below (ownsRow_setCell_below (show(wr.drewN (nq+O)).ownsRow _ _ _ _ _ _ from H.out) (a:=⟨w.heap.size,0,none⟩) U _) (a:=⟨w.heap.size,1,none⟩) U _),zH (((aA G.out _).setCell (av _) _).setCell (av _) _)⟩);case measure=>simp[intOf];omega
         ·have q:min m x=m:=oM
          have J:max j D=D:=oM;have r:=f3.out;rw[q,J]at r;have b0:=zH r;clear r q J;have l2:m<=x:=oM;go_wp2_with fail;refine mQ ?_;rintro _ ⟨nq,rfl⟩;go_wp2_with fail;refine bP 17 kR kR ?_;refine mB ?_;rintro _ ⟨O,rfl⟩;refine dA rfl rfl ?_;go_simp;refine aK ?_;go_wp2_with fail;go_roundw;(case rel=>exact⟨f+1,⟨m,D⟩,oM,oM,by simp[World.setCell];omega,by go_num,zH ⟨⟨oM,oM⟩,⟨oM,oM⟩,oM⟩,zH (by have:=((o.out.drewN (nq+O)).bF 0 (uI m)).bF 1 (uI D);simpa using this),b0,zH (ownsRow_setCell_below (ownsRow_setCell_below (show(wr.drewN (nq+O)).ownsRow _ _ _ _ _ _ from H.out) (a:=⟨w.heap.size,0,none⟩) U _) (a:=⟨w.heap.size,1,none⟩) U _),zH (((aA G.out _).setCell (av _) _).setCell (av _) _)⟩);case measure=>simp[intOf];omega
         ·have q:min m x=m:=oM
          have J:max j D=j:=oM;have r:=f3.out;rw[q,J]at r;have b0:=zH r;clear r q J;have l2:m<=x:=oM;have l3:D<=j:=oM;go_wp2_with fail;refine mQ ?_;rintro _ ⟨nq,rfl⟩;go_wp2_with fail;refine bP 17 kR kR ?_;refine mB ?_;rintro _ ⟨O,rfl⟩;refine dA rfl rfl ?_;go_simp;refine aK ?_;go_wp2_with fail;go_roundw;(case rel=>exact⟨f+1,⟨m,j⟩,oM,oM,by simp[World.setCell];omega,by go_num,zH ⟨⟨oM,oM⟩,⟨oM,oM⟩,oM⟩,zH (by have:=((o.out.drewN (nq+O)).bF 0 (uI m)).bF 1 (uI j);simpa using this),b0,zH (ownsRow_setCell_below (ownsRow_setCell_below (show(wr.drewN (nq+O)).ownsRow _ _ _ _ _ _ from H.out) (a:=⟨w.heap.size,0,none⟩) U _) (a:=⟨w.heap.size,1,none⟩) U _),zH (((aA G.out _).setCell (av _) _).setCell (av _) _)⟩);case measure=>simp[intOf];omega
        ·have o5:decide (x<=j+1)=false:=by simp;omega
         have B:=f1.out;rw[Ww j0]at B;have a1:Hid ((d++[⟨m,j⟩])++l.drop f=jb ⟨b,e⟩ l++WJ ⟨b,e⟩ (ja ⟨b,e⟩ l)):=zH (by rw[g0.out,<-B,k9.out];simp);clear B;go_wp2_with fail;refine mQ ?_;rintro _ ⟨nq,rfl⟩;have a6:(wr.drewN nq).ownsRow g.heap.size 272 2 (.slice t d.length u) d.length (d.flatMap spV):=H.out;have a3:bW w (wr.drewN nq):=aA G.out nq;have c9:=zH a6;have c8:=zH a3;clear a6 a3;obtain⟨k1,a4,e2,a7,e3⟩:=info_parts AQ;have hcut:=gI (P:=Tryz.prog) Tryz.underlying90 a4 (some ⟨I,a8,none⟩) l.length c f oM;rw[a7]at hcut;(have a2:f<l.length->fE (some ⟨I,a8,none⟩) c f 2=some ⟨I,a8+f*2,none⟩:=λb5=>by exact lD oM);have e8:=zH a2;generalize fE (some ⟨I,a8,none⟩) c f 2=b2 at*
         clear a4 e2 a7 e3 a2;go_wp2_with (first
          |(at_builtin;refine iP.wpList rfl (.tmp 78) (.tmp 81) rfl g.heap.size a9 b1 (d++[⟨m,j⟩]) (by first|rfl|simp[Act.eval]) Q.out b2 (c -f) (l.drop f) (by first|rfl|simp[Act.eval]) (Ib (d0.out.below V.out) oM b2 e8.out) sO dC oM ?_;intro i2 i9 e5 N d6)
          |(at_builtin;refine iP.wpList rfl (.tmp 74) (.tmp 76) rfl g.heap.size t u d (by rfl) (c9.out.alloc _) (some ⟨wr.heap.size,0,none⟩) 1 [⟨m,j⟩] (by rfl) (kQ (Wx (wr.drewN nq) _ _)) sO dC sO ?_;intro a9 b1 T M A;have L:bW w T:=(c8.out.alloc sO _).grown A sO (λK k=>by have:=jM H.out K k;omega);have e0:=A.size;simp at e0;have j9:g.heap.size<=T.heap.size:=oM;have Q:=zH M;have V:=zH L;clear M L A))
         go_ret2;rw[a1.out]at N;have d4:bW w e5:=V.out.grown d6 oM (λK k=>by have:=jM Q.out K k;omega);obtain⟨d2,d3,e1,j7,d9⟩:=nT N;injection e1 with c4 g4 q;subst c4 q;exact⟨_,_,(by have d8:=lY List.length a1.out;simp only[aU,bO,bI]at d8;refine lY (λe4=>Ending.returned (Value.tuple #[Value.slice _ e4 _,bV true])) ?_;simp only[aU];omega),yM N,aF d9 (λf b6=>⟨oM,b6.2⟩),d4⟩
       ·obtain rfl:f=l.length:=oM
        have k3:decide (l.length<l.length)=false:=sM;have a1:Hid ((d++[⟨m,j⟩])++l.drop l.length=jb ⟨b,e⟩ l++WJ ⟨b,e⟩ (ja ⟨b,e⟩ l)):=zH (by have B:=f2.out;rw[List.drop_length]at B|-;rw[g0.out,<-B];simp[WJ]);go_wp2_with fail;refine mQ ?_;rintro _ ⟨nq,rfl⟩;have a6:(wr.drewN nq).ownsRow g.heap.size 272 2 (.slice t d.length u) d.length (d.flatMap spV):=H.out;have a3:bW w (wr.drewN nq):=aA G.out nq;have c9:=zH a6;have c8:=zH a3;clear a6 a3;obtain⟨k1,a4,e2,a7,e3⟩:=info_parts AQ;have hcut:=gI (P:=Tryz.prog) Tryz.underlying90 a4 (some ⟨I,a8,none⟩) l.length c l.length oM;rw[a7]at hcut;(have a2:l.length<l.length->fE (some ⟨I,a8,none⟩) c l.length 2=some ⟨I,a8+l.length*2,none⟩:=λb5=>by exact lD oM);have e8:=zH a2;generalize fE (some ⟨I,a8,none⟩) c l.length 2=b2 at*
        clear a4 e2 a7 e3 a2;go_wp2_with (first
         |(at_builtin;refine iP.wpList rfl (.tmp 78) (.tmp 81) rfl g.heap.size a9 b1 (d++[⟨m,j⟩]) (by first|rfl|simp[Act.eval]) Q.out b2 (c -l.length) (l.drop l.length) (by first|rfl|simp[Act.eval]) (Ib (d0.out.below V.out) oM b2 e8.out) sO dC oM ?_;intro i2 i9 e5 N d6)
         |(at_builtin;refine iP.wpList rfl (.tmp 74) (.tmp 76) rfl g.heap.size t u d (by rfl) (c9.out.alloc _) (some ⟨wr.heap.size,0,none⟩) 1 [⟨m,j⟩] (by rfl) (kQ (Wx (wr.drewN nq) _ _)) sO dC sO ?_;intro a9 b1 T M A;have L:bW w T:=(c8.out.alloc sO _).grown A sO (λK k=>by have:=jM H.out K k;omega);have e0:=A.size;simp at e0;have j9:g.heap.size<=T.heap.size:=oM;have Q:=zH M;have V:=zH L;clear M L A))
        go_ret2;rw[a1.out]at N;have d4:bW w e5:=V.out.grown d6 oM (λK k=>by have:=jM Q.out K k;omega);obtain⟨d2,d3,e1,j7,d9⟩:=nT N;injection e1 with c4 g4 q;subst c4 q;exact⟨_,_,(by have d8:=lY List.length a1.out;simp only[aU,bO,bI]at d8;refine lY (λe4=>Ending.returned (Value.tuple #[Value.slice _ e4 _,bV true])) ?_;simp only[aU];omega),yM N,aF d9 (λf b6=>⟨oM,b6.2⟩),d4⟩
     ·have k2:decide (i<l.length)=false:=by simp;omega
      clear d7 c5;go_wp2_with fail;refine mQ ?_;rintro _ ⟨nq,rfl⟩;have a5:(wr.drewN nq).ownsRow g.heap.size 272 2 (.slice t d.length u) d.length (d.flatMap spV):=c2.out;have z:bW w (wr.drewN nq):=aA i3.out nq;have Y:Blk (wr.drewN nq) w.heap.size 272 #[uI b,uI e]:=e7.out;have W:=zH a5;have y:=zH z;have X:=zH Y;clear a5 z Y b9 c0;go_wp2_with fail;obtain⟨a0,b8⟩:∃a0:World,a0=wr.drewN nq:=⟨_,rfl⟩;rw[<-b8]at W y X|-;(have h2:g.heap.size<=a0.heap.size:=by rw[b8];exact k0);have m4:w.heap.size<a0.heap.size:=X.out.lt;clear b8;go_loopw [7] (λZ F=>∃(f:Nat) (E:Sp),f<=l.length/\i<=f/\g.heap.size<=F.heap.size/\Z=jI f/\Hid (Word E.lo/\Word E.hi/\E.hi<=4611686018427387903)/\Hid (Blk F w.heap.size 272 #[uI E.lo,uI E.hi])/\Hid (WJ E (l.drop f)=WJ ⟨b,e⟩ (ja ⟨b,e⟩ l))/\
       Hid (F.ownsRow g.heap.size 272 2 (.slice t d.length u) d.length (d.flatMap spV))/\Hid (bW w F)) (λZ _=>l.length -(intOf Z).toNat)
      (case atStart=>exact⟨i,⟨b,e⟩,j8,av _,h2,rfl,⟨⟨h7,h8⟩,⟨h9,i0⟩,h0⟩,X,zH (by rw[i7.out]),W,y⟩);case round=>
       obtain⟨f,⟨m,j⟩,b6,m0,m5,rfl,d1,o,f2,H,G⟩:=hrel;clear W y X;simp only at d1 o;obtain⟨⟨n8,n9⟩,⟨o0,o1⟩,o2⟩:=d1.out;have b9:=o.out.Wu 0;have c0:=o.out.Wu 1;have l4:=o.out.frozen 0;have l5:=o.out.frozen 1;have n6:=o.out.lt;have m3:=G.out.size;have n2:(0:Int)<=(f:Int):=oM;obtain rfl:f=l.length:=oM;have k3:decide (l.length<l.length)=false:=sM;have a1:Hid ((d++[⟨m,j⟩])++l.drop l.length=jb ⟨b,e⟩ l++WJ ⟨b,e⟩ (ja ⟨b,e⟩ l)):=zH (by have B:=f2.out;rw[List.drop_length]at B|-;rw[g0.out,<-B];simp[WJ]);go_wp2_with fail;refine mQ ?_;rintro _ ⟨nq,rfl⟩;have a6:(wr.drewN nq).ownsRow g.heap.size 272 2 (.slice t d.length u) d.length (d.flatMap spV):=H.out;have a3:bW w (wr.drewN nq):=aA G.out nq;have c9:=zH a6;have c8:=zH a3;clear a6 a3;obtain⟨k1,a4,e2,a7,e3⟩:=info_parts AQ;have hcut:=gI (P:=Tryz.prog) Tryz.underlying90 a4 a l.length c l.length oM;rw[a7]at hcut;(have a2:l.length<l.length->fE a c l.length 2=some ⟨0,0+l.length*2,none⟩:=λb5=>by exact Wy b5 oM);have e8:=zH a2;generalize fE a c l.length 2=b2 at*
       clear a4 e2 a7 e3 a2;go_wp2_with (first
        |(at_builtin;refine iP.wpList rfl (.tmp 78) (.tmp 81) rfl g.heap.size a9 b1 (d++[⟨m,j⟩]) (by first|rfl|simp[Act.eval]) Q.out b2 (c -l.length) (l.drop l.length) (by first|rfl|simp[Act.eval]) (S:=S) (ts:=272) (by rw[List.drop_length];exact Row.WH) sO dC oM ?_;intro i2 i9 e5 N d6)
        |(at_builtin;refine iP.wpList rfl (.tmp 74) (.tmp 76) rfl g.heap.size t u d (by rfl) (c9.out.alloc _) (some ⟨wr.heap.size,0,none⟩) 1 [⟨m,j⟩] (by rfl) (kQ (Wx (wr.drewN nq) _ _)) sO dC sO ?_;intro a9 b1 T M A;have L:bW w T:=(c8.out.alloc sO _).grown A sO (λK k=>by have:=jM H.out K k;omega);have e0:=A.size;simp at e0;have j9:g.heap.size<=T.heap.size:=oM;have Q:=zH M;have V:=zH L;clear M L A))
       go_ret2;rw[a1.out]at N;have d4:bW w e5:=V.out.grown d6 oM (λK k=>by have:=jM Q.out K k;omega);obtain⟨d2,d3,e1,j7,d9⟩:=nT N;injection e1 with c4 g4 q;subst c4 q;exact⟨_,_,(by have d8:=lY List.length a1.out;simp only[aU,bO,bI]at d8;refine lY (λe4=>Ending.returned (Value.tuple #[Value.slice _ e4 _,bV true])) ?_;simp only[aU];omega),yM N,aF d9 (λf b6=>⟨oM,b6.2⟩),d4⟩
  ·have f9:jf ⟨b,e⟩=false:=by simpa using b7
   rw[k]at c1;rw[f9]at f4;(have d5:iV l ⟨b,e⟩=[]:=by unfold iV;rw[k,f9];rfl);rw[k,f9,d5];clear k b7 f9 d5;go_enter Tryz.func158,Tryz.ntmps158;go_wp2_with fail;refine(c1.out _ BEL).mono ?_;rintro c3 R ⟨rfl,C⟩;have b3:bW w R:=by
    refine bD ?_ (C.mono ?_)
    ·exact BEL
    ·first|(simp;done)|(simp;omega)
   have n:Blk R (w.heap.size) 272 #[uI b,uI e]:=iK C;obtain⟨m6,m8,m7,m9⟩:=n.c2;have n0:w.heap.size<R.heap.size:=n.lt;have l1:=zH n;clear n;have f0:=zH b3;clear C b3;go_wp2_with fail;refine(f4.out _).mono ?_;rintro c3 F ⟨rfl,z⟩;have y:=zH z;clear z;go_wp2_with fail;go_ret2;exact⟨none,0,rfl,av _,Row.WH,f0.out.trans (y.out.mono f0.out.size)⟩
 ·have f6:iR l=false:=by simpa using k
  rw[f6]at c1;(have d5:iV l ⟨b,e⟩=[]:=by unfold iV;rw[f6];rfl);rw[f6,d5,Bool.false_and];clear k f6 d5;go_enter Tryz.func158,Tryz.ntmps158;go_wp2_with fail;refine(c1.out _ BEL).mono ?_;rintro c3 R ⟨rfl,C⟩;have b3:bW w R:=by
   refine bD ?_ (C.mono ?_)
   ·exact BEL
   ·first|(simp;done)|(simp;omega)
  have n:Blk R (w.heap.size) 272 #[uI b,uI e]:=iK C;obtain⟨m6,m8,m7,m9⟩:=n.c2;have n0:w.heap.size<R.heap.size:=n.lt;have l1:=zH n;clear n;have f0:=zH b3;clear C b3;go_wp2_with fail;go_ret2;exact⟨none,0,rfl,av _,Row.WH,f0.out⟩
end Go.Proofs.YtiflndepmgnojaaGreat
