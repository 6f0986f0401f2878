import Derived.Test.YtiflndepmgnojaaGreatOff
namespace Go.Proofs.YtiflndepmgnojaaGreat
open Go.RowKit
set_option linter.unusedSimpArgs false
set_option linter.unusedVariables false
set_option maxHeartbeats 4000000
set_option maxRecDepth 100000
theorem JX {w:World} {S:Nat->Prop} {a:Option Addr} {l:List Int} {n c:Nat} (h:Bys w S a l) (b:n<=l.length) (f:l.length<=c):Row w S 5 1 (fE a c 0 1) n ((l.take n).flatMap byV):=by
 have:=wT h (k:=0) (m:=n) (jV _) b (fE a c 0 1) (λg e i d=>by subst d;rw[lD oM]);unfold Bys at this;rw[List.drop_zero,aT,fJ b]at this;exact this
theorem vS {w:World} {S:Nat->Prop} {a:Option Addr} {l:List Int} {n c:Nat} (h:Bys w S a l) (d:n<=l.length) (f:l.length<=c):Bys w S (fE a c n 1) (l.drop n):=by
 have:=wT h (k:=n) (m:=l.length) d (av _) (fE a c n 1) (λg e i b=>by subst b;rw[lD oM,Nat.mul_one])
 rwa [dM]at this
theorem SC {w w':World} {S T:Nat->Prop} {a:Option Addr} {l:List Int} (h:Bys w S a l) (b:Mod T [some 309] w w'):Bys w' S a l:=
 aG h (ts:=[some 5]) (b.aM dC) sM
theorem yB (S:Nat->Prop) (p:Nat) (l:List Int) (n:Nat) (w:World) (h:pu w S p l) (a7:l.length<=200000000000) (b0:n<=100000):
  Calls Tryz.prog 95 #[pT p,jI n] w λc m=>∃b a,c=.returned (.tuple #[.slice b (fQ n l).val.length a,jI (fQ n l).err])/\Bys m (λd=>w.heap.size<=d/\d<m.heap.size) b (fQ n l).val/\
   pu m S p (fQ n l).left/\Mod (λd=>d=p) [some 309] w m/\(fQ n l).val.length<=a:=by
 obtain⟨b,a,g,y,z⟩:=h.ex;have U:=zH h;obtain⟨L,R⟩:=g.cz 0;have k:=g.lt;have H:=zH g;have v:=zH y;clear h g y;have b4:decide ((n:Int)<0)=false:=sM;by_cases j:l.length<n
 ·have c:fQ n l=⟨[],2,l⟩:=by unfold fQ;rw[aB j]
  rw[c];clear c;go_enter Tryz.func95,Tryz.ntmps95;go_wp2_with fail;go_ret2;exact⟨none,0,rfl,Bys.WH,U.out,aV _ _ _,av _⟩
 ·have c:fQ n l=⟨l.take n,0,l.drop n⟩:=by unfold fQ;rw[Ww j]
  rw[c];clear c;(have a8:decide (l.length<n)=false:=by simpa using j);(have a9:decide ((l.length:Int)<(n:Int))=false:=by simp;omega);have t:n<=l.length:=oM;obtain⟨b2,s,a0,F,a1⟩:=info_parts lF;have hcut:=tY (P:=Tryz.prog) Tryz.underlying47 s b l.length a n oM;have W:=gI (P:=Tryz.prog) Tryz.underlying47 s b l.length a n t;rw[F]at hcut W;have K:=zH (JX v.out t z);have I:=zH (vS v.out t z);(have C:(l.take n).length=n:=by rw[aT];omega);(have D:(l.drop n).length=l.length -n:=by rw[bI]);have f:=zH C;have x:=zH D;generalize fE b a 0 1=N at*
  generalize fE b a n 1=r at*
  clear s a0 F a1 j C D;go_enter Tryz.func95,Tryz.ntmps95;go_wp2_with (at_builtin;refine fe.wpList rfl _ (.tmp 25) rfl w.heap.size none 0 [] (by rfl) (iq _ _ _ _) N a (l.take n) (by simp[Act.eval,f.out]) (by rw[f.out];exact K.out) (by rw[f.out];simp;omega) dC (av _) ?_;intro G M o E A;have e:bW w o:=(aj w.heap.size w).grown A (av _) (by simp[Value.ownBlock]);have b3:=(e.cell (p:=⟨p,0,none⟩) k).trans L;have a5:=(e.frozen (p:=⟨p,0,none⟩) k).trans R;have b1:p<o.heap.size:=aC k e.size;have J:=zH E;have q:=zH e;clear E A e);go_ret2;have u:=J.out;rw[List.nil_append]at u;have V:=(OwnAt.fresh (w:=w) u).cap_;obtain⟨a2,a3,Z,a6,Y⟩:=nT u;injection Z with O a4 Q;subst O Q;have i:=H.out.below q.out k;(have X:(o.setCell ⟨p,0,none⟩ (.slice r (l.length -n) (a -n))).heap.size=o.heap.size:=by simp[World.setCell]);refine⟨G,M,by simp[f.out],?_,⟨r,a -n,?_,?_,?_⟩,?_,V⟩
  ·exact aF (aG Y (ts:=[some 5]) (bQ.setCell i dC 0 _) sM) (λd B=>⟨B.1,by rw[X];exact B.2⟩)
  ·rw[x.out];simpa using i.bF 0 (.slice r (l.length -n) (a -n))
  ·exact aG (aD I.out q.out) (ts:=[some 5]) (bQ.setCell i dC 0 _) sM
  ·rw[x.out];omega
  ·exact Mod.setCell (S:=λd=>d=p) (T:=[some 309]) (aH q.out) i (λ_=>rfl) (List.Mem.head _) 0 _
theorem nR (S:Nat->Prop) (p:Nat) (l:List Int) (n:Nat) (w:World) (h:pu w S p l) (k:l.length<=200000000000) (m:n<=100000):
  Calls Tryz.prog 95 #[pT p,jI n] w λe a=>∃b d,e=.returned (.tuple #[.slice b (fQ n l).val.length d,jI (fQ n l).err])/\Bys a (λc=>w.heap.size<=c/\c<a.heap.size) b (fQ n l).val/\
   pu a S p (fQ n l).left/\Mod (λc=>c=p) [some 309] w a:=
 (yB S p l n w h k m).mono λe a ⟨b,d,f,g,i,j,_⟩=>⟨b,d,f,g,i,j⟩
def Rdm (p:Nat) (w w':World):Prop:=Mod (λa=>a=p) [some 309] w w'
theorem Rdm.bys {w w':World} {S:Nat->Prop} {p:Nat} {a:Option Addr} {l:List Int} (h:Rdm p w w') (hb:Bys w S a l):Bys w' S a l:=SC hb h
theorem Rdm.trans {w w' a:World} {p:Nat} (h:Rdm p w w') (b:Rdm p w' a):Rdm p w a:=Mod.trans h b
theorem ru (n:Int) (l:List Int) (x:Int):eD n (l++[x])=eD n l*256+x:=by unfold eD;rw[iA];rfl
theorem vK {n:Int} {l:List Int} (a:dP l) (k:Nat) (b:0<=n) (c:n<256^k):0<=eD n l/\eD n l<256^(k+l.length):=by
 induction l generalizing n k with
 |nil=>exact⟨b,by simpa[eD]using c⟩
 |cons x t ih=>
  have g:=a x sM;(have d:n*256+x<256^(k+1):=by rw[Int.pow_succ];omega);have:=ih (λf e=>a f (by simp[e])) (k+1) (n:=n*256+x) oM d;rw[show k+(x::t).length=k+1+t.length by simp;omega];exact this
theorem yN {m c:Int} (d:0<=m) (e:m<72057594037927936) (c0:0<=c) (c1:c<256):bits BinOp.or IntKind.u64 (m*256) c=m*256+c:=by
 obtain⟨m,rfl⟩:=bH d;obtain⟨c,rfl⟩:=bH c0;have a:((m:Int)*256)=((m*256:Nat):Int):=oM;rw[a,bits_or_u64_nat (m*256) c oM oM];have:=Nat.two_pow_add_eq_or_of_lt (i:=8) (b:=c) oM m;rw[show 2^8*m=m*256 by omega]at this;omega
theorem Ba (S:Nat->Prop) (p:Nat) (l:List Int) (w:World) (h:pu w S p l) (L:l.length<=200000000000) (x:dP l):
  Calls Tryz.prog 98 #[pT p] w λc C=>c=.returned (.tuple #[uI (jU l).val,jI (jU l).err])/\pu C S p (jU l).left/\Mod (λM=>M=p) [some 309] w C:=by
 have j:=zH (nR S p l 8 w h L dC);clear h;by_cases d:l.length<8
 ·have c:fQ 8 l=⟨[],2,l⟩:=by unfold fQ;rw[aB d]
  (have f:jU l=⟨0,2,l⟩:=by unfold jU;rw[aB d]);rw[c]at j;rw[f];clear c f;go_enter Tryz.func98,Tryz.ntmps98;go_wp2_with fail;refine j.out.mono ?_;rintro c O ⟨G,H,rfl,k,i,g⟩;have q:=zH i;have o:=zH g;clear k i g;go_wp2_with fail;go_ret2;exact⟨rfl,q.out,o.out⟩
 ·have c:fQ 8 l=⟨l.take 8,0,l.drop 8⟩:=by unfold fQ;rw[Ww d]
  (have f:jU l=⟨eD 0 (l.take 8),0,l.drop 8⟩:=by unfold jU;rw[Ww d]);rw[c]at j;rw[f];(have z:(l.take 8).length=8:=by rw[aT];omega);have v:dP (l.take 8):=λm e=>x m (bf e);clear c f d x;generalize l.take 8=b at*
  have P:=zH z;have s:=zH v;have X:b.length<=8:=oM;clear z v;go_enter Tryz.func98,Tryz.ntmps98;go_wp2_with fail;refine j.out.mono ?_;rintro c O ⟨G,H,rfl,k,i,g⟩;have D:=zH k;have q:=zH i;have o:=zH g;clear k i g;go_wp2_with fail;go_loop [6,19] (λN r=>∃(a:Nat),a<=b.length/\r=jI a/\N=uI (eD 0 (b.take a))) (λ_ r=>b.length -(intOf r).toNat);(case atStart=>exact⟨0,oM,rfl,rfl⟩);case round=>
   obtain⟨a,T,rfl,rfl⟩:=hrel;by_cases d:a<b.length
   ·obtain⟨Q,W,rfl,R,U⟩:=D.out.at_ (aj _ _) d
    obtain⟨I,t⟩:=vK (n:=0) (l:=b.take a) (λm e=>s.out m (bf e)) 0 dC dC;(have y:(b.take a).length=a:=by rw[aT];omega);rw[y,Nat.zero_add]at t;have J:eD 0 (b.take a)<72057594037927936:=by
     have:(256:Int)^a<=256^7:=by
      have K:256^a<=256^7:=Nat.pow_le_pow_right dC oM;have u:=Int.ofNat_le.2 K;rw[Int.natCast_pow,Int.natCast_pow]at u;exact u
     have c:(256:Int)^7=72057594037927936:=dC;omega
    have e:=s.out _ (aN d);(have B:eD 0 (b.take (a+1))=eD 0 (b.take a)*256+b[a]:=by rw[bB d,ru]);have A:=yN I J e.1 e.2;have F:=zH B;have E:=zH A;have Y:=e.1;have Z:=e.2;clear t y e B A;generalize eD 0 (b.take a)=V at*
    generalize b[a]=m at*
    go_wp2_with fail;go_round;(case rel=>exact⟨a+1,oM,by go_num,by rw[F.out,<-E.out]⟩);case measure=>simp[intOf];omega
   ·obtain rfl:a=b.length:=oM
    have c:b.take b.length=b:=dM;rw[c];clear c;go_wp2_with fail;go_ret2;exact⟨rfl,q.out,o.out⟩
theorem FX {b:Int} (d:0<=b) (e:b<256):(b<64/\nM b=1)\/(64<=b/\b<128/\nM b=2)\/(128<=b/\b<192/\nM b=4)\/(192<=b/\nM b=8):=by
 unfold nM;have h:(b/64).toNat=0/\b<64\/(b/64).toNat=1/\64<=b/\b<128\/(b/64).toNat=2/\128<=b/\b<192\/(b/64).toNat=3/\192<=b:=oM;rcases h with⟨a,h⟩|⟨a,h,c⟩|⟨a,h,c⟩|⟨a,h⟩<;>rw[a]
 ·exact .inl ⟨h,rfl⟩
 ·exact .inr (.inl ⟨h,c,rfl⟩)
 ·exact .inr (.inr (.inl ⟨h,c,rfl⟩))
 ·exact .inr (.inr (.inr ⟨h,rfl⟩))
theorem Qe:eZ []=⟨0,2,[]⟩:=rfl
theorem Ex (a:Int) (t:List Int):eZ (a::t)=if(a::t).length<nM a then⟨0,2,a::t⟩else if eU (eD (a%64) (t.take (nM a -1)))≠nM a then⟨0,5,a::t⟩else⟨eD (a%64) (t.take (nM a -1)),0,(a::t).drop (nM a)⟩:=rfl
theorem wG (S:Nat->Prop) (p:Nat) (l:List Int) (w:World) (h:pu w S p l) (e2:l.length<=200000000000) (D:dP l):
  Calls Tryz.prog 97 #[pT p] w λg t=>g=.returned (.tuple #[uI (eZ l).val,jI (eZ l).err])/\pu t S p (eZ l).left/\Mod (λv=>v=p) [some 309] w t:=by
 obtain⟨c6,f,y,N,O⟩:=h.ex;have C:=zH h;obtain⟨c9,L⟩:=y.cz 0;have e3:=y.lt;have z:=zH y;have A:=zH N;clear h y N;rcases l with _|⟨b,c⟩
 ·rw[Qe]
  go_enter Tryz.func97,Tryz.ntmps97;go_wp2_with fail;go_ret2;exact⟨rfl,C.out,aV _ _ _⟩
 ·have R:=D b sM
  have U:dP c:=λr i=>D r (by simp[i]);obtain⟨o,q,rfl,d8,c4⟩:=A.out.at_ (aj _ _) (j:=0) sM;rw[Nat.add_zero,show(b::c)[0]=b from rfl]at c4;have f3:=R.1;have f4:=R.2;have a0:(b::c).length=c.length+1:=rfl;rw[Ex];obtain⟨a,g,d2,d6,d7⟩:∃a:Nat,nM b=a/\wrap64 (2^(b/64).toNat)=(a:Int)/\1<=a/\a<=8:=by
   have c0:(b/64).toNat=0\/(b/64).toNat=1\/(b/64).toNat=2\/(b/64).toNat=3:=oM;refine⟨_,rfl,?_⟩;unfold nM;rcases c0 with h|h|h|h<;>rw[h]<;>decide+kernel
  rw[g];have d1:c.length+1<=f:=O;by_cases B:c.length+1<a
  ·have d4:decide ((c.length:Int)+1<(a:Int))=true:=by simp;omega
   rw[aB (show(b::c).length<a from B)];go_enter Tryz.func97,Tryz.ntmps97;go_wp2_with fail;go_ret2;exact⟨rfl,C.out,aV _ _ _⟩
  ·rw[Ww (show¬(b::c).length<a from B)]
   have d5:a<=c.length+1:=oM;(have d3:decide ((c.length:Int)+1<(a:Int))=false:=by simp;omega);obtain⟨e8,Y,e6,a7,e7⟩:=info_parts lF;(have a6:(c.take (a -1)).length=a -1:=by rw[aT];omega);have hcut:∀w,(Instr.slice 47 (.slice (some ⟨o,q,none⟩) (c.length+1) f) (some (jI 1)) (some (jI a)) none).run Tryz.prog w=.ok (.slice (fE (some ⟨o,q,none⟩) f 1 1) (c.take (a -1)).length (f -1)) w:=λw=>by
    have h:=qL (P:=Tryz.prog) Tryz.underlying47 Y (some ⟨o,q,none⟩) (c.length+1) f 1 a oM oM w;rw[a7]at h;rw[a6];exact h
   have e0:∀w,(Instr.slice 47 (.slice (some ⟨o,q,none⟩) (c.length+1) f) (some (jI a)) none none).run Tryz.prog w=.ok (.slice (fE (some ⟨o,q,none⟩) f a 1) (c.length+1 -a) (f -a)) w:=λw=>by
    have h:=gI (P:=Tryz.prog) Tryz.underlying47 Y (some ⟨o,q,none⟩) (c.length+1) f a oM w;rw[a7]at h;exact h
   have a3:Bys w S (fE (some ⟨o,q,none⟩) f 1 1) (c.take (a -1)):=by
    have:=wT A.out (k:=1) (m:=a) oM (by rw[a0];omega) (fE (some ⟨o,q,none⟩) f 1 1) (λu c7 f0 g=>by injection g with g;injection g with b7 b8;subst b7 b8;rw[lD oM]);rw[List.drop_take]at this;exact this
   have b4:=zH a3;have a9:=zH (vS A.out (n:=a) (by rw[a0];omega) O);have a5:dP (c.take (a -1)):=λr i=>U r (bf i);(have V:((b::c).drop a).length=c.length+1 -a:=by rw[bI];rfl);have a8:=zH (show c.length+1 -a<=f -a by omega);have I:=zH a5;have H:=zH V;generalize(b::c).drop a=K at*
   generalize c.take (a -1)=d at*
   generalize fE (some ⟨o,q,none⟩) f 1 1=d0 at*
   generalize fE (some ⟨o,q,none⟩) f a 1=J at*
   generalize c.length+1 -a=b6 at*
   generalize f -a=G at*
   have b5:=zH (oF (eD (b%64) d));have X:∀x:Rd->Prop,(eU (eD (b%64) d)=a->x ⟨eD (b%64) d,0,K⟩)->(eU (eD (b%64) d)≠a->x ⟨0,5,b::c⟩)->x (if eU (eD (b%64) d)≠a then⟨0,5,b::c⟩else⟨eD (b%64) d,0,K⟩):=by
    intro x c2 c3;by_cases s:eU (eD (b%64) d)=a
    ·rw[Ww oM];exact c2 s
    ·rw[aB s];exact c3 s
   generalize W:eD (b%64) d=F at*
   refine X (λr=>Calls Tryz.prog 97 _ w λg t=>g=.returned (.tuple #[uI r.val,jI r.err])/\pu t S p r.left/\Mod (λv=>v=p) [some 309] w t) ?_ ?_;(all_goals intro s);(all_goals have b0:=zH W);(all_goals have f2:d.length<=7:=oM);(all_goals have b2:=zH s);(all_goals clear X a3 a5 V B g U D s W a6);all_goals
    go_enter Tryz.func97,Tryz.ntmps97;go_wp2_with fail;go_loop [5,46] (λc5 E=>∃(e:Nat),e<=d.length/\E=jI e/\c5=uI (eD (b%64) (d.take e))) (λ_ E=>d.length -(intOf E).toNat);(case atStart=>exact⟨0,oM,rfl,rfl⟩);case round=>
     obtain⟨e,e1,rfl,rfl⟩:=hrel;by_cases u:e<d.length
     ·obtain⟨c8,f1,rfl,d9,e9⟩:=b4.out.at_ (aj _ _) u
      obtain⟨L,M⟩:=vK (n:=b%64) (l:=d.take e) (λr i=>I.out r (bf i)) 1 oM sO;(have Z:(d.take e).length=e:=by rw[aT];omega);rw[Z]at M;have b9:eD (b%64) (d.take e)<72057594037927936:=by
       have:(256:Int)^(1+e)<=256^7:=by
        have c1:256^(1+e)<=256^7:=Nat.pow_le_pow_right dC oM;have Q:=Int.ofNat_le.2 c1;rw[Int.natCast_pow,Int.natCast_pow]at Q;exact Q
       have g:(256:Int)^7=72057594037927936:=dC;omega
      have i:=I.out _ (aN u);(have a2:eD (b%64) (d.take (e+1))=eD (b%64) (d.take e)*256+d[e]:=by rw[bB u,ru]);have a1:=yN L b9 i.1 i.2;have b3:=zH a2;have b1:=zH a1;have f5:=i.1;have f6:=i.2;clear M Z i a2 a1;generalize eD (b%64) (d.take e)=F at*
      generalize d[e]=r at*
      go_wp2_with fail;go_round;(case rel=>exact⟨e+1,oM,by go_num,by rw[b3.out,<-b1.out]⟩);case measure=>simp[intOf];omega
     ·obtain rfl:e=d.length:=oM
      have g:d.take d.length=d:=dM;rw[g,b0.out];clear g u;have a4:=b5.out;have s:=b2.out;(first|(rw[s]at a4)|(have e4:((eU F:Int)!=(a:Int))=true:=sO;have e5:((eU F:Int)==(a:Int))=false:=sO));clear s;go_wp2_with fail;refine(a4 _).mono ?_;rintro g t ⟨rfl,rfl⟩;go_wp2_with fail;go_ret2;first|(exact⟨rfl,⟨J,G,by rw[H.out];simpa using z.out.bF 0 (.slice J b6 G),aG a9.out (ts:=[some 5]) (bQ.setCell z.out dC 0 _) sM,by rw[H.out];exact a8.out⟩,Mod.setCell (S:=λv=>v=p) (T:=[some 309]) (aV _ _ _) z.out (λ_=>rfl) (List.Mem.head _) 0 _⟩)|(exact⟨rfl,C.out,aV _ _ _⟩)
end Go.Proofs.YtiflndepmgnojaaGreat
