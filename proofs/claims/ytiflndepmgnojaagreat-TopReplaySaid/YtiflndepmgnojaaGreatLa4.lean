import Derived.Test.YtiflndepmgnojaaGreatLawL
import Derived.Test.YtiflndepmgnojaaGreatSpd
import Derived.Test.YtiflndepmgnojaaGreatOct3
import Derived.Test.YtiflndepmgnojaaGreatPtn
namespace Go.Proofs.YtiflndepmgnojaaGreat
open Go.RowKit
set_option linter.unusedSimpArgs false
set_option linter.unusedVariables false
set_option maxHeartbeats 8000000
set_option maxRecDepth 100000
attribute[local go_sem] BW.cell BW.frozen
structure nu (w:World) (S:Nat->Prop) (a1:Option Addr) (c1:Nat) (a2:Option Addr) (c2:Nat) (k:Ak):Prop where
 cu:Sps w S a1 k.cu
 scap:k.cu.length<=c1
 aO:Sps w S a2 k.aO
 mcap:k.aO.length<=c2
 sok:∀s∈k.cu,SpW s
 mok:∀s∈k.aO,SpW s
 Ks:k.cu.length<=1000000
 mlen:k.aO.length<=1000000
theorem nu.below {w w':World} {S:Nat->Prop} {a1 a2:Option Addr} {c1 c2:Nat} {k:Ak} (h:nu w S a1 c1 a2 c2 k) (hb:bW w w'):nu w' S a1 c1 a2 c2 k:=
 ⟨aD h.cu hb,h.scap,aD h.aO hb,h.mcap,h.sok,h.mok,h.Ks,h.mlen⟩
theorem nu.keep {w w':World} {S:Nat->Prop} {a1 a2:Option Addr} {c1 c2:Nat} {k:Ak} {ts:List (Option TypeId)} (h:nu w S a1 c1 a2 c2 k) (a:bQ S ts w w') (b:some 272∈ts):nu w' S a1 c1 a2 c2 k:=
 ⟨aG h.cu a b,h.scap,aG h.aO a b,h.mcap,h.sok,h.mok,h.Ks,h.mlen⟩
theorem nu.mono {w:World} {S S':Nat->Prop} {a1 a2:Option Addr} {c1 c2:Nat} {k:Ak} (h:nu w S a1 c1 a2 c2 k) (a:∀b,S b->S' b):nu w S' a1 c1 a2 c2 k:=
 ⟨aF h.cu a,h.scap,aF h.aO a,h.mcap,h.sok,h.mok,h.Ks,h.mlen⟩
theorem wU (S:Nat->Prop) (a1:Option Addr) (c1:Nat) (a2:Option Addr) (c2:Nat) (k:Ak) (w:World) (h:nu w S a1 c1 a2 c2 k):
  Calls Tryz.prog 184 #[.agg #[.slice a1 k.cu.length c1,.slice a2 k.aO.length c2,uI k.dw,uI k.xor,bV k.kZ]] w λl e=>l=.returned (bV (qA k))/\bW w e:=by
 have j:=zH (λe (b:bW w e)=>xG S S a1 c1 k.cu a1 c1 k.cu e (aD h.cu b) (by have:=h.Ks;omega) h.sok (aD h.cu b) (by have:=h.Ks;omega) h.sok);have x:=zH (λe (b:bW w e)=>xG S S a2 c2 k.aO a1 c1 k.cu e (aD h.aO b) (by have:=h.mlen;omega) h.mok (aD h.cu b) (by have:=h.Ks;omega) h.sok);have s:qA k=(decide (1<=k.cu.length)&&decide (k.cu.length<=32)&&decide (k.aO.length<=32)&&jA k.cu k.cu&&jA k.aO k.cu):=rfl;rw[s];clear s h;obtain⟨a,d,p,u,t⟩:=k;simp only at*
 by_cases m:1<=a.length
 ·have z:decide ((1:Int)<=(a.length:Int))=true:=by simp;omega
  have N:(1:Nat)<=a.length:=m;by_cases n:a.length<=32
  ·have A:decide ((a.length:Int)<=32)=true:=by simp;omega
   by_cases o:d.length<=32
   ·have B:decide ((d.length:Int)<=32)=true:=by simp;omega
    (have r:(decide (1<=a.length)&&decide (a.length<=32)&&decide (d.length<=32)&&jA a a&&jA d a)=(jA a a&&jA d a):=by simp[m,n,o]);rw[r];clear r;cases hw:jA a a with
    |true=>
     rw[hw]at j;clear hw;go_enter Tryz.func184,Tryz.ntmps184;go_wp2_with fail;refine(j.out _ BEL).mono ?_;rintro l f ⟨rfl,b⟩;have i:bW w f:=by
      refine bD ?_ (b.mono ?_)
      ·exact BEL
      ·first|(simp;done)|(simp;omega)
     have c:Blk f (w.heap.size) 92 #[.slice a1 a.length c1,.slice a2 d.length c2,uI p,uI u,bV t]:=iK b;obtain⟨C,H,D,I,E,J,F,K,G,L⟩:=c.c5;have M:w.heap.size<f.heap.size:=c.lt;have y:=zH c;clear c;have g:=zH i;clear b i;go_wp2_with fail;refine(x.out _ (g.out)).mono ?_;rintro l O ⟨rfl,q⟩;have v:=zH q;clear q;go_wp2_with fail;go_ret;exact⟨rfl,g.out.trans (v.out.mono g.out.size)⟩
    |false=>
     rw[hw]at j;clear hw;go_enter Tryz.func184,Tryz.ntmps184;go_wp2_with fail;refine(j.out _ BEL).mono ?_;rintro l f ⟨rfl,b⟩;have i:bW w f:=by
      refine bD ?_ (b.mono ?_)
      ·exact BEL
      ·first|(simp;done)|(simp;omega)
     have c:Blk f (w.heap.size) 92 #[.slice a1 a.length c1,.slice a2 d.length c2,uI p,uI u,bV t]:=iK b;obtain⟨C,H,D,I,E,J,F,K,G,L⟩:=c.c5;have M:w.heap.size<f.heap.size:=c.lt;have y:=zH c;clear c;have g:=zH i;clear b i;go_wp2_with fail;go_ret;exact⟨rfl,g.out⟩
   ·have B:decide ((d.length:Int)<=32)=false:=by simp;omega
    go_enter Tryz.func184,Tryz.ntmps184;go_wp2_with fail;go_ret;exact⟨eF (by simp[o]),BEL⟩
  ·have A:decide ((a.length:Int)<=32)=false:=by simp;omega
   go_enter Tryz.func184,Tryz.ntmps184;go_wp2_with fail;go_ret;exact⟨eF (by simp[n]),BEL⟩
 ·have z:decide ((1:Int)<=(a.length:Int))=false:=by simp;omega
  go_enter Tryz.func184,Tryz.ntmps184;go_wp2_with fail;go_ret;exact⟨eF (by simp[m]),BEL⟩
theorem pu.keep {w w':World} {S:Nat->Prop} {p:Nat} {l:List Int} {ts:List (Option TypeId)} (h:pu w S p l) (a:bQ (λb=>S b\/b=p) ts w w') (e:some 309∈ts) (f:some 5∈ts):pu w' S p l:=by
 obtain⟨c,d,g,j,i⟩:=h.ex;exact⟨c,d,g.keep a (.inr rfl) e,aG j (a.mono (λb a=>.inl a) (λ_ h=>h)) f,i⟩
theorem Mod.nP {S:Nat->Prop} {T:List (Option TypeId)} {w w' c:World} (h:Mod S T w w') (hb:Below w.heap.size w' c):Mod S T w c:=
 ⟨hb.os.trans h.os,hb.tape.trans h.tape,hb.output.trans h.output,ay h.size hb.size,λb a=>by rw[hb.block b a];exact h.block b a⟩
theorem yD (c:Int) (a:List Sp) (b:List Int):Wq 0 c a b=⟨a,0,b⟩:=rfl
theorem yE (n:Nat) (a:Int) (c:List Sp) (b:List Int):Wq (n+1) a c b=
 if(eZ b).err≠0 then⟨[],(eZ b).err,(eZ b).left⟩else
 if 4611686018427387903<a\/4611686018427387903 -a<(eZ b).val then⟨[],5,(eZ b).left⟩else
 if(eZ (eZ b).left).err≠0 then⟨[],(eZ (eZ b).left).err,(eZ (eZ b).left).left⟩else
 if 4611686018427387903 -(a+(eZ b).val)<(eZ (eZ b).left).val then⟨[],5,(eZ (eZ b).left).left⟩else
 Wq n (a+(eZ b).val+(eZ (eZ b).left).val+2) (c++[⟨a+(eZ b).val,a+(eZ b).val+(eZ (eZ b).left).val⟩]) (eZ (eZ b).left).left:=rfl
theorem ze (n:Int) (l:List Int) (b:0<=n) (a:dP l):0<=eD n l:=by
 induction l generalizing n with
 |nil=>exact b
 |cons x t ih=>exact ih (n*256+x) (by have:=(a x sM).1;omega) (λd c=>a d (by simp[c]))
theorem DY {n:Int} (h:eU n≠0):n<=4611686018427387903:=by
 unfold eU at h
 (repeat' split at h)<;>omega
theorem KE (b:Int):0<nM b:=Nat.pow_pos dC
theorem lz {l:List Int} (h:dP l):0<=(eZ l).val/\(eZ l).val<=4611686018427387903/\0<=(eZ l).err/\(eZ l).err<100/\dP (eZ l).left/\(eZ l).left.length<=l.length/\((eZ l).err=0->(eZ l).left.length<l.length):=by
 cases l with
 |nil=>simp[eZ];exact h
 |cons b0 t=>
  rw[Ex];split
  ·exact⟨sM,sM,sM,sM,h,av _,λh=>by simp at h⟩
  ·split
   ·exact⟨sM,sM,sM,sM,h,av _,λh=>by simp at h⟩
   ·next h1 h2=>
    have d:=KE b0;have c:=h b0 sM;refine⟨ze _ _ oM (λb a=>h b (by simp[bf a])),DY (by rw[Decidable.not_not.1 h2];omega),sM,sM,λb a=>h b (dW a),sM,λ_=>?_⟩;simp only[bI,aY]at*
    omega
theorem Bt (bn:Int):kJ [] bn=⟨[],2,[]⟩:=rfl
theorem Aa (a:Int) (t:List Int) (bn:Int):kJ (a::t) bn=if a<bn\/32<a then⟨[],5,t⟩else Wq a.toNat 0 [] t:=by
 (have h:fQ 1 (a::t)=⟨[a],0,t⟩:=by unfold fQ;rw[Ww sM];rfl);unfold kJ;rw[h];rfl
structure SpRes (w w':World) (S:Nat->Prop) (p:Nat) (r:Rsp) (e:Ending):Prop where
 ex:∃a c,e=.returned (.tuple #[.slice a r.val.length c,jI r.err])/\r.val.length<=c/\Sps w' (λk=>w.heap.size<=k/\k<w'.heap.size) a r.val
 rd:pu w' S p r.left
 mod:Mod (λk=>k=p) [some 309] w w'
theorem DW (S:Nat->Prop) (p:Nat) (l:List Int) (bn:Int) (w:World) (h:pu w S p l) (b1:l.length<=100000) (Z:dP l) (f8:0<=bn) (f9:bn<=1):
  Calls Tryz.prog 182 #[pT p,jI bn] w λg N=>SpRes w N S p (kJ l bn) g:=by
 have A:=zH (nR S p l 1 w h oM dC);rcases l with _|⟨q,D⟩
 ·rw[Bt]
  have M:fQ 1 []=⟨[],2,[]⟩:=rfl;rw[M]at A;clear h;go_enter Tryz.func182,Tryz.ntmps182;go_wp2_with fail;refine(A.out).mono ?_;rintro g b4 ⟨a7,a8,rfl,y,b,a⟩;have R:=zH b;have i:=zH a;clear y b a;go_wp2_with fail;go_ret2;exact⟨⟨none,0,rfl,av _,Row.WH⟩,R.out,i.out⟩
 ·rw[Aa]
  (have M:fQ 1 (q::D)=⟨[q],0,D⟩:=by unfold fQ;rw[Ww sM];rfl);rw[M]at A;have d0:=Z q sM;have d3:dP D:=λf6 e1=>Z f6 (by simp[e1]);(have e0:D.length<=100000:=by simp only[aY]at b1;omega);have g4:=h.lt;obtain⟨f7,i1⟩:=d0;clear h Z b1 M;by_cases T:q<bn\/32<q
  ·rw[aB T]
   have d4:(decide (q<bn)=true)\/(decide (q<bn)=false/\decide (32<q)=true):=by
    by_cases c5:q<bn
    ·exact .inl (by simp[c5])
    ·exact .inr ⟨by simp;omega,by simp;omega⟩
   rcases d4 with a9|⟨a9,c7⟩;go_enter Tryz.func182,Tryz.ntmps182;rotate_left;go_enter Tryz.func182,Tryz.ntmps182;rotate_left;all_goals
    go_wp2_with fail;refine(A.out).mono ?_;rintro g b4 ⟨a7,a8,rfl,y,b,a⟩;obtain⟨c4,e3,rfl,d2,a2⟩:=y.at_ (aj _ _) (j:=0) sM;simp only[Nat.add_zero,List.getElem_cons_zero]at a2;have R:=zH b;have i:=zH a;clear y b a;go_wp2_with fail;go_ret2;exact⟨⟨none,0,rfl,av _,Row.WH⟩,R.out,i.out⟩
  ·rw[Ww T]
   (have a9:decide (q<bn)=false:=by simp;omega);(have c7:decide (32<q)=false:=by simp;omega);obtain⟨u,rfl⟩:=bH f7;have g3:u<=32:=oM;rw[Int.toNat_natCast];clear T;obtain⟨c3,Y⟩:=eX (Wq u 0 [] D);rw[<-Y];have c2:=zH Y;clear Y;go_enter Tryz.func182,Tryz.ntmps182;go_wp2_with fail;refine(A.out).mono ?_;rintro g b4 ⟨a7,a8,rfl,y,b,a⟩;obtain⟨c4,e3,rfl,d2,a2⟩:=y.at_ (aj _ _) (j:=0) sM;simp only[Nat.add_zero,List.getElem_cons_zero]at a2;have a5:=zH b;have a4:=zH a;clear y b a;go_wp2_with fail;go_loopw [35,9,10] (λa1 f5 f4 wr=>∃(s:Nat) (c:Int) (r:List Sp) (B:Option Addr) (C:Nat) (n:List Int),s<=u/\a1=jI s/\f5=.slice B r.length C/\f4=uI c/\r.length=s/\Hid (0<=c/\c<=4611686018427387905)/\Hid (dP n/\n.length<=100000)/\
    Hid (OwnAt wr (λe=>w.heap.size<=e/\e<wr.heap.size) 272 2 B r.length C (r.flatMap spV))/\Hid (pu wr S p n)/\Hid (Mod (λe=>e=p) [some 309] w wr)/\Hid (Wq (u -s) c r n=c3)) (λa1 _ _ _=>u -(intOf a1).toNat)
   (case atStart=>exact⟨0,0,[],none,0,D,oM,rfl,rfl,rfl,rfl,⟨dC,dC⟩,⟨d3,e0⟩,OwnAt.WH,a5,a4,zH (by rw[Nat.sub_zero];exact c2.out.symm)⟩);case round=>
    obtain⟨s,c,r,B,C,n,g0,rfl,rfl,rfl,c9,b6,E,Q,a6,i,O⟩:=hrel;clear a5 a4 A;obtain⟨h7,h8⟩:=b6.out;by_cases g2:s<u
    ·have d:=O.out
     rw[show u -s=(u -(s+1))+1 by omega,yE]at d;obtain⟨h9,i0,u0,u1,a0,d7,_⟩:=lz E.out.1;have x:=zH (wG S p n wr a6.out (by have:=E.out.2;omega) E.out.1);have K:=zH (λN (d9:pu N S p (eZ n).left)=>wG S p (eZ n).left N d9 (by have:=E.out.2;omega) a0);obtain⟨i2,i3,i4,i5,b0,d8,_⟩:=lz a0;have b7:=zH (show dP (eZ (eZ n).left).left/\(eZ (eZ n).left).left.length<=100000 from⟨b0,by have:=E.out.2;omega⟩);have z:=zH d;clear d a0 d7 b0 d8 O;generalize eZ (eZ n).left=f3 at*
     generalize eZ n=f2 at*
     obtain⟨f,U,g9⟩:=f2;obtain⟨t,V,e2⟩:=f3;simp only at*
     by_cases v:U=0
     ·have e4:(U !=0)=false:=by simp[v]
      by_cases e5:4611686018427387903<c
      ·have e6:decide (4611686018427387903<c)=true:=by simp;omega
       go_wp2_with fail;refine(x.out).mono ?_;rintro g J ⟨rfl,b,a⟩;have m:=zH b;have k:=zH a;clear b a;go_wp2_with fail;go_ret2;have d:=z.out;rw[Ww (by simp[v]),aB (.inl e5)]at d;rw[<-d];exact⟨⟨none,0,rfl,av _,Row.WH⟩,m.out,i.out.trans k.out⟩
      ·have e6:decide (4611686018427387903<c)=false:=by simp;omega
       have h0:c<=4611686018427387903:=oM;by_cases e7:4611686018427387903 -c<f
       ·have e8:decide (4611686018427387903 -c<f)=true:=by simp;omega
        go_wp2_with fail;refine(x.out).mono ?_;rintro g J ⟨rfl,b,a⟩;have m:=zH b;have k:=zH a;clear b a;go_wp2_with fail;go_ret2;have d:=z.out;rw[Ww (by simp[v]),aB (.inr e7)]at d;rw[<-d];exact⟨⟨none,0,rfl,av _,Row.WH⟩,m.out,i.out.trans k.out⟩
       ·have e8:decide (4611686018427387903 -c<f)=false:=by simp;omega
        have h1:c+f<18446744073709551616:=oM;have h2:c+f<=4611686018427387903:=oM;by_cases I:V=0
        ·have e9:(V !=0)=false:=by simp[I]
         by_cases f0:4611686018427387903 -(c+f)<t
         ·have f1:decide (4611686018427387903 -(c+f)<t)=true:=by simp;omega
          go_wp2_with fail;refine(x.out).mono ?_;rintro g J ⟨rfl,b,a⟩;have m:=zH b;have k:=zH a;clear b a;go_wp2_with fail;refine(K.out _ m.out).mono ?_;rintro g o ⟨rfl,b,a⟩;have F:=zH b;have P:=zH a;clear b a;go_wp2_with fail;go_ret2;have d:=z.out;rw[Ww (by simp[v]),Ww oM,Ww (by simp[I]),aB f0]at d;rw[<-d];exact⟨⟨none,0,rfl,av _,Row.WH⟩,F.out,(i.out.trans k.out).trans P.out⟩
         ·have f1:decide (4611686018427387903 -(c+f)<t)=false:=by simp;omega
          have h3:c+f+t<18446744073709551616:=oM;have h4:c+f+t+2<18446744073709551616:=oM;have h5:0<=c+f:=oM;have h6:0<=c+f+t:=oM;go_wp2_with fail;refine(x.out).mono ?_;rintro g J ⟨rfl,b,a⟩;have m:=zH b;have k:=zH a;clear b a;go_wp2_with fail;refine(K.out _ m.out).mono ?_;rintro g o ⟨rfl,b,a⟩;have L:Mod (λe=>e=p) [some 309] wr o:=k.out.trans a;have g5:=L.size;have g8:=i.out.size;have b2:OwnAt o (λe=>w.heap.size<=e/\e<o.heap.size) 272 2 B r.length C (r.flatMap spV):=(Q.out.keep (ts:=[some 272]) (L.aM dC) sM).mono (λe G=>⟨G.1,oM⟩);have F:=zH b;have b9:=zH L;have c0:=zH b2;clear b a L b2 x K m k;go_wp2_with (at_builtin;refine iP.jO rfl (.tmp 68) (.tmp 74) rfl B C r (by simp[Act.eval,c9]) (c0.out.below (BEL)) (some ⟨o.heap.size,0,none⟩) 1 [⟨c+f,c+f+t⟩] (by rfl) (kQ (Wx _ _ _)) sO dC ?_;intro b5 c6 a3 b3 H d5;have c1:=zH b3;have b8:=zH H;clear b3 H d5);go_roundw;case rel=>
           have H:=b8.out;have g7:=H.size;have W:Mod (λe=>w.heap.size<=e/\e<o.heap.size) [some 272] o a3:=by
            exact Mod.then (S':=λe=>w.heap.size<=e/\e<o.heap.size) (by have:=aV (λe=>w.heap.size<=e/\e<o.heap.size) [some 272] o;first|exact this.alloc _|exact(this.alloc _).drew|exact(this.drew).alloc _|exact(this.drewN _).alloc _) H (λ_ _ h=>h)
           have X:=i.out.trans b9.out;have d1:Below w.heap.size o a3:=W.cZ X.size (λe G h=>by omega);have c8:Mod (λe=>e=p) [some 309] w a3:=X.nP d1;have d:=z.out;rw[Ww (by simp[v]),Ww oM,Ww (by simp[I]),Ww oM]at d;have g6:=W.size;refine⟨s+1,c+f+t+2,r++[⟨c+f,c+f+t⟩],b5,c6,e2,oM,by simp;try omega,by simp;try omega,rfl,by simp;omega,zH ⟨oM,oM⟩,b7,zH ?_,zH (F.out.keep (W.aM (ts:=[some 309,some 5]) dC) sM sM),zH c8,zH d⟩;refine c1.out.mono λe G=>?_;rcases G with G|⟨d6,g1⟩
           ·omega
           ·have:=X.size
            simp at d6;omega
          case measure=>simp[intOf];omega
        ·have e9:(V !=0)=true:=by simp[I]
         go_wp2_with fail;refine(x.out).mono ?_;rintro g J ⟨rfl,b,a⟩;have m:=zH b;have k:=zH a;clear b a;go_wp2_with fail;refine(K.out _ m.out).mono ?_;rintro g o ⟨rfl,b,a⟩;have F:=zH b;have P:=zH a;clear b a;go_wp2_with fail;go_ret2;have d:=z.out;rw[Ww (by simp[v]),Ww oM,aB (by simp[I])]at d;rw[<-d];exact⟨⟨none,0,rfl,av _,Row.WH⟩,F.out,(i.out.trans k.out).trans P.out⟩
     ·have e4:(U !=0)=true:=by simp[v]
      go_wp2_with fail;refine(x.out).mono ?_;rintro g J ⟨rfl,b,a⟩;have m:=zH b;have k:=zH a;clear b a;go_wp2_with fail;go_ret2;have d:=z.out;rw[aB (by simp[v])]at d;rw[<-d];exact⟨⟨none,0,rfl,av _,Row.WH⟩,m.out,i.out.trans k.out⟩
    ·obtain rfl:s=u:=oM
     have d:=O.out;rw[Nat.sub_self,yD]at d;go_wp2_with fail;go_ret2;rw[<-d];exact⟨⟨B,C,rfl,Q.out.cap_,Q.out.row⟩,a6.out,i.out⟩
def dAe (s m:List Sp) (t x p:Int) (b:List Int):Rak:=
 if 1<p then⟨akZ,5⟩else if 0<b.length then⟨akZ,3⟩else if(!jA m s)=true then⟨akZ,5⟩else⟨⟨s,m,t,x,p==1⟩,0⟩
def dAp (s m:List Sp) (t x:Int) (b:List Int):Rak:=
 if(fQ 1 b).err≠0 then⟨akZ,(fQ 1 b).err⟩else dAe s m t x ((fQ 1 b).val.getD 0 0) (fQ 1 b).left
def dAx (s m:List Sp) (t:Int) (b:List Int):Rak:=if(jU b).err≠0 then⟨akZ,(jU b).err⟩else dAp s m t (jU b).val (jU b).left
def dAt (s m:List Sp) (b:List Int):Rak:=if(jU b).err≠0 then⟨akZ,(jU b).err⟩else dAx s m (jU b).val (jU b).left
def dAm (s:List Sp) (b:List Int):Rak:=if(kJ b 0).err≠0 then⟨akZ,(kJ b 0).err⟩else dAt s (kJ b 0).val (kJ b 0).left
def dAs (b:List Int):Rak:=if(kJ b 1).err≠0 then⟨akZ,(kJ b 1).err⟩else dAm (kJ b 1).val (kJ b 1).left
theorem Xh (a:Int) (t:List Int):fQ 1 (a::t)=⟨[a],0,t⟩:=by unfold fQ;rw[Ww sM];rfl
theorem Ss (s m:List Sp) (t x:Int):dAp s m t x []=⟨akZ,2⟩:=rfl
theorem QS (s m:List Sp) (t x p:Int) (b:List Int):dAp s m t x (p::b)=dAe s m t x p b:=by unfold dAp;rw[Xh];rfl
theorem QQ:jy []=⟨akZ,2⟩:=rfl
theorem Fb (a:Int) (t:List Int):jy (a::t)=if a≠2 then⟨akZ,4⟩else dAs t:=by
 unfold jy;rw[Xh];rfl
theorem Bw:∀(d:Nat) (b:Int) (c:List Sp) (a:List Int),0<=b->dP a->(∀e∈c,SpW e)->c.length+d<=32->
  (∀e∈(Wq d b c a).val,SpW e)/\(Wq d b c a).val.length<=32/\0<=(Wq d b c a).err/\(Wq d b c a).err<100/\dP (Wq d b c a).left/\(Wq d b c a).left.length<=a.length
 |0,b,c,a,h0,hb,ha,hn=>by rw[yD];exact⟨ha,by simpa using hn,sM,sM,hb,av _⟩
 |d+1,b,c,a,h0,hb,ha,hn=>by
  rw[yE];obtain⟨p,q,k,l,g,f,_⟩:=lz hb;obtain⟨r,s,m,n,i,j,_⟩:=lz g;split
  (·exact⟨sM,sM,k,l,g,f⟩);split
  (·exact⟨sM,sM,sM,sM,g,f⟩);split
  (·exact⟨sM,sM,m,n,i,ay j f⟩);split
  ·exact⟨sM,sM,sM,sM,i,ay j f⟩
  ·next c1 c2 c3 c4=>
   have h:=Bw d (b+(eZ a).val+(eZ (eZ a).left).val+2) (c++[⟨b+(eZ a).val,b+(eZ a).val+(eZ (eZ a).left).val⟩]) (eZ (eZ a).left).left oM i (by
    intro e o;rcases WB.1 o with h|h
    ·exact ha e h
    ·obtain rfl:e=_:=by simpa using h
     exact⟨⟨by simp only;omega,by simp only;omega⟩,⟨by simp only;omega,by simp only;omega⟩⟩) (by simp only[aU,aY,List.length_nil];omega)
   exact⟨h.1,h.2.1,h.2.2.1,h.2.2.2.1,h.2.2.2.2.1,by have:=h.2.2.2.2.2;omega⟩
theorem zB {l:List Int} {bn:Int} (h:dP l):(∀k∈(kJ l bn).val,SpW k)/\(kJ l bn).val.length<=32/\0<=(kJ l bn).err/\(kJ l bn).err<100/\dP (kJ l bn).left/\(kJ l bn).left.length<=l.length:=by
 rcases l with _|⟨a,c⟩
 ·rw[Bt];exact⟨sM,sM,sM,sM,h,av _⟩
 ·have b:dP c:=λm d=>h m (by simp[d])
  have n:=h a sM;rw[Aa];split
  ·exact⟨sM,sM,sM,sM,b,sM⟩
  ·obtain⟨e,f,g,i,j,o⟩:=Bw a.toNat 0 [] c oM b sM sO
   exact⟨e,f,g,i,j,by simp only[aY];omega⟩
theorem su {w:World} {S:Nat->Prop}:nu w S none 0 none 0 akZ:=⟨Row.WH,av _,Row.WH,av _,(λa h=>by cases h),(λa h=>by cases h),dC,dC⟩
theorem bQ.stp {S:Nat->Prop} {a w w':World} {q p i:Nat} {u:Value} {b:Array Value} (h:bQ S [some 272] a w) (d:Blk w q 92 b) (c:Mod (λe=>e=p) [some 309] (w.setCell ⟨q,i,none⟩ u) w'):bQ S [some 272] a w':=
 (h.trans (bQ.setCell (fz:=(0,0)) d dC i u)).trans (c.aM sM)
theorem pu.far {w:World} {S:Nat->Prop} {p g i:Nat} {l:List Int} {t:TypeId} {b:Array Value} {u:Value} (h:pu w S p l) (hb:Blk w g t b) (c:t≠309) (d:t≠5):pu (w.setCell ⟨g,i,none⟩ u) S p l:=by
 have e:Mod (λa=>a=g) [some t] w (w.setCell ⟨g,i,none⟩ u):=(aV (λa=>a=g) [some t] w).setCell hb (λ_=>rfl) sM i u;exact h.keep (e.aM (ts:=[some 309,some 5]) (by simp;exact⟨λh=>c h.symm,λh=>d h.symm⟩)) sM sM
theorem Jv:∀(b:List Int) (a:Int),0<=a->dP b->eD a b<(a+1)*256^b.length
 |[],a,_,_=>by simp[eD];omega
 |x::t,a,hn,hl=>by
  have i:=hl x sM;have e:=Jv t (a*256+x) oM (λd c=>hl d (by simp[c]));have f:(a*256+x+1)*256^t.length<=((a+1)*256)*256^t.length:=bC oM (Int.le_of_lt (Int.pow_pos dC));(have g:((a+1)*256)*(256:Int)^t.length=(a+1)*256^(x::t).length:=by rw[aY,Int.pow_succ,Int.mul_assoc,Int.mul_comm 256]);show eD (a*256+x) t<_;omega
theorem sD {l:List Int} (h:dP l):0<=(jU l).val/\(jU l).val<18446744073709551616/\0<=(jU l).err/\(jU l).err<100/\dP (jU l).left/\(jU l).left.length<=l.length:=by
 unfold jU;split
 ·exact⟨sM,sM,sM,sM,h,av _⟩
 ·next h8=>
  have d:dP (l.take 8):=λb a=>h b (bf a);(have e:(l.take 8).length=8:=by rw[aT];omega);have c:=Jv (l.take 8) 0 dC d;rw[e]at c;exact⟨ze _ _ dC d,by simpa using c,sM,sM,λb a=>h b (dW a),sM⟩
theorem Row.far_ {w:World} {S:Nat->Prop} {t:TypeId} {size n g i:Nat} {a:Option Addr} {xs:List Value} {u:Value} (h:Row w S t size a n xs) (l:∀d,S d->d≠g):Row (w.setCell ⟨g,i,none⟩ u) S t size a n xs:=
 ⟨h.1,λo=>by
  obtain⟨b,p,e,j,f,c,m,k⟩:=h.2 o;exact⟨b,p,e,j,f,c,(Below.heap_setCell w ⟨g,i,none⟩ u b (l b c)).trans m,k⟩⟩
structure mG (w:World) (S:Nat->Prop) (p:Nat) (q:Qu):Prop where
 ex:∃a c a4 c4 a5 c5,Blk w p 234 #[jI q.room,uI q.base,uI q.fresh,.slice a q.b.length c,.slice a4 q.dX.length c4,.slice a5 q.cO.length c5]/\
  OwnAt w S 5 1 a q.b.length c (q.b.flatMap byV)/\Sps w S a4 q.dX/\q.dX.length<=c4/\Sps w S a5 q.cO/\q.cO.length<=c5
 mem:S p
section
variable {w w':World} {S S':Nat->Prop} {p:Nat} {q:Qu} {ts:List (Option TypeId)}
theorem mG.lt (h:mG w S p q):p<w.heap.size:=by obtain⟨a,d,b,e,c,f,h,_⟩:=h.ex;exact h.lt
theorem mG.keep (h:mG w S p q) (a:bQ S ts w w') (j:some 234∈ts) (k:some 5∈ts) (b:some 272∈ts):mG w' S p q:=by
 obtain⟨c,f,d,g,e,i,l,m,n,o,r,s⟩:=h.ex;exact⟨⟨c,f,d,g,e,i,l.keep a h.mem j,m.keep a k,aG n a b,o,aG r a b,s⟩,h.mem⟩
theorem mG.below (h:mG w S p q) (hb:bW w w'):mG w' S p q:=h.keep (ts:=[some 234,some 5,some 272]) (bQ.below hb) sM sM sM
theorem mG.mono (h:mG w S p q) (b:∀a,S a->S' a):mG w' S' p q->mG w' S' p q:=id
theorem mG.za (h:mG w S p q) (a:∀b,S b->S' b):mG w S' p q:=by
 obtain⟨c,f,d,g,e,i,j,k,l,m,n,o⟩:=h.ex;exact⟨⟨c,f,d,g,e,i,j,k.mono a,aF l a,m,aF n a,o⟩,a _ h.mem⟩
end
def Qum (S:Nat->Prop) (w w':World):Prop:=Mod S [some 234,some 5] w w'
theorem Eh (S:Nat->Prop) (p:Nat) (q:Qu) (w:World) (h:mG w S p q):
  Calls Tryz.prog 72 #[pT p] w λb w'=>b=.returned (uI q.base)/\w=w':=by
 obtain⟨c,f,d,g,e,i,a,_⟩:=h.ex;have j:=a.Wu 1;clear h a;go_enter Tryz.func72,Tryz.ntmps72;go_wp2_with fail;go_ret;exact⟨rfl,rfl⟩
theorem Xe (S:Nat->Prop) (p:Nat) (q:Qu) (w:World) (h:mG w S p q) (a:WV q):
  Calls Tryz.prog 71 #[pT p] w λc w'=>c=.returned (uI (fT q))/\∃d,w'=w.drewN d:=by
 obtain⟨e,l,f,m,g,n,b,_⟩:=h.ex;have o:=b.Wu 1;have r:=b.Wu 3;have i:=a.base0;(have j:q.base+q.b.length<18446744073709551616:=by have:=a.qx;unfold fT at this;omega);(have k:(q.b.length:Int)<18446744073709551616:=by have:=a.len;have:=a.qC;omega);unfold fT;clear h b a;go_enter Tryz.func71,Tryz.ntmps71;go_wp2_with fail;refine mQ ?_;rintro _ ⟨nq,rfl⟩;go_wp2_with fail;go_ret;exact⟨rfl,_,rfl⟩
theorem zT (a n e:Int) (l:Word a) (c:Word e) (w:World):
  Calls Tryz.prog 199 #[uI a,uI n,uI e] w λk w'=>k=.returned (bV (nk a n e))/\w=w':=by
 obtain⟨r,s⟩:=l;obtain⟨m,o⟩:=c;by_cases c:0<n
 ·have g:decide (0<n)=true:=by simp;omega
  by_cases d:a<=e
  ·have i:decide (a<=e)=true:=by simp;omega
   have t:0<=e -a:=oM;have u:e -a<18446744073709551616:=oM;by_cases f:n<=e -a
   ·have j:decide (n<=e -a)=true:=by simp;omega
    have b:nk a n e=true:=kC.2 ⟨c,d,f⟩;rw[b];go_enter Tryz.func199,Tryz.ntmps199;go_wp2_with fail;go_ret;exact⟨rfl,rfl⟩
   ·have j:decide (n<=e -a)=false:=by simp;omega
    (have b:nk a n e=false:=by rw[Bool.eq_false_iff];intro h;exact f (kC.1 h).2.2);rw[b];go_enter Tryz.func199,Tryz.ntmps199;go_wp2_with fail;go_ret;exact⟨rfl,rfl⟩
  ·have i:decide (a<=e)=false:=by simp;omega
   (have b:nk a n e=false:=by rw[Bool.eq_false_iff];intro h;exact d (kC.1 h).2.1);rw[b];go_enter Tryz.func199,Tryz.ntmps199;go_wp2_with fail;go_ret;exact⟨rfl,rfl⟩
 ·have g:decide (0<n)=false:=by simp;omega
  (have b:nk a n e=false:=by rw[Bool.eq_false_iff];intro h;exact c (kC.1 h).1);rw[b];go_enter Tryz.func199,Tryz.ntmps199;go_wp2_with fail;go_ret;exact⟨rfl,rfl⟩
theorem GF.words {l:List Sp} {b:Int} (h:GF b l) (hb:0<=b):∀a∈l,SpW a:=by
 intro a c;have:=h.low a c;exact⟨⟨oM,oM⟩,⟨oM,oM⟩⟩
theorem WV.small {q:Qu} (h:WV q):q.dX.length<=100000/\q.cO.length<=100000:=by
 have b:=h.dX.count h.Xk;have c:=h.cO.count h.ni;have:=h.base0;have:=h.vV;have:=h.fresh;have:=h.len;have:=h.qC;unfold fT at*
 constructor
 ·by_cases d:q.base+1<=q.fresh
  ·have:=b d;omega
  ·have:q.dX=[]:=by
    cases hq:q.dX with
    |nil=>rfl
    |cons s t=>
     have a:=h.dX;rw[hq]at a;have e:=h.Xk s (by simp[hq]);have:=a.head;omega
   rw[this];simp
 ·have:=c oM;omega
theorem Np (a:Int) (w:World):
  Calls Tryz.prog 44 #[jI a] w λf d=>∃b,f=.returned ((pT b))/\w.heap.size<=b/\mG d (λe=>w.heap.size<=e/\e<d.heap.size) b (nS a)/\bW w d:=by
 (have i:∀c:Int,c=max 1 (min a 65536)->Blk (w.alloc (.cells #[jI c,uI 0,uI 0,.slice none 0 0,.slice none 0 0,.slice none 0 0] 234)) w.heap.size 234 #[jI (nS a).room,uI (nS a).base,uI (nS a).fresh,.slice none (nS a).b.length 0,.slice none (nS a).dX.length 0,.slice none (nS a).cO.length 0]:=λc g=>by subst g;exact Wx w 234 _);go_enter Tryz.func44,Tryz.ntmps44;go_wp2_with fail;all_goals (
  go_ret;refine⟨w.heap.size,rfl,av _,⟨⟨none,0,none,0,none,0,?_,OwnAt.WH,Row.WH,av _,Row.WH,av _⟩,⟨av _,sM⟩⟩,BEL⟩;exact i _ oM)
theorem Kw (S:Nat->Prop) (p:Nat) (q:Qu) (a n:Int) (w:World) (h:mG w S p q) (c:WV q) (o:Word a) (d3:Word n):
  Calls Tryz.prog 170 #[pT p,uI a,uI n] w λd x=>(∃C,d=.returned (bV C))/\mG x (grow S w x) p (ng q a n)/\Qum S w x:=by
 have z:=h.mem;have B:=zH (Xe S p q w h c);have s:=zH (zT a n (fT q) o ⟨by have:=c.base0;have:=c.vV;have:=c.fresh;omega,by have:=c.qx;omega⟩);have J:=zH h;obtain⟨K,N,L,O,M,P,u,E,F,Q,G,Z⟩:=h.ex;have c8:=u.Wu 2;have c9:=u.Wu 5;have d4:=u.lt;by_cases I:nk a n (fT q)=true
 ·obtain⟨d8,d9,e0⟩:=kC.1 I
  have d1:=c.qx;have c7:=c.base0;have b:a+n<18446744073709551616:=oM;(have c5:0<=a+n -1:=by have:=o.1;omega);(have d7:1<=a+n:=by have:=o.1;omega);have d6:=o.1;rw[I]at s;by_cases a7:q.fresh<a
  ·have k:ng q a n=q:=by unfold ng;rw[aB (by simp[a7])]
   rw[k];(have a8:decide (q.fresh<a)=true:=by simp;omega);clear h u E F Q G Z c k;go_enter Tryz.func170,Tryz.ntmps170;go_wp2_with fail;refine(B.out).mono ?_;rintro d b ⟨rfl,r,rfl⟩;go_wp2_with fail;refine(s.out _).mono ?_;rintro d b ⟨rfl,rfl⟩;go_wp2_with fail;go_ret;exact⟨⟨_,rfl⟩,(J.out.below (aA (aj _ _) _)).za (λr f=>.inl f),(aV _ _ _).drewN _⟩
  ·have k:ng q a n={q with cO:=jh q.cO ⟨a,a+n -1⟩,fresh:=max q.fresh (a+n)}:=by unfold ng;rw[Ww (by rw[I];simp;omega)]
   rw[k];(have a8:decide (q.fresh<a)=false:=by simp;omega);have c4:=c.small.2;have V:=zH (λx (e:bW w x)=>AV S M P q.cO ⟨a,a+n -1⟩ x (aD G e) (ay c4 dC) (c.cO.words c.base0) ⟨o,⟨c5,by show a+n -1<18446744073709551616;omega⟩⟩);have c6:=zH u;have U:=zH E;have a5:=zH F;clear h E F G c k J;obtain⟨a4,X,j,C,Y,D⟩:=q;simp only at*
   generalize jh D ⟨a,a+n -1⟩=v at*
   generalize(iR D&&jf ⟨a,a+n -1⟩)=d0 at*
   by_cases d2:j<a+n
   case' pos=>
    rw[Int.max_eq_right oM];(have b0:decide (j<a+n)=true:=by simp;omega);go_enter Tryz.func170,Tryz.ntmps170;go_wp2_with fail;refine(B.out).mono ?_;rintro d b ⟨rfl,r,rfl⟩;go_wp2_with fail;refine(s.out _).mono ?_;rintro d b ⟨rfl,rfl⟩;go_wp2_with fail;refine(V.out _ BEL).mono ?_;rintro d b ⟨g,i,rfl,a3,A,e⟩;have W:=zH A;have y:bW w b:=by
     refine bD ?_ (e.mono ?_)
     ·exact BEL
     ·first|(simp;done)|(simp;omega)
    have c:Blk b (p) 234 #[jI a4,uI X,uI j,.slice K C.length N,.slice L Y.length O,.slice M D.length P]:=iK e;obtain⟨b1,b7,b2,b8,b3,b9,b4,c0,b5,c1,b6,c2⟩:=c.c6;have c3:p<b.heap.size:=c.lt;have l:=zH c;clear c;have t:=zH y;clear e y;clear A;go_wp2_with fail;go_ret;have m:=l.out.bF 5 (.slice g v.length i);have a0:=m.bF 2 (uI (a+n));have R:Qum S w b:=aH t.out;have T:Qum S w (b.setCell ⟨p,5,none⟩ (.slice g v.length i)):=Mod.setCell R l.out (λ_=>z) sM 5 _;have a1:=Mod.setCell T m (λ_=>z) sM 2 (uI (a+n));have H:bQ (λ_=>True) [some 5,some 272] b ((b.setCell ⟨p,5,none⟩ (.slice g v.length i)).setCell ⟨p,2,none⟩ (uI (a+n))):=(bQ.setCell l.out dC 5 _).trans (bQ.setCell m dC 2 _)
   case' neg=>
    rw[Int.max_eq_left oM];(have b0:decide (j<a+n)=false:=by simp;omega);go_enter Tryz.func170,Tryz.ntmps170;go_wp2_with fail;refine(B.out).mono ?_;rintro d b ⟨rfl,r,rfl⟩;go_wp2_with fail;refine(s.out _).mono ?_;rintro d b ⟨rfl,rfl⟩;go_wp2_with fail;refine(V.out _ BEL).mono ?_;rintro d b ⟨g,i,rfl,a3,A,e⟩;have W:=zH A;have y:bW w b:=by
     refine bD ?_ (e.mono ?_)
     ·exact BEL
     ·first|(simp;done)|(simp;omega)
    have c:Blk b (p) 234 #[jI a4,uI X,uI j,.slice K C.length N,.slice L Y.length O,.slice M D.length P]:=iK e;obtain⟨b1,b7,b2,b8,b3,b9,b4,c0,b5,c1,b6,c2⟩:=c.c6;have c3:p<b.heap.size:=c.lt;have l:=zH c;clear c;have t:=zH y;clear e y;clear A;go_wp2_with fail;go_ret;have m:=l.out.bF 5 (.slice g v.length i);have a0:=m.bF 2 (uI j);have R:Qum S w b:=aH t.out;have T:Qum S w (b.setCell ⟨p,5,none⟩ (.slice g v.length i)):=Mod.setCell R l.out (λ_=>z) sM 5 _;have a1:=Mod.setCell T m (λ_=>z) sM 2 (uI j);have H:bQ (λ_=>True) [some 5,some 272] b ((b.setCell ⟨p,5,none⟩ (.slice g v.length i)).setCell ⟨p,2,none⟩ (uI j)):=(bQ.setCell l.out dC 5 _).trans (bQ.setCell m dC 2 _)
   all_goals
    have d5:=t.out.size;refine⟨⟨_,rfl⟩,⟨⟨K,N,L,O,g,i,by simpa using a0,?_,?_,Q,?_,a3⟩,.inl z⟩,a1⟩
    ·exact(((U.out.below t.out).mono (S':=λ_=>True) (λ_ _=>trivial)).keep H sM).own|>λo=>⟨o,λa6 a9=>.inl (U.out.mem a6 a9)⟩
    ·exact(aD a5.out t.out).keep (H.mono (λ_ _=>trivial) (λ_ h=>h)) sM|>.mono (λr f=>.inl f)
    ·exact(aG W.out (H.mono (λ_ _=>trivial) (λ_ h=>h)) sM).mono (λr f=>.inr ⟨by first|exact f.1|(have:=f.1;simp at this;omega),by simpa[World.setCell]using f.2⟩)
 ·have a2:nk a n (fT q)=false:=by simpa using I
  (have k:ng q a n=q:=by unfold ng;rw[aB (by simp[a2])]);rw[k];rw[a2]at s;clear h u E F Q G Z c k;go_enter Tryz.func170,Tryz.ntmps170;go_wp2_with fail;refine(B.out).mono ?_;rintro d b ⟨rfl,r,rfl⟩;go_wp2_with fail;refine(s.out _).mono ?_;rintro d b ⟨rfl,rfl⟩;go_wp2_with fail;go_ret;exact⟨⟨_,rfl⟩,(J.out.below (aA (aj _ _) _)).za (λr f=>.inl f),(aV _ _ _).drewN _⟩
theorem Blk.own {w:World} {g:Nat} {e:TypeId} {c:Array Value} {size n:Nat} {xs:List Value} (h:Blk w g e c) (d:c.toList=xs) (b:xs.length=n*size) (i:n<=1000000000):OwnAt w (λf=>f=g) e size (some ⟨g,0,none⟩) n n xs:=by
 refine⟨⟨b,.inr ⟨g,n,c,rfl,jV _,h,av _,by simp only[maxLen];omega,?_,?_⟩⟩,λf a=>by injection a with a;injection a with a;exact a.symm⟩
 ·rw[<-d]at b;simpa using b
 ·rw[d,<-b];simp
theorem oL (n:Int):(kY n).length<=8:=by
 unfold kY;have:∀(a:Nat) (d c:Int),(oP d (kM a c)).length=a:=by
  intro a d c;have b:(kM a c).length=a:=by
   induction a generalizing c with
   |zero=>rfl
   |succ a ih=>simp[kM,ih]
  cases hq:kM a c with
  |nil=>rw[hq]at b;simp at b;subst b;rfl
  |cons y t=>rw[hq]at b;simp[oP]at b|-;omega
 rw[this];unfold eU
 (repeat' split)<;>omega
theorem SB {n:Int} (h:eU n=0):rR n=[]:=by unfold rR;rw[aB h]
theorem Q8 {n:Int} (h:eU n≠0):rR n=[3]++kY n:=by unfold rR;rw[Ww h];rfl
theorem Q6 (n:Int) (D:Word n) (w:World):Calls Tryz.prog 89 #[uI n] w λe g=>∃k l,e=.returned (.tuple #[.slice k (rR n).length l,bV (eU n !=0)])/\(rR n).length<=l/\Bys g (λc=>w.heap.size<=c/\c<g.heap.size) k (rR n)/\bW w g:=by
 by_cases a:eU n=0
 ·have B:4611686018427387904<=n:=by unfold eU at a;(repeat' split at a)<;>omega
  rw[SB a,a];have d:=zH (PQ n B);clear a;go_enter Tryz.func89,Tryz.ntmps89;go_wp2_with fail;refine(d.out _).mono ?_;rintro e b ⟨rfl,rfl⟩;go_wp2_with fail;go_ret2;exact⟨none,0,rfl,av _,Row.WH,aj _ _⟩
 ·have f:n<=4611686018427387903:=DY a
  (have m:(eU n !=0)=true:=by simp[a]);have H:=oL n;rw[Q8 a,m];have d:=zH (Xa n D.1 f);clear a m;generalize kY n=F at*
  go_enter Tryz.func89,Tryz.ntmps89;go_wp2_with fail;refine(d.out _).mono ?_;rintro e b ⟨y,z,rfl,t,o⟩;have x:=zH t;have i:=zH o;clear t o;go_wp2_with (at_builtin;refine fe.jO rfl (.tmp 13) (.tmp 14) rfl (some ⟨b.heap.size,0,none⟩) 1 [3] (by simp[Act.eval]) ((Wx b 5 #[.int .u8 3]).own (xs:=[Value.int .u8 3]) rfl rfl sM) y z F (by simp[Act.eval]) (aD x.out (BEL)) sO dC ?_;intro u A J s r C;have j:=zH s;have v:=zH r;clear s r C);go_ret2;have q:=v.out;have I:=i.out.size;have E:=q.size;simp at E;refine⟨u,A,rfl,j.out.cap_,j.out.row.mono λc p=>?_,?_⟩
  ·rcases p with rfl|⟨f,G⟩
   ·omega
   ·simp at f;omega
  ·exact i.out.trans ((show Below w.heap.size b (b.alloc (.cells #[.int .u8 3] 5))from BEL).trans (q.cZ sO (λc p h=>by omega)))
def Dk:Int->List Sp->Prop
 |_,[]=>True
 |bn,s::t=>bn<=s.lo/\s.lo<=s.hi/\s.hi<=4611686018427387903/\Dk (s.hi+2) t
theorem Im:∀(a:List Sp) (h:Int),oh (some h) a=true->Dk (h+2) a
 |[],_,_=>trivial
 |s::t,h,hg=>by
  simp only[oh,jf,Bool.and_eq_true,decide_eq_true_eq,Bool.not_eq_true',decide_eq_false_iff_not]at hg;exact⟨oM,hg.1.1.1,hg.1.1.2,Im t _ hg.2⟩
theorem BG {l:List Sp} (a:iR l=true) (c:∀b∈l,0<=b.lo):Dk 0 l:=by
 cases l with
 |nil=>trivial
 |cons b t=>
  simp only[iR,oh,jf,Bool.and_eq_true,decide_eq_true_eq]at a;exact⟨c b sM,a.1.1.1,a.1.1.2,Im t _ a.2⟩
theorem Eb:∀(b:List Sp) (a:Int),(rM a b).length<=16*b.length
 |[],_=>by simp[rM]
 |s::t,a=>by
  have c:=oL (s.lo -a);have d:=oL (s.hi -s.lo);have e:=Eb t (s.hi+2);simp only[rM,aU,aY];omega
theorem BH (l:List Sp):(xL l).length<=16*l.length+1:=by
 have:=Eb l 0;simp only[xL,aY];omega
theorem LY (S:Nat->Prop) (a:Option Addr) (c:Nat) (l:List Sp) (w:World) (h:Sps w S a l) (e5:l.length<=32) (V:Dk 0 l):
  Calls Tryz.prog 245 #[.slice a l.length c] w λC J=>∃O P,C=.returned (.slice O (xL l).length P)/\(xL l).length<=P/\Bys J (λb=>w.heap.size<=b/\b<J.heap.size) O (xL l)/\bW w J:=by
 have b4:=zH h;have c4:=BH l;have e8:(l.length:Int)%256=l.length:=oM;obtain⟨B,d⟩:=eX (xL l);rw[<-d]at c4|-;have o:=zH (show[(l.length:Int)]++rM 0 (l.drop 0)=B by rw[d];rfl);have s:=zH (show Dk 0 (l.drop 0) by simpa using V);clear d h V;go_enter Tryz.func245,Tryz.ntmps245;go_wp2_with fail;have m:=zH (show OwnAt (w.alloc (.cells #[.int .u8 (l.length:Int)] 5)) (λb=>w.heap.size<=b/\b<(w.alloc (.cells #[.int .u8 (l.length:Int)] 5)).heap.size) 5 1 (some ⟨w.heap.size,0,none⟩) [(l.length:Int)].length 1 ([(l.length:Int)].flatMap byV)from((Wx w 5 #[.int .u8 (l.length:Int)]).own (xs:=[Value.int .u8 (l.length:Int)]) rfl rfl sM).mono (λb u=>by subst u;simp));have k:=zH (show bW w (w.alloc (.cells #[.int .u8 (l.length:Int)] 5))from BEL);go_loopw [17,3,4] (λH d6 d7 wr=>∃(j:Nat) (f:Int) (e:List Int) (p:Option Addr) (q:Nat),j<=l.length/\H=jI j/\d6=.slice p e.length q/\d7=uI f/\Hid (0<=f/\f<=4611686018427387905)/\
  Hid (OwnAt wr (λb=>w.heap.size<=b/\b<wr.heap.size) 5 1 p e.length q (e.flatMap byV))/\Hid (bW w wr)/\Hid (e++rM f (l.drop j)=B)/\Hid (Dk f (l.drop j))) (λH _ _ _=>l.length -(intOf H).toNat)
 (case atStart=>exact⟨0,0,[(l.length:Int)],some ⟨w.heap.size,0,none⟩,1,oM,rfl,rfl,rfl,⟨dC,dC⟩,m,k,o,s⟩);case round=>
  clear m k o s;obtain⟨j,f,e,p,q,e4,rfl,rfl,rfl,b5,m,k,o,s⟩:=hrel;by_cases R:j<l.length
  ·obtain⟨e0,g5,rfl,F,d1,d2⟩:=Sps.at_ b4.out k.out R
   have d:=o.out;have D:=s.out;(have e3:e.length<=B.length:=by rw[<-d];simp);rw[aR R]at d D;generalize l[j]=d5 at*
   obtain⟨g,i⟩:=d5;simp only[rM,Dk]at d D d1 d2;obtain⟨g6,g7,g8,a1⟩:=D;obtain⟨h3,h4⟩:=b5.out;have b1:=zH d;have a4:=zH a1;have d3:0<=g -f:=oM;have d4:0<=i -g:=oM;have g9:i+2<18446744073709551616:=oM;have h0:0<=i+2:=oM;have h1:0<=g:=oM;have h2:0<=i:=oM;have L:=zH (Xa (g -f) d3 oM);have M:=zH (Xa (i -g) d4 oM);have e6:=oL (g -f);have e7:=oL (i -g);clear d a1 o s;generalize kY (g -f)=I at*
   generalize kY (i -g)=a0 at*
   have d0:=k.out.size;go_wp2_with fail;refine(L.out _).mono ?_;rintro C z ⟨b8,c0,rfl,W,E⟩;have b0:=zH W;have F:bW wr z:=pY E;have x:Blk z (wr.heap.size) 272 #[uI g,uI i]:=iK E;obtain⟨g0,g2,g1,g3⟩:=x.c2;have g4:wr.heap.size<z.heap.size:=x.lt;have N:=zH x;clear x;have A:=zH F;clear E F;clear W;go_wp2_with fail;refine(M.out _).mono ?_;rintro C K ⟨b9,c1,rfl,X,t⟩;have v:=zH t;have b2:=zH X;have y:=N.out.below t N.out.lt;obtain⟨f3,f5,f4,f6⟩:=y.c2;have f7:=y.lt;have b6:=zH y;clear X t y;have f2:=v.out.size;have Q:OwnAt K (λb=>w.heap.size<=b/\b<wr.heap.size) 5 1 p e.length q (e.flatMap byV):=(m.out.below A.out).below v.out;have a7:=zH Q;clear Q m L M;(have c7:Apart (λb=>z.heap.size<=b/\b<K.heap.size) (λb=>w.heap.size<=b/\b<wr.heap.size):=λb e1 e2=>by omega);go_wp2_with (at_builtin;first|(refine fe.jO rfl (.tmp 40) (.tmp 41) rfl a2 c2 (e++I) (by simp[Act.eval]) a8.out b9 c1 a0 (by simp[Act.eval]) b3.out sO dC ?_;intro a3 c3 d9 U r c9;have G:=b7.out.mod r dC;have f8:=G.Wu 1;have f9:=G.lt;have a9:=zH U;have a6:=zH r;clear U r c9 G)|(refine fe.jO rfl (.tmp 38) (.tmp 39) rfl p q e (by simp[Act.eval]) a7.out b8 c0 I (by simp[Act.eval]) (b0.out.below v.out) oM dC ?_;intro a2 c2 d8 T n c8;have Z:=b6.out.mod n dC;have Y:=aG b2.out (n.iD (ts:=[some 5]) c7) sM;have b7:=zH Z;have b3:=zH Y;have a8:=zH T;have a5:=zH n;clear T n c8 Z Y));go_roundw;case rel=>
    have n:=a5.out;have r:=a6.out;have f0:=n.size;have f1:=r.size;have e9:=A.out.size;have t:bW w K:=k.out.trans ((A.out.mono d0).trans (v.out.mono oM));have c5:bW w d8:=t.trans (n.cZ oM (λb u h=>by omega));have c6:bW w d9:=c5.trans (r.cZ oM (λb u h=>by rcases h with h|h<;>omega));refine⟨j+1,i+2,e++I++a0,a3,c3,oM,by simp;try omega,by simp;try omega,rfl,zH ⟨oM,oM⟩,zH (a9.out.mono λb u=>?_),zH c6,zH (by have:=b1.out;simpa using this),a4⟩;rcases u with(h|h)|h<;>omega
   case measure=>simp[intOf];omega
  ·obtain rfl:j=l.length:=oM
   have d:=o.out;rw[List.drop_length]at d;simp only[rM,List.append_nil]at d;subst d;go_wp2_with fail;go_ret;exact⟨p,q,rfl,m.out.cap_,m.out.row,k.out⟩
theorem My:Elem Tryz.prog 95 47 1 24 bvV:=
 ⟨by kernel_rfl,by
  obtain⟨a,c,d,e,f⟩:=info_parts (show(Tryz.prog.info? 47).map (λa=>(a.zero,a.size,a.bytes))=some (some (.slice none 0 0),1,24) by kernel_rfl);exact⟨a,_,c,d,e,f,rfl⟩,dC,λ_=>rfl,λi g b=>by simp[bvV]at b;rcases b with rfl;rfl⟩
def slLen:Value->Nat| .slice _ n _=>n|_=>0
structure CmAt (w wr:World) (S:Nat->Prop) (p:Nat) (qF:List Fa) (count:Nat) (items:List It) (now:Int) (n:Nat) (A:Option Addr) (c:Nat) (bv:List Bv) (af:Option Addr) (cf:Nat) (ai:Option Addr) (ci:Nat) (iv:List Iv):Prop where
 out:OwnAt wr (λk=>w.heap.size<=k) 47 1 A bv.length c (bv.flatMap bvV)
 by_:∀x∈bv,Bys wr (λk=>w.heap.size<=k) x.a x.b/\x.b.length<=x.c
 blk:Blk wr p 218 #[.slice af qF.length cf,jI count,.slice ai iv.length ci]
 off:gW wr S 222 2 ai iv.length ci (iv.flatMap itV)
 bys:∀x∈iv,Bys wr S x.a x.b
 come:bv.map (·.b)++iy now (iv.map Iv.it)=iy now items
 rest:iH now (iv.map Iv.it)=iH now items
 len:bv.length+iv.length=n
 md:Mod S [some 218] w wr
 ok:∀x∈iv,x.b.length<=100000
theorem BQ (k:Nat) (i:k<=1000000000) (S:Nat->Prop) (p:Nat) (q:Pp) (now:Int) (w:World) (h:rH w S p q) (a0:q.items.length<=2*k+1) (c5:∀l∈q.items,Word l.iat/\l.b.length<=100000) (f4:Word now) (e8:Bd S w):
  Calls Tryz.prog 84 #[pT p,uI now] w λd7 M=>∃b3 m,∃d:List Bv,
   d7=.returned (.slice b3 d.length m)/\d.map (·.b)=iy now q.items/\OwnAt M (λk=>w.heap.size<=k) 47 1 b3 d.length m (d.flatMap bvV)/\(∀c∈d,Bys M (λk=>w.heap.size<=k) c.a c.b/\c.b.length<=c.c)/\rH M S p {q with items:=iH now q.items}/\Mod S [some 218] w M:=by
 obtain⟨C,D,v,b,z,V,b5,b8,b4,G⟩:=h.ex;have U:=h.mem;have f5:=V.lt;obtain⟨a6,T,c8⟩:=q;simp only at*
 (have f2:z.length<=2*k+1:=by rw[G,bR]at a0;exact a0);have b1:=zH b5;have a8:CmAt w w S p a6 T c8 now z.length none 0 [] C D v b z:=
  ⟨OwnAt.WH,(λc e=>by cases e),V,b8,b4,by rw[G];rfl,by rw[G],sM,aV _ _ _,λc e=>(c5 (Iv.it c) (by rw[G];exact List.mem_map_of_mem e)).2⟩
 have a9:=zH a8;clear V b5 b8 b4 G h a0 c5 a8;go_enter Tryz.func84,Tryz.ntmps84;go_wp2_with fail;go_loopw [5] (λn wr=>∃s m,∃d:List Bv,∃v b,∃a5:List Iv,n=.slice s d.length m/\Hid (CmAt w wr S p a6 T c8 now z.length s m d C D v b a5)) (λn _=>z.length -slLen n);(case atStart=>exact⟨none,0,[],v,b,z,rfl,a9⟩);case round=>
  obtain⟨s,m,d,v,b,a5,rfl,g⟩:=hrel;have f3:=g.out.len;have W:=g.out.blk;obtain⟨e4,e7⟩:=W.cz 2;have e1:=W.lt;have c6:w.heap.size<=wr.heap.size:=g.out.md.size;clear W a9;cases a5 with
  |nil=>
   simp only[List.length_nil]at*
   go_wp2_with fail;refine mV ?_;have a:=g.out;refine⟨s,m,d,rfl,?_,a.out,a.by_,⟨⟨C,D,v,b,[],a.blk,?_,a.off,a.bys,?_⟩,U⟩,a.md⟩
   ·have:=a.come;simpa[iy]using this
   ·exact b1.out.keep (a.md.aM (ts:=[some 187]) dC) sM
   ·have:=a.rest;simpa[iH]using this.symm
  |cons l t=>
   obtain⟨H,n,rfl,e9,f1,c9,d0⟩:=Ivs.at_ g.out.off (j:=0) sM;simp only[Nat.zero_mul,Nat.add_zero,List.getElem_cons_zero,aY]at*
   have c7:=g.out.ok l sM;have O:=zH (g.out.bys l sM);by_cases F:l.iat<=now
   ·have K:decide (l.iat<=now)=true:=by simpa using F
    obtain⟨o,f,A,B⟩:=l;simp only at c9 d0 c7 O F K;obtain⟨f8,b7,e2,L,e3⟩:=info_parts (show(Tryz.prog.info? 222).map (λa4=>(a4.zero,a4.size,a4.bytes))=some (some (.agg #[uI 0,.slice none 0 0]),2,32) by kernel_rfl);have hcut:∀w,(Instr.slice 216 (.slice (some ⟨H,n,none⟩) (t.length+1) b) (some (jI 1)) none none).run Tryz.prog w=.ok (.slice (fE (some ⟨H,n,none⟩) b 1 2) t.length (b -1)) w:=λw=>by
     have h:=gI (P:=Tryz.prog) oO.ht b7 (some ⟨H,n,none⟩) (t.length+1) b 1 oM w;rw[L]at h;simpa using h
    obtain⟨R,X⟩:=eX (fE (some (⟨H,n,none⟩:Addr)) b 1 2);rw[<-X]at hcut;have d3:=zH X;clear b7 e2 L e3 X F;have b0:Hid (o<=now):=zH (by simpa using K);go_wp2_with (at_builtin;first|(refine fe.wpList rfl _ (.tmp 32) rfl wr.heap.size none 0 [] (by rfl) (iq _ _ _ _) A B f (by simp[Act.eval]) O.out sO dC (av _) ?_;intro u y r c3 b6;have J:bW wr r:=(aj wr.heap.size wr).grown b6 (av _) (by simp[Value.ownBlock]);have d4:=zH c3;have N:=zH J;have f7:=J.size;clear c3 b6 J)|(refine My.jO (S:=λk=>w.heap.size<=k) rfl (.tmp 25) (.tmp 34) rfl s m d (by simp[Act.eval]) (g.out.out.below (show bW wr _ from(by have f0:=N.out;exact BEL))) (some ⟨r.heap.size,0,none⟩) 1 [⟨f,u,y⟩] (by simp[Act.eval]) (My.single ⟨f,u,y⟩ (Wx r 47 _) rfl) sO dC ?_;intro d2 d6 a7 c2 a1 e0;have I:=((g.out.blk.below N.out e1).alloc (.cells #[.slice u f.length y] 47)).mod a1 dC;obtain⟨e5,e6⟩:=I.cz 2;have b2:=zH I;have d5:=zH c2;have Q:=zH a1;have f6:=I.lt;clear c2 a1 e0 I));go_roundw;case rel=>
     refine⟨d2,d6,d++[⟨f,u,y⟩],R,b -1,t,sM,?_⟩;have a:=g.out;have J:=N.out;have E:bW wr (r.alloc (.cells #[.slice u f.length y] 47)):=BEL;have b9:=Q.out.aM (S':=λk=>w.heap.size<=k) (ts:=[some 5]) dC;have c1:=Q.out.aM (S':=S) (ts:=[some 5,some 222]) dC;obtain⟨d1,a3⟩:=eX (a7.setCell ⟨p,2,none⟩ (.slice R t.length (b -1)));rw[<-a3];(have a2:Mod (λk=>k=p) [some 218] a7 d1:=by rw[a3];exact(aV (λk=>k=p) [some 218] a7).setCell b2.out (λ_=>rfl) sM 2 _);(have d8:Blk d1 p 218 #[.slice C a6.length D,jI T,.slice R t.length (b -1)]:=by rw[a3];exact b2.out.bF 2 _);have Y:=OwnAt.fresh (w:=r) d4.out;rw[List.nil_append]at Y;have d9:bW r (r.alloc (.cells #[.slice u f.length y] 47)):=BEL;have Z:=a2.aM (S':=λk=>w.heap.size<=k) (ts:=[some 5,some 47]) dC;have c0:=a2.aM (S':=S) (ts:=[some 5,some 222]) dC;have L:=E.size;refine⟨?_,?_,d8,?_,?_,?_,?_,?_,?_,?_⟩
     ·refine(d5.out.mono (λk i=>?_)).keep Z sM
      rcases i with i|i
      ·exact i
      ·exact ay (ay c6 L) i.1
     ·intro c e
      rcases WB.1 e with e|e
      ·have:=a.by_ c e
       exact⟨aG (aG (aD this.1 E) b9 sM) Z sM,this.2⟩
      ·obtain rfl:c=_:=dZ.1 e
       refine⟨aG (aG ((aD Y.row d9).mono (λk i=>ay c6 i.1)) b9 sM) Z sM,Y.cap_⟩
     ·have c4:=a.off.tail (k:=1) sM
      rw[<-d3.out]at c4;exact((c4.below E).keep c1 sM).keep c0 sM
     ·intro c e
      exact aG (aG (aD (a.bys c (by simp[e])) E) c1 sM) c0 sM
     ·have:=a.come
      rw[List.map_cons,Ou (x:=(⟨o,f,A,B⟩:Iv).it) b0.out]at this;rw[List.map_append,List.append_assoc];exact this
     ·have:=a.rest
      rw[List.map_cons,Nj (x:=(⟨o,f,A,B⟩:Iv).it) b0.out]at this;exact this
     ·simp;omega
     ·exact(((a.md.trans (aH E)).nA Q.out (λk i=>i))).then (a2.mono (λ_ _ h=>h) sM) (λk _ h=>by subst h;exact U)
     ·exact λc e=>a.ok c (by simp[e])
    case measure=>simp[intOf,slLen];omega
   ·have K:decide (l.iat<=now)=false:=by simpa using F
    obtain⟨o,f,A,B⟩:=l;simp only at c9 d0 c7 O F K;go_wp2_with fail;refine mV ?_;have a:=g.out;refine⟨s,m,d,rfl,?_,a.out,a.by_,⟨⟨C,D,_,b,_,a.blk,?_,a.off,a.bys,?_⟩,U⟩,a.md⟩
    ·have:=a.come;rw[List.map_cons,QW (x:=(⟨o,f,A,B⟩:Iv).it) (show¬o<=now by omega),List.append_nil]at this;exact this
    ·exact b1.out.keep (a.md.aM (ts:=[some 187]) dC) sM
    ·have:=a.rest;rw[List.map_cons,PE (x:=(⟨o,f,A,B⟩:Iv).it) (show¬o<=now by omega)]at this;exact this.symm
theorem Kv (S:Nat->Prop) (a:Option Addr) (c:Nat) (l:List Sp) (d:Int) (w:World) (h:Sps w S a l):
  Calls Tryz.prog 131 #[.slice a l.length c,uI d] w λi n=>i=.returned (bV (decide (0<l.length)&&decide ((l.getD 0 ⟨0,0⟩).lo<d)))/\w=n:=by
 rcases l with _|⟨b,e⟩
 ·clear h
  go_enter Tryz.func131,Tryz.ntmps131;go_wp2_with fail;go_ret;exact⟨rfl,rfl⟩
 ·obtain⟨o,s,rfl,p,k,g⟩:=Sps.at_ h (aj _ _) (j:=0) sM
  simp only[Nat.zero_mul,Nat.add_zero,List.getElem_cons_zero]at k g;have q:(0:Int)<((b::e).length:Int):=sM;have f:decide (0<(b::e).length)=true:=sM;rw[f];simp only[List.getD_cons_zero,Bool.true_and];generalize(b::e).length=r at*
  generalize b.lo=m at*
  clear h g f;cases hd:decide (m<d)with
  |true=>
   go_enter Tryz.func131,Tryz.ntmps131;go_wp2_with fail;go_ret;exact⟨rfl,rfl⟩
  |false=>
   go_enter Tryz.func131,Tryz.ntmps131;go_wp2_with fail;go_ret;exact⟨rfl,rfl⟩
theorem Jp (s:Sp) (t:List Sp) (n:Int):dI (s::t) n=(nV n s||dI t n):=rfl
theorem Cq (S:Nat->Prop) (a:Option Addr) (c:Nat) (l:List Sp) (n:Int) (w:World) (h:Sps w S a l) (G:l.length<=1000000000):
  Calls Tryz.prog 133 #[.slice a l.length c,uI n] w λA C=>A=.returned (bV (dI l n))/\w=C:=by
 have x:=zH h;clear h;obtain⟨e,k⟩:=eX (dI l n);rw[<-k];have r:=zH k;clear k;go_enter Tryz.func133,Tryz.ntmps133;go_wp2_with fail;go_loopw [5] (λo wr=>∃(d:Nat),d<=l.length/\o=jI d/\Hid (dI (l.drop d) n=e)/\Hid (w=wr)) (λo _=>l.length -(intOf o).toNat);(case atStart=>exact⟨0,oM,rfl,r.out.symm,rfl⟩);case round=>
  obtain⟨d,F,rfl,q,v⟩:=hrel;clear r;obtain rfl:w=wr:=v.out;by_cases u:d<l.length
  ·obtain⟨D,H,rfl,E,y,z⟩:=Sps.at_ x.out (aj _ _) u
   have b:=q.out;rw[aR u,Jp]at b;generalize l[d]=B at*
   obtain⟨p,m⟩:=B;simp only[nV]at y z b;by_cases s:p<=n
   ·have f:decide (p<=n)=true:=by simpa using s
    by_cases t:n<=m
    ·have j:decide (n<=m)=true:=by simpa using t
     have i:Hid (e=true):=zH (by rw[<-b,f,j];rfl);clear b;go_wp2_with fail;go_ret;exact⟨eF i.out.symm,rfl⟩
    ·have j:decide (n<=m)=false:=by simpa using t
     have g:Hid (dI (l.drop (d+1)) n=e):=zH (by rw[<-b,f,j];rfl);clear b;go_wp2_with fail;go_roundw;(case rel=>exact⟨d+1,oM,by go_num,g,by first|exact zH trivial|exact zH rfl⟩);case measure=>simp[intOf];omega
   ·have f:decide (p<=n)=false:=by simpa using s
    have g:Hid (dI (l.drop (d+1)) n=e):=zH (by rw[<-b,f];rfl);clear b;go_wp2_with fail;go_roundw;(case rel=>exact⟨d+1,oM,by go_num,g,by first|exact zH trivial|exact zH rfl⟩);case measure=>simp[intOf];omega
  ·obtain rfl:d=l.length:=oM
   have b:=q.out;rw[List.drop_length]at b;have i:Hid (e=false):=zH b.symm;clear b;go_wp2_with fail;go_ret;exact⟨eF i.out.symm,rfl⟩
end Go.Proofs.YtiflndepmgnojaaGreat
