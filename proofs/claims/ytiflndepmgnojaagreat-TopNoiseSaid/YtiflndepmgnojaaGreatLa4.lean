import Derived.Test.YtiflndepmgnojaaGreatLawL
import Derived.Test.YtiflndepmgnojaaGreatPtn
namespace Go.Proofs.YtiflndepmgnojaaGreat
open Go.RowKit Tryz
set_option linter.unusedSimpArgs false
set_option linter.unusedVariables false
set_option maxHeartbeats 8000000
set_option maxRecDepth 100000
variable {w w' W:World} {l:List Int} {p c:Nat} {C:Array Value} {t e:TypeId}
attribute[local go_sem] BW.cell BW.frozen
structure nu (w:World) (S:X4) (a1:X5) (c1:Nat) (a2:X5) (c2:Nat) (k:Ak):Prop where
 cu:Sps w S a1 k.cu
 scap:k.cu.length<=c1
 aO:Sps w S a2 k.aO
 mcap:k.aO.length<=c2
 sok:∀s∈k.cu,SpW s
 mok:∀s∈k.aO,SpW s
 Ks:k.cu.length<=1000000
 mlen:k.aO.length<=1000000
theorem nu.below {S:X4} {a1 a2:X5} {c1 c2:Nat} {k:Ak} (h:nu w S a1 c1 a2 c2 k) (hb:bW w w'):nu w' S a1 c1 a2 c2 k:=
 ⟨aD h.cu hb,h.scap,aD h.aO hb,h.mcap,h.sok,h.mok,h.Ks,h.mlen⟩
theorem nu.keep {S:X4} {a1 a2:X5} {c1 c2:Nat} {k:Ak} {ts:X8} (h:nu w S a1 c1 a2 c2 k) (a:bQ S ts w w') (b:some 272∈ts):nu w' S a1 c1 a2 c2 k:=
 ⟨aG h.cu a b,h.scap,aG h.aO a b,h.mcap,h.sok,h.mok,h.Ks,h.mlen⟩
theorem nu.mono {S S':X4} {a1 a2:X5} {c1 c2:Nat} {k:Ak} (h:nu w S a1 c1 a2 c2 k) (a:∀b,S b->S' b):nu w S' a1 c1 a2 c2 k:=
 ⟨aF h.cu a,h.scap,aF h.aO a,h.mcap,h.sok,h.mok,h.Ks,h.mlen⟩
theorem wU (S:X4) (a1:X5) (c1:Nat) (a2:X5) (c2:Nat) (k:Ak) (w:World) (h:nu w S a1 c1 a2 c2 k):
  Yk 184 #[.agg #[.slice a1 k.cu.length c1,.slice a2 k.aO.length c2,uI k.dw,uI k.xor,bV k.kZ]] w λy e=>y=.returned (bV (qA k))/\bW w e:=by
 obtain⟨j,v⟩:=yx (λe (b:bW w e)=>xG S S a1 c1 k.cu a1 c1 k.cu e (aD h.cu b) (by have:=h.Ks;omega) h.sok (aD h.cu b) (by have:=h.Ks;omega) h.sok) (λe (b:bW w e)=>xG S S a2 c2 k.aO a1 c1 k.cu e (aD h.aO b) (by have:=h.mlen;omega) h.mok (aD h.cu b) (by have:=h.Ks;omega) h.sok);have r:qA k=(decide (1<=k.cu.length)&&decide (k.cu.length<=32)&&decide (k.aO.length<=32)&&jA k.cu k.cu&&jA k.aO k.cu):=rfl;rw[r];clear r h;obtain⟨a,d,o,t,s⟩:=k;simp only at*
 by_cases l:1<=a.length
 .have z:decide ((1:Int)<=(a.length:Int))=true:=sO
  have N:(1:Nat)<=a.length:=l;by_cases m:a.length<=32
  .have A:decide ((a.length:Int)<=32)=true:=sO
   by_cases n:d.length<=32
   .have B:decide ((d.length:Int)<=32)=true:=sO
    (have q:(decide (1<=a.length)&&decide (a.length<=32)&&decide (d.length<=32)&&jA a a&&jA d a)=(jA a a&&jA d a):=by simp[l,m,n]);rw[q];clear q;cases hw:jA a a with
    |true=>
     rw[hw]at j;clear hw;go_enter Tryz.func184,Tryz.ntmps184;go_wp2_with fail;refine Yd (j.o _ BEL) ?_;intro f b;have i:bW w f:=by
      refine bD ?_ (b.mono ?_)
      .exact BEL
      .first|(simp;done)|(simp;omega)
     have c:Blk f (w.heap.size) 92 #[.slice a1 a.length c1,.slice a2 d.length c2,uI o,uI t,bV s]:=iK b;obtain⟨C,H,D,I,E,J,F,K,G,L⟩:=c.c5;have M:w.heap.size<f.heap.size:=c.lt;have x:=zH c;clear c;have g:=zH i;clear b i;go_wp2_with fail;refine Yd (v.o _ (g.o)) ?_;intro O p;have u:=zH p;clear p;go_wp2;go_ret;exact⟨rfl,g.o.trans (u.o.mono g.o.size)⟩
    |false=>
     rw[hw]at j;clear hw;go_enter Tryz.func184,Tryz.ntmps184;go_wp2_with fail;refine Yd (j.o _ BEL) ?_;intro f b;have i:bW w f:=by
      refine bD ?_ (b.mono ?_)
      .exact BEL
      .first|(simp;done)|(simp;omega)
     have c:Blk f (w.heap.size) 92 #[.slice a1 a.length c1,.slice a2 d.length c2,uI o,uI t,bV s]:=iK b;obtain⟨C,H,D,I,E,J,F,K,G,L⟩:=c.c5;have M:w.heap.size<f.heap.size:=c.lt;have x:=zH c;clear c;have g:=zH i;clear b i;go_wp2;go_ret;exact⟨rfl,g.o⟩
   .have B:decide ((d.length:Int)<=32)=false:=sO
    go_enter Tryz.func184,Tryz.ntmps184;go_wp2;go_ret;exact⟨eF (by simp[n]),BEL⟩
  .have A:decide ((a.length:Int)<=32)=false:=sO
   go_enter Tryz.func184,Tryz.ntmps184;go_wp2;go_ret;exact⟨eF (by simp[m]),BEL⟩
 .have z:decide ((1:Int)<=(a.length:Int))=false:=sO
  go_enter Tryz.func184,Tryz.ntmps184;go_wp2;go_ret;exact⟨eF (by simp[l]),BEL⟩
theorem pu.keep {S:X4} {ts:X8} (h:pu w S p l) (a:bQ (λb=>S b\/b=p) ts w w') (e:some 309∈ts) (f:some 5∈ts):pu w' S p l:=by
 obtain⟨c,d,g,j,i⟩:=h.ex;exact⟨c,d,g.keep a (.inr rfl) e,aG j (a.mono (λb a=>.inl a) (λ_ h=>h)) f,i⟩
theorem Mod.nP {S:X4} {T:X8} (h:Mod S T w w') (hb:Below w.heap.size w' W):Mod S T w W:=
 ⟨hb.os.trans h.os,hb.tape.trans h.tape,hb.output.trans h.output,ay h.size hb.size,λb a=>by rw[hb.block b a];exact h.block b a⟩
theorem yD (c:Int) (a:List Sp) (b:List Int):Wq 0 c a b=⟨a,0,b⟩:=rfl
theorem yE (n:Nat) (a:Int) (c:List Sp) (b:List Int):Wq (n+1) a c b=
 if(eZ b).err≠0 then⟨[],(eZ b).err,(eZ b).left⟩else
 if 4611686018427387903<a\/4611686018427387903 -a<(eZ b).val then⟨[],5,(eZ b).left⟩else
 if(eZ (eZ b).left).err≠0 then⟨[],(eZ (eZ b).left).err,(eZ (eZ b).left).left⟩else
 if 4611686018427387903 -(a+(eZ b).val)<(eZ (eZ b).left).val then⟨[],5,(eZ (eZ b).left).left⟩else
 Wq n (a+(eZ b).val+(eZ (eZ b).left).val+2) (c++[⟨a+(eZ b).val,a+(eZ b).val+(eZ (eZ b).left).val⟩]) (eZ (eZ b).left).left:=rfl
theorem ze (n:Int) (l:List Int) (b:0<=n) (a:dP l):0<=eD n l:=by
 induction l generalizing n with
 |nil=>exact b
 |cons x t ih=>exact ih (n*256+x) (by have:=(a x sM).1;omega) (λd c=>a d (by simp[c]))
theorem DY {n:Int} (h:eU n≠0):n<=4611686018427387903:=by
 unfold eU at h
 (repeat' split at h)<;>omega
theorem KE (b:Int):0<nM b:=Nat.pow_pos dC
theorem Yo (h:dP l):0<=(eZ l).val/\(eZ l).val<=4611686018427387903/\0<=(eZ l).err/\(eZ l).err<100/\dP (eZ l).left/\(eZ l).left.length<=l.length/\((eZ l).err=0->(eZ l).left.length<l.length):=by
 cases l with
 |nil=>simp[eZ];exact h
 |cons b0 t=>
  rw[Ex];split
  .exact⟨sM,sM,sM,sM,h,av _,λh=>by simp at h⟩
  .split
   .exact⟨sM,sM,sM,sM,h,av _,λh=>by simp at h⟩
   .next h1 h2=>
    have d:=KE b0;have c:=h b0 sM;refine⟨ze _ _ oM (λb a=>h b (by simp[bf a])),DY (by rw[Decidable.not_not.1 h2];omega),sM,sM,λb a=>h b (dW a),sM,λ_=>?_⟩;simp only[bI,aY]at*
    omega
theorem Bt (bn:Int):kJ [] bn=⟨[],2,[]⟩:=rfl
theorem Aa (a:Int) (t:List Int) (bn:Int):kJ (a::t) bn=if a<bn\/32<a then⟨[],5,t⟩else Wq a.toNat 0 [] t:=by
 (have h:fQ 1 (a::t)=⟨[a],0,t⟩:=by unfold fQ;rw[Ww sM];rfl);unfold kJ;rw[h];rfl
structure SpRes (w w':World) (S:X4) (p:Nat) (r:Rsp) (e:Ending):Prop where
 ex:∃a c,e=.returned (.tuple #[.slice a r.val.length c,jI r.err])/\r.val.length<=c/\Sps w' (λk=>w.heap.size<=k/\k<w'.heap.size) a r.val
 rd:pu w' S p r.left
 mod:Mod (λk=>k=p) [some 309] w w'
theorem DW (S:X4) (p:Nat) (l:List Int) (bn:Int) (w:World) (h:pu w S p l) (b1:l.length<=140737488355328) (Z:dP l) (f8:0<=bn) (f9:bn<=1):
  Yk 182 #[pT p,jI bn] w λK N=>SpRes w N S p (kJ l bn) K:=by
 have z:=zH (nR S p l 1 w h oM dC);rcases l with _|⟨o,C⟩
 .rw[Bt]
  have M:fQ 1 []=⟨[],2,[]⟩:=rfl;rw[M]at z;clear h;go_enter Tryz.func182,Tryz.ntmps182;go_wp2_with fail;refine(z.o).mono ?_;rintro K b4 ⟨a7,a8,rfl,x,b,a⟩;obtain⟨R,g⟩:=yx b a;clear x b a;go_wp2;go_ret2;exact⟨⟨none,0,rfl,av _,Row.WH⟩,R.o,g.o⟩
 .rw[Aa]
  (have M:fQ 1 (o::C)=⟨[o],0,C⟩:=by unfold fQ;rw[Ww sM];rfl);rw[M]at z;have d0:=Z o sM;have d3:dP C:=λf6 e1=>Z f6 (by simp[e1]);(have e0:C.length<=140737488355328:=by simp only[aY]at b1;omega);have g4:=h.lt;obtain⟨f7,i1⟩:=d0;clear h Z b1 M;by_cases T:o<bn\/32<o
  .rw[aB T]
   have d4:(decide (o<bn)=true)\/(decide (o<bn)=false/\decide (32<o)=true):=by
    by_cases c5:o<bn
    .exact .inl (by simp[c5])
    .exact .inr ⟨by simp;omega,by simp;omega⟩
   rcases d4 with a9|⟨a9,c7⟩;go_enter Tryz.func182,Tryz.ntmps182;rotate_left;go_enter Tryz.func182,Tryz.ntmps182;rotate_left;all_goals
    go_wp2_with fail;refine(z.o).mono ?_;rintro K b4 ⟨a7,a8,rfl,x,b,a⟩;obtain⟨c4,e3,rfl,d2,a2⟩:=x.at_ (aj _ _) (j:=0) sM;simp only[Nat.add_zero,List.getElem_cons_zero]at a2;obtain⟨R,g⟩:=yx b a;clear x b a;go_wp2;go_ret2;exact⟨⟨none,0,rfl,av _,Row.WH⟩,R.o,g.o⟩
  .rw[Ww T]
   have a9:decide (o<bn)=false:=sO;have c7:decide (32<o)=false:=sO;obtain⟨t,rfl⟩:=bH f7;have g3:t<=32:=oM;rw[Int.toNat_natCast];clear T;obtain⟨c3,Y⟩:=eX (Wq t 0 [] C);rw[<-Y];have c2:=zH Y;clear Y;go_enter Tryz.func182,Tryz.ntmps182;go_wp2_with fail;refine(z.o).mono ?_;rintro K b4 ⟨a7,a8,rfl,x,b,a⟩;obtain⟨c4,e3,rfl,d2,a2⟩:=x.at_ (aj _ _) (j:=0) sM;simp only[Nat.add_zero,List.getElem_cons_zero]at a2;obtain⟨a5,a4⟩:=yx b a;clear x b a;go_wp2;go_loopw [35,9,10] (λa1 f5 f4 wr=>∃(r:Nat) (c:Int) (q:List Sp) (A:X5) (B:Nat) (m:List Int),r<=t/\a1=jI r/\f5=.slice A q.length B/\f4=uI c/\q.length=r/\X3 (0<=c/\c<=4611686018427387905)/\X3 (dP m/\m.length<=140737488355328)/\
    X3 (OwnAt wr (λe=>w.heap.size<=e/\e<wr.heap.size) 272 2 A q.length B (q.flatMap spV))/\X3 (pu wr S p m)/\X3 (Mod (λe=>e=p) [some 309] w wr)/\X3 (Wq (t -r) c q m=c3)) (λa1 _ _ _=>t -(intOf a1).toNat)
   (case atStart=>exact⟨0,0,[],none,0,C,oM,rfl,rfl,rfl,rfl,⟨dC,dC⟩,⟨d3,e0⟩,OwnAt.WH,a5,a4,zH (by rw[Nat.sub_zero];exact c2.o.symm)⟩);case round=>
    obtain⟨r,c,q,A,B,m,g0,rfl,rfl,rfl,c9,b6,D,Q,a6,g,O⟩:=hrel;clear a5 a4 z;obtain⟨h7,h8⟩:=b6.o;by_cases g2:r<t
    .have d:=O.o
     rw[show t -r=(t -(r+1))+1 by omega,yE]at d;obtain⟨h9,i0,u0,u1,a0,d7,_⟩:=Yo D.o.1;obtain⟨v,J⟩:=yx (wG S p m wr a6.o (by have:=D.o.2;omega) D.o.1) (λN (d9:pu N S p (eZ m).left)=>wG S p (eZ m).left N d9 (by have:=D.o.2;omega) a0);obtain⟨i2,i3,i4,i5,b0,d8,_⟩:=Yo a0;have b7:=zH (show dP (eZ (eZ m).left).left/\(eZ (eZ m).left).left.length<=140737488355328 from⟨b0,by have:=D.o.2;omega⟩);have y:=zH d;clear d a0 d7 b0 d8 O;generalize eZ (eZ m).left=f3 at*
     generalize eZ m=f2 at*
     obtain⟨f,U,g9⟩:=f2;obtain⟨s,V,e2⟩:=f3;simp only at*
     by_cases u:U=0
     .have e4:(U !=0)=false:=by simp[u]
      by_cases e5:4611686018427387903<c
      .have e6:decide (4611686018427387903<c)=true:=sO
       go_wp2_with fail;refine Yd v.o ?_;rintro I ⟨b,a⟩;obtain⟨k,i⟩:=yx b a;clear b a;go_wp2;go_ret2;have d:=y.o;rw[Ww (by simp[u]),aB (.inl e5)]at d;rw[<-d];exact⟨⟨none,0,rfl,av _,Row.WH⟩,k.o,g.o.trans i.o⟩
      .have e6:decide (4611686018427387903<c)=false:=sO
       have h0:c<=4611686018427387903:=oM;by_cases e7:4611686018427387903 -c<f
       .have e8:decide (4611686018427387903 -c<f)=true:=sO
        go_wp2_with fail;refine Yd v.o ?_;rintro I ⟨b,a⟩;obtain⟨k,i⟩:=yx b a;clear b a;go_wp2;go_ret2;have d:=y.o;rw[Ww (by simp[u]),aB (.inr e7)]at d;rw[<-d];exact⟨⟨none,0,rfl,av _,Row.WH⟩,k.o,g.o.trans i.o⟩
       .have e8:decide (4611686018427387903 -c<f)=false:=sO
        have h1:c+f<18446744073709551616:=oM;have h2:c+f<=4611686018427387903:=oM;by_cases H:V=0
        .have e9:(V !=0)=false:=by simp[H]
         by_cases f0:4611686018427387903 -(c+f)<s
         .have f1:decide (4611686018427387903 -(c+f)<s)=true:=sO
          go_wp2_with fail;refine Yd v.o ?_;rintro I ⟨b,a⟩;obtain⟨k,i⟩:=yx b a;clear b a;go_wp2_with fail;refine Yd (J.o _ k.o) ?_;rintro n ⟨b,a⟩;obtain⟨E,P⟩:=yx b a;clear b a;go_wp2;go_ret2;have d:=y.o;rw[Ww (by simp[u]),Ww oM,Ww (by simp[H]),aB f0]at d;rw[<-d];exact⟨⟨none,0,rfl,av _,Row.WH⟩,E.o,(g.o.trans i.o).trans P.o⟩
         .have f1:decide (4611686018427387903 -(c+f)<s)=false:=sO
          have h3:c+f+s<18446744073709551616:=oM;have h4:c+f+s+2<18446744073709551616:=oM;have h5:0<=c+f:=oM;have h6:0<=c+f+s:=oM;go_wp2_with fail;refine Yd v.o ?_;rintro I ⟨b,a⟩;obtain⟨k,i⟩:=yx b a;clear b a;go_wp2_with fail;refine Yd (J.o _ k.o) ?_;rintro n ⟨b,a⟩;have L:Mod (λe=>e=p) [some 309] wr n:=i.o.trans a;have g5:=L.size;have g8:=g.o.size;have b2:OwnAt n (λe=>w.heap.size<=e/\e<n.heap.size) 272 2 A q.length B (q.flatMap spV):=(Q.o.keep (ts:=[some 272]) (L.aM dC) sM).mono (λe F=>⟨F.1,oM⟩);obtain⟨E,b9,c0⟩:=Av b L b2;clear b a L b2 v J k i;go_wp2_with (at_builtin;refine iP.jO rfl (.tmp 68) (.tmp 74) rfl A B q (by simp[Act.eval,c9]) (c0.o.below (BEL)) (some ⟨n.heap.size,0,none⟩) 1 [⟨c+f,c+f+s⟩] (by rfl) (kQ (Wx _ _ _)) sO dC ?_;intro b5 c6 a3 b3 G d5;have c1:=zH b3;have b8:=zH G;clear b3 G d5);go_roundw;case rel=>
           have G:=b8.o;have g7:=G.size;have W:Mod (λe=>w.heap.size<=e/\e<n.heap.size) [some 272] n a3:=by
            exact Mod.then (S':=λe=>w.heap.size<=e/\e<n.heap.size) (by have:=aV (λe=>w.heap.size<=e/\e<n.heap.size) [some 272] n;first|exact this.alloc _|exact(this.alloc _).drew|exact(this.drew).alloc _|exact(this.drewN _).alloc _) G (λ_ _ h=>h)
           have X:=g.o.trans b9.o;have d1:Below w.heap.size n a3:=W.cZ X.size (λe F h=>by omega);have c8:Mod (λe=>e=p) [some 309] w a3:=X.nP d1;have d:=y.o;rw[Ww (by simp[u]),Ww oM,Ww (by simp[H]),Ww oM]at d;have g6:=W.size;refine⟨r+1,c+f+s+2,q++[⟨c+f,c+f+s⟩],b5,c6,e2,oM,by simp;try omega,by simp;try omega,rfl,by simp;omega,zH ⟨oM,oM⟩,b7,zH ?_,zH (E.o.keep (W.aM (ts:=[some 309,some 5]) dC) sM sM),zH c8,zH d⟩;refine c1.o.mono λe F=>?_;rcases F with F|⟨d6,g1⟩
           .omega
           .have:=X.size
            simp at d6;omega
          case measure=>exact Yl
        .have e9:(V !=0)=true:=by simp[H]
         go_wp2_with fail;refine Yd v.o ?_;rintro I ⟨b,a⟩;obtain⟨k,i⟩:=yx b a;clear b a;go_wp2_with fail;refine Yd (J.o _ k.o) ?_;rintro n ⟨b,a⟩;obtain⟨E,P⟩:=yx b a;clear b a;go_wp2;go_ret2;have d:=y.o;rw[Ww (by simp[u]),Ww oM,aB (by simp[H])]at d;rw[<-d];exact⟨⟨none,0,rfl,av _,Row.WH⟩,E.o,(g.o.trans i.o).trans P.o⟩
     .have e4:(U !=0)=true:=by simp[u]
      go_wp2_with fail;refine Yd v.o ?_;rintro I ⟨b,a⟩;obtain⟨k,i⟩:=yx b a;clear b a;go_wp2;go_ret2;have d:=y.o;rw[aB (by simp[u])]at d;rw[<-d];exact⟨⟨none,0,rfl,av _,Row.WH⟩,k.o,g.o.trans i.o⟩
    .obtain rfl:r=t:=oM
     have d:=O.o;rw[Nat.sub_self,yD]at d;go_wp2;go_ret2;rw[<-d];exact⟨⟨A,B,rfl,Q.o.cap_,Q.o.row⟩,a6.o,g.o⟩
def dAe (s m:List Sp) (t x p:Int) (b:List Int):Rak:=
 if 1<p then⟨akZ,5⟩else if 0<b.length then⟨akZ,3⟩else if(!jA m s)=true then⟨akZ,5⟩else⟨⟨s,m,t,x,p==1⟩,0⟩
def dAp (s m:List Sp) (t x:Int) (b:List Int):Rak:=
 if(fQ 1 b).err≠0 then⟨akZ,(fQ 1 b).err⟩else dAe s m t x ((fQ 1 b).val.getD 0 0) (fQ 1 b).left
def dAx (s m:List Sp) (t:Int) (b:List Int):Rak:=if(jU b).err≠0 then⟨akZ,(jU b).err⟩else dAp s m t (jU b).val (jU b).left
def dAt (s m:List Sp) (b:List Int):Rak:=if(jU b).err≠0 then⟨akZ,(jU b).err⟩else dAx s m (jU b).val (jU b).left
def dAm (s:List Sp) (b:List Int):Rak:=if(kJ b 0).err≠0 then⟨akZ,(kJ b 0).err⟩else dAt s (kJ b 0).val (kJ b 0).left
def dAs (b:List Int):Rak:=if(kJ b 1).err≠0 then⟨akZ,(kJ b 1).err⟩else dAm (kJ b 1).val (kJ b 1).left
theorem Xh (a:Int) (t:List Int):fQ 1 (a::t)=⟨[a],0,t⟩:=by unfold fQ;rw[Ww sM];rfl
theorem Ss (s m:List Sp) (t x:Int):dAp s m t x []=⟨akZ,2⟩:=rfl
theorem QS (s m:List Sp) (t x p:Int) (b:List Int):dAp s m t x (p::b)=dAe s m t x p b:=by unfold dAp;rw[Xh];rfl
theorem QQ:jy []=⟨akZ,2⟩:=rfl
theorem Fb (a:Int) (t:List Int):jy (a::t)=if a≠2 then⟨akZ,4⟩else dAs t:=by
 unfold jy;rw[Xh];rfl
theorem Bw:∀(d:Nat) (b:Int) (c:List Sp) (a:List Int),0<=b->dP a->(∀e∈c,SpW e)->c.length+d<=32->
  (∀e∈(Wq d b c a).val,SpW e)/\(Wq d b c a).val.length<=32/\0<=(Wq d b c a).err/\(Wq d b c a).err<100/\dP (Wq d b c a).left/\(Wq d b c a).left.length<=a.length
 |0,b,c,a,h0,hb,ha,hn=>by rw[yD];exact⟨ha,by simpa using hn,sM,sM,hb,av _⟩
 |d+1,b,c,a,h0,hb,ha,hn=>by
  rw[yE];obtain⟨p,q,k,l,g,f,_⟩:=Yo hb;obtain⟨r,s,m,n,i,j,_⟩:=Yo g;split
  (.exact⟨sM,sM,k,l,g,f⟩);split
  (.exact⟨sM,sM,sM,sM,g,f⟩);split
  (.exact⟨sM,sM,m,n,i,ay j f⟩);split
  .exact⟨sM,sM,sM,sM,i,ay j f⟩
  .next c1 c2 c3 c4=>
   have h:=Bw d (b+(eZ a).val+(eZ (eZ a).left).val+2) (c++[⟨b+(eZ a).val,b+(eZ a).val+(eZ (eZ a).left).val⟩]) (eZ (eZ a).left).left oM i (by
    intro e o;rcases WB.1 o with h|h
    .exact ha e h
    .obtain rfl:e=_:=by simpa using h
     exact⟨⟨by simp only;omega,by simp only;omega⟩,⟨by simp only;omega,by simp only;omega⟩⟩) (by simp only[aU,aY,List.length_nil];omega)
   exact⟨h.1,h.2.1,h.2.2.1,h.2.2.2.1,h.2.2.2.2.1,by have:=h.2.2.2.2.2;omega⟩
theorem Yv {bn:Int} (h:dP l):(∀k∈(kJ l bn).val,SpW k)/\(kJ l bn).val.length<=32/\0<=(kJ l bn).err/\(kJ l bn).err<100/\dP (kJ l bn).left/\(kJ l bn).left.length<=l.length:=by
 rcases l with _|⟨a,c⟩
 .rw[Bt];exact⟨sM,sM,sM,sM,h,av _⟩
 .have b:dP c:=λm d=>h m (by simp[d])
  have n:=h a sM;rw[Aa];split
  .exact⟨sM,sM,sM,sM,b,sM⟩
  .obtain⟨e,f,g,i,j,o⟩:=Bw a.toNat 0 [] c oM b sM sO
   exact⟨e,f,g,i,j,by simp only[aY];omega⟩
theorem su {S:X4}:nu w S none 0 none 0 akZ:=⟨Row.WH,av _,Row.WH,av _,(λa h=>by cases h),(λa h=>by cases h),dC,dC⟩
theorem bQ.stp {S:X4} {q p i:Nat} {u:Value} (h:bQ S [some 272] W w) (b:Blk w q 92 C) (a:Mod (λc=>c=p) [some 309] (w.setCell ⟨q,i,none⟩ u) w'):bQ S [some 272] W w':=
 (h.trans (bQ.setCell (fz:=(0,0)) b dC i u)).trans (a.aM sM)
theorem pu.far {S:X4} {p g i:Nat} {u:Value} (h:pu w S p l) (hb:Blk w g t C) (b:t≠309) (c:t≠5):pu (w.setCell ⟨g,i,none⟩ u) S p l:=by
 have d:Mod (λa=>a=g) [some t] w (w.setCell ⟨g,i,none⟩ u):=(aV (λa=>a=g) [some t] w).setCell hb (λ_=>rfl) sM i u;exact h.keep (d.aM (ts:=[some 309,some 5]) (by simp;exact⟨λh=>b h.symm,λh=>c h.symm⟩)) sM sM
theorem Jv:∀(b:List Int) (a:Int),0<=a->dP b->eD a b<(a+1)*256^b.length
 |[],a,_,_=>by simp[eD];omega
 |x::t,a,hn,hl=>by
  have i:=hl x sM;have e:=Jv t (a*256+x) oM (λd c=>hl d (by simp[c]));have f:(a*256+x+1)*256^t.length<=((a+1)*256)*256^t.length:=bC oM (Int.le_of_lt (Int.pow_pos dC));(have g:((a+1)*256)*(256:Int)^t.length=(a+1)*256^(x::t).length:=by rw[aY,Int.pow_succ,Int.mul_assoc,Int.mul_comm 256]);show eD (a*256+x) t<_;omega
theorem sD (h:dP l):0<=(jU l).val/\(jU l).val<18446744073709551616/\0<=(jU l).err/\(jU l).err<100/\dP (jU l).left/\(jU l).left.length<=l.length:=by
 unfold jU;split
 .exact⟨sM,sM,sM,sM,h,av _⟩
 .next h8=>
  have d:dP (l.take 8):=λb a=>h b (bf a);(have e:(l.take 8).length=8:=by rw[aT];omega);have c:=Jv (l.take 8) 0 dC d;rw[e]at c;exact⟨ze _ _ dC d,by simpa using c,sM,sM,λb a=>h b (dW a),sM⟩
theorem Row.far_ {S:X4} {size n g i:Nat} {a:X5} {xs:List Value} {u:Value} (h:Row w S t size a n xs) (l:∀d,S d->d≠g):Row (w.setCell ⟨g,i,none⟩ u) S t size a n xs:=
 ⟨h.1,λo=>by
  obtain⟨b,p,e,j,f,c,m,k⟩:=h.2 o;exact⟨b,p,e,j,f,c,(Below.heap_setCell w ⟨g,i,none⟩ u b (l b c)).trans m,k⟩⟩
structure mG (w:World) (S:X4) (p:Nat) (q:Qu):Prop where
 ex:∃a c a4 c4 a5 c5,Blk w p 234 #[jI q.room,uI q.base,uI q.fresh,.slice a q.b.length c,.slice a4 q.dX.length c4,.slice a5 q.cO.length c5]/\
  OwnAt w S 5 1 a q.b.length c (q.b.flatMap byV)/\Sps w S a4 q.dX/\q.dX.length<=c4/\Sps w S a5 q.cO/\q.cO.length<=c5
 mem:S p
section
variable {w w':World} {S S':X4} {p:Nat} {q:Qu} {ts:X8}
theorem mG.lt (h:mG w S p q):p<w.heap.size:=by obtain⟨a,d,b,e,c,f,h,_⟩:=h.ex;exact h.lt
theorem mG.keep (h:mG w S p q) (a:bQ S ts w w') (j:some 234∈ts) (k:some 5∈ts) (b:some 272∈ts):mG w' S p q:=by
 obtain⟨c,f,d,g,e,i,l,m,n,o,r,s⟩:=h.ex;exact⟨⟨c,f,d,g,e,i,l.keep a h.mem j,m.keep a k,aG n a b,o,aG r a b,s⟩,h.mem⟩
theorem mG.below (h:mG w S p q) (hb:bW w w'):mG w' S p q:=h.keep (ts:=[some 234,some 5,some 272]) (bQ.below hb) sM sM sM
theorem mG.mono (h:mG w S p q) (b:∀a,S a->S' a):mG w' S' p q->mG w' S' p q:=id
theorem mG.za (h:mG w S p q) (a:∀b,S b->S' b):mG w S' p q:=by
 obtain⟨c,f,d,g,e,i,j,k,l,m,n,o⟩:=h.ex;exact⟨⟨c,f,d,g,e,i,j,k.mono a,aF l a,m,aF n a,o⟩,a _ h.mem⟩
end
def Qum (S:X4) (w w':World):Prop:=Mod S [some 234,some 5] w w'
theorem Eh (S:X4) (p:Nat) (q:Qu) (w:World) (h:mG w S p q):
  Yk 72 #[pT p] w λb w'=>b=.returned (uI q.base)/\w=w':=by
 obtain⟨c,f,d,g,e,i,a,_⟩:=h.ex;have j:=a.Wu 1;clear h a;go_enter Tryz.func72,Tryz.ntmps72;go_wp2;go_ret;exact⟨rfl,rfl⟩
theorem Xe (S:X4) (p:Nat) (q:Qu) (w:World) (h:mG w S p q) (a:WV q):
  Yk 71 #[pT p] w λc w'=>c=.returned (uI (fT q))/\∃d,w'=w.drewN d:=by
 obtain⟨e,l,f,m,g,n,b,_⟩:=h.ex;obtain⟨o,r⟩:=b.e2 1 3;have i:=a.base0;(have j:q.base+q.b.length<18446744073709551616:=by have:=a.qx;unfold fT at this;omega);(have k:(q.b.length:Int)<18446744073709551616:=by have:=a.len;have:=a.qC;omega);unfold fT;clear h b a;go_enter Tryz.func71,Tryz.ntmps71;go_wp2;refine mQ ?_;rintro _ ⟨nq,rfl⟩;go_wp2;go_ret;exact⟨rfl,_,rfl⟩
theorem zT (a n e:Int) (l:Word a) (c:Word e) (w:World):
  Yk 199 #[uI a,uI n,uI e] w λk w'=>k=.returned (bV (nk a n e))/\w=w':=by
 obtain⟨r,s⟩:=l;obtain⟨m,o⟩:=c;by_cases c:0<n
 .have g:decide (0<n)=true:=sO
  by_cases d:a<=e
  .have i:decide (a<=e)=true:=sO
   have t:0<=e -a:=oM;have u:e -a<18446744073709551616:=oM;by_cases f:n<=e -a
   .have j:decide (n<=e -a)=true:=sO
    have b:nk a n e=true:=kC.2 ⟨c,d,f⟩;rw[b];go_enter Tryz.func199,Tryz.ntmps199;go_wp2;go_ret;exact⟨rfl,rfl⟩
   .have j:decide (n<=e -a)=false:=sO
    (have b:nk a n e=false:=by rw[Bool.eq_false_iff];intro h;exact f (kC.1 h).2.2);rw[b];go_enter Tryz.func199,Tryz.ntmps199;go_wp2;go_ret;exact⟨rfl,rfl⟩
  .have i:decide (a<=e)=false:=sO
   (have b:nk a n e=false:=by rw[Bool.eq_false_iff];intro h;exact d (kC.1 h).2.1);rw[b];go_enter Tryz.func199,Tryz.ntmps199;go_wp2;go_ret;exact⟨rfl,rfl⟩
 .have g:decide (0<n)=false:=sO
  (have b:nk a n e=false:=by rw[Bool.eq_false_iff];intro h;exact c (kC.1 h).1);rw[b];go_enter Tryz.func199,Tryz.ntmps199;go_wp2;go_ret;exact⟨rfl,rfl⟩
theorem GF.words {l:List Sp} {b:Int} (h:GF b l) (hb:0<=b):∀a∈l,SpW a:=by
 intro a c;have:=h.low a c;exact⟨⟨oM,oM⟩,⟨oM,oM⟩⟩
theorem WV.small {q:Qu} (h:WV q):q.dX.length<=100000/\q.cO.length<=100000:=by
 have b:=h.dX.count h.Xk;have c:=h.cO.count h.ni;have:=h.base0;have:=h.vV;have:=h.fresh;have:=h.len;have:=h.qC;unfold fT at*
 constructor
 .by_cases d:q.base+1<=q.fresh
  .have:=b d;omega
  .have:q.dX=[]:=by
    cases hq:q.dX with
    |nil=>rfl
    |cons s t=>
     have a:=h.dX;rw[hq]at a;have e:=h.Xk s (by simp[hq]);have:=a.head;omega
   rw[this];simp
 .have:=c oM;omega
theorem Np (a:Int) (w:World):
  Yk 44 #[jI a] w λf d=>∃b,f=.returned ((pT b))/\w.heap.size<=b/\mG d (λe=>w.heap.size<=e/\e<d.heap.size) b (nS a)/\bW w d:=by
 (have i:∀c:Int,c=max 1 (min a 65536)->Blk (w.alloc (.cells #[jI c,uI 0,uI 0,zzN,zzN,zzN] 234)) w.heap.size 234 #[jI (nS a).room,uI (nS a).base,uI (nS a).fresh,.slice none (nS a).b.length 0,.slice none (nS a).dX.length 0,.slice none (nS a).cO.length 0]:=λc g=>by subst g;exact Wx w 234 _);go_enter Tryz.func44,Tryz.ntmps44;go_wp2_with fail;all_goals (
  go_ret;refine⟨w.heap.size,rfl,av _,⟨⟨none,0,none,0,none,0,?_,OwnAt.WH,Row.WH,av _,Row.WH,av _⟩,⟨av _,sM⟩⟩,BEL⟩;exact i _ oM)
theorem Kw (S:X4) (p:Nat) (q:Qu) (a n:Int) (w:World) (h:mG w S p q) (b:WV q) (m:Word a) (d3:Word n):
  Yk 170 #[pT p,uI a,uI n] w λP v=>(∃B,P=.returned (bV B))/\mG v (grow S w v) p (ng q a n)/\Qum S w v:=by
 have y:=h.mem;have A:=zH (Xe S p q w h b);have r:=zH (zT a n (fT q) m ⟨by have:=b.base0;have:=b.vV;have:=b.fresh;omega,by have:=b.qx;omega⟩);have I:=zH h;obtain⟨J,M,K,N,L,O,t,D,E,Q,F,Z⟩:=h.ex;obtain⟨c8,c9⟩:=t.e2 2 5;have d4:=t.lt;by_cases H:nk a n (fT q)=true
 .obtain⟨d8,d9,e0⟩:=kC.1 H
  have d1:=b.qx;have c7:=b.base0;have c:a+n<18446744073709551616:=oM;(have c5:0<=a+n -1:=by have:=m.1;omega);(have d7:1<=a+n:=by have:=m.1;omega);have d6:=m.1;rw[H]at r;by_cases a7:q.fresh<a
  .have j:ng q a n=q:=by unfold ng;rw[aB (by simp[a7])]
   rw[j];have a8:decide (q.fresh<a)=true:=sO;clear h t D E Q F Z b j;go_enter Tryz.func170,Tryz.ntmps170;go_wp2_with fail;refine Yd A.o ?_;rintro c ⟨o,rfl⟩;go_wp2_with fail;refine Yd (r.o _) ?_;intro c rfl;go_wp2;go_ret;exact⟨⟨_,rfl⟩,(I.o.below (aA (aj _ _) _)).za (λo e=>.inl e),(aV _ _ _).drewN _⟩
  .have j:ng q a n={q with cO:=jh q.cO ⟨a,a+n -1⟩,fresh:=max q.fresh (a+n)}:=by unfold ng;rw[Ww (by rw[H];simp;omega)]
   rw[j];have a8:decide (q.fresh<a)=false:=sO;have c4:=b.small.2;obtain⟨V,c6,U,a5⟩:=Bq (λv (d:bW w v)=>AV S L O q.cO ⟨a,a+n -1⟩ v (aD F d) (ay c4 dC) (b.cO.words b.base0) ⟨m,⟨c5,by show a+n -1<18446744073709551616;omega⟩⟩) t D E;clear h D E F b j I;obtain⟨a4,X,i,B,Y,C⟩:=q;simp only at*
   generalize jh C ⟨a,a+n -1⟩=u at*
   generalize(iR C&&jf ⟨a,a+n -1⟩)=d0 at*
   by_cases d2:i<a+n
   case' pos=>
    rw[Int.max_eq_right oM];have b0:decide (i<a+n)=true:=sO;go_enter Tryz.func170,Tryz.ntmps170;go_wp2_with fail;refine Yd A.o ?_;rintro c ⟨o,rfl⟩;go_wp2_with fail;refine Yd (r.o _) ?_;intro c rfl;go_wp2_with fail;refine(V.o _ BEL).mono ?_;rintro P c ⟨f,g,rfl,a3,z,d⟩;have W:=zH z;have x:bW w c:=by
     refine bD ?_ (d.mono ?_)
     .exact BEL
     .first|(simp;done)|(simp;omega)
    have b:Blk c (p) 234 #[jI a4,uI X,uI i,.slice J B.length M,.slice K Y.length N,.slice L C.length O]:=iK d;obtain⟨b1,b7,b2,b8,b3,b9,b4,c0,b5,c1,b6,c2⟩:=b.c6;have c3:p<c.heap.size:=b.lt;have k:=zH b;clear b;have s:=zH x;clear d x;clear z;go_wp2;go_ret;have l:=k.o.bF 5 (.slice f u.length g);have a0:=l.bF 2 (uI (a+n));have R:Qum S w c:=aH s.o;have T:Qum S w (c.setCell ⟨p,5,none⟩ (.slice f u.length g)):=Mod.setCell R k.o (λ_=>y) sM 5 _;have a1:=Mod.setCell T l (λ_=>y) sM 2 (uI (a+n));have G:bQ (λ_=>True) [some 5,some 272] c ((c.setCell ⟨p,5,none⟩ (.slice f u.length g)).setCell ⟨p,2,none⟩ (uI (a+n))):=(bQ.setCell k.o dC 5 _).trans (bQ.setCell l dC 2 _)
   case' neg=>
    rw[Int.max_eq_left oM];have b0:decide (i<a+n)=false:=sO;go_enter Tryz.func170,Tryz.ntmps170;go_wp2_with fail;refine Yd A.o ?_;rintro c ⟨o,rfl⟩;go_wp2_with fail;refine Yd (r.o _) ?_;intro c rfl;go_wp2_with fail;refine(V.o _ BEL).mono ?_;rintro P c ⟨f,g,rfl,a3,z,d⟩;have W:=zH z;have x:bW w c:=by
     refine bD ?_ (d.mono ?_)
     .exact BEL
     .first|(simp;done)|(simp;omega)
    have b:Blk c (p) 234 #[jI a4,uI X,uI i,.slice J B.length M,.slice K Y.length N,.slice L C.length O]:=iK d;obtain⟨b1,b7,b2,b8,b3,b9,b4,c0,b5,c1,b6,c2⟩:=b.c6;have c3:p<c.heap.size:=b.lt;have k:=zH b;clear b;have s:=zH x;clear d x;clear z;go_wp2;go_ret;have l:=k.o.bF 5 (.slice f u.length g);have a0:=l.bF 2 (uI i);have R:Qum S w c:=aH s.o;have T:Qum S w (c.setCell ⟨p,5,none⟩ (.slice f u.length g)):=Mod.setCell R k.o (λ_=>y) sM 5 _;have a1:=Mod.setCell T l (λ_=>y) sM 2 (uI i);have G:bQ (λ_=>True) [some 5,some 272] c ((c.setCell ⟨p,5,none⟩ (.slice f u.length g)).setCell ⟨p,2,none⟩ (uI i)):=(bQ.setCell k.o dC 5 _).trans (bQ.setCell l dC 2 _)
   all_goals
    have d5:=s.o.size;refine⟨⟨_,rfl⟩,⟨⟨J,M,K,N,f,g,by simpa using a0,?_,?_,Q,?_,a3⟩,.inl y⟩,a1⟩
    .exact(((U.o.below s.o).mono (S':=λ_=>True) (λ_ _=>trivial)).keep G sM).own|>λm=>⟨m,λa6 a9=>.inl (U.o.mem a6 a9)⟩
    .exact(aD a5.o s.o).keep (G.mono (λ_ _=>trivial) (λ_ h=>h)) sM|>.mono (λo e=>.inl e)
    .exact(aG W.o (G.mono (λ_ _=>trivial) (λ_ h=>h)) sM).mono (λo e=>.inr ⟨by first|exact e.1|(have:=e.1;simp at this;omega),by simpa[World.setCell]using e.2⟩)
 .have a2:nk a n (fT q)=false:=by simpa using H
  (have j:ng q a n=q:=by unfold ng;rw[aB (by simp[a2])]);rw[j];rw[a2]at r;clear h t D E Q F Z b j;go_enter Tryz.func170,Tryz.ntmps170;go_wp2_with fail;refine Yd A.o ?_;rintro c ⟨o,rfl⟩;go_wp2_with fail;refine Yg (r.o _) ?_;go_wp2;go_ret;exact⟨⟨_,rfl⟩,(I.o.below (aA (aj _ _) _)).za (λo e=>.inl e),(aV _ _ _).drewN _⟩
theorem Iq (S b2:X4) (p:Nat) (q:Qu) (A:X5) (a:List Int) (t:Nat) (w:World) (h:mG w S p q) (e:WV q) (hb:Bys w b2 A a) (c5:a.length<=t) (e3:a.length<=1000000000):
  Yk 50 #[pT p,.slice A a.length t] w λc1 f=>c1=.returned (jI (kg q a.length))/\mG f (grow S w f) p (oI q a)/\Qum S w f:=by
 have W:=h.mem;have b0:=zH (λf (hb:bW w f)=>Xe S p q f (h.below hb) e);obtain⟨E,F,L,b5,M,b6,v,N,O,c3,Q,c4⟩:=h.ex;have d7:=v.Wu 0;obtain⟨b9,c2⟩:=v.cz 3;have d0:=v.lt;have d9:=e.qx;(have d8:0<=fT q:=by have:=e.base0;have:=e.vV;have:=e.fresh;omega);(have f0:0<=q.room -(q.b.length:Int):=by have:=e.len;omega);(have f1:q.room -(q.b.length:Int)<=65536:=by have:=e.qC;omega);have c9:kg q a.length<=a.length:=(Ee q e a.length).1;(have d1:(kg q a.length:Int)=min (min (a.length:Int) (q.room -q.b.length)) (4611686018427387903 -fT q):=by unfold kg;omega);have a0:oI q a={q with b:=q.b++a.take (kg q a.length)}:=rfl;(have e5:q.b.length<=65536:=by have:=e.len;have:=e.qC;omega);rw[a0];obtain⟨e8,V,d2,a2,d3⟩:=info_parts lF;have hcut:=tY (P:=prog) Tryz.underlying47 V A a.length t (kg q a.length) oM;rw[a2]at hcut;have b1:=zH (JX hb c9 c5);(have Z:(a.take (kg q a.length)).length=kg q a.length:=by rw[aT];omega);obtain⟨D,a6,a7,a8,a9⟩:=BF Z v N O Q;clear h v N O Q e a0 V d2 a2 d3 hb Z;generalize fE A t 0 1=b8 at*
 generalize fT q=n at*
 generalize kg q a.length=d at*
 obtain⟨l,d6,e1,c,c0,b7⟩:=q;simp only at*
 have e9:(d:Int)<=4611686018427387903:=oM;have c6:(decide (l -(c.length:Int)<a.length)=true/\decide (4611686018427387903 -n<l -(c.length:Int))=true/\4611686018427387903 -n=(d:Int))\/(decide (l -(c.length:Int)<a.length)=true/\decide (4611686018427387903 -n<l -(c.length:Int))=false/\l -(c.length:Int)=(d:Int))\/(decide (l -(c.length:Int)<a.length)=false/\decide (4611686018427387903 -n<a.length)=true/\4611686018427387903 -n=(d:Int))\/(decide (l -(c.length:Int)<a.length)=false/\decide (4611686018427387903 -n<a.length)=false/\(a.length:Int)=(d:Int)):=by
  simp only[decide_eq_true_eq,decide_eq_false_iff_not];omega
 clear d1;rcases c6 with⟨r,s,H⟩|⟨r,s,H⟩|⟨r,s,H⟩|⟨r,s,H⟩;all_goals
  (first|have b3:=jL r|have b3:=jq r);(first|have b4:=jL s|have b4:=jq s);go_enter Tryz.func50,Tryz.ntmps50;go_wp2;refine mQ ?_;rintro _ ⟨nq,rfl⟩;obtain⟨J,z⟩:=eX (w.drewN nq);rw[<-z];(have U:bW w J:=by rw[z];exact aA (aj _ _) _);(have a4:J.cell? ⟨p,3,none⟩=some (.slice E c.length F):=by rw[z];exact b9);(have a5:J.frozen? ⟨p,3,none⟩=false:=by rw[z];exact c2);have K:=zH U;clear z U;go_wp2_with fail;refine Yd (b0.o _ K.o) ?_;rintro C ⟨I,B⟩;(have f3:C.cell? ⟨p,3,none⟩=some (.slice E c.length F):=by rw[B];exact a4);(have f2:C.frozen? ⟨p,3,none⟩=false:=by rw[B];exact a5);have o:=zH (show bW w C by rw[B];exact aA K.o _);clear B a4 a5;go_wp2;refine gN kR ?_;refine X9 0 ?_;(try simp only[Act.put,Array.setIfInBounds]);(try go_simp);refine eQ 1 8 kR (λf=>∃d4,f=C.drewN d4) ⟨1,rfl⟩ ?_;refine mA ?_;rintro _ ⟨a3,rfl⟩;refine dA rfl rfl ?_;refine fe.wpO _ _ rfl (S:=S) E F c XG (a7.o.below (aA o.o _)) b8 t (a.take d) (by simp[Act.eval,D.o]) (by rw[D.o];exact aD b1.o (aA o.o _)) (by rw[D.o];omega) dC ?_;intro g j m X G e4;have y:=Blk.mod ((a6.o.below o.o d0).drewN a3) G dC;obtain⟨e0,e2⟩:=y.cz 3;refine eQ 9 11 kR (λf=>∃_:Unit,f=_) ⟨(),rfl⟩ ?_;refine mA ?_;rintro d5 ⟨_,a1⟩;rw[a1];clear a1 d5;refine dA rfl rfl ?_;go_simp;refine jY 12 kR kR ?_;refine mC ?_;go_wp2;go_ret;have x:min (d) a.length=d:=fJ oM;have e7:=G.size;have e6:=o.o.size;have T:Qum S w m:=Mod.then (S':=S) (aH (aA o.o a3)) (G.mono (λ_ _ h=>h) sM) (λ_ _ h=>h);have R:bQ S [some 272] w m:=T.aM dC;have Y:bQ S [some 272] m (m.setCell ⟨p,3,none⟩ (.slice g (c++a.take (d)).length j)):=bQ.setCell y dC 3 _;refine⟨by first|rfl|(refine jk ?_;omega),⟨⟨g,j,L,b5,M,b6,by simpa[x]using y.bF 3 (.slice g (c++a.take (d)).length j),?_,?_,c3,?_,c4⟩,.inl W⟩,by have h:=Mod.setCell T y (λ_=>W) sM 3 (.slice g (c++a.take (d)).length j);simp[x]at h;exact h⟩
  .have:=(X.far (q:=p) (i:=3) (u:=.slice g (c++a.take (d)).length j) (X.pI y dC)).mono (S':=grow S w (m.setCell ⟨p,3,none⟩ (.slice g (c++a.take (d)).length j))) (λI k=>by
    rcases k with k|⟨c7,c8⟩
    .exact .inl k
    .exact .inr ⟨by first|omega|(simp at c7;omega),by simpa[World.setCell]using c8⟩)
   simpa[x]using this
  .have h:=((aG (aG a8.o R sM) Y sM).mono (λI k=>.inl k):Sps _ (grow S w (m.setCell ⟨p,3,none⟩ (.slice g (c++a.take (d)).length j))) L c0);simp[x,Sps]at h;exact h
  .have h:=((aG (aG a9.o R sM) Y sM).mono (λI k=>.inl k):Sps _ (grow S w (m.setCell ⟨p,3,none⟩ (.slice g (c++a.take (d)).length j))) M b7);simp[x,Sps]at h;exact h
theorem Blk.own {g:Nat} {size n:Nat} {xs:List Value} (h:Blk w g e C) (c:C.toList=xs) (b:xs.length=n*size) (f:n<=1000000000):OwnAt w (λd=>d=g) e size (some ⟨g,0,none⟩) n n xs:=by
 refine⟨⟨b,.inr ⟨g,n,C,rfl,jV _,h,av _,by simp only[maxLen];omega,?_,?_⟩⟩,λd a=>by injection a with a;injection a with a;exact a.symm⟩
 .rw[<-c]at b;simpa using b
 .rw[c,<-b];simp
theorem oL (n:Int):(kY n).length<=8:=by
 unfold kY;have:∀(a:Nat) (d c:Int),(oP d (kM a c)).length=a:=by
  intro a d c;have b:(kM a c).length=a:=by
   induction a generalizing c with
   |zero=>rfl
   |succ a ih=>simp[kM,ih]
  cases hq:kM a c with
  |nil=>rw[hq]at b;simp at b;subst b;rfl
  |cons y t=>rw[hq]at b;simp[oP]at b|-;omega
 rw[this];unfold eU
 (repeat' split)<;>omega
theorem SB {n:Int} (h:eU n=0):rR n=[]:=by unfold rR;rw[aB h]
theorem Q8 {n:Int} (h:eU n≠0):rR n=[3]++kY n:=by unfold rR;rw[Ww h];rfl
theorem Q6 (n:Int) (D:Word n) (w:World):Yk 89 #[uI n] w λl f=>∃j k,l=.returned (.tuple #[.slice j (rR n).length k,bV (eU n !=0)])/\(rR n).length<=k/\Bys f (λc=>w.heap.size<=c/\c<f.heap.size) j (rR n)/\bW w f:=by
 by_cases a:eU n=0
 .have B:4611686018427387904<=n:=by unfold eU at a;(repeat' split at a)<;>omega
  rw[SB a,a];have d:=zH (PQ n B);clear a;go_enter Tryz.func89,Tryz.ntmps89;go_wp2_with fail;refine Yd (d.o _) ?_;intro b rfl;go_wp2;go_ret2;exact⟨none,0,rfl,av _,Row.WH,aj _ _⟩
 .have e:n<=4611686018427387903:=DY a
  (have m:(eU n !=0)=true:=by simp[a]);have H:=oL n;rw[Q8 a,m];have d:=zH (Xa n D.1 e);clear a m;generalize kY n=F at*
  go_enter Tryz.func89,Tryz.ntmps89;go_wp2_with fail;refine(d.o _).mono ?_;rintro l b ⟨y,z,rfl,t,o⟩;obtain⟨x,g⟩:=yx t o;clear t o;go_wp2_with (at_builtin;refine fe.jO rfl (.tmp 13) (.tmp 14) rfl (some ⟨b.heap.size,0,none⟩) 1 [3] XG ((Wx b 5 #[.int .u8 3]).own (xs:=[Value.int .u8 3]) rfl rfl sM) y z F XG (aD x.o (BEL)) sO dC ?_;intro u A J s r C;have i:=zH s;have v:=zH r;clear s r C);go_ret2;have q:=v.o;have I:=g.o.size;have E:=q.size;simp at E;refine⟨u,A,rfl,i.o.cap_,i.o.row.mono λc p=>?_,?_⟩
  .rcases p with rfl|⟨e,G⟩
   .omega
   .simp at e;omega
  .exact g.o.trans ((show Below w.heap.size b (b.alloc (.cells #[.int .u8 3] 5))from BEL).trans (q.cZ sO (λc p h=>by omega)))
def Dk:Int->List Sp->Prop
 |_,[]=>True
 |bn,s::t=>bn<=s.lo/\s.lo<=s.hi/\s.hi<=4611686018427387903/\Dk (s.hi+2) t
theorem Im:∀(a:List Sp) (h:Int),oh (some h) a=true->Dk (h+2) a
 |[],_,_=>trivial
 |s::t,h,hg=>by
  simp only[oh,jf,Bool.and_eq_true,decide_eq_true_eq,Bool.not_eq_true',decide_eq_false_iff_not]at hg;exact⟨oM,hg.1.1.1,hg.1.1.2,Im t _ hg.2⟩
theorem BG {l:List Sp} (a:iR l=true) (c:∀b∈l,0<=b.lo):Dk 0 l:=by
 cases l with
 |nil=>trivial
 |cons b t=>
  simp only[iR,oh,jf,Bool.and_eq_true,decide_eq_true_eq]at a;exact⟨c b sM,a.1.1.1,a.1.1.2,Im t _ a.2⟩
theorem Eb:∀(b:List Sp) (a:Int),(rM a b).length<=16*b.length
 |[],_=>by simp[rM]
 |s::t,a=>by
  have c:=oL (s.lo -a);have d:=oL (s.hi -s.lo);have e:=Eb t (s.hi+2);simp only[rM,aU,aY];omega
theorem BH (l:List Sp):(xL l).length<=16*l.length+1:=by
 have:=Eb l 0;simp only[xL,aY];omega
theorem LY (S:X4) (a:X5) (c:Nat) (l:List Sp) (w:World) (h:Sps w S a l) (e5:l.length<=32) (V:Dk 0 l):
  Yk 245 #[.slice a l.length c] w λC J=>∃O P,C=.returned (.slice O (xL l).length P)/\(xL l).length<=P/\Bys J (λb=>w.heap.size<=b/\b<J.heap.size) O (xL l)/\bW w J:=by
 have b4:=zH h;have c4:=BH l;have e8:(l.length:Int)%256=l.length:=oM;obtain⟨B,d⟩:=eX (xL l);rw[<-d]at c4|-;obtain⟨o,s⟩:=yx (show[(l.length:Int)]++rM 0 (l.drop 0)=B by rw[d];rfl) (show Dk 0 (l.drop 0) by simpa using V);clear d h V;go_enter Tryz.func245,Tryz.ntmps245;go_wp2_with fail;have m:=zH (show OwnAt (w.alloc (.cells #[.int .u8 (l.length:Int)] 5)) (λb=>w.heap.size<=b/\b<(w.alloc (.cells #[.int .u8 (l.length:Int)] 5)).heap.size) 5 1 (some ⟨w.heap.size,0,none⟩) [(l.length:Int)].length 1 ([(l.length:Int)].flatMap byV)from((Wx w 5 #[.int .u8 (l.length:Int)]).own (xs:=[Value.int .u8 (l.length:Int)]) rfl rfl sM).mono (λb u=>by subst u;simp));have k:=zH (show bW w (w.alloc (.cells #[.int .u8 (l.length:Int)] 5))from BEL);go_loopw [17,3,4] (λH d6 d7 wr=>∃(j:Nat) (f:Int) (e:List Int) (p:X5) (q:Nat),j<=l.length/\H=jI j/\d6=.slice p e.length q/\d7=uI f/\X3 (0<=f/\f<=4611686018427387905)/\
  X3 (OwnAt wr (λb=>w.heap.size<=b/\b<wr.heap.size) 5 1 p e.length q (e.flatMap byV))/\X3 (bW w wr)/\X3 (e++rM f (l.drop j)=B)/\X3 (Dk f (l.drop j))) (λH _ _ _=>l.length -(intOf H).toNat)
 (case atStart=>exact⟨0,0,[(l.length:Int)],some ⟨w.heap.size,0,none⟩,1,oM,rfl,rfl,rfl,⟨dC,dC⟩,m,k,o,s⟩);case round=>
  clear m k o s;obtain⟨j,f,e,p,q,e4,rfl,rfl,rfl,b5,m,k,o,s⟩:=hrel;by_cases R:j<l.length
  .obtain⟨e0,g5,rfl,F,d1,d2⟩:=Sps.at_ b4.o k.o R
   have d:=o.o;have D:=s.o;(have e3:e.length<=B.length:=by rw[<-d];simp);rw[aR R]at d D;generalize l[j]=d5 at*
   obtain⟨g,i⟩:=d5;simp only[rM,Dk]at d D d1 d2;obtain⟨g6,g7,g8,a1⟩:=D;obtain⟨h3,h4⟩:=b5.o;obtain⟨b1,a4⟩:=yx d a1;have d3:0<=g -f:=oM;have d4:0<=i -g:=oM;have g9:i+2<18446744073709551616:=oM;have h0:0<=i+2:=oM;have h1:0<=g:=oM;have h2:0<=i:=oM;obtain⟨L,M⟩:=yx (Xa (g -f) d3 oM) (Xa (i -g) d4 oM);have e6:=oL (g -f);have e7:=oL (i -g);clear d a1 o s;generalize kY (g -f)=I at*
   generalize kY (i -g)=a0 at*
   have d0:=k.o.size;go_wp2_with fail;refine(L.o _).mono ?_;rintro C z ⟨b8,c0,rfl,W,E⟩;have b0:=zH W;have F:bW wr z:=pY E;have x:Blk z (wr.heap.size) 272 #[uI g,uI i]:=iK E;obtain⟨g0,g2,g1,g3⟩:=x.c2;have g4:wr.heap.size<z.heap.size:=x.lt;have N:=zH x;clear x;have A:=zH F;clear E F;clear W;go_wp2_with fail;refine(M.o _).mono ?_;rintro C K ⟨b9,c1,rfl,X,t⟩;obtain⟨v,b2⟩:=yx t X;have y:=N.o.below t N.o.lt;obtain⟨f3,f5,f4,f6⟩:=y.c2;have f7:=y.lt;have b6:=zH y;clear X t y;have f2:=v.o.size;have Q:OwnAt K (λb=>w.heap.size<=b/\b<wr.heap.size) 5 1 p e.length q (e.flatMap byV):=(m.o.below A.o).below v.o;have a7:=zH Q;clear Q m L M;(have c7:Apart (λb=>z.heap.size<=b/\b<K.heap.size) (λb=>w.heap.size<=b/\b<wr.heap.size):=λb e1 e2=>by omega);go_wp2_with (at_builtin;first|(refine fe.jO rfl (.tmp 40) (.tmp 41) rfl a2 c2 (e++I) XG a8.o b9 c1 a0 XG b3.o sO dC ?_;intro a3 c3 d9 U r c9;have G:=b7.o.mod r dC;have f8:=G.Wu 1;have f9:=G.lt;have a9:=zH U;have a6:=zH r;clear U r c9 G)|(refine fe.jO rfl (.tmp 38) (.tmp 39) rfl p q e XG a7.o b8 c0 I XG (b0.o.below v.o) oM dC ?_;intro a2 c2 d8 T n c8;have Z:=b6.o.mod n dC;have Y:=aG b2.o (n.iD (ts:=[some 5]) c7) sM;have b7:=zH Z;have b3:=zH Y;have a8:=zH T;have a5:=zH n;clear T n c8 Z Y));go_roundw;case rel=>
    have n:=a5.o;have r:=a6.o;obtain⟨f0,f1,e9⟩:=FX n.size r.size A.o.size;have t:bW w K:=k.o.trans ((A.o.mono d0).trans (v.o.mono oM));have c5:bW w d8:=t.trans (n.cZ oM (λb u h=>by omega));have c6:bW w d9:=c5.trans (r.cZ oM (λb u h=>by rcases h with h|h<;>omega));refine⟨j+1,i+2,e++I++a0,a3,c3,oM,by simp;try omega,by simp;try omega,rfl,zH ⟨oM,oM⟩,zH (a9.o.mono λb u=>?_),zH c6,zH (by have:=b1.o;simpa using this),a4⟩;rcases u with(h|h)|h<;>omega
   case measure=>exact Yl
  .obtain rfl:j=l.length:=oM
   have d:=o.o;rw[List.drop_length]at d;simp only[rM,List.append_nil]at d;subst d;go_wp2;go_ret;exact⟨p,q,rfl,m.o.cap_,m.o.row,k.o⟩
theorem Mr (e:Int) (w:World):Yk 96 #[jI e] w λg i=>g=.returned (bV (tF e))/\w=i:=by
 by_cases a:e=1
 .subst a
  go_enter Tryz.func96,Tryz.ntmps96;go_wp2;go_ret;exact⟨eF dC,rfl⟩
 .have b:(e==1)=false:=by simp[a]
  by_cases d:e=2
  .subst d
   go_enter Tryz.func96,Tryz.ntmps96;go_wp2;go_ret;exact⟨eF dC,rfl⟩
  .have f:(e==2)=false:=by simp[d]
   cases c:(e==3)with
   |true=>
    go_enter Tryz.func96,Tryz.ntmps96;go_wp2;go_ret;exact⟨eF (by simp[tF,b,f,c]),rfl⟩
   |false=>
    go_enter Tryz.func96,Tryz.ntmps96;go_wp2;go_ret;exact⟨eF (by simp[tF,b,f,c]),rfl⟩
theorem EZ (b:Bool) (w:World):Yk 173 #[bV b] w λa c=>a=.returned (jI (xA b))/\w=c:=by
 cases b with
 |true=>
  go_enter Tryz.func173,Tryz.ntmps173;go_wp2;go_ret;exact⟨rfl,rfl⟩
 |false=>
  go_enter Tryz.func173,Tryz.ntmps173;go_wp2;go_ret;exact⟨rfl,rfl⟩
theorem NR (e:Int) (w:World):Yk 159 #[jI e] w λi j=>i=.returned (.tuple #[bV (uM e),bV (jB e)])/\w=j:=by
 by_cases a:e=1
 .subst a
  go_enter Tryz.func159,Tryz.ntmps159;go_wp2;go_ret2;exact⟨rfl,rfl⟩
 .have b:(e==1)=false:=by simp[a]
  by_cases c:e=2
  .subst c
   go_enter Tryz.func159,Tryz.ntmps159;go_wp2;go_ret2;exact⟨rfl,rfl⟩
  .have d:(e==2)=false:=by simp[c]
   (have f:uM e=false:=by simp[uM,b]);(have g:jB e=false:=by simp[jB,b,d]);rw[f,g];go_enter Tryz.func159,Tryz.ntmps159;go_wp2;go_ret2;exact⟨rfl,rfl⟩
structure zy (w:World) (S:X4) (a:X5) (c:Nat) (d:Da):Prop where
 body:Bys w S a d.body
 bcap:d.body.length<=c
 pn:Word d.pn
 bn:Word d.bn
 off:Word d.off
 bX:Word d.bX
 blen:d.body.length<=1000000000
 bok:dP d.body
theorem zy.below {S:X4} {a:X5} {d:Da} (h:zy w S a c d) (hb:bW w w'):zy w' S a c d:=
 ⟨aD h.body hb,h.bcap,h.pn,h.bn,h.off,h.bX,h.blen,h.bok⟩
theorem zy.keep {S:X4} {a:X5} {d:Da} {ts:X8} (h:zy w S a c d) (b:bQ S ts w w') (e:some 5∈ts):zy w' S a c d:=
 ⟨aG h.body b e,h.bcap,h.pn,h.bn,h.off,h.bX,h.blen,h.bok⟩
theorem zy.mono {S S':X4} {a:X5} {d:Da} (h:zy w S a c d) (e:∀b,S b->S' b):zy w S' a c d:=
 ⟨aF h.body e,h.bcap,h.pn,h.bn,h.off,h.bX,h.blen,h.bok⟩
theorem Jn (d bn g l j:Int) (a:X5) (n c:Nat) (b:List Int) (w:World) (y:b.length=n) (A:n<=1000000000):
  Yk 218 #[.agg #[uI d,uI bn,uI g,uI l,jI j,.slice a n c]] w λx z=>x=.returned (bV (sS ⟨d,bn,g,l,j,b⟩))/\bW w z:=by
 (have q:sS ⟨d,bn,g,l,j,b⟩=(decide (d<=4611686018427387903)&&decide (bn<=d)&&tF j&&decide (1<=n)&&decide (n<=1500)&&decide (g<=4611686018427387903 -(n:Int))):=by unfold sS;simp only[y]);rw[q];clear q;have e:=zH (Mr j);have B:(n:Int)<18446744073709551616:=oM;by_cases f:d<=4611686018427387903
 .have r:decide (d<=4611686018427387903)=true:=sO
  by_cases i:bn<=d
  .have s:decide (bn<=d)=true:=sO
   cases hE:tF j with
   |true=>
    rw[hE]at e;clear hE;by_cases k:1<=n
    .have t:decide ((1:Int)<=(n:Int))=true:=sO
     by_cases m:n<=1500
     .have u:decide ((n:Int)<=1500)=true:=sO
      have C:0<=4611686018427387903 -(n:Int):=oM;by_cases p:g<=4611686018427387903 -(n:Int)
      .have v:decide (g<=4611686018427387903 -(n:Int))=true:=sO
       go_enter Tryz.func218,Tryz.ntmps218;go_wp2_with fail;refine Yd (e.o _) ?_;intro o rfl;go_wp2;go_ret;exact⟨eF (by simp[f,i,k,m,p]),BEL⟩
      .have v:decide (g<=4611686018427387903 -(n:Int))=false:=sO
       go_enter Tryz.func218,Tryz.ntmps218;go_wp2_with fail;refine Yd (e.o _) ?_;intro o rfl;go_wp2;go_ret;exact⟨eF (by simp[f,i,k,m,p]),BEL⟩
     .have u:decide ((n:Int)<=1500)=false:=sO
      go_enter Tryz.func218,Tryz.ntmps218;go_wp2_with fail;refine Yd (e.o _) ?_;intro o rfl;go_wp2;go_ret;exact⟨eF (by simp[f,i,k,m]),BEL⟩
    .have t:decide ((1:Int)<=(n:Int))=false:=sO
     go_enter Tryz.func218,Tryz.ntmps218;go_wp2_with fail;refine Yd (e.o _) ?_;intro o rfl;go_wp2;go_ret;exact⟨eF (by simp[f,i,k]),BEL⟩
   |false=>
    rw[hE]at e;clear hE;go_enter Tryz.func218,Tryz.ntmps218;go_wp2_with fail;refine Yg (e.o _) ?_;go_wp2;go_ret;exact⟨eF (by simp[f,i]),BEL⟩
  .have s:decide (bn<=d)=false:=sO
   go_enter Tryz.func218,Tryz.ntmps218;go_wp2;go_ret;exact⟨eF (by simp[f,i]),BEL⟩
 .have r:decide (d<=4611686018427387903)=false:=sO
  go_enter Tryz.func218,Tryz.ntmps218;go_wp2;go_ret;exact⟨eF (by simp[f]),BEL⟩
theorem NI {d:Da} (h:sS d=true):d.pn<=4611686018427387903/\d.bn<=d.pn/\tF d.ecn=true/\1<=d.body.length/\d.body.length<=1500/\d.off<=4611686018427387903 -d.body.length:=by
 simp only[sS,Bool.and_eq_true,decide_eq_true_eq]at h;exact⟨h.1.1.1.1.1,h.1.1.1.1.2,h.1.1.1.2,h.1.1.2,h.1.2,h.2⟩
theorem Oi {e:Int} (h:tF e=true):1<=e/\e<=3:=by
 simp only[tF,Bool.or_eq_true,beq_iff_eq]at h;omega
theorem henc_f (S:X4) (a:X5) (c:Nat) (d:Da) (w:World) (h:zy w S a c d) (e:sS d=false):
  Yk 172 #[.agg #[uI d.pn,uI d.bn,uI d.off,uI d.bX,jI d.ecn,.slice a d.body.length c]] w λg k=>g=.returned (.tuple #[zzN,jI 1])/\bW w k:=by
 have b:=zH (Jn d.pn d.bn d.off d.bX d.ecn a d.body.length c d.body · rfl h.blen);have f:sS ⟨d.pn,d.bn,d.off,d.bX,d.ecn,d.body⟩=false:=e;rw[f]at b;clear h e f;obtain⟨r,n,q,m,p,o⟩:=d;simp only at*
 go_enter Tryz.func172,Tryz.ntmps172;go_wp2_with fail;refine Yd (b.o _) ?_;intro l i;have j:bW w l:=(show bW w _ from BEL).trans (i.mono sM);go_wp2;go_ret2;exact⟨rfl,j⟩
theorem QA (S:X4) (a:X5) (c:Nat) (d:Da) (w:World) (h:zy w S a c d) (b5:sS d=true):
  Yk 172 #[.agg #[uI d.pn,uI d.bn,uI d.off,uI d.bX,jI d.ecn,.slice a d.body.length c]] w λy K=>∃e9 f0,y=.returned (.tuple #[.slice e9 (rY d).length f0,jI 0])/\(rY d).length<=f0/\Bys K (λb=>w.heap.size<=b/\b<K.heap.size) e9 (rY d)/\bW w K:=by
 obtain⟨o2,w7,i0,w8,w9,x0⟩:=NI b5;obtain⟨x1,x2⟩:=Oi i0;have d1:=zH (Jn d.pn d.bn d.off d.bX d.ecn a d.body.length c d.body · rfl h.blen);have g6:sS ⟨d.pn,d.bn,d.off,d.bX,d.ecn,d.body⟩=true:=b5;rw[g6]at d1;obtain⟨i5,i6,i7,i3,i8⟩:=BF (Xa d.pn h.pn.1 o2) (Xa d.bn h.bn.1 (by have:=h.bn.1;omega)) (Xa d.off h.off.1 oM) (zQ d.bX h.bX) (Xa d.body.length oM oM);have t1:=oL d.pn;have t2:=oL d.bn;have t3:=oL d.off;have t4:=oL d.body.length;(have m:(lu d.bX).length=8:=by unfold lu;simp[kM]);have i1:=zH h.body;obtain⟨j1,a0⟩:=eX (rY d);rw[<-a0];have g5:rY d=[1,d.ecn]++kY d.pn++kY d.bn++kY d.off++lu d.bX++kY d.body.length++d.body:=rfl;rw[g5]at a0;have b1:=zH a0;clear a0 g5 h b5 g6 i0;obtain⟨r,o,q,Z,e,k⟩:=d;simp only at*
 generalize kY r=f at*
 generalize kY o=i at*
 generalize kY q=j at*
 generalize lu Z=l at*
 generalize kY (k.length:Int)=s at*
 have s5:e%256=e:=oM;go_enter Tryz.func172,Tryz.ntmps172;go_wp2_with fail;refine Yd (d1.o _) ?_;intro x b4;have F:bW w x:=pY b4;have a3:Blk x (w.heap.size) 115 #[uI r,uI o,uI q,uI Z,jI e,.slice a k.length c]:=iK b4;obtain⟨l3,l9,l4,m0,l5,m1,l6,m2,l7,m3,l8,m4⟩:=a3.c6;have v7:w.heap.size<x.heap.size:=a3.lt;have e6:=zH a3;clear a3;have a9:=zH F;clear b4 F;(have s8:∀w:World,(Instr.index 352 (.agg #[uI r,uI o,uI q]) (jI 0)).run prog w=.ok (uI r) w:=λ_=>by kernel_rfl);(have s9:∀w:World,(Instr.index 352 (.agg #[uI r,uI o,uI q]) (jI 1)).run prog w=.ok (uI o) w:=λ_=>by kernel_rfl);(have t0:∀w:World,(Instr.index 352 (.agg #[uI r,uI o,uI q]) (jI 2)).run prog w=.ok (uI q) w:=λ_=>by kernel_rfl);go_wp2;refine wp_loop_rounds 4 ?_;rw[rounds_succ];go_wp2_with fail;have j0:=e6.o;refine(i5.o _).mono ?_;rintro y M ⟨j3,j8,rfl,h1,a2⟩;have d9:=zH h1;have F:bW x M:=pY a2;have a4:Blk M (w.heap.size) 115 #[uI r,uI o,uI q,uI Z,jI e,.slice a k.length c]:=iK a2;have a5:Blk M (x.heap.size) 5 #[.int .u8 1,.int .u8 e]:=iK a2;obtain⟨m6,n2,m7,n3,m8,n4,m9,n5,n0,n6,n1,n7⟩:=a4.c6;have v8:w.heap.size<M.heap.size:=a4.lt;have e7:=zH a4;clear a4;obtain⟨n8,o0,n9,o1⟩:=a5.c2;have w2:x.heap.size<M.heap.size:=a5.lt;have e8:=zH a5;clear a5;have b0:=zH F;clear a2 F;have e5:=zH (e8.o.own (xs:=[Value.int .u8 1,Value.int .u8 e]) (size:=1) (n:=2) rfl rfl sM);clear h1 j0 n8 n9 o0 o1 l3 l9 l4 m0 l5 m1 l6 m2 l7 m3 l8 m4;have l2:=a9.o.size;have t8:=b0.o.size;go_wp2_with (at_builtin;refine fe.jO rfl (.tmp 33) (.tmp 34) rfl (some ⟨x.heap.size,0,none⟩) 2 [1,e] XG e5.o j3 j8 f XG d9.o sO dC ?_;intro c4 f3 b9 G t k3;have R:=zH G;have d2:=zH t;clear G t k3);have t:=d2.o;have t9:=t.size;have f8:bW w b9:=(a9.o.trans (b0.o.mono l2)).trans (t.cZ oM (λb g h=>by omega));have z:=e7.o.mod t dC;have G:OwnAt b9 (λb=>w.heap.size<=b/\b<b9.heap.size) 5 1 c4 ([1,e]++f).length f3 (([1,e]++f).flatMap byV):=R.o.mono (λb g=>by rcases g with h|h<;>omega);obtain⟨N,W,R⟩:=Av f8 z G;clear t f8 z G d2 a9 b0 d9 e6 e7 e8 e5 m6 m7 m8 m9 n0 n1 n2 n3 n4 n5 n6 n7;have z:=W.o;obtain⟨o6,p2,o7,p3,o8,p4,o9,p5,p0,p6,p1,p7⟩:=z.c6;have v9:=z.lt;clear z;rw[rounds_succ];go_wp2_with fail;refine(i6.o _).mono ?_;rintro y o3 ⟨j4,j9,rfl,h2,C⟩;have v4:=C.size;have g7:=R.o.below C;have h6:=W.o.below C W.o.lt;have g2:bW w o3:=N.o.trans (C.mono N.o.size);have w3:=N.o.size;obtain⟨d6,e3,c8,e0⟩:=Bq g7 h6 g2 h2;clear g7 h6 g2 h2 C R W N o6 p2 o7 p3 o8 p4 o9 p5 p0 p6 p1 p7;go_wp2_with (at_builtin;refine fe.jO rfl (.tmp 33) (.tmp 34) rfl c4 f3 ([1,e]++f) (by simp[Act.eval,m]) d6.o j4 j9 i (by simp[Act.eval,m]) e0.o sO dC ?_;intro c5 f4 c0 H u k4;have T:=zH H;have d3:=zH u;clear H u k4);have u:=d3.o;have v0:=u.size;have f9:bW w c0:=c8.o.trans (u.cZ oM (λb g h=>by omega));have A:=e3.o.mod u dC;have H:OwnAt c0 (λb=>w.heap.size<=b/\b<c0.heap.size) 5 1 c5 ([1,e]++f++i).length f4 (([1,e]++f++i).flatMap byV):=T.o.mono (λb g=>by rcases g with h|h<;>omega);obtain⟨O,X,T⟩:=Av f9 A H;clear u f9 A H d3 d6 e3 c8 e0;have A:=X.o;obtain⟨p8,q4,p9,q5,q0,q6,q1,q7,q2,q8,q3,q9⟩:=A.c6;have w0:=A.lt;clear A;rw[rounds_succ];go_wp2_with fail;refine(i7.o _).mono ?_;rintro y o4 ⟨j5,k0,rfl,h3,D⟩;have v5:=D.size;have g8:=T.o.below D;have h7:=X.o.below D X.o.lt;have g3:bW w o4:=O.o.trans (D.mono O.o.size);have w4:=O.o.size;obtain⟨d7,e4,c9,e1⟩:=Bq g8 h7 g3 h3;clear g8 h7 g3 h3 D T X O p8 q4 p9 q5 q0 q6 q1 q7 q2 q8 q3 q9;go_wp2_with (at_builtin;refine fe.jO rfl (.tmp 33) (.tmp 34) rfl c5 f4 ([1,e]++f++i) (by simp[Act.eval,m]) d7.o j5 k0 j (by simp[Act.eval,m]) e1.o sO dC ?_;intro c6 f5 c1 I v k5;have U:=zH I;have d4:=zH v;clear I v k5);have v:=d4.o;have v1:=v.size;have g0:bW w c1:=c9.o.trans (v.cZ oM (λb g h=>by omega));have B:=e4.o.mod v dC;have I:OwnAt c1 (λb=>w.heap.size<=b/\b<c1.heap.size) 5 1 c6 ([1,e]++f++i++j).length f5 (([1,e]++f++i++j).flatMap byV):=U.o.mono (λb g=>by rcases g with h|h<;>omega);obtain⟨P,Y,U⟩:=Av g0 B I;clear v g0 B I d4 d7 e4 c9 e1;have B:=Y.o;obtain⟨r0,r6,r1,r7,r2,r8,r3,r9,r4,s0,r5,s1⟩:=B.c6
 have w1:=B.lt;clear B;rw[rounds_succ];go_wp2_with fail;refine(i3.o _).mono ?_;rintro y o5 ⟨j6,k1,rfl,h4,E⟩;have v6:=E.size;have g9:=U.o.below E;have h8:=Y.o.below E Y.o.lt;have g4:bW w o5:=P.o.trans (E.mono P.o.size);have w5:=P.o.size;have d8:=zH g9;have b2:=zH h8;have d0:=zH g4;have e2:=zH h4;clear g9 h8 g4 h4 E U Y P r0 r6 r1 r7 r2 r8 r3 r9 r4 s0 r5 s1;go_wp2_with (at_builtin;refine fe.jO rfl (.tmp 37) (.tmp 40) rfl c6 f5 ([1,e]++f++i++j) (by simp[Act.eval,m]) d8.o j6 k1 l (by simp[Act.eval,m]) e2.o sO dC ?_;intro c7 f6 a8 J p k6;have V:=zH J;have d5:=zH p;have s2:a8.cell? ⟨w.heap.size,5,none⟩=some (.slice a k.length c):=(b2.o.mod p dC).cell 5;clear J p k6);have p:=d5.o;have v2:=p.size;have g1:bW w a8:=d0.o.trans (p.cZ oM (λb g h=>by omega));have h9:=b2.o.mod p dC;have J:OwnAt a8 (λb=>w.heap.size<=b/\b<a8.heap.size) 5 1 c7 ([1,e]++f++i++j++l).length f6 (([1,e]++f++i++j++l).flatMap byV):=V.o.mono (λb g=>by rcases g with h|h<;>omega);have Q:=zH g1;have b3:=zH h9;have V:=zH J;clear p g1 h9 J d5 d8 b2 d0 e2;refine(i8.o _).mono ?_;rintro y a6 ⟨j2,j7,rfl,h0,a1⟩;have v3:=a1.size;have s4:bW w a6:=Q.o.trans (a1.mono Q.o.size);have w6:=Q.o.size;have k7:=V.o.below a1;have m5:=b3.o.below a1 b3.o.lt;have x3:=m5.Wu 5;have i9:=zH h0;clear h0 s2 V b3 Q;go_wp2_with fail;go_region_held3 (λK=>K.cell? ⟨w.heap.size,5,none⟩=some (.slice a k.length c)) (first|assumption|simp[go_sem, *]) (first
  |(refine fe.Br rfl (.tmp 52) (.tmp 54) rfl c2 f1 ([1,e]++f++i++j++l++s) (by simp[Act.eval,m]) k8 a c k XG (aD i1.o f7) (by first|omega|(simp;omega)) dC ?_;intro c3 f2 a7 l1 b7 s7;have t7:=b7.size;have x5:a7.cell? ⟨w.heap.size,5,none⟩=some (.slice a k.length c):=(h5.mod b7 dC).cell 5;have k2:bW w a7:=f7.trans (b7.cZ oM (λb g h=>by omega));have k9:OwnAt a7 (λb=>w.heap.size<=b/\b<a7.heap.size) 5 1 c3 ([1,e]++f++i++j++l++s++k).length f2 (([1,e]++f++i++j++l++s++k).flatMap byV):=l1.mono (λb g=>by rcases g with h|h<;>omega))
  |(refine fe.Br rfl (.tmp 50) (.tmp 51) rfl c7 f6 ([1,e]++f++i++j++l) (by simp[Act.eval,m]) (k7.below (BEL)) j2 j7 s XG (aD i9.o (BEL)) (by first|omega|(simp;omega)) dC ?_;intro c2 f1 L l0 b6 s6;have t6:a6.heap.size<=L.heap.size:=b6.size;have h5:Blk L w.heap.size 115 #[uI r,uI o,uI q,uI Z,jI e,.slice a k.length c]:=Blk.mod (h:=by(repeat (first|with_reducible assumption|with_reducible apply Blk.drewN|with_reducible apply Blk.drew))) b6 dC;have x4:=h5.Wu 5;have f7:bW w L:=(show bW w _ from BEL).trans (b6.cZ (show w.heap.size<=a6.heap.size by omega) (λb g h=>by omega));have k8:OwnAt L (λb=>w.heap.size<=b/\b<L.heap.size) 5 1 c2 ([1,e]++f++i++j++l++s).length f1 (([1,e]++f++i++j++l++s).flatMap byV):=l0.mono (λb g=>by rcases g with h|h;omega;have s3:a6.heap.size<=b:=h.1;omega)))
 obtain⟨i4,i2⟩:=yx k9 k2;go_wp2;go_ret2;have b8:=i4.o;rw[<-b1.o]at b8;(have t5:j1.length=2+f.length+i.length+j.length+8+s.length+k.length:=by rw[b1.o];simp;omega);refine⟨c3,f2,by rw[b1.o];simp[m],b8.cap_,b8.row,i2.o⟩
theorem Kv (S:X4) (a:X5) (c:Nat) (l:List Sp) (d:Int) (w:World) (h:Sps w S a l):
  Yk 131 #[.slice a l.length c,uI d] w λi n=>i=.returned (bV (decide (0<l.length)&&decide ((l.getD 0 ⟨0,0⟩).lo<d)))/\w=n:=by
 rcases l with _|⟨b,e⟩
 .clear h
  go_enter Tryz.func131,Tryz.ntmps131;go_wp2;go_ret;exact⟨rfl,rfl⟩
 .obtain⟨o,s,rfl,p,k,g⟩:=Sps.at_ h (aj _ _) (j:=0) sM
  simp only[Nat.zero_mul,Nat.add_zero,List.getElem_cons_zero]at k g;have q:(0:Int)<((b::e).length:Int):=sM;have f:decide (0<(b::e).length)=true:=sM;rw[f];simp only[List.getD_cons_zero,Bool.true_and];generalize(b::e).length=r at*
  generalize b.lo=m at*
  clear h g f;cases hd:decide (m<d)with
  |true=>
   go_enter Tryz.func131,Tryz.ntmps131;go_wp2;go_ret;exact⟨rfl,rfl⟩
  |false=>
   go_enter Tryz.func131,Tryz.ntmps131;go_wp2;go_ret;exact⟨rfl,rfl⟩
theorem Jp (s:Sp) (t:List Sp) (n:Int):dI (s::t) n=(nV n s||dI t n):=rfl
theorem Cq (S:X4) (a:X5) (c:Nat) (l:List Sp) (n:Int) (w:World) (h:Sps w S a l) (G:l.length<=1000000000):
  Yk 133 #[.slice a l.length c,uI n] w λA C=>A=.returned (bV (dI l n))/\w=C:=by
 have x:=zH h;clear h;obtain⟨e,k⟩:=eX (dI l n);rw[<-k];have r:=zH k;clear k;go_enter Tryz.func133,Tryz.ntmps133;go_wp2;go_loopw [5] (λo wr=>∃(d:Nat),d<=l.length/\o=jI d/\X3 (dI (l.drop d) n=e)/\X3 (w=wr)) (λo _=>l.length -(intOf o).toNat);(case atStart=>exact⟨0,oM,rfl,r.o.symm,rfl⟩);case round=>
  obtain⟨d,F,rfl,q,v⟩:=hrel;clear r;obtain rfl:w=wr:=v.o;by_cases u:d<l.length
  .obtain⟨D,H,rfl,E,y,z⟩:=Sps.at_ x.o (aj _ _) u
   have b:=q.o;rw[aR u,Jp]at b;generalize l[d]=B at*
   obtain⟨p,m⟩:=B;simp only[nV]at y z b;by_cases s:p<=n
   .have f:=bM s
    by_cases t:n<=m
    .have j:=bM t
     have i:X3 (e=true):=zH (by rw[<-b,f,j];rfl);clear b;go_wp2;go_ret;exact⟨eF i.o.symm,rfl⟩
    .have j:=bJ t
     have g:X3 (dI (l.drop (d+1)) n=e):=zH (by rw[<-b,f,j];rfl);clear b;go_wp2;go_roundw;(case rel=>exact⟨d+1,oM,by go_num,g,by first|exact zH trivial|exact zH rfl⟩);case measure=>exact Yl
   .have f:=bJ s
    have g:X3 (dI (l.drop (d+1)) n=e):=zH (by rw[<-b,f];rfl);clear b;go_wp2;go_roundw;(case rel=>exact⟨d+1,oM,by go_num,g,by first|exact zH trivial|exact zH rfl⟩);case measure=>exact Yl
  .obtain rfl:d=l.length:=oM
   have b:=q.o;rw[List.drop_length]at b;have i:X3 (e=false):=zH b.symm;clear b;go_wp2;go_ret;exact⟨eF i.o.symm,rfl⟩
end Go.Proofs.YtiflndepmgnojaaGreat
