import Derived.Laws.Externs
import Derived.WalkSmall
import Derived.Lib.BitFns
import Derived.Lib.ItoaNum
import Derived.Deep.Cut
import Derived.Deep.DeepCutAuto
import Derived.Laws.BitsAllLaws
import Derived.Test.YtiflndepmgnojaaGreatOff
import Derived.Test.YtiflndepmgnojaaGreatShelf
import Derived.Test.YtiflndepmgnojaaGreatInv
import Derived.Test.YtiflndepmgnojaaGreatLawL
namespace Go.Proofs.YtiflndepmgnojaaGreat
open Go.RowKit Tryz
set_option linter.unusedSimpArgs false
set_option linter.unusedVariables false
set_option maxHeartbeats 8000000
set_option maxRecDepth 100000
variable {n k:Nat} {w w':World} {l:List Int} {x y z:Int}
theorem fB {a b:Int} (c:Word a) (hb:Word b):Word (WI a b):=by
 obtain⟨_,_⟩:=c;obtain⟨_,_⟩:=hb;unfold WI;split<;>exact⟨oM,oM⟩
theorem nC {a b:Int} (c:Word a) (hb:Word b):Word (WU a b):=by
 obtain⟨_,_⟩:=c;obtain⟨_,_⟩:=hb;unfold WU;split<;>exact⟨oM,oM⟩
theorem kN {a b:Int} (c:Word a) (hb:Word b):Word (wW a b):=by
 have:=dK c.1 hb.1;unfold wW;split<;>exact⟨oM,oM⟩
theorem Na {a n:Int} (b:Word a):Word (AL a n):=by
 have:=dK b.1 (show(0:Int)<=2^n.toNat from Int.pow_nonneg dC);unfold AL;split<;>exact⟨oM,oM⟩
theorem uK {a b:Int} (c:Word a) (hb:Word b):Word (ou a b):=by
 obtain⟨_,_⟩:=c;obtain⟨_,_⟩:=hb;unfold ou;split<;>exact⟨oM,oM⟩
theorem DZ {a n:Int} (b:Word a) (h:n<=0):AL a n=a:=by
 obtain⟨_,_⟩:=b;have:n.toNat=0:=oM;unfold AL;rw[this];simp;omega
theorem FF {n:Int}:AL 0 n=0:=by
 unfold AL;simp
theorem IW (a b:Nat):wW a b=if a*b<18446744073709551616 then((a*b:Nat):Int)else 18446744073709551615:=by
 unfold wW;rw[<-Int.natCast_mul];generalize a*b=c;split<;>split<;>omega
theorem WX:∀a:Nat,a≠0->a<2^64->2^Lib.bitLen a<=2*a/\a<2^Lib.bitLen a:=by
 intro a
 induction a using Nat.strongRecOn with
 |ind a ih=>
  intro c h;by_cases d:a=1
  .subst d;decide
  .have b:=Lib.bitLen_half a c h
   obtain⟨e,f⟩:=ih (a/2) oM oM oM;rw[b,Nat.pow_add,Nat.pow_one];generalize 2^Lib.bitLen (a/2)=g at*
   omega
theorem Pt {a:Nat} (b:a≠0) (h:a<2^64) (d:n<=64 -Lib.bitLen a):a*2^n<2^64:=by
 obtain⟨_,e⟩:=WX a b h;have j:=Lib.bitLen_le a 64 oM h;have c:2^n<=2^(64 -Lib.bitLen a):=Nat.pow_le_pow_right oM d;(have f:2^Lib.bitLen a*2^(64 -Lib.bitLen a)=2^64:=by rw[<-Nat.pow_add];congr 1;omega);have g:a*2^n<2^Lib.bitLen a*2^n:=Nat.mul_lt_mul_of_pos_right e (Nat.two_pow_pos n);have i:2^Lib.bitLen a*2^n<=2^Lib.bitLen a*2^(64 -Lib.bitLen a):=Nat.mul_le_mul_left _ c;omega
theorem Pq {a:Nat} (b:a≠0) (h:a<2^64) (d:64 -Lib.bitLen a+1<=n):2^64<=a*2^n:=by
 obtain⟨e,_⟩:=WX a b h;have k:=Lib.bitLen_le a 64 oM h;have c:2^(64 -Lib.bitLen a+1)<=2^n:=Nat.pow_le_pow_right oM d;(have f:2^Lib.bitLen a*2^(64 -Lib.bitLen a)=2^64:=by rw[<-Nat.pow_add];congr 1;omega);have g:a*2^(64 -Lib.bitLen a+1)<=a*2^n:=Nat.mul_le_mul_left _ c;(have i:a*2^(64 -Lib.bitLen a+1)=(2*a)*2^(64 -Lib.bitLen a):=by rw[Nat.pow_succ,Nat.mul_comm 2 a,Nat.mul_assoc,Nat.mul_comm 2]);have j:2^Lib.bitLen a*2^(64 -Lib.bitLen a)<=(2*a)*2^(64 -Lib.bitLen a):=Nat.mul_le_mul_right _ e;omega
theorem Nc {a n:Int} (g:Word a) (k:a≠0) (e:0<=n) (i:n<=64 -(Lib.bitLen a.toNat:Int)):AL a n=a*2^n.toNat/\a*2^n.toNat<18446744073709551616:=by
 obtain⟨d,j⟩:=g;obtain⟨a,rfl⟩:=bH d;obtain⟨n,rfl⟩:=bH e;have:=Pt (a:=a) (n:=n) oM oM (by simp at i;omega);have b:(a:Int)*2^n<18446744073709551616:=by
  have c:((a*2^n:Nat):Int)<((2^64:Nat):Int):=oM;have f:((a*2^n:Nat):Int)=(a:Int)*2^n:=sM;rw[f]at c;exact c
 unfold AL;simp only[Int.toNat_natCast];exact⟨aB b,b⟩
theorem Nb {a n:Int} (f:Word a) (j:a≠0) (g:64 -(Lib.bitLen a.toNat:Int)+1<=n):AL a n=18446744073709551615:=by
 obtain⟨b,i⟩:=f;obtain⟨a,rfl⟩:=bH b;have l:=Lib.bitLen_le a 64 oM oM;simp only[Int.toNat_natCast]at g;obtain⟨n,rfl⟩:=bH (show 0<=n by omega);have:=Pq (a:=a) (n:=n) oM oM oM;have c:¬(a:Int)*2^n<18446744073709551616:=by
  have d:((2^64:Nat):Int)<=((a*2^n:Nat):Int):=oM;have e:((a*2^n:Nat):Int)=(a:Int)*2^n:=sM;rw[e]at d;have k:((2^64:Nat):Int)=18446744073709551616:=dC;omega
 unfold AL;simp only[Int.toNat_natCast];exact Ww c
theorem ME (x y:Int) (a:0<=x) (hy:0<=y) (w:World):(callFunc 204 #[uI x,uI y,uI 0]).run prog w=
  .ok (.value (.tuple #[uI ((x+y)%18446744073709551616),uI ((x+y)/18446744073709551616)])) w:=by
 rw[run_callFunc_extern Tryz.func204 kR kR kR (e:=add64Entry) kR,run_add64 x y 0 oM oM oM oM];simp only[Result.andThen,Int.add_zero]
theorem nY (a b:Int) (j:Word a) (hb:Word b) (w:World):
  Yk 146 #[uI a,uI b] w λi k=>i=.returned (uI (WI a b))/\w=k:=by
 obtain⟨f,l⟩:=j;obtain⟨g,m⟩:=hb;have e:=λw=>ME a b f g w;by_cases h:a+b<18446744073709551616
 .have c:(a+b)/18446744073709551616=0:=oM
  have d:(a+b)%18446744073709551616=a+b:=oM;rw[c,d]at e;clear c d;go_enter Tryz.func146,Tryz.ntmps146;go_wp2;go_ret;exact⟨jk (by unfold WI;rw[aB h]),rfl⟩
 .have c:(a+b)/18446744073709551616=1:=oM
  rw[c]at e;clear c;go_enter Tryz.func146,Tryz.ntmps146;go_wp2;go_ret;exact⟨jk (by unfold WI;rw[Ww oM]),rfl⟩
theorem AP (a b:Int) (d:Word a) (hb:Word b) (w:World):
  Yk 147 #[uI a,uI b] w λc e=>c=.returned (uI (WU a b))/\w=e:=by
 obtain⟨f,g⟩:=d;obtain⟨i,j⟩:=hb;by_cases h:a<b;all_goals
  go_enter Tryz.func147,Tryz.ntmps147;go_wp2;go_ret;exact⟨jk (by unfold WU;first|rw[aB h]|rw[Ww oM]),rfl⟩
theorem wH (a b:Int) (l:Word a) (hb:Word b) (w:World):
  Yk 178 #[uI a,uI b] w λe g=>e=.returned (uI (wW a b))/\w=g:=by
 obtain⟨j,m⟩:=l;obtain⟨k,n⟩:=hb;obtain⟨a,rfl⟩:=bH j;obtain⟨b,rfl⟩:=bH k;have c:=λw=>Tryz.bits_Mul64 a b oM oM w;by_cases h:a*b<18446744073709551616
 .have f:a*b/18446744073709551616=0:=Nat.div_eq_of_lt h
  have i:a*b%18446744073709551616=a*b:=Nat.mod_eq_of_lt h;rw[f,i]at c;clear f i;have d:=zH c;clear c;go_enter Tryz.func178,Tryz.ntmps178;go_wp2_with (first|(go_at_call 230;refine(d.o _).mono ?_;rintro e g ⟨rfl,rfl⟩));go_ret;exact⟨jk (by rw[IW,aB oM,Int.natCast_mul]),rfl⟩
 .have f:0<a*b/18446744073709551616:=Nat.div_pos oM dC
  have p:(((a*b/18446744073709551616:Nat):Int)!=0)=true:=sO;have d:=zH c;clear c;generalize a*b/18446744073709551616=o at*
  go_enter Tryz.func178,Tryz.ntmps178;go_wp2_with (first|(go_at_call 230;refine(d.o _).mono ?_;rintro e g ⟨rfl,rfl⟩));go_ret;exact⟨jk (by rw[IW,Ww oM]),rfl⟩
theorem JK (a b:Int) (d:Word a) (hb:Word b) (w:World):
  Yk 192 #[uI a,uI b] w λc e=>c=.returned (uI (ou a b))/\w=e:=by
 obtain⟨f,g⟩:=d;obtain⟨i,j⟩:=hb;by_cases h:a<b;all_goals
  go_enter Tryz.func192,Tryz.ntmps192;go_wp2;(all_goals go_ret);all_goals exact⟨jk (by unfold ou;split<;>omega),rfl⟩
theorem zS (x lo a:Int) (w:World):
  Yk 195 #[uI x,uI lo,uI a] w λb c=>b=.returned (uI (rF x lo a))/\w=c:=by
 by_cases h:a<x<;>by_cases d:x<lo;all_goals
  go_enter Tryz.func195,Tryz.ntmps195;go_wp2;go_ret;exact⟨jk (by unfold rF;(repeat' split)<;>first|rfl|omega),rfl⟩
theorem RO (a n:Int) (b:Word a) (v:n<=9223372036854775807) (w:World):
  Yk 242 #[uI a,jI n] w λe j=>e=.returned (uI (AL a n))/\w=j:=by
 have m:=b.1;have t:=b.2;by_cases c:a=0
 .subst c
  go_enter Tryz.func242,Tryz.ntmps242;go_wp2;go_ret;exact⟨jk FF.symm,rfl⟩
 .have y:(a==0)=false:=by simp[c]
  by_cases f:n<=0
  .have x:=DZ b f
   go_enter Tryz.func242,Tryz.ntmps242;go_wp2;go_ret;exact⟨jk (DZ b oM).symm,rfl⟩
  .have u:decide (n<=0)=false:=sO
   have B:0<n:=oM;have i:=λw=>Tryz.bits_LeadingZeros64 a w oM oM;have r:=Lib.bitLen_le a.toNat 64 oM oM;obtain⟨_,g⟩:=WX a.toNat oM oM;(have o:Lib.bitLen a.toNat≠0:=by intro q;rw[q]at g;omega);have z:(1:Int)<=(Lib.bitLen a.toNat:Int):=oM;have A:(Lib.bitLen a.toNat:Int)<=64:=oM;have k:=zH i;clear i g o r;by_cases p:n<=64 -(Lib.bitLen a.toNat:Int)
   case' pos=>
    obtain⟨d,D⟩:=Nc b c oM p;have C:0<=a*2^n.toNat:=dK m (Int.pow_nonneg dC)
   case' neg=>
    have d:=Nb (n:=n) b c oM
   all_goals
    have l:=zH d;clear d c f;generalize(Lib.bitLen a.toNat:Int)=s at*
    go_enter Tryz.func242,Tryz.ntmps242;go_wp2_with (first|(go_at_call 255;refine(k.o _).mono ?_;rintro e j ⟨rfl,rfl⟩));go_ret;exact⟨jk l.o.symm,rfl⟩
theorem lT (a b:Int) (d:Word a) (hb:Word b) (w:World):
  Yk 83 #[uI a,uI b] w λc e=>c=.returned (uI (WI a b))/\w=e:=by
 go_enter Tryz.func83,Tryz.ntmps83;go_wp2_with fail;refine Yg (nY _ _ d hb _) ?_;go_wp2;go_ret;exact⟨rfl,rfl⟩
theorem sI (a b:Int) (d:Word a) (hb:Word b) (w:World):
  Yk 122 #[uI a,uI b] w λc e=>c=.returned (uI (WU a b))/\w=e:=by
 go_enter Tryz.func122,Tryz.ntmps122;go_wp2_with fail;refine Yg (AP _ _ d hb _) ?_;go_wp2;go_ret;exact⟨rfl,rfl⟩
theorem wQ (now a:Int) (w:World):
  Yk 58 #[uI now,uI a] w λc d=>c=.returned (bV (tH now a))/\w=d:=by
 by_cases h:a=18446744073709551615
 .have b:(a !=18446744073709551615)=false:=by simp[h]
  clear h;go_enter Tryz.func58,Tryz.ntmps58;go_wp2;go_ret;exact⟨eF (by unfold tH;rw[b];rfl),rfl⟩
 .have b:(a !=18446744073709551615)=true:=by simp[h]
  clear h;go_enter Tryz.func58,Tryz.ntmps58;go_wp2;go_ret;exact⟨eF (by unfold tH;rw[b];rfl),rfl⟩
theorem Rq (d n a:Int) (c:Word d) (e:n<=9223372036854775807) (w:World):
  Yk 198 #[uI d,jI n,uI a] w λb f=>b=.returned (uI (MB d n a))/\w=f:=by
 go_enter Tryz.func198,Tryz.ntmps198;go_wp2_with fail;refine Yg (RO _ _ c e _) ?_;go_wp2;go_ret;exact⟨rfl,rfl⟩
attribute[local go_sem] BW.cell BW.frozen
def seV (s:Se):List Value:=[uI s.pn,uI s.off,uI s.len,uI s.bX,uI s.sat,bV s.rE,bV s.used,jI s.aS]
theorem pZ:Elem prog 87 177 8 56 seV:=
 ⟨Tryz.underlying87,by
  obtain⟨a,c,d,e,f⟩:=info_parts (show(prog.info? 177).map (λa=>(a.zero,a.size,a.bytes))=some (some (.agg #[uI 0,uI 0,uI 0,uI 0,uI 0,bV false,bV false,jI 0]),8,56) by kernel_rfl);exact⟨a,_,c,d,e,f,rfl⟩,dC,λ_=>rfl,λi g b=>by simp[seV]at b;rcases b with rfl|rfl|rfl|rfl|rfl|rfl|rfl|rfl<;>rfl⟩
def Ses (w:World) (S:X4) (a:X5) (l:List Se):Prop:=Row w S 177 8 a l.length (l.flatMap seV)
theorem Ses.at_ {S:X4} {a:X5} {l:List Se} {j:Nat} (h:Ses w S a l) (hb:bW w w') (r:j<l.length):
  ∃b c,a=some ⟨b,c,none⟩/\b<w.heap.size/\w'.cell? ⟨b,c+j*8,none⟩=some (uI l[j].pn)/\w'.cell? ⟨b,c+j*8+1,none⟩=some (uI l[j].off)/\w'.cell? ⟨b,c+j*8+2,none⟩=some (uI l[j].len)/\
   w'.cell? ⟨b,c+j*8+3,none⟩=some (uI l[j].bX)/\w'.cell? ⟨b,c+j*8+4,none⟩=some (uI l[j].sat)/\w'.cell? ⟨b,c+j*8+5,none⟩=some (bV l[j].rE)/\
   w'.cell? ⟨b,c+j*8+6,none⟩=some (bV l[j].used)/\w'.cell? ⟨b,c+j*8+7,none⟩=some (jI l[j].aS):=by
 obtain⟨b,c,n,t,k,g⟩:=Row.at_ h oM;have q:=λd g=>mr (f:=seV) (m:=8) (λ_=>rfl) l j d r g;have e:∀d i,d<8->(seV l[j])[d]?=some i->w'.cell? ⟨b,c+j*8+d,none⟩=some i:=λd i o s=>by
  rw[Nat.add_assoc];exact(hb.cell (p:=⟨b,c+(j*8+d),none⟩) k).trans (g _ _ ((q d o).trans s))
 exact⟨b,c,n,k,e 0 _ oM rfl,e 1 _ oM rfl,e 2 _ oM rfl,e 3 _ oM rfl,e 4 _ oM rfl,e 5 _ oM rfl,e 6 _ oM rfl,e 7 _ oM rfl⟩
structure iJ (w:World) (S:X4) (p:Nat) (l:Le):Prop where
 ex:∃a c,Blk w p 236 #[jI l.ring,uI l.dO,uI l.next,.slice a l.kept.length c]/\OwnAt w S 177 8 a l.kept.length c (l.kept.flatMap seV)
 mem:S p
section
variable {w w':World} {S S':X4} {p:Nat} {l:Le} {ts:X8}
theorem iJ.lt (h:iJ w S p l):p<w.heap.size:=by obtain⟨a,b,h,_⟩:=h.ex;exact h.lt
theorem iJ.keep (h:iJ w S p l) (a:bQ S ts w w') (d:some 236∈ts) (e:some 177∈ts):iJ w' S p l:=by
 obtain⟨b,c,f,g⟩:=h.ex;exact⟨⟨b,c,f.keep a h.mem d,g.keep a e⟩,h.mem⟩
theorem iJ.below (h:iJ w S p l) (hb:bW w w'):iJ w' S p l:=h.keep (ts:=[some 236,some 177]) (bQ.below hb) sM sM
theorem iJ.mono (h:iJ w S p l) (a:∀b,S b->S' b):iJ w S' p l:=by
 obtain⟨c,d,e,f⟩:=h.ex;exact⟨⟨c,d,e,f.mono a⟩,a _ h.mem⟩
end
theorem gM.words {l:Le} (h:gM l):Word l.next/\Word l.ring/\Word l.dO/\Word (gT l):=by
 have:=h.pE;have:=h.nI;have:=h.mh;have:=h.wZ;have:=h.lW;have:=h.limit0;rw[nU];unfold Word;omega
theorem pK (S:X4) (p:Nat) (l:Le) (w:World) (h:iJ w S p l):
  Yk 61 #[pT p] w λb w'=>b=.returned (uI l.next)/\w=w':=by
 obtain⟨c,d,a,_⟩:=h.ex;have e:=a.Wu 2;clear h a;go_enter Tryz.func61,Tryz.ntmps61;go_wp2;go_ret;exact⟨rfl,rfl⟩
theorem qY (S:X4) (p:Nat) (l:Le) (w:World) (h:iJ w S p l) (d:gM l):
  Yk 70 #[pT p] w λc w'=>c=.returned (uI (gT l))/\∃f,w'=w.drewN f:=by
 obtain⟨i,j,a,_⟩:=h.ex;obtain⟨m,k⟩:=a.e2 2 0;obtain⟨g,b,_,_⟩:=d.words;have n:=b.1;have o:=b.2;clear h a;have e:gT l=WU l.next l.ring:=rfl;rw[e];go_enter Tryz.func70,Tryz.ntmps70;go_wp2;refine bN kR kR ?_;(repeat (go_big_quiet_step ((go_at_call 147;exact aJ ((AP _ _ g b _).mono λc w' h=>⟨h.1,h.2.symm⟩)))));refine aK ?_;rintro _ ⟨nq,rfl⟩;go_wp2;go_ret;exact⟨rfl,_,rfl⟩
theorem Gs (n:Int) (s:Se) (t:List Se):gB n (s::t)=if s.aS=1 then s.pn else gB n t:=rfl
theorem Dt (n:Int) (s:Se) (t:List Se):iT n (s::t)=iT (if s.aS=1 then WI n s.len else n) t:=rfl
theorem xR (S:X4) (p:Nat) (l:Le) (w:World) (h:iJ w S p l) (i:gM l):
  Yk 66 #[pT p] w λy w'=>y=.returned (uI (eY l))/\bW w w':=by
 obtain⟨u,P,e,q⟩:=h.ex;obtain⟨o,v⟩:=e.e2 2 3;have B:=e.lt;(have A:l.kept.length<=1000:=by have:=i.len;have:=i.lW;omega);have m:=zH (show Ses w S u l.kept from q.row);clear h e q i;obtain⟨L,x,next,a⟩:=l;(have s:eY ⟨L,x,next,a⟩=gB next a:=rfl);rw[s];simp only at o v A m;clear s;go_enter Tryz.func66,Tryz.ntmps66;go_wp2;go_loopw [12,4,14,15] (λj a4 a2 a3 wr=>∃(c:Nat),c<=a.length/\j=jI c/\X3 (gB next (a.drop c)=gB next a)/\X3 (bW w wr)) (λj _ _ _ _=>a.length -(intOf j).toNat);(case atStart=>exact⟨0,oM,rfl,rfl,aj _ _⟩);case round=>
  obtain⟨c,U,rfl,k,d⟩:=hrel;have V:=d.o.size;have R:=(d.o.cell (p:=⟨p,2,none⟩) B).trans o;by_cases r:c<a.length
  .obtain⟨N,X,rfl,T,C,D,E,F,G,H,I,J⟩:=m.o.at_ d.o r
   have b:=k.o;rw[aR r,Gs]at b;generalize a[c]=M at*
   obtain⟨K,a0,W,O,Z,Y,a1,n⟩:=M;simp only at C D E F G H I J b;by_cases g:n=1
   .subst g
    have f:X3 (gB next a=K):=zH (by rw[<-b];rfl);clear b;go_wp2;go_ret;exact⟨jk f.o.symm,by have z:=d.o;exact BEL⟩
   .have Q:(n==1)=false:=by simp[g]
    have t:X3 (gB next (a.drop (c+1))=gB next a):=zH (by rw[<-b,Ww g]);clear b;go_wp2;go_roundw;(case rel=>exact⟨c+1,oM,by go_num,t,zH (by have z:=d.o;exact BEL)⟩);case measure=>exact Yl
  .obtain rfl:c=a.length:=oM
   have b:=k.o;rw[List.drop_length]at b;have f:X3 (gB next a=next):=zH b.symm;clear b;go_wp2;go_ret;exact⟨jk f.o.symm,d.o⟩
theorem vB (S:X4) (p:Nat) (l:Le) (w:World) (h:iJ w S p l) (f:gM l):
  Yk 68 #[pT p] w λG T=>G=.returned (uI (gq l))/\bW w T:=by
 obtain⟨D,X,m,x⟩:=h.ex;have E:=m.Wu 3;have a1:=m.lt;(have I:l.kept.length<=1000:=by have:=f.len;have:=f.lW;omega);obtain⟨u,s⟩:=yx (show Ses w S D l.kept from x.row) f.ok;clear h m x f;obtain⟨R,F,next,a⟩:=l;have y:gq ⟨R,F,next,a⟩=iT 0 a:=rfl;rw[y];simp only at E I u s;clear y;go_enter Tryz.func68,Tryz.ntmps68;go_wp2;go_loopw [13,3,5,15,16] (λq U b1 a9 b0 wr=>∃(b:Nat) (d:Int),b<=a.length/\q=jI b/\U=uI d/\X3 (Word d)/\X3 (iT d (a.drop b)=iT 0 a)/\X3 (bW w wr)) (λq _ _ _ _ _=>a.length -(intOf q).toNat);(case atStart=>exact⟨0,0,oM,rfl,rfl,⟨dC,dC⟩,rfl,aj _ _⟩);case round=>
  obtain⟨b,d,a0,rfl,rfl,j,t,e⟩:=hrel;have a2:=e.o.size;by_cases n:b<a.length
  .obtain⟨V,a3,rfl,Z,J,K,L,M,N,O,P,Q⟩:=u.o.at_ e.o n
   have c:=t.o;rw[aR n,Dt]at c;have o:=s.o _ (aN n);generalize a[b]=z at*
   have g:Word z.len:=⟨o.yQ,by have:=o.Dr;omega⟩;clear o;obtain⟨a4,a7,r,W,a6,a5,a8,v⟩:=z;simp only at J K L M N O P Q c g;by_cases k:v=1
   .subst k
    have i:X3 (iT (WI d r) (a.drop (b+1))=iT 0 a):=zH (by rw[<-c];rfl);clear c;have A:=zH (nY d r j.o g);have C:X3 (Word (WI d r)):=zH (fB j.o g);clear g;go_wp2_with fail;refine Yg (A.o _) ?_;go_wp2;go_roundw;(case rel=>exact⟨b+1,_,oM,by go_num,rfl,C,i,zH (by have H:=e.o;exact BEL)⟩);case measure=>exact Yl
   .have Y:(v==1)=false:=by simp[k]
    have i:X3 (iT d (a.drop (b+1))=iT 0 a):=zH (by rw[<-c,Ww k]);clear c;go_wp2;go_roundw;(case rel=>exact⟨b+1,d,oM,by go_num,rfl,j,i,zH (by have H:=e.o;exact BEL)⟩);case measure=>exact Yl
  .obtain rfl:b=a.length:=oM
   have c:=t.o;rw[List.drop_length]at c;have B:X3 (iT 0 a=d):=zH c.symm;clear c;go_wp2;go_ret;exact⟨jk B.o.symm,e.o⟩
theorem zK (S:X4) (p:Nat) (l:Le) (w:World) (h:iJ w S p l) (a:gM l):
  Yk 91 #[pT p] w λi c=>i=.returned (jI (eu l))/\bW w c:=by
 obtain⟨q,r,b,j⟩:=h.ex;obtain⟨t,s⟩:=b.e2 2 0;have u:=b.lt;have g:=zH (λc (k:bW w c)=>xR S p l c (h.below k) a);have d:=a.bn;have n:=nU l;obtain⟨f,o,_,_⟩:=a.words;have e:eu l=l.ring -(l.next -eY l):=rfl;obtain⟨D,E,x⟩:=FX a.wZ a.lW a.pE;(have y:l.next<=4611686018427387904:=by have:=a.nI;have:=a.mh;omega);have z:0<=eY l:=oM;have A:eY l<=l.next:=d.2;have B:l.next -eY l<=l.ring:=oM;have C:0<=l.next -eY l:=oM;rw[e];clear h b j a d n e f o;generalize eY l=v at*
 go_enter Tryz.func91,Tryz.ntmps91;go_wp2;refine fq kR kR ?_;(repeat (go_big_quiet_step (((go_at_call 66;exact bU _ (g.o _ (by apply BW.same)))))));refine aK ?_;refine bwI ?_;intro f m;go_wp2;go_ret;exact⟨rfl,m⟩
def xI (s c z:Int):Int:=IntKind.u64.wrap (bits BinOp.xor IntKind.u64 z (z/s)*c)
def mixI (k:Int):Int:=
 let a:=xI 134217728 10723151780598845931 (xI 1073741824 13787848793156543929 (IntKind.u64.wrap (IntKind.u64.wrap (k+1)*11400714819323198485)))
 bits BinOp.xor IntKind.u64 a (a/2147483648)
theorem Gi (c n:Nat):mulN c n<rJ:=Nat.mod_lt _ dC
theorem DV {X s C:Nat} (h:X<rJ):xI ((2^s:Nat):Int) (C:Int) (X:Int)=((mulN C (xsN s X):Nat):Int):=by
 unfold xI mulN xsN;rw[Nat.shiftRight_eq_div_pow];exact mixStep_u64 X (2^s) C h
theorem R4:mixI (k:Int)=((mixN k:Nat):Int):=by
 have d:IntKind.u64.wrap (IntKind.u64.wrap ((k:Int)+1)*11400714819323198485)=((mulN 11400714819323198485 ((k+1)%rJ):Nat):Int):=by
  rw[IntKind.wrap_u64,IntKind.wrap_u64];unfold mulN rJ;rw[Int.natCast_emod,Int.natCast_mul,Int.natCast_emod,Int.natCast_add];rfl
 have e:=DV (s:=30) (C:=13787848793156543929) (Gi 11400714819323198485 ((k+1)%rJ));have f:=DV (s:=27) (C:=10723151780598845931) (Gi 13787848793156543929 (xsN 30 (mulN 11400714819323198485 ((k+1)%rJ))));unfold mixI;rw[d];have b:xI 1073741824 13787848793156543929 ((mulN 11400714819323198485 ((k+1)%rJ):Nat):Int)=((mulN 13787848793156543929 (xsN 30 (mulN 11400714819323198485 ((k+1)%rJ))):Nat):Int):=e;have c:xI 134217728 10723151780598845931 ((mulN 13787848793156543929 (xsN 30 (mulN 11400714819323198485 ((k+1)%rJ))):Nat):Int)=((mulN 10723151780598845931 (xsN 27 (mulN 13787848793156543929 (xsN 30 (mulN 11400714819323198485 ((k+1)%rJ))))):Nat):Int):=f;rw[b,c];unfold mixN;have a:=xorShift_u64 (mulN 10723151780598845931 (xsN 27 (mulN 13787848793156543929 (xsN 30 (mulN 11400714819323198485 ((k+1)%rJ)))))) 2147483648 (Gi _ _);have g:((2147483648:Nat):Int)=2147483648:=dC;rw[g]at a;show bits BinOp.xor IntKind.u64 _ _=_;rw[a];generalize mulN 10723151780598845931 (xsN 27 (mulN 13787848793156543929 (xsN 30 (mulN 11400714819323198485 ((k+1)%rJ)))))=i;unfold xsN;rw[Nat.shiftRight_eq_div_pow]
theorem Qk {x n:Int} (b:Word x) (d:1<=n) (e:n<64):bits BinOp.and IntKind.u64 x (IntKind.u64.wrap (IntKind.u64.wrap (2^n.toNat) -1))=x%2^n.toNat:=by
 obtain⟨c,i⟩:=b;obtain⟨x,rfl⟩:=bH c;obtain⟨n,rfl⟩:=bH (show 0<=n by omega);have f:2^n<2^64:=Nat.pow_lt_pow_right oM oM;have g:0<2^n:=Nat.two_pow_pos n;have a:IntKind.u64.wrap (IntKind.u64.wrap ((2:Int)^((n:Int)).toNat) -1)=((2^n -1:Nat):Int):=by
  rw[IntKind.wrap_u64,IntKind.wrap_u64];have:((2:Int)^((n:Int)).toNat)=((2^n:Nat):Int):=sM;rw[this];omega
 rw[a,bits_and_u64_nat x (2^n -1) oM oM,Nat.and_two_pow_sub_one_eq_mod];simp
theorem RZ (k:Int) (b:Word k) (w:World):
  Yk 216 #[uI k] w λa c=>a=.returned (uI (mixI k))/\w=c:=by
 obtain⟨d,e⟩:=b;go_enter Tryz.func216,Tryz.ntmps216;go_wp2;go_ret;exact⟨by unfold mixI xI;rfl,rfl⟩
theorem R5 (x n:Int) (e:Word x) (w:World):
  Yk 167 #[uI x,jI n] w λg i=>g=.returned (uI (yP x n))/\w=i:=by
 have c:=λa b=>Qk (x:=x) (n:=n) e a b;obtain⟨j,k⟩:=e;by_cases a:n<1
 .go_enter Tryz.func167,Tryz.ntmps167
  go_wp2;go_ret;exact⟨jk (by unfold yP;rw[aB a]),rfl⟩
 .by_cases b:64<=n
  .go_enter Tryz.func167,Tryz.ntmps167
   go_wp2;go_ret;exact⟨jk (by unfold yP;rw[Ww oM,aB b]),rfl⟩
  .have d:=c oM oM
   have l:1<=n:=oM;have m:n<64:=oM;clear c;have f:=zH d;clear d;go_enter Tryz.func167,Tryz.ntmps167;go_wp2;go_ret;exact⟨jk (f.o.trans (by unfold yP;rw[Ww oM,Ww oM])),rfl⟩
theorem QZ (x:Int) (b:Word x) (w:World):
  Yk 168 #[uI x] w λa c=>a=.returned (bV (zn x))/\w=c:=by
 obtain⟨d,e⟩:=b;go_enter Tryz.func168,Tryz.ntmps168;go_wp2;go_ret;exact⟨rfl,rfl⟩
theorem MY (x o:Int) (c:Word x) (d:Word o) (w:World):
  Yk 164 #[uI x,uI o] w λa e=>a=.returned (bV (Yw x o))/\w=e:=by
 obtain⟨f,g⟩:=c;obtain⟨i,j⟩:=d;by_cases h:0<o
 .go_enter Tryz.func164,Tryz.ntmps164
  go_wp2;go_ret;exact⟨eF (by unfold Yw;simp[h]),rfl⟩
 .have b:decide (0<o)=false:=sO
  go_enter Tryz.func164,Tryz.ntmps164;go_wp2;go_ret;exact⟨eF (by unfold Yw;simp[b]),rfl⟩
def woV (x:Int):List Value:=[uI x]
theorem Fv:(prog.info? 30).map (λa=>(a.zero,a.size,a.bytes))=some (some (uI 0),1,8):=by kernel_rfl
theorem qH:Elem prog 23 30 1 8 woV:=
 ⟨Tryz.underlying23,by
  obtain⟨f,b,c,d,e⟩:=info_parts Fv;exact⟨f,_,b,c,d,e,rfl⟩,dC,λ_=>rfl,λi g a=>by simp[woV]at a;rw[a];rfl⟩
theorem oD (l:List Int):l.flatMap woV=l.map (Value.int .u64):=by
 induction l with
 |nil=>rfl
 |cons x t ih=>simp[woV,ih]
def Wot (tw:TypeId) (w:World) (S:X4) (a:X5) (l:List Int):Prop:=Row w S tw 1 a l.length (l.flatMap woV)
def Wos (w:World) (S:X4) (a:X5) (l:List Int):Prop:=Row w S 30 1 a l.length (l.flatMap woV)
theorem Wos.at_ {S:X4} {a:X5} {j:Nat} (h:Wos w S a l) (hb:bW w w') (g:j<l.length):
  ∃b c,a=some ⟨b,c,none⟩/\b<w.heap.size/\w'.cell? ⟨b,c+j,none⟩=some (uI l[j]):=by
 obtain⟨b,c,e,i,d,f⟩:=Row.at_ h oM;refine⟨b,c,e,d,(hb.cell (p:=⟨b,c+j,none⟩) d).trans (f j _ ?_)⟩;rw[oD];simp[g]
def rG (l:List Int):Prop:=∀a∈l,Word a
structure sw (w:World) (S:X4) (p:Nat) (s:So):Prop where
 ex:∃a c,Blk w p 232 #[.slice a s.l.length c,jI s.fI]/\Wos w S a s.l
 mem:S p
section
variable {w w':World} {S S':X4} {p:Nat} {s:So} {ts:X8}
theorem sw.lt (h:sw w S p s):p<w.heap.size:=by obtain⟨a,b,h,_⟩:=h.ex;exact h.lt
theorem sw.keep (h:sw w S p s) (a:bQ S ts w w') (d:some 232∈ts) (e:some 30∈ts):sw w' S p s:=by
 obtain⟨b,c,f,g⟩:=h.ex;exact⟨⟨b,c,f.keep a h.mem d,aG g a e⟩,h.mem⟩
theorem sw.below (h:sw w S p s) (hb:bW w w'):sw w' S p s:=h.keep (ts:=[some 232,some 30]) (bQ.below hb) sM sM
theorem sw.mono (h:sw w S p s) (a:∀b,S b->S' b):sw w S' p s:=by
 obtain⟨c,d,e,f⟩:=h.ex;exact⟨⟨c,d,e,aF f a⟩,a _ h.mem⟩
end
theorem MX {tw:TypeId} (S:X4) (a:X5) (c:Nat) (l:List Int) (w:World) (h:Wot tw w S a l) (u:l.length<=1000000000):
  Yk 43 #[.slice a l.length c] w λq w'=>∃p,q=.returned ((pT p))/\w.heap.size<=p/\sw w' (λd=>w.heap.size<=d/\d<w'.heap.size) p ⟨l,0⟩/\bW w w':=by
 have n:=zH h;clear h;go_enter Tryz.func43,Tryz.ntmps43;go_wp2_with (at_builtin;refine qH.wpList rfl _ (.tmp 3) rfl w.heap.size none 0 [] (by rfl) (iq _ _ _ _) a c l (by rfl) n.o sO dC (av _) ?_;intro k o e j g;have f:bW w e:=(aj w.heap.size w).grown g (av _) XI;have m:=zH j;have b:=zH f;clear j g f);go_ret;have i:=m.o;rw[List.nil_append]at i;have r:=OwnAt.fresh i;refine⟨e.heap.size,rfl,b.o.size,⟨⟨k,o,Wx e 232 _,?_⟩,⟨b.o.size,sM⟩⟩,b.o.alloc b.o.size _⟩;exact aF (aD r.row ((aj _ _).alloc (av _) _)) (λd t=>⟨t.1,by simp;omega⟩)
theorem Kr (S:X4) (p:Nat) (s:So) (w:World) (h:sw w S p s) (I:s.l.length<=1000000000) (M:s.fI<=1000000000):
  Yk 165 #[pT p] w λe w'=>e=.returned (uI (Ai s.l s.fI))/\sw w' S p ⟨s.l,s.fI+1⟩/\Mod S [some 232] w w':=by
 have l:=h.mem;obtain⟨n,q,b,d⟩:=h.ex;have z:=b.Wu 0;obtain⟨A,E⟩:=b.cz 1;have k:sw (w.setCell ⟨p,1,none⟩ (jI (s.fI+1))) S p ⟨s.l,s.fI+1⟩/\Mod S [some 232] w (w.setCell ⟨p,1,none⟩ (jI (s.fI+1))):=by
  refine⟨⟨⟨n,q,by simpa using b.bF 1 (jI (s.fI+1)),?_⟩,l⟩,(aV _ _ _).setCell b (λ_=>l) sM 1 _⟩;exact aG d (ts:=[some 30]) (bQ.setCell b dC 1 _) sM
 have g:=zH k;obtain⟨c,a⟩:=s;simp only at*
 by_cases j:a<c.length
 .obtain⟨o,x,rfl,G,H⟩:=Wos.at_ d (aj _ _) j
  (have f:Ai c a=c[a]:=by unfold Ai;rw[aB j];simp[aW,aL j]);have L:¬((⟨p,1,none⟩:Addr)=⟨o,x+a,none⟩):=by
   intro v;injection v with r C;subst r;obtain⟨y,N,B,F,e,_,i,_⟩:=Row.at_ d oM|>λ_=>d.2 oM;injection e with e;injection e with t D;subst t;unfold Blk at b;rw[b]at i;injection i with i;injection i with _ u;cases u
  rw[f];generalize c[a]=O at*
  clear k h b d f;go_enter Tryz.func165,Tryz.ntmps165;go_wp2;go_ret;exact⟨rfl,g.o.1,g.o.2⟩
 .have J:decide (c.length<=a)=true:=sO
  have K:c.length<=a:=oM;(have f:Ai c a=mixI (a:Int):=by unfold Ai;rw[Ww j,R4]);rw[f];have m:=zH (RZ (a:Int) ⟨oM,oM⟩);clear k h b d f;go_enter Tryz.func165,Tryz.ntmps165;go_wp2_with fail;refine Yg (m.o _) ?_;go_wp2;go_ret;exact⟨rfl,g.o.1,g.o.2⟩
theorem Jy (x:Int) (t:List Int) (m:Int):(x::t).foldl min m=t.foldl min (min m x):=rfl
theorem ES (S:X4) (a:X5) (c:Nat) (l:List Int) (w:World) (h:Wos w S a l) (v:l.length<=1000000000):
  Yk 74 #[.slice a l.length c] w λo w'=>o=.returned (uI (vL l))/\w=w':=by
 have n:=zH h;clear h;go_enter Tryz.func74,Tryz.ntmps74;go_wp2;go_loop [8,3,5,10,11] (λi q C A B=>∃(d:Nat) (e:Int),d<=l.length/\i=jI d/\q=uI e/\X3 ((l.drop d).foldl min e=vL l)) (λi _ _ _ _=>l.length -(intOf i).toNat);(case atStart=>exact⟨0,18446744073709551615,oM,rfl,rfl,rfl⟩);case round=>
  obtain⟨d,e,u,rfl,rfl,f⟩:=hrel;by_cases j:d<l.length
  .obtain⟨r,z,rfl,t,y⟩:=n.o.at_ (aj _ _) j
   have b:=f.o;rw[aR j,Jy]at b;generalize l[d]=k at*
   by_cases x:k<e
   .rw[Int.min_eq_right oM]at b
    have g:=zH b;clear b f;go_wp2;go_round;(case rel=>exact⟨d+1,k,oM,by go_num,by go_num,g⟩);case measure=>exact Yl
   .rw[Int.min_eq_left oM]at b
    have g:=zH b;clear b f;go_wp2;go_round;(case rel=>exact⟨d+1,e,oM,by go_num,by go_num,g⟩);case measure=>exact Yl
  .obtain rfl:d=l.length:=oM
   have b:=f.o;rw[List.drop_length]at b;have m:X3 (e=vL l):=zH b;clear b;go_wp2;go_ret;exact⟨jk m.o,rfl⟩
theorem uW (a b:Int) (k:Word a) (hb:Word b) (w:World):
  Yk 238 #[uI a,uI b] w λj l=>j=.returned (.tuple #[uI (a*b/18446744073709551616),uI (a*b%18446744073709551616)])/\w=l:=by
 obtain⟨g,m⟩:=k;obtain⟨i,n⟩:=hb;obtain⟨a,rfl⟩:=bH g;obtain⟨b,rfl⟩:=bH i;have c:=λw=>Tryz.bits_Mul64 a b oM oM w;have d:((a*b/18446744073709551616:Nat):Int)=(a:Int)*b/18446744073709551616:=sM;have e:((a*b%18446744073709551616:Nat):Int)=(a:Int)*b%18446744073709551616:=sM;rw[d,e]at c;have f:=zH c;clear c d e;go_enter Tryz.func238,Tryz.ntmps238;go_wp2_with fail;refine Yg (f.o _) ?_;go_wp2;go_ret2;exact⟨rfl,rfl⟩
theorem Ll (a:Int):a*a*a=a*a/18446744073709551616*a*18446744073709551616+a*a%18446744073709551616*a:=by
 have h:a*a=a*a/18446744073709551616*18446744073709551616+a*a%18446744073709551616:=oM
 conv=>lhs;rw[h]
 rw[Int.add_mul,Int.mul_assoc,Int.mul_assoc,Int.mul_comm 18446744073709551616 a]
theorem Ox {X g f e lo a b c d t:Int} (q:0<=X) (r:0<=g) (s:g<18446744073709551616*18446744073709551616) (u:f=X*18446744073709551616+g)
  (l:Word e) (m:Word lo) (v:a=X/18446744073709551616) (hb:b=X%18446744073709551616) (w:c=g/18446744073709551616) (x:d=g%18446744073709551616) (y:t=(b+c)%18446744073709551616):
  (0<=b/\0<=c/\0<=t/\0<=d/\b<18446744073709551616/\c<18446744073709551616/\(t<b↔t<c))/\(0<a->¬f<=e*18446744073709551616+lo)/\(a<=0->t<b->¬f<=e*18446744073709551616+lo)/\
  (a<=0->b<=t->(t<e->f<=e*18446744073709551616+lo)/\(e<t->¬f<=e*18446744073709551616+lo)/\(t=e->(f<=e*18446744073709551616+lo↔d<=lo))):=by
 obtain⟨o,p⟩:=l;obtain⟨z,A⟩:=m;have j:c<18446744073709551616:=oM;refine⟨⟨oM,oM,oM,oM,oM,j,by constructor<;>(intro h;omega)⟩,λh=>by omega,λh k=>by omega,λh k=>⟨λi=>by omega,λi=>by omega,λi=>⟨λn=>by omega,λn=>by omega⟩⟩⟩
theorem FB (f:Word x):Word (x*x/18446744073709551616)/\Word (x*x%18446744073709551616)/\0<=x*x/18446744073709551616*x/\0<=x*x%18446744073709551616*x/\x*x%18446744073709551616*x<18446744073709551616*18446744073709551616:=by
 obtain⟨a,k⟩:=f;have g:=dK a a;have i:x*x<=18446744073709551615*18446744073709551615:=by
  refine oK (Int.mul_le_mul_of_nonneg_left (show x<=18446744073709551615 by omega) a) ?_;exact bC oM dC
 generalize x*x=b at*
 have d:0<=b/18446744073709551616:=oM;have c:0<=b%18446744073709551616:=oM;have e:b%18446744073709551616<18446744073709551616:=oM;refine⟨⟨d,oM⟩,⟨c,e⟩,dK d a,dK c a,?_⟩;have j:b%18446744073709551616*x<=18446744073709551615*18446744073709551615:=by
  refine oK (Int.mul_le_mul_of_nonneg_left (show x<=18446744073709551615 by omega) c) ?_;exact bC oM dC
 omega
theorem Rm {a c lo:Int} (b:8796093022208<=a) (e:Word c) (f:Word lo):nP a c lo=false:=by
 obtain⟨i,j⟩:=e;obtain⟨k,l⟩:=f;have d:8796093022208*8796093022208<=a*a:=Int.mul_le_mul b b dC oM;have g:8796093022208*8796093022208*8796093022208<=a*a*a:=Int.mul_le_mul d b dC oM;unfold nP;simp;omega
theorem OG (a c lo:Int) (j:Word a) (A:Word c) (B:Word lo) (w:World):
  Yk 265 #[uI a,uI c,uI lo] w λb d=>b=.returned (bV (nP a c lo))/\w=d:=by
 by_cases z:8796093022208<=a
 .have b:=Rm z A B
  have e:=zH b;clear b;go_enter Tryz.func265,Tryz.ntmps265;go_wp2;go_ret;exact⟨eF e.o.symm,rfl⟩
 .have a1:decide (8796093022208<=a)=false:=sO
  obtain⟨I,J,K,L,M⟩:=FB j;have C:=λw=>uW a a j j w;have D:=λw=>uW (a*a/18446744073709551616) a I j w;have E:=λw=>uW (a*a%18446744073709551616) a J j w;obtain⟨⟨T,V,a5,X,U,W,S⟩,F,G,H⟩:=Ox K L M (Ll a) A B rfl rfl rfl rfl rfl;have y:nP a c lo=decide (a*a*a<=c*18446744073709551616+lo):=rfl;generalize a*a/18446744073709551616*a/18446744073709551616=o at*
  generalize a*a/18446744073709551616*a%18446744073709551616=i at*
  generalize a*a%18446744073709551616*a/18446744073709551616=p at*
  generalize a*a%18446744073709551616*a%18446744073709551616=Q at*
  generalize a*a/18446744073709551616=a3 at*
  generalize a*a%18446744073709551616=a4 at*
  have a2:IntKind.u64.wrap (i+p)=(i+p)%18446744073709551616:=IntKind.wrap_u64 _;generalize(i+p)%18446744073709551616=f at*
  obtain⟨k,l,m,N,O,P⟩:=Fy C D E F G H;have g:=zH y;clear C D E F G H y z I J K L M S;by_cases u:0<o
  .have b:nP a c lo=false:=by rw[g.o];simpa using N.o u
   have e:=zH b;clear b;go_enter Tryz.func265,Tryz.ntmps265;go_wp2_with fail;refine Yd (k.o _) ?_;intro d rfl;go_wp2_with fail;refine Yd (l.o _) ?_;intro d rfl;go_wp2_with fail;refine Yd (m.o _) ?_;intro d rfl;go_wp2;go_ret;exact⟨eF (by have:=e;unfold X3 at this;exact this.symm),rfl⟩
  .have Z:decide (0<o)=false:=sO
   have v:o<=0:=oM;clear u;by_cases x:f<i
   .have b:nP a c lo=false:=by rw[g.o];simpa using O.o v x
    have e:=zH b;clear b;go_enter Tryz.func265,Tryz.ntmps265;go_wp2_with fail;refine Yd (k.o _) ?_;intro d rfl;go_wp2_with fail;refine Yd (l.o _) ?_;intro d rfl;go_wp2_with fail;refine Yd (m.o _) ?_;intro d rfl;go_wp2;go_ret;exact⟨eF (by have:=e;unfold X3 at this;exact this.symm),rfl⟩
   .obtain⟨q,r,s⟩:=P.o v oM
    have a0:decide (f<i)=false:=sO;clear x;by_cases t:f<c
    .have b:nP a c lo=true:=by rw[g.o];simpa using q t
     have e:=zH b;clear b q r s;go_enter Tryz.func265,Tryz.ntmps265;go_wp2_with fail;refine Yd (k.o _) ?_;intro d rfl;go_wp2_with fail;refine Yd (l.o _) ?_;intro d rfl;go_wp2_with fail;refine Yd (m.o _) ?_;intro d rfl;go_wp2;go_ret;exact⟨eF (by have:=e;unfold X3 at this;exact this.symm),rfl⟩
    .have Y:decide (f<c)=false:=sO
     by_cases n:f=c
     case' pos=>
      (have b:nP a c lo=decide (Q<=lo):=by rw[g.o,decide_eq_decide];exact s n);have e:=zH b;have R:(f==c)=true:=by simp[n]
     case' neg=>
      (have b:nP a c lo=false:=by rw[g.o];simpa using r oM);have e:=zH b;have R:(f==c)=false:=by simp[n]
     all_goals
      clear b q r s t n;go_enter Tryz.func265,Tryz.ntmps265;go_wp2_with fail;refine Yd (k.o _) ?_;intro d rfl;go_wp2_with fail;refine Yd (l.o _) ?_;intro d rfl;go_wp2_with fail;refine Yg (m.o _) ?_;go_wp2;go_ret;exact⟨eF (by have:=e;unfold X3 at this;exact this.symm),rfl⟩
theorem or_bit {q:Int} {j:Nat} (e:0<=q) (i:1<=j) (h:q*2^j+2^(j -1)<18446744073709551616):bits BinOp.or IntKind.u64 (q*2^j) (2^(j -1))=q*2^j+2^(j -1):=by
 obtain⟨q,rfl⟩:=bH e;(have c:(q:Int)*2^j=((2^j*q:Nat):Int):=by simp[Int.mul_comm]);have d:(2:Int)^(j -1)=((2^(j -1):Nat):Int):=sM;have f:2^(j -1)<2^j:=Nat.pow_lt_pow_right oM oM;rw[c,d]at h|-;have k:2^j*q+2^(j -1)<18446744073709551616:=by
  generalize 2^j*q=a at*
  generalize 2^(j -1)=b at*
  omega
 have g:=Nat.two_pow_add_eq_or_of_lt f q;generalize 2^j*q=a at*
 generalize 2^(j -1)=b at*
 rw[bits_or_u64_nat a b oM oM,<-g];omega
theorem OP (h:k<64):IntKind.u64.wrap (2^k)=2^k:=by
 rw[IntKind.wrap_u64];have a:2^k<2^64:=Nat.pow_lt_pow_right oM h;have b:((2:Int)^k)=((2^k:Nat):Int):=sM;rw[b];generalize 2^k=c at a;omega
theorem yu (k:Nat):(0:Int)<2^k:=Int.pow_pos dC
theorem qJ {j:Nat} (h:1<=j):(2:Int)^j=2*2^(j -1):=by
 have:j=(j -1)+1:=oM
 conv=>lhs;rw[this,Int.pow_succ]
 omega
theorem key1 {q:Int} {j:Nat} (h:1<=j):(2*q+1)*2^(j -1)=q*2^j+2^(j -1):=by
 rw[qJ h,Int.add_mul,Int.one_mul,Int.mul_comm 2 q,Int.mul_assoc]
theorem key0 {q:Int} {j:Nat} (h:1<=j):(2*q)*2^(j -1)=q*2^j:=by
 rw[qJ h,Int.mul_comm 2 q,Int.mul_assoc]
theorem keyY {q:Int} {j:Nat} (h:1<=j):q*2^j+2^(j -1)+2^(j -1)=q*2^j+2^j:=by
 have:=qJ h;omega
theorem BO {j:Nat} (h:1<=j):((j:Int) -1 -1)=((j -1:Nat):Int) -1:=oM
theorem QU (c lo:Int) (A:Word c) (B:Word lo) (w:World):
  Yk 254 #[uI c,uI lo] w λz u=>z=.returned (uI (vN c lo))/\w=u:=by
 go_enter Tryz.func254,Tryz.ntmps254;go_wp2;go_loop [5,6] (λC i=>∃(a:Nat) (b:Int),a<=43/\i=jI ((a:Int) -1)/\C=uI (b*2^a)/\0<=b/\X3 (b*2^a+2^a<=8796093022208)/\
  X3 (pR c lo a (b*2^a)=vN c lo)) (λ_ i=>(intOf i+1).toNat)
 case atStart=>
  exact⟨43,0,oM,rfl,rfl,oM,by(show(0:Int)*2^43+2^43<=8796093022208);decide,by(show pR c lo 43 (0*2^43)=vN c lo);rw[Int.zero_mul];rfl⟩
 case round=>
  obtain⟨a,b,F,rfl,rfl,t,g,m⟩:=hrel;by_cases d:1<=a
  .have E:decide (0<=(a:Int) -1)=true:=sO
   have K:=OP (k:=a -1) oM;have I:=yu (a -1);have J:0<=b*2^a:=dK t (Int.le_of_lt (yu a));have q:=qJ d;(have s:b*2^a+2^(a -1)<18446744073709551616:=by have:=g.o;omega);have H:=or_bit t d s;have n:=λw=>OG (b*2^a+2^(a -1)) c lo ⟨oM,s⟩ A B w;have r:pR c lo (a -1) (if nP (b*2^a+2^(a -1)) c lo then b*2^a+2^(a -1)else b*2^a)=vN c lo:=by
    rw[<-m.o];have:a=(a -1)+1:=oM
    conv=>rhs;rw[this]
    rw[pR,<-this]
   obtain⟨j,x,l⟩:=Av n q r;clear n q r;by_cases e:nP (b*2^a+2^(a -1)) c lo=true
   .have f:X3 (pR c lo (a -1) (b*2^a+2^(a -1))=vN c lo):=by have:=l.o;rwa [aB e]at this
    go_wp2_with fail;refine Yd (j.o _) ?_;intro u rfl;go_wp2;go_round;(case rel=>exact⟨a -1,2*b+1,oM,by rw[BO d],by rw[key1 d],oM,by rw[key1 d,keyY d];exact g,by rw[key1 d];exact f⟩);case measure=>exact Yl
   .have D:nP (b*2^a+2^(a -1)) c lo=false:=by simpa using e
    (have f:X3 (pR c lo (a -1) (b*2^a)=vN c lo):=by have:=l.o;rwa [Ww e]at this);(have p:b*2^a+2^(a -1)<=8796093022208:=by have:=g.o;have:=x.o;omega);have v:=zH p;clear e p;go_wp2_with fail;refine Yg (j.o _) ?_;go_wp2;go_round;(case rel=>exact⟨a -1,2*b,oM,by rw[BO d],by rw[key0 d],oM,by rw[key0 d];exact v,by rw[key0 d];exact f⟩);case measure=>exact Yl
  .have G:(a:Int)<1:=oM
   have o:a=0:=oM;have y:X3 (b*2^a=vN c lo):=by
    have:=m.o;rw[o]at this|-;exact this
   clear o d;go_wp2;go_ret;exact⟨jk y.o,rfl⟩
theorem Li {a d:Int} (h:a<d):xB a d=true:=by unfold xB;simp;omega
theorem zJ {a b:Int} (e:Word a) (hb:Word b):Word (a*b/18446744073709551616)/\Word (a*b%18446744073709551616):=by
 obtain⟨c,f⟩:=e;obtain⟨d,g⟩:=hb;have i:=dK c d;have j:a*b<=18446744073709551615*18446744073709551615:=by
  refine oK (Int.mul_le_mul_of_nonneg_left (show b<=18446744073709551615 by omega) c) ?_;exact bC oM dC
 generalize a*b=k at*
 exact⟨⟨oM,oM⟩,⟨oM,oM⟩⟩
theorem Qy {n1 n0 u u1 q c Q y:Int} (hy:y=n1*4294967296+n0) (d:q*n1+c=u) (i:4294967296*c+u1<q*n0) (g:Q*y<=u*4294967296+u1) (e:0<y):Q<q:=by
 (have f:q*y=(u -c)*4294967296+q*n0:=by rw[hy,<-d];grind);rcases Int.lt_or_le Q q with b|b
 .exact b
 .have:=bC b (Int.le_of_lt e)
  omega
theorem Qx {n1 n0 u u1 q b Q y:Int} (hy:y=n1*4294967296+n0) (d:q*n1+b=u) (i:q*n0<=4294967296*b+u1) (g:u*4294967296+u1<(Q+1)*y) (e:0<y):q<=Q:=by
 (have f:q*y=(u -b)*4294967296+q*n0:=by rw[hy,<-d];grind);rcases Int.lt_or_le Q q with c|c
 .have:=bC (show Q+1<=q by omega) (Int.le_of_lt e)
  omega
 .exact c
theorem and_low32 (b:0<=x) (d:x<18446744073709551616):bits BinOp.and IntKind.u64 x 4294967295=x%4294967296:=by
 obtain⟨c,rfl⟩:=bH b;have:=bits_and_u64_nat c 4294967295 oM oM;rw[show((4294967295:Nat):Int)=4294967295 from rfl]at this;rw[this,show(4294967295:Nat)=2^32 -1 by decide,Nat.and_two_pow_sub_one_eq_mod];omega
theorem P6 {a v:Int} {s:Nat} (d:0<=a) (c:a*2^s<18446744073709551616) (f:0<=v) (g:v<2^s) (i:v<18446744073709551616):bits BinOp.or IntKind.u64 (a*2^s) v=a*2^s+v:=by
 obtain⟨a,rfl⟩:=bH d;obtain⟨v,rfl⟩:=bH f;(have b:((a:Int)*2^s)=((2^s*a:Nat):Int):=by rw[Int.natCast_mul,Int.natCast_pow,Int.mul_comm];rfl);have e:v<2^s:=by
  (have h:((2:Int)^s)=((2^s:Nat):Int):=by rw[Int.natCast_pow];rfl);rw[h]at g;omega
 rw[b]at c|-;rw[bits_or_u64_nat _ v oM oM,<-Nat.two_pow_add_eq_or_of_lt e];omega
theorem Dz {a b c d:Int} (h:a+b -c=d) (e:0<=d) (f:d<18446744073709551616):IntKind.u64.wrap (IntKind.u64.wrap (IntKind.u64.wrap a+b) -IntKind.u64.wrap c)=d:=by
 simp only[IntKind.wrap_u64];omega
structure Dg (n1 n0 y u a Q:Int):Prop where
 hy:y=n1*4294967296+n0
 hn1:2147483648<=n1
 hn10:0<=n0
 hn01:n0<4294967296
 hn11:n1<4294967296
 hu0:0<=u
 hu1:u<y
 ha0:0<=a
 ha1:a<4294967296
 hq0:Q*y<=u*4294967296+a
 hq1:u*4294967296+a<(Q+1)*y
section
variable {n1 n0 y u a Q:Int}
theorem Dg.pos (h:Dg n1 n0 y u a Q):0<y:=by have:=h.hy;have:=h.hn1;have:=h.hn10;omega
theorem Dg.small (h:Dg n1 n0 y u a Q):Q<4294967296:=by
 rcases Int.lt_or_le Q 4294967296 with b|b
 .exact b
 .have c:=bC b (Int.le_of_lt h.pos)
  have:=h.hq0;have:=h.hu1;have:=h.ha1;omega
theorem Dg.Gg (h:Dg n1 n0 y u a Q):0<=Q:=by
 rcases Int.lt_or_le Q 0 with b|b
 .have c:=bC (show Q+1<=0 by omega) (Int.le_of_lt h.pos)
  have:=h.hq1;have:=h.hu0;have:=h.ha0;omega
 .exact b
theorem Dg.start (h:Dg n1 n0 y u a Q):u.tdiv n1=u/n1/\0<=u/n1/\u/n1<18446744073709551616/\0<=u/n1*n1/\u/n1*n1<=u/\u -u/n1*n1<n1/\Q<=u/n1:=by
 have l:=h.hn1;have c:=Int.ediv_mul_le u (show n1≠0 by omega);have f:=Int.lt_ediv_add_one_mul_self u (show 0<n1 by omega);have b:=Int.ediv_nonneg h.hu0 (show 0<=n1 by omega);have d:=dK b (show 0<=n1 by omega);(have g:(u/n1+1)*n1=u/n1*n1+n1:=by rw[Int.add_mul,Int.one_mul]);have i:u/n1<=u:=Int.ediv_le_self _ h.hu0;have e:=h.hy;have:=h.hu1;have:=h.hn11;have:=h.hn01;refine⟨Int.tdiv_eq_ediv_of_nonneg h.hu0,b,oM,d,c,oM,?_⟩;refine Int.le_ediv_of_mul_le oM ?_;(have j:Q*y=Q*n1*4294967296+Q*n0:=by rw[e];grind);have k:=dK h.Gg h.hn10;have:=h.hq0;have:=h.ha1;omega
theorem Dg.down (h:Dg n1 n0 y u a Q) {q b:Int} (d:q*n1+b=u) (c:4294967296*b+a<q*n0):Q<=q -1:=by
 have:=Qy h.hy d c h.hq0 h.pos;omega
theorem Dg.here (h:Dg n1 n0 y u a Q) {q b:Int} (d:q*n1+b=u) (e:Q<=q) (c:q*n0<=4294967296*b+a):q=Q:=by
 have:=Qx h.hy d c h.hq1 h.pos;omega
theorem Dg.over (h:Dg n1 n0 y u a Q) {q c:Int} (e:q*n1+c=u) (d:Q<=q) (l:4294967296<=c):q=Q:=by
 refine h.here e d ?_;have j:=h.hn1;have m:=h.hy;have:=h.hu1;have:=h.hn01;have k:=h.Gg;have:=h.ha0;have i:q<4294967296:=by
  rcases Int.lt_or_le q 4294967296 with b|b
  .exact b
  .have f:=bC b (show 0<=n1 by omega)
   omega
 have g:=bC (show q<=4294967296 by omega) h.hn10;omega
theorem Dg.next (h:Dg n1 n0 y u a Q) {q b:Int} (c:q*n1+b=u):(q -1)*n1+(b+n1)=u:=by
 rw[Int.sub_mul,Int.one_mul];omega
theorem Dg.rest (h:Dg n1 n0 y u a Q):0<=u*4294967296+a -Q*y/\u*4294967296+a -Q*y<y:=by
 have c:=h.hq0;have b:=h.hq1;rw[Int.add_mul,Int.one_mul]at b;omega
end
theorem Dg.mk' {n1 n0 y u a:Int} (hy:y=n1*4294967296+n0) (b:2147483648<=n1) (c:0<=n0) (d:n0<4294967296) (e:n1<4294967296) (f:0<=u) (g:u<y) (i:0<=a) (j:a<4294967296):Dg n1 n0 y u a ((u*4294967296+a)/y):=
 ⟨hy,b,c,d,e,f,g,i,j,Int.ediv_mul_le _ oM,Int.lt_ediv_add_one_mul_self _ oM⟩
theorem Oj {X d p u a1 a0 Q Q0 R1 R0:Int} (b:0<p) (m:0<d) (n:X*p=u*18446744073709551616+a1*4294967296+a0) (o:u*4294967296+a1=Q*(d*p)+R1) (q:R1*4294967296+a0=Q0*(d*p)+R0) (e:0<=R0) (f:R0<d*p):
  X/d=Q*4294967296+Q0/\X%d=R0/p:=by
 have c:X*p=R0+(Q*4294967296+Q0)*(d*p):=by
  have:u*18446744073709551616=(u*4294967296)*4294967296:=oM;(have l:(Q*4294967296+Q0)*(d*p)=Q*(d*p)*4294967296+Q0*(d*p):=by grind);rw[l];omega
 have g:X*p/(d*p)=X/d:=Int.mul_ediv_mul_of_pos_left _ _ b;(have i:X*p%(d*p)=X%d*p:=by rw[Int.mul_comm X p,Int.mul_comm d p,Int.mul_emod_mul_of_pos _ _ b,Int.mul_comm]);have r:=Int.mul_pos m b;have j:X*p/(d*p)=Q*4294967296+Q0:=by
  rw[c,Int.add_mul_ediv_right _ _ oM,Int.ediv_eq_zero_of_lt e f,Int.zero_add]
 have k:X*p%(d*p)=R0:=by
  rw[c,Int.add_mul_emod_self_right,Int.emod_eq_of_lt e f]
 refine⟨by rw[<-g,j],?_⟩;rw[<-k,i,Int.mul_ediv_cancel _ oM]
theorem Om (i lo d:Int) (b6:Word i) (b7:Word lo) (g7:Word d) (h:i<d) (w:World):
  Yk 251 #[uI i,uI lo,uI d] w λd0 f4=>d0=.returned (.tuple #[uI (xX i lo d),uI (divR i lo d)])/\∃h4,f4=w.drewN h4:=by
 have e4:¬d<=i:=oM;(have d1:xX i lo d=(i*18446744073709551616+lo)/d:=by unfold xX;rw[Ww e4]);(have d2:divR i lo d=(i*18446744073709551616+lo)%d:=by unfold divR;rw[Ww e4]);rw[d1,d2];clear d1 d2;obtain⟨d3,j1⟩:=b6;obtain⟨V,h3⟩:=b7;obtain⟨c9,i8⟩:=g7;have j0:(d==0)=false:=sO;have i9:decide (d<=i)=false:=sO;by_cases e9:i=0
 .subst e9
  have f9:d≠0:=oM;have c7:lo.tdiv d=lo/d:=Int.tdiv_eq_ediv_of_nonneg V;have l2:lo.tmod d=lo%d:=Int.tmod_eq_emod_of_nonneg V;have l3:=Int.ediv_nonneg V c9;have l4:=iQ lo f9;have l5:lo/d<=lo:=Int.ediv_le_self _ V;have l6:=iN lo (show 0<d by omega);have l7:lo/d<18446744073709551616:=oM;have l8:lo%d<18446744073709551616:=oM;go_enter Tryz.func251,Tryz.ntmps251;go_wp2;refine bN kR kR ?_;(repeat (first|go_big_quiet_step (fail)|quiet_step (fail)));refine aK ?_;rintro _ ⟨nq,rfl⟩;go_wp2;go_ret2;exact⟨sM,_,rfl⟩
 .have j7:(i==0)=false:=by simp[e9]
  have b8:=λw=>Tryz.bits_LeadingZeros64 d w oM oM;have b7:=Lib.bitLen_le d.toNat 64 oM oM;obtain⟨g6,d7⟩:=WX d.toNat oM oM;(have g5:Lib.bitLen d.toNat≠0:=by intro b6;rw[b6]at d7;omega);generalize g4:Lib.bitLen d.toNat=c8 at*
  obtain⟨e,rfl⟩:∃e,c8=64 -e:=⟨64 -c8,oM⟩;have j6:e<=63:=oM;have e5:(64:Int) -((64 -e:Nat):Int)=(e:Int):=oM;rw[e5]at b8;have f6:=zH b8;clear b8 g5 b7 g4 e5;(have Y:(2:Int)^e*2^(64 -e)=18446744073709551616:=by rw[<-Int.pow_add,show e+(64 -e)=64 by omega];decide);(have b1:((2^(64 -e):Nat):Int)=(2:Int)^(64 -e):=by rw[Int.natCast_pow];rfl);have g:((d.toNat:Nat):Int)=d:=Int.toNat_of_nonneg c9;(have d9:(2:Int)^(64 -e)<=2*d:=by rw[<-b1];omega);(have d8:d<(2:Int)^(64 -e):=by rw[<-b1];omega);have W:(0:Int)<2^e:=Int.pow_pos dC;have c4:(0:Int)<2^(64 -e):=Int.pow_pos dC;have f5:d*2^e<18446744073709551616:=by
   have:=Int.mul_lt_mul_of_pos_right d8 W;rw[<-Y,Int.mul_comm (2^e)];exact this
  have i1:9223372036854775808<=d*2^e:=by
   have:=bC d9 (Int.le_of_lt W);rw[Int.mul_comm (2^(64 -e)),Y,Int.mul_assoc]at this;omega
  have h9:=Int.ediv_nonneg V (Int.le_of_lt c4);have f3:lo/2^(64 -e)<2^e:=Int.ediv_lt_of_lt_mul c4 (by rw[Y];exact h3);have i0:lo/2^(64 -e)<=lo:=Int.ediv_le_self _ V;have m3:=dK d3 (Int.le_of_lt W);have J:i*2^e+2^e<=d*2^e:=by
   have:=bC (show i+1<=d by omega) (Int.le_of_lt W)
   rwa [Int.add_mul,Int.one_mul]at this
  have r:i*2^e<18446744073709551616:=oM;have g2:=P6 d3 r h9 f3 oM;have g1:=and_low32 (x:=d*2^e) oM f5;have g3:IntKind.u64.wrap (lo*2^e)=lo*2^e%18446744073709551616:=IntKind.wrap_u64 _;have f2:=iQ (lo*2^e) (show(18446744073709551616:Int)≠0 by decide);have c7:=iN (lo*2^e) (show(0:Int)<18446744073709551616 by decide);have e0:lo*2^e/18446744073709551616=lo/2^(64 -e):=by
   rw[<-Y,Int.mul_comm lo,Int.mul_ediv_mul_of_pos _ _ W]
  have b4:(i*18446744073709551616+lo)*2^e=(i*2^e+lo/2^(64 -e))*18446744073709551616+lo*2^e%18446744073709551616:=by
   rw[<-e0];(have g0:(i*18446744073709551616+lo)*2^e=i*2^e*18446744073709551616+lo*2^e:=by grind);rw[g0];omega
  have e8:0<=i*2^e+lo/2^(64 -e):=oM;have a7:i*2^e+lo/2^(64 -e)<d*2^e:=oM;have g8:0<d:=oM;have d6:0<(2:Int)^e:=W;clear Y b1 g d9 d8 f3 i0 J e0 g6 d7 c4;obtain⟨E,Z⟩:∃E,d*2^e=E:=⟨_,rfl⟩;obtain⟨u,e7⟩:∃u,i*2^e+lo/2^(64 -e)=u:=⟨_,rfl⟩;obtain⟨a8,e6⟩:∃a8,lo*2^e%18446744073709551616=a8:=⟨_,rfl⟩;rw[e7]at g2 b4 e8 a7;rw[Z]at g1 i1 a7;rw[e6]at g3 f2 c7 b4;(have m4:E<18446744073709551616:=by rw[<-Z];exact f5);have l9:=and_low32 f2 c7;obtain⟨n1,j5⟩:∃n1,E/4294967296=n1:=⟨_,rfl⟩;obtain⟨n0,j4⟩:∃n0,E%4294967296=n0:=⟨_,rfl⟩;obtain⟨G,j3⟩:∃G,a8/4294967296=G:=⟨_,rfl⟩;obtain⟨m,j2⟩:∃m,a8%4294967296=m:=⟨_,rfl⟩;have C:=Dg.mk' (n1:=n1) (n0:=n0) (y:=E) (u:=u) (a:=G) oM oM oM oM oM e8 a7 oM oM;obtain⟨a5,a6⟩:=C.rest;obtain⟨U,d5⟩:∃U,(u*4294967296+G)/E=U:=⟨_,rfl⟩;rw[d5]at C a5 a6;obtain⟨n,b3⟩:∃n,u*4294967296+G -U*E=n:=⟨_,rfl⟩;rw[b3]at a5 a6;have I:=Dg.mk' (n1:=n1) (n0:=n0) (y:=E) (u:=n) (a:=m) oM oM oM oM oM a5 a6 oM oM;obtain⟨a3,a4⟩:=I.rest;obtain⟨F,d4⟩:∃F,(n*4294967296+m)/E=F:=⟨_,rfl⟩;rw[d4]at I a3 a4;obtain⟨a2,b2⟩:∃a2,n*4294967296+m -F*E=a2:=⟨_,rfl⟩;rw[b2]at a3 a4;have e1:=Oj (X:=i*18446744073709551616+lo) (d:=d) (p:=2^e) (u:=u) (a1:=G) (a0:=m) (Q:=U) (Q0:=F) (R1:=n) (R0:=a2) d6 g8 oM (by rw[Z];omega) (by rw[Z];omega) a3 (by rw[Z];exact a4);have m1:=Dz b3 a5 oM;have m0:=Dz b2 a3 oM;have m2:(2:Int)^e≠0:=oM;obtain⟨k7,k8,k5,k6,k2,k3⟩:=LX C.Gg C.small I.Gg I.small C.hn1 C.hn11;have k4:(n1=0)=False:=sO;obtain⟨i6,i7,i4,i5,L,k1⟩:=LX C.ha0 C.ha1 I.ha0 I.ha1 C.hn10 C.hn01;obtain⟨h5,h6,h7,h8,f1,c5,c6⟩:=C.start;obtain⟨g9,h0,h1,h2,f0,b9,c0⟩:=I.start;obtain⟨K,e3⟩:∃K,u/n1=K:=⟨_,rfl⟩;obtain⟨D,e2⟩:∃D,n/n1=D:=⟨_,rfl⟩;rw[e3]at h5 h6 h7 h8 f1 c5 c6;rw[e2]at g9 h0 h1 h2 f0 b9 c0;have l0:K*n1<18446744073709551616:=oM;have j9:D*n1<18446744073709551616:=oM;have l1:0<=u -K*n1:=oM;have k0:0<=n -D*n1:=oM;have k9:u -K*n1<18446744073709551616:=oM;have j8:n -D*n1<18446744073709551616:=oM;have u64:u<18446744073709551616:=oM;have i3:n<18446744073709551616:=oM;obtain⟨T,l,H,f7,f8,a9⟩:=Fy C I e1 (show u -K*n1<n1 from c5) c6 (show n -D*n1<n1 from b9);obtain⟨b0,i2⟩:=yx c0 (show a2<18446744073709551616 by omega);clear C I e1 b4 b3 b2 d5 d4 e3 e2 f1 f0 c5 c6 b9 c0 e7 e6 d6 a6 a4 a7;go_enter Tryz.func251,Tryz.ntmps251;go_wp2_with (first|(go_at_call 255;refine(f6.o _).mono ?_;rintro d0 f4 ⟨rfl,rfl⟩));go_loop [15,16] (λJ r=>∃(b c:Int),J=uI b/\r=uI c/\b*n1+c=u/\U<=b/\0<=c/\c<4294967296/\b<18446744073709551616) (λ_ r=>4294967296 -(intOf r).toNat);(case atStart=>exact⟨K,u -K*n1,rfl,rfl,oM,f8.o,oM,by have:=f7.o;omega,oM⟩);case round=>
   obtain⟨b,c,rfl,rfl,f,k,A,B,z⟩:=hrel;have P:0<=b:=oM;by_cases b5:4294967296<=b
   .have M:decide (4294967296<=b)=true:=sO
    have g:U<=b -1:=oM;have j:=T.o.next f;have S:c+n1<18446744073709551616:=oM;by_cases t:4294967296<=c+n1
    .have v:decide (4294967296<=c+n1)=true:=sO
     have s:=T.o.over j g t;clear f k A B z;go_wp2;go_loop [18,16] (λJ r=>∃(b c:Int),J=uI b/\r=uI c/\b*n1+c=n/\F<=b/\0<=c/\c<4294967296/\b<18446744073709551616) (λ_ r=>4294967296 -(intOf r).toNat);(case atStart=>exact⟨D,n -D*n1,rfl,rfl,oM,b0.o,oM,by have:=a9.o;omega,oM⟩);case round=>
      obtain⟨b,c,rfl,rfl,f,k,A,B,z⟩:=hrel;have P:0<=b:=oM;by_cases b5:4294967296<=b
      .have M:decide (4294967296<=b)=true:=sO
       have g:F<=b -1:=oM;have j:=l.o.next f;have S:c+n1<18446744073709551616:=oM;by_cases t:4294967296<=c+n1
       .have v:decide (4294967296<=c+n1)=true:=sO
        have s:=l.o.over j g t;clear f k A B z;go_wp2;go_ret2;obtain⟨o,q⟩:=H.o;rw[o,q];exact⟨rfl,0,rfl⟩
       .have v:decide (4294967296<=c+n1)=false:=sO
        go_wp2;go_round;(case rel=>exact⟨b -1,c+n1,rfl,rfl,j,g,oM,oM,oM⟩);case measure=>exact Yl
      .have M:decide (4294967296<=b)=false:=sO
       have c1:=dK P L;have c2:b*n0<18446744073709551616:=by
        have:=bC (show b<=4294967295 by omega) L;omega
       have c3:4294967296*c+m<18446744073709551616:=oM;by_cases O:4294967296*c+m<b*n0
       .have N:decide (4294967296*c+m<b*n0)=true:=sO
        have g:=l.o.down f O;have j:=l.o.next f;have S:c+n1<18446744073709551616:=oM;by_cases t:4294967296<=c+n1
        .have v:decide (4294967296<=c+n1)=true:=sO
         have s:=l.o.over j g t;have R:0<=b -1:=oM;clear f k A B z;go_wp2;go_ret2;obtain⟨o,q⟩:=H.o;rw[o,q];exact⟨rfl,0,rfl⟩
        .have v:decide (4294967296<=c+n1)=false:=sO
         have R:0<=b -1:=oM;go_wp2;go_round;(case rel=>exact⟨b -1,c+n1,rfl,rfl,j,g,oM,oM,oM⟩);case measure=>exact Yl
       .have N:decide (4294967296*c+m<b*n0)=false:=sO
        have s:=l.o.here f k oM;subst s;clear f k A B z;go_wp2;go_ret2;obtain⟨o,q⟩:=H.o;rw[o,q];exact⟨rfl,0,rfl⟩
    .have v:decide (4294967296<=c+n1)=false:=sO
     go_wp2;go_round;(case rel=>exact⟨b -1,c+n1,rfl,rfl,j,g,oM,oM,oM⟩);case measure=>exact Yl
   .have M:decide (4294967296<=b)=false:=sO
    have c1:=dK P L;have c2:b*n0<18446744073709551616:=by
     have:=bC (show b<=4294967295 by omega) L;omega
    have c3:4294967296*c+G<18446744073709551616:=oM;by_cases O:4294967296*c+G<b*n0
    .have N:decide (4294967296*c+G<b*n0)=true:=sO
     have g:=T.o.down f O;have j:=T.o.next f;have S:c+n1<18446744073709551616:=oM;by_cases t:4294967296<=c+n1
     .have v:decide (4294967296<=c+n1)=true:=sO
      have s:=T.o.over j g t;have R:0<=b -1:=oM;clear f k A B z;go_wp2;go_loop [18,16] (λJ r=>∃(b c:Int),J=uI b/\r=uI c/\b*n1+c=n/\F<=b/\0<=c/\c<4294967296/\b<18446744073709551616) (λ_ r=>4294967296 -(intOf r).toNat);(case atStart=>exact⟨D,n -D*n1,rfl,rfl,oM,b0.o,oM,by have:=a9.o;omega,oM⟩);case round=>
       obtain⟨b,c,rfl,rfl,f,k,A,B,z⟩:=hrel;have P:0<=b:=oM;by_cases b5:4294967296<=b
       .have M:decide (4294967296<=b)=true:=sO
        have g:F<=b -1:=oM;have j:=l.o.next f;have S:c+n1<18446744073709551616:=oM;by_cases t:4294967296<=c+n1
        .have v:decide (4294967296<=c+n1)=true:=sO
         have s:=l.o.over j g t;clear f k A B z;go_wp2;go_ret2;obtain⟨o,q⟩:=H.o;rw[o,q];exact⟨rfl,0,rfl⟩
        .have v:decide (4294967296<=c+n1)=false:=sO
         go_wp2;go_round;(case rel=>exact⟨b -1,c+n1,rfl,rfl,j,g,oM,oM,oM⟩);case measure=>exact Yl
       .have M:decide (4294967296<=b)=false:=sO
        have c1:=dK P L;have c2:b*n0<18446744073709551616:=by
         have:=bC (show b<=4294967295 by omega) L;omega
        have c3:4294967296*c+m<18446744073709551616:=oM;by_cases O:4294967296*c+m<b*n0
        .have N:decide (4294967296*c+m<b*n0)=true:=sO
         have g:=l.o.down f O;have j:=l.o.next f;have S:c+n1<18446744073709551616:=oM;by_cases t:4294967296<=c+n1
         .have v:decide (4294967296<=c+n1)=true:=sO
          have s:=l.o.over j g t;have R:0<=b -1:=oM;clear f k A B z;go_wp2;go_ret2;obtain⟨o,q⟩:=H.o;rw[o,q];exact⟨rfl,0,rfl⟩
         .have v:decide (4294967296<=c+n1)=false:=sO
          have R:0<=b -1:=oM;go_wp2;go_round;(case rel=>exact⟨b -1,c+n1,rfl,rfl,j,g,oM,oM,oM⟩);case measure=>exact Yl
        .have N:decide (4294967296*c+m<b*n0)=false:=sO
         have s:=l.o.here f k oM;subst s;clear f k A B z;go_wp2;go_ret2;obtain⟨o,q⟩:=H.o;rw[o,q];exact⟨rfl,0,rfl⟩
     .have v:decide (4294967296<=c+n1)=false:=sO
      have R:0<=b -1:=oM;go_wp2;go_round;(case rel=>exact⟨b -1,c+n1,rfl,rfl,j,g,oM,oM,oM⟩);case measure=>exact Yl
    .have N:decide (4294967296*c+G<b*n0)=false:=sO
     have s:=T.o.here f k oM;subst s;clear f k A B z;go_wp2;go_loop [18,16] (λJ r=>∃(b c:Int),J=uI b/\r=uI c/\b*n1+c=n/\F<=b/\0<=c/\c<4294967296/\b<18446744073709551616) (λ_ r=>4294967296 -(intOf r).toNat);(case atStart=>exact⟨D,n -D*n1,rfl,rfl,oM,b0.o,oM,by have:=a9.o;omega,oM⟩);case round=>
      obtain⟨b,c,rfl,rfl,f,k,A,B,z⟩:=hrel;have P:0<=b:=oM;by_cases b5:4294967296<=b
      .have M:decide (4294967296<=b)=true:=sO
       have g:F<=b -1:=oM;have j:=l.o.next f;have S:c+n1<18446744073709551616:=oM;by_cases t:4294967296<=c+n1
       .have v:decide (4294967296<=c+n1)=true:=sO
        have s:=l.o.over j g t;clear f k A B z;go_wp2;go_ret2;obtain⟨o,q⟩:=H.o;rw[o,q];exact⟨rfl,0,rfl⟩
       .have v:decide (4294967296<=c+n1)=false:=sO
        go_wp2;go_round;(case rel=>exact⟨b -1,c+n1,rfl,rfl,j,g,oM,oM,oM⟩);case measure=>exact Yl
      .have M:decide (4294967296<=b)=false:=sO
       have c1:=dK P L;have c2:b*n0<18446744073709551616:=by
        have:=bC (show b<=4294967295 by omega) L;omega
       have c3:4294967296*c+m<18446744073709551616:=oM;by_cases O:4294967296*c+m<b*n0
       .have N:decide (4294967296*c+m<b*n0)=true:=sO
        have g:=l.o.down f O;have j:=l.o.next f;have S:c+n1<18446744073709551616:=oM;by_cases t:4294967296<=c+n1
        .have v:decide (4294967296<=c+n1)=true:=sO
         have s:=l.o.over j g t;have R:0<=b -1:=oM;clear f k A B z;go_wp2;go_ret2;obtain⟨o,q⟩:=H.o;rw[o,q];exact⟨rfl,0,rfl⟩
        .have v:decide (4294967296<=c+n1)=false:=sO
         have R:0<=b -1:=oM;go_wp2;go_round;(case rel=>exact⟨b -1,c+n1,rfl,rfl,j,g,oM,oM,oM⟩);case measure=>exact Yl
       .have N:decide (4294967296*c+m<b*n0)=false:=sO
        have s:=l.o.here f k oM;subst s;clear f k A B z;go_wp2;go_ret2;obtain⟨o,q⟩:=H.o;rw[o,q];exact⟨rfl,0,rfl⟩
theorem GK (a lo d:Int) (l:Word a) (m:Word lo) (k:Word d) (w:World):
  Yk 231 #[uI a,uI lo,uI d] w λj g=>j=.returned (.tuple #[uI (xX a lo d),uI (divR a lo d),bV (xB a d)])/\∃c,g=w.drewN c:=by
 by_cases h:d<=a
 .have e:xX a lo d=0:=by unfold xX;rw[aB h]
  (have f:divR a lo d=0:=by unfold divR;rw[aB h]);(have b:xB a d=false:=by unfold xB;simp[h]);rw[e,f,b];clear e f b;go_enter Tryz.func231,Tryz.ntmps231;go_wp2_with fail;go_ret3;exact⟨rfl,0,rfl⟩
 .have n:decide (d<=a)=false:=sO
  have b:xB a d=true:=Li oM;rw[b];clear b;have i:=zH (Om a lo d l m k oM);go_enter Tryz.func231,Tryz.ntmps231;go_wp2_with fail;refine Yd (i.o _) ?_;rintro g ⟨c,rfl⟩;go_wp2_with fail;go_ret3;exact⟨rfl,c,rfl⟩
theorem QO {a b d:Int} (e:Word a) (hb:Word b) (f:Word d):
  jv a b d=if xB (a*b/18446744073709551616) d then xX (a*b/18446744073709551616) (a*b%18446744073709551616) d else 18446744073709551615:=by
 unfold jv xB xX;have c:a*b/18446744073709551616*18446744073709551616+a*b%18446744073709551616=a*b:=oM;rw[c];by_cases h:d<=a*b/18446744073709551616<;>simp[h]
theorem gK {a b d:Int} (f:Word a) (hb:Word b) (g:Word d):Word (jv a b d):=by
 unfold jv;split
 .exact⟨dC,dC⟩
 .rename_i h
  have c:=dK f.1 hb.1;(have i:0<d:=by have:=g.1;omega);have e:a*b<18446744073709551616*d:=oM;exact⟨Int.ediv_nonneg c oM,Int.ediv_lt_of_lt_mul i e⟩
theorem NH (a b:Int) (k:Word a) (hb:Word b) (w:World):
  Yk 230 #[uI a,uI b] w λc e=>c=.returned (.tuple #[uI (a*b/18446744073709551616),uI (a*b%18446744073709551616)])/\w=e:=by
 obtain⟨f,l⟩:=k;obtain⟨g,m⟩:=hb;obtain⟨a,rfl⟩:=bH f;obtain⟨b,rfl⟩:=bH g;have d:=Tryz.bits_Mul64 a b oM oM w;have i:((a*b/18446744073709551616:Nat):Int)=(a:Int)*b/18446744073709551616:=sM;have j:((a*b%18446744073709551616:Nat):Int)=(a:Int)*b%18446744073709551616:=sM;rw[i,j]at d;exact d.mono λc e h=>⟨h.1,h.2.symm⟩
theorem lS (a b d:Int) (i:Word a) (hb:Word b) (n:Word d) (w:World):
  Yk 179 #[uI a,uI b,uI d] w λf e=>f=.returned (uI (jv a b d))/\∃c,e=w.drewN c:=by
 obtain⟨p,q⟩:=zJ i hb;have f:=QO i hb n;obtain⟨m,l,k⟩:=Av (NH a b i hb) (GK _ _ _ p q n) f;clear f;generalize a*b/18446744073709551616=j at*
 generalize a*b%18446744073709551616=o at*
 by_cases h:xB j d=true
 .have g:X3 (jv a b d=xX j o d):=zH (by rw[k.o,aB h])
  go_enter Tryz.func179,Tryz.ntmps179;go_wp2_with fail;refine Yd (m.o _) ?_;intro e rfl;go_wp2_with fail;refine Yd (l.o _) ?_;rintro e ⟨c,rfl⟩;go_wp2;go_ret;exact⟨jk g.o.symm,c,rfl⟩
 .have r:xB j d=false:=by simpa using h
  have g:X3 (jv a b d=18446744073709551615):=zH (by rw[k.o,Ww h]);clear h;go_enter Tryz.func179,Tryz.ntmps179;go_wp2_with fail;refine Yd (m.o _) ?_;intro e rfl;go_wp2_with fail;refine Yd (l.o _) ?_;rintro e ⟨c,rfl⟩;go_wp2;go_ret;exact⟨jk g.o.symm,c,rfl⟩
theorem Aj {k a b:Int} (c:0<=k) (d:Word a) (hb:Word b):Word (xP k a b):=by
 unfold xP;have f:=dK c d.1;have g:k*a<=k*18446744073709551615:=Int.mul_le_mul_of_nonneg_left (by have:=d.2;omega) c;have e:(k+1)*18446744073709551616=k*18446744073709551615+k+18446744073709551616:=oM;refine⟨Int.ediv_nonneg (by have:=hb.1;omega) oM,Int.ediv_lt_of_lt_mul oM (by rw[Int.mul_comm 18446744073709551616,e];have:=hb.2;omega)⟩
theorem IX {k a b:Int} (g:0<=k) (r:k<=1000) (l:Word a) (hb:Word b):
  ∃d f c:Int,k*a/18446744073709551616=d/\(k*a%18446744073709551616+b)%18446744073709551616=f/\(k*a%18446744073709551616+b)/18446744073709551616=c/\0<=c/\c<=1/\0<=d/\d+c<=k/\Word (d+c)/\Word f/\xX (d+c) f (k+1)=xP k a b:=by
 obtain⟨i,m⟩:=l;obtain⟨n,o⟩:=hb;have p:=dK g i;have q:k*a<=k*18446744073709551615:=Int.mul_le_mul_of_nonneg_left oM g;refine⟨_,_,_,rfl,rfl,rfl,?_⟩;unfold xX xP;generalize k*a=e at*
 have j:(e/18446744073709551616+(e%18446744073709551616+b)/18446744073709551616)*18446744073709551616+(e%18446744073709551616+b)%18446744073709551616=e+b:=oM;refine⟨oM,oM,oM,oM,⟨oM,oM⟩,⟨oM,oM⟩,?_⟩;rw[j,Ww oM]
theorem Ey (k a b:Int) (n:0<=k) (v:k<=1000) (c:Word a) (hb:Word b) (w:World):
  Yk 191 #[uI k,uI a,uI b] w λt g=>t=.returned (uI (xP k a b))/\∃f,g=w.drewN f:=by
 obtain⟨u,z,s,i,j,l,C,D,F,E,A,B,m⟩:=IX n v c hb;have o:Word k:=⟨n,oM⟩;have x:Word (k+1):=⟨oM,oM⟩;have d:=λw=>uW k a o c w;have p:=(zJ o c).2;have y:=λw=>ME (k*a%18446744073709551616) b p.1 hb.1 w;have e:=λw=>GK (u+s) z (k+1) A B x w;rw[i]at d;rw[j,l]at y;rw[m]at e;generalize k*a%18446744073709551616=G at*
 obtain⟨q,r⟩:=yx d e;clear d e i j l m p;go_enter Tryz.func191,Tryz.ntmps191;go_wp2_with fail;refine Yd (q.o _) ?_;intro g rfl;go_wp2_with fail;refine Yd (r.o _) ?_;rintro g ⟨f,rfl⟩;go_wp2;go_ret;exact⟨rfl,f,rfl⟩
theorem Kg (a:Rt) (first d:Int) (c:Word a.bK) (g:Word a.mJ) (l:Word first) (o:Word d) (w:World):
  Yk 137 #[.agg #[bV a.has,uI a.mJ,uI a.bK,uI a.var,uI a.bn],uI first,uI d] w λj f=>j=.returned (uI (lJ a first d))/\bW w f:=by
 obtain⟨k,m,i,p,n⟩:=a;simp only at c g;cases k
 .have b:=zH (lS first 9 8 l ⟨dC,dC⟩ ⟨dC,dC⟩)
  go_enter Tryz.func137,Tryz.ntmps137;go_wp2_with fail;refine Yd (b.o _) ?_;rintro f ⟨e,rfl⟩;go_wp2;go_ret;exact⟨rfl,aA ((aj _ _).alloc (av _) _) e⟩
 .have b:=zH (lS (max i m) 9 8 ⟨by have:=c.1;omega,by have:=c.2;have:=g.2;omega⟩ ⟨dC,dC⟩ ⟨dC,dC⟩)
  go_enter Tryz.func137,Tryz.ntmps137;go_wp2_with fail;refine Yd (b.o _) ?_;rintro f ⟨e,rfl⟩;go_wp2;go_ret;exact⟨rfl,aA ((aj _ _).alloc (av _) _) e⟩
theorem Hq (c:Rt) (first d:Int) (l:Word c.bK) (i:Word c.var) (g:Word first) (k:Word d) (w:World):
  Yk 141 #[.agg #[bV c.has,uI c.mJ,uI c.bK,uI c.var,uI c.bn],uI first,uI d] w λf e=>f=.returned (uI (qP c first d))/\bW w e:=by
 obtain⟨p,t,o,j,s⟩:=c;simp only at l i;have m:=kN (a:=2) (b:=first) ⟨dC,dC⟩ g;have n:=kN (a:=4) (b:=j) ⟨dC,dC⟩ i;have q:Word (max (wW 2 first) d):=⟨by have:=m.1;omega,by have:=m.2;have:=k.2;omega⟩;have r:Word (max (wW 4 j) d):=⟨by have:=n.1;omega,by have:=n.2;have:=k.2;omega⟩;cases p
 .go_enter Tryz.func141,Tryz.ntmps141
  go_wp2_with fail;refine Yd (wH 2 first ⟨dC,dC⟩ g _) ?_;intro e rfl;go_wp2_with fail;refine Yd (nY _ _ g q _) ?_;intro e rfl;go_wp2;go_ret;exact⟨rfl,(aj _ _).alloc (av _) _⟩
 .go_enter Tryz.func141,Tryz.ntmps141
  go_wp2_with fail;go_quiet (first|((go_at_call 178;exact aJ ((wH 4 j ⟨dC,dC⟩ i _).mono λf e h=>⟨h.1,h.2.symm⟩)))|((go_at_call 146;exact aJ ((nY o _ l r _).mono λf e h=>⟨h.1,h.2.symm⟩))));go_wp2;go_ret;exact⟨rfl,aA ((aj _ _).alloc (av _) _) _⟩
theorem Kt (a:Rt) (x:Int) (c:Word a.bK) (g:Word a.var) (b:Word x) (w:World):
  Yk 121 #[.agg #[bV a.has,uI a.mJ,uI a.bK,uI a.var,uI a.bn],uI x] w λf d=>f=.returned (.agg #[bV (mY a x).has,uI (mY a x).mJ,uI (mY a x).bK,uI (mY a x).var,uI (mY a x).bn])/\bW w d:=by
 obtain⟨l,o,e,m,n⟩:=a;simp only at c g;have r:=b.1;have s:=b.2;cases l
 .go_enter Tryz.func121,Tryz.ntmps121
  go_wp2;go_returns;exact⟨rfl,by go_grown⟩
 .have k:=uK c b
  obtain⟨i,j⟩:=yx (Ey 3 m _ dC dC g k) (Ey 7 e x dC dC c b);go_enter Tryz.func121,Tryz.ntmps121;go_wp2;refine bP 8 kR kR ?_;refine mD ?_;(repeat (quiet_step ((first|(go_at_call 192;exact aJ ((JK e x c b _).mono λf d h=>⟨h.1,h.2.symm⟩))|(go_at_call 191;exact dn (i.o _))))));refine aK ?_;rintro _ ⟨q,rfl⟩;refine dA rfl rfl ?_;go_simp;refine aK ?_;go_wp2_with fail;refine Yd (j.o _) ?_;rintro d ⟨p,rfl⟩;go_wp2;go_returns;exact⟨rfl,BEL⟩
structure oz (x:Wi):Prop where
 cr:Word x.cr
 dL:Word x.dL
 acc:Word x.acc
 jF:Word x.jF
 gX:Word x.gX
 k:Word x.k
 fair:Word x.fair
theorem qo {a b:Int} (c:Word a) (hb:Word b):Word (min a b):=by obtain⟨_,_⟩:=c;obtain⟨_,_⟩:=hb;exact⟨oM,oM⟩
theorem kX {a b:Int} (c:Word a) (hb:Word b):Word (max a b):=by obtain⟨_,_⟩:=c;obtain⟨_,_⟩:=hb;exact⟨oM,oM⟩
theorem CY (w:World) (o:Obj):(w.alloc o).heap.size=w.heap.size+1:=sM
theorem sF:Word 2:=⟨dC,dC⟩
theorem Ic (x:Wi) (b a:Int) (p:oz x) (o:Word b) (f:Word a) (w:World):
  Yk 239 #[.agg #[uI x.cr,uI x.dL,uI x.acc,uI x.jF,uI x.gX,uI x.k,uI x.fair],uI b,uI a] w λc d=>c=.returned (.agg #[uI (qz x b a).cr,uI (qz x b a).dL,uI (qz x b a).acc,uI (qz x b a).jF,uI (qz x b a).gX,uI (qz x b a).k,uI (qz x b a).fair])/\bW w d:=by
 obtain⟨g,t,s,y,v,z,u⟩:=x;obtain⟨e,i,j,k,l,m,n⟩:=p;simp only at e i j k l m n;have q:=kN sF f;have r:=qo o q;go_enter Tryz.func239,Tryz.ntmps239;go_wp2;refine bP 8 kR kR ?_;refine mD ?_;(repeat (quiet_step ((first|(go_at_call 178;exact aJ ((wH 2 a sF f _).mono λc d h=>⟨h.1,h.2.symm⟩))|(go_at_call 146;exact aJ ((nY g _ e r _).mono λc d h=>⟨h.1,h.2.symm⟩))))));refine aK ?_;rintro _ ⟨A,rfl⟩;refine dA rfl rfl ?_;go_simp;refine aK ?_;go_wp2;go_returns;exact⟨rfl,BEL⟩
theorem Ku (x:Wi) (a b:Int) (n:oz x) (m:Word a) (v:Word b) (w:World):
  Yk 194 #[.agg #[uI x.cr,uI x.dL,uI x.acc,uI x.jF,uI x.gX,uI x.k,uI x.fair],uI a,uI b] w λB y=>B=.returned (.agg #[uI (lK x a b).cr,uI (lK x a b).dL,uI (lK x a b).acc,uI (lK x a b).jF,uI (lK x a b).gX,uI (lK x a b).k,uI (lK x a b).fair])/\bW w y:=by
 by_cases f:x.cr<x.dL
 .have A:=zH (Ic x a b n m v)
  (have e:lK x a b=qz x a b:=by unfold lK;rw[aB f]);rw[e];obtain⟨c,g,d,k,j,l,i⟩:=x;simp only at f;clear e;go_enter Tryz.func194,Tryz.ntmps194;go_wp2_with fail;refine Yd (A.o _) ?_;intro I t;have s:=(Wx (w.alloc _) _ _).below t sM;have u:bW w I:=((aj w.heap.size w).alloc (av _) _|>.alloc sM _).trans (t.mono sO);rw[CY]at s;obtain⟨N,U,O,V,P,W,Q,X,R,Y,S,Z,T,a0⟩:=s.c7;have z:=zH u;clear t s u;go_wp2;refine mZ ?_;have u:=z.o;exact⟨rfl,BEL⟩
 .have r:=fB n.acc m
  have H:=fB n.cr v;obtain⟨c,g,d,k,j,l,i⟩:=x;obtain⟨p,C,q,D,E,F,G⟩:=n;simp only at f p C q D E F G r H;have L:decide (c<g)=false:=sO;obtain⟨J,K,a1⟩:=FX r.1 r.2 p.1;by_cases o:c<=WI d a
  .have e:lK ⟨c,g,d,k,j,l,i⟩ a b=⟨WI c b,g,WI d a -c,k,j,l,i⟩:=by unfold lK;simp only;rw[Ww f,aB o]
   rw[e];clear e f;go_enter Tryz.func194,Tryz.ntmps194;go_wp2_with fail;refine Yd (nY d a q m _) ?_;intro y rfl;go_wp2_with fail;refine Yd (nY c b p v _) ?_;intro y rfl;go_wp2;go_returns;exact⟨rfl,BEL⟩
  .have e:lK ⟨c,g,d,k,j,l,i⟩ a b=⟨c,g,WI d a,k,j,l,i⟩:=by unfold lK;simp only;rw[Ww f,Ww o]
   rw[e];have M:decide (c<=WI d a)=false:=sO;clear e f o;go_enter Tryz.func194,Tryz.ntmps194;go_wp2_with fail;refine Yg (nY d a q m _) ?_;go_wp2;go_returns;exact⟨rfl,BEL⟩
theorem Nl (x:Wi) (b a:Int) (q:oz x) (o:Word b) (p:Word a) (w:World):
  Yk 203 #[.agg #[uI x.cr,uI x.dL,uI x.acc,uI x.jF,uI x.gX,uI x.k,uI x.fair],uI b,uI a] w λg d=>g=.returned (.agg #[uI (sJ x b a).cr,uI (sJ x b a).dL,uI (sJ x b a).acc,uI (sJ x b a).jF,uI (sJ x b a).gX,uI (sJ x b a).k,uI (sJ x b a).fair])/\bW w d:=by
 obtain⟨f,s,r,v,u,y,t⟩:=x;obtain⟨c,i,j,k,l,m,n⟩:=q;simp only at c i j k l m n;have e:=zH (lS f b a c o p);go_enter Tryz.func203,Tryz.ntmps203;go_wp2_with fail;refine Yd (e.o _) ?_;rintro d ⟨z,rfl⟩;go_wp2;go_returns;exact⟨rfl,BEL⟩
theorem NW (c f now:Int) (w:World):
  Yk 64 #[.agg #[jI c,uI f],uI now] w λd e=>d=.returned (.agg #[jI ((jR ⟨c,f⟩ now).count),uI now])/\∃a b,e=(w.alloc (.cells a 126)).alloc (.cells b 126):=by
 have g:0<=min (max c 0) 59:=oM;have i:min (max c 0) 59<=59:=oM;go_enter Tryz.func64,Tryz.ntmps64;go_wp2;go_returns;exact⟨rfl,_,_,rfl⟩
theorem Ra (c f now:Int) (w:World):
  Yk 127 #[.agg #[jI c,uI f],uI now] w λd e=>d=.returned (.agg #[jI 0,uI now])/\∃a b,e=(w.alloc (.cells a 126)).alloc (.cells b 126):=by
 go_enter Tryz.func127,Tryz.ntmps127;go_wp2;go_returns;exact⟨rfl,_,_,rfl⟩
theorem Py (c f now:Int) (w:World):
  Yk 171 #[.agg #[jI c,uI f],uI now] w λd e=>d=.returned (.agg #[jI c,uI now])/\∃a b,e=(w.alloc (.cells a 126)).alloc (.cells b 126):=by
 go_enter Tryz.func171,Tryz.ntmps171;go_wp2;go_returns;exact⟨rfl,_,_,rfl⟩
theorem Lx {t c a:Int} (d:Word t) (b:Word a):Word (MB t c a):=by
 have:=Na (n:=c) d;obtain⟨_,_⟩:=this;obtain⟨_,_⟩:=b;unfold MB;exact⟨oM,oM⟩
theorem JN (c f t b:Int) (w:World):
  Yk 140 #[.agg #[jI c,uI f],bV false,uI t,uI b] w λa e=>a=.returned (uI 18446744073709551615)/\∃d,e=(w.alloc (.cells #[jI c,uI f] 126)).drewN d:=by
 go_enter Tryz.func140,Tryz.ntmps140;go_wp2;go_ret;exact⟨rfl,0,rfl⟩
theorem GL (c f t a:Int) (j:Word f) (e:Word t) (k:Word a) (i:c<=9223372036854775807) (w:World):
  Yk 140 #[.agg #[jI c,uI f],bV true,uI t,uI a] w λb d=>b=.returned (uI (qW ⟨c,f⟩ true t a))/\∃l,d=(w.alloc (.cells #[jI c,uI f] 126)).drewN l:=by
 have g:=Lx (c:=c) e k;go_enter Tryz.func140,Tryz.ntmps140;go_wp2_with fail;go_quiet (first|((go_at_call 198;exact aJ ((Rq t c a e i _).mono λb d h=>⟨h.1,h.2.symm⟩)))|((go_at_call 83;exact aJ ((lT f _ j g _).mono λb d h=>⟨h.1,h.2.symm⟩))));go_wp2;go_ret;exact⟨rfl,_,rfl⟩
theorem NT (a b c:Int) (w:World):
  Yk 125 #[.agg #[uI a,uI b],uI c] w λe f=>e=.returned (bV (decide (a<=c)))/\∃d,f=w.alloc (.cells d 130):=by
 go_enter Tryz.func125,Tryz.ntmps125;go_wp2;go_ret;exact⟨rfl,_,rfl⟩
theorem Rn (a b c next:Int) (w:World) (h:c<a):
  Yk 197 #[.agg #[uI a,uI b],uI c,uI next] w λg i=>g=.returned (.tuple #[.agg #[uI a,uI b],bV false])/\∃d e f,i=((w.alloc (.cells d 130)).alloc (.cells e 130)).alloc (.cells f 130):=by
 have j:decide (a<=c)=false:=sO;go_enter Tryz.func197,Tryz.ntmps197;go_wp2;refine eG (v:=.tuple #[.agg #[uI a,uI b],bV false]) (by simp[results,Tryz.results197,go_sem]) rfl ⟨rfl,_,_,_,rfl⟩
theorem OH (a b c next:Int) (w:World) (h:a<=c) (i:Word c) (hb:Word b):
  Yk 197 #[.agg #[uI a,uI b],uI c,uI next] w λg j=>g=.returned (.tuple #[.agg #[uI (Az c next),uI (Gx b)],bV true])/\∃d e f,j=((w.alloc (.cells d 130)).alloc (.cells e 130)).alloc (.cells f 130):=by
 obtain⟨k,l⟩:=i;obtain⟨m,n⟩:=hb;go_enter Tryz.func197,Tryz.ntmps197;go_wp2;all_goals
  refine eG (v:=.tuple #[.agg #[uI (Az c next),uI (Gx b)],bV true]) (by simp[results,Tryz.results197,go_sem];unfold Az Gx;exact⟨by(repeat' split)<;>omega,by split<;>omega⟩) rfl ⟨rfl,_,_,_,rfl⟩
theorem pO {b:Int} (h:Word b):Word (xu b):=kN h ⟨dC,dC⟩
theorem Cv (b:Int) (h:Word b) (w:World):
  Yk 107 #[uI b] w λa c=>a=.returned (uI (xu b))/\w=c:=by
 go_enter Tryz.func107,Tryz.ntmps107;go_wp2_with fail;refine Yg (wH b 1000000 h ⟨dC,dC⟩ _) ?_;go_wp2;go_ret;exact⟨rfl,rfl⟩
theorem PI (cr bK a:Int) (f:Word cr) (g:Word bK) (j:Word a) (w:World):
  Yk 108 #[uI cr,uI bK,uI a] w λe c=>e=.returned (uI (xg cr bK a))/\∃b,c=w.drewN b:=by
 have i:Word (max bK 1):=⟨oM,by have:=g.2;omega⟩;have d:=zH (lS cr 1250000 _ f ⟨dC,dC⟩ i);go_enter Tryz.func108,Tryz.ntmps108;go_wp2_with fail;refine Yd (d.o _) ?_;rintro c ⟨b,rfl⟩;go_wp2;go_ret;exact⟨rfl,b,rfl⟩
theorem MW (a now b:Int) (h:Word a) (w:World):
  Yk 48 #[uI a,uI now,uI b] w λc d=>c=.returned (.agg #[uI (qd a now b).fC,uI (qd a now b).pat,uI (qd a now b).gP])/\bW w d:=by
 go_enter Tryz.func48,Tryz.ntmps48;go_wp2_with fail;refine Yg (Cv a h _) ?_;go_wp2;go_returns;exact⟨rfl,BEL⟩
theorem JE (p:Pa) (a now:Int) (f:Word p.fC) (d:Word p.pat) (e:Word p.gP) (l:Word a) (g:Word now) (w:World):
  Yk 163 #[.agg #[uI p.fC,uI p.pat,uI p.gP],uI a,uI now] w λb c=>b=.returned (.agg #[uI (lM p a now).fC,uI (lM p a now).pat,uI (lM p a now).gP])/\bW w c:=by
 obtain⟨j,m,k⟩:=p;simp only at f d e;have i:=nC g d;have n:=kN e i;go_enter Tryz.func163,Tryz.ntmps163;go_wp2;refine bP 14 kR kR ?_;refine mD ?_;(repeat (quiet_step ((first|(go_at_call 122;exact aJ ((sI now m g d _).mono λb c h=>⟨h.1,h.2.symm⟩))|(go_at_call 178;exact aJ ((wH k _ e i _).mono λb c h=>⟨h.1,h.2.symm⟩))|(go_at_call 146;exact aJ ((nY j _ f n _).mono λb c h=>⟨h.1,h.2.symm⟩))|(go_at_call 107;exact aJ ((Cv a l _).mono λb c h=>⟨h.1,h.2.symm⟩))))));refine aK ?_;rintro _ ⟨o,rfl⟩;refine dA rfl rfl ?_;go_simp;refine aK ?_;go_wp2;go_returns;exact⟨rfl,BEL⟩
theorem Ol {a lo d:Int} (e:Word a) (b:Word lo) (c:Word d):Word (xX a lo d):=by
 unfold xX;split
 .exact⟨dC,dC⟩
 .obtain⟨g,i,j,f⟩:=Hl e.1 b.1 b.2 c.1
  exact⟨Int.ediv_nonneg oM oM,Int.ediv_lt_of_lt_mul oM oM⟩
theorem vO (c lo:Int):∀(a:Nat) (b:Int),a<=43->0<=b->0<=pR c lo a b/\pR c lo a b<=b+2^a
 |0,b,_,h=>by unfold pR;exact⟨h,by simp;omega⟩
 |a+1,b,hk,h=>by
  unfold pR;have f:(0:Int)<2^a:=Int.pow_pos dC;(have e:(2:Int)^(a+1)=2^a+2^a:=by rw[Int.pow_succ];omega);rw[e];by_cases d:nP (b+2^a) c lo=true
  .rw[aB d]
   have:=vO c lo a (b+2^a) oM oM;omega
  .rw[Ww d]
   have:=vO c lo a b oM oM;omega
theorem Lm (a lo:Int):Word (vN a lo):=by
 have h:=vO a lo 43 0 oM oM;unfold vN;generalize pR a lo 43 0=b at*
 exact⟨h.1,oM⟩
theorem JP (a cr b:Int):Word (sj a cr b):=by
 unfold sj;split
 .exact⟨dC,dC⟩
 .exact Lm _ _
theorem Qm (b cr a:Int) (o:Word b) (p:Word cr) (g:Word a) (w:World):
  Yk 240 #[uI b,uI cr,uI a] w λc m=>c=.returned (uI (sj b cr a))/\∃k,m=w.drewN k:=by
 obtain⟨N,O,I,J,z,M⟩:=LX o.1 o.2 p.1 p.2 g.1 g.2;by_cases n:b<=cr
 .have c:sj b cr a=0:=by unfold sj;rw[aB (Or.inl n)]
  rw[c];clear c;go_enter Tryz.func240,Tryz.ntmps240;go_wp2;go_ret;exact⟨rfl,0,rfl⟩
 .have B:decide (b<=cr)=false:=sO
  by_cases f:a=0
  .have c:sj b cr a=0:=by unfold sj;rw[aB (Or.inr f)]
   rw[c];clear c;subst f;go_enter Tryz.func240,Tryz.ntmps240;go_wp2;go_ret;exact⟨rfl,0,rfl⟩
  .have H:(a==0)=false:=by simp[f]
   have q:Word (b -cr):=⟨oM,oM⟩;have r:Word 2500000000000000000:=⟨dC,dC⟩;have s:=zH (uW (b -cr) 2500000000000000000 q r);obtain⟨d,j⟩:=zJ q r;(have c:sj b cr a=vN ((b -cr)*2500000000000000000/18446744073709551616/a) (xX ((b -cr)*2500000000000000000/18446744073709551616%a) ((b -cr)*2500000000000000000%18446744073709551616) a):=by unfold sj;rw[Ww oM]);rw[c];have v:((b -cr)*2500000000000000000/18446744073709551616).tmod a=(b -cr)*2500000000000000000/18446744073709551616%a:=Int.tmod_eq_emod_of_nonneg d.1;have x:((b -cr)*2500000000000000000/18446744073709551616).tdiv a=(b -cr)*2500000000000000000/18446744073709551616/a:=Int.tdiv_eq_ediv_of_nonneg d.1;generalize(b -cr)*2500000000000000000/18446744073709551616=e at*
   generalize(b -cr)*2500000000000000000%18446744073709551616=y at*
   have A:0<a:=oM;have i:Word (e%a):=⟨iQ _ oM,by have:=iN e A;omega⟩;have l:Word (e/a):=⟨Int.ediv_nonneg d.1 z,by have:=Int.ediv_le_self a d.1;have:=d.2;omega⟩;have K:=d.1;have L:=d.2;obtain⟨t,u⟩:=yx (GK (e%a) y a i j g) (QU (e/a) _ l (Ol i j g));obtain⟨D,E,F,G⟩:=Hl l.1 l.2 i.1 i.2;have C:cr<=b:=oM;clear c n f v x d j;go_enter Tryz.func240,Tryz.ntmps240;go_wp2_with fail;refine Yd (s.o _) ?_;intro m rfl;go_wp2_with fail;refine Yd (t.o _) ?_;rintro m ⟨k,rfl⟩;go_wp2_with fail;refine Yg (u.o _) ?_;go_wp2;go_ret;exact⟨rfl,k,rfl⟩
theorem at_any (d k t b:Int) (r:Word d) (s:Word k) (u:Word t) (v:Word b) (w:World):
  Yk 241 #[uI d,uI k,uI t,uI b] w λE a=>E=.returned (uI (JQ d k t b))/\∃F,a=w.drewN F:=by
 have e:Word 1000000:=⟨dC,dC⟩;have c:=uK u s;have z:=gK c c e;have A:=gK z c e;have y:=kN sF v;have x:Word 5000000:=⟨dC,dC⟩;have B:=gK A y x;obtain⟨l,m,n,o,p,C⟩:=Fy (JK t k u s) (lS _ _ _ c c e) (lS _ _ _ z c e) (lS _ _ _ A y x) (wH 2 b sF v) (nY d _ r B);have D:=zH (AP d _ r B);have q:cuZ k t b=jv (jv (jv (ou t k) (ou t k) 1000000) (ou t k) 1000000) (wW 2 b) 5000000:=rfl;unfold JQ;rw[q];clear q;generalize jv (jv (jv (ou t k) (ou t k) 1000000) (ou t k) 1000000) (wW 2 b) 5000000=L at*
 generalize jv (jv (ou t k) (ou t k) 1000000) (ou t k) 1000000=K at*
 generalize jv (ou t k) (ou t k) 1000000=J at*
 generalize ou t k=H at*
 generalize wW 2 b=I at*
 by_cases f:k<=t
 .rw[aB f]
  go_enter Tryz.func241,Tryz.ntmps241;go_wp2_with fail;refine Yd (l.o _) ?_;intro a rfl;go_wp2_with fail;refine Yd (m.o _) ?_;rintro a ⟨g,rfl⟩;go_wp2_with fail;refine Yd (n.o _) ?_;rintro a ⟨i,rfl⟩;go_wp2_with fail;refine Yd (p.o _) ?_;intro a rfl;go_wp2_with fail;refine Yd (o.o _) ?_;rintro a ⟨j,rfl⟩;go_wp2_with fail;refine Yd (C.o _) ?_;intro a rfl;go_wp2;go_ret;exact⟨rfl,g+i+j,rfl⟩
 .rw[Ww f]
  have G:decide (k<=t)=false:=sO;clear f;go_enter Tryz.func241,Tryz.ntmps241;go_wp2_with fail;refine Yd (l.o _) ?_;intro a rfl;go_wp2_with fail;refine Yd (m.o _) ?_;rintro a ⟨g,rfl⟩;go_wp2_with fail;refine Yd (n.o _) ?_;rintro a ⟨i,rfl⟩;go_wp2_with fail;refine Yd (p.o _) ?_;intro a rfl;go_wp2_with fail;refine Yd (o.o _) ?_;rintro a ⟨j,rfl⟩;go_wp2_with fail;refine Yg (D.o _) ?_;go_wp2;go_ret;exact⟨rfl,g+i+j,rfl⟩
theorem Oo (x:Wi) (b a:Int) (t:oz x) (r:Word b) (s:Word a) (w:World):
  Yk 202 #[.agg #[uI x.cr,uI x.dL,uI x.acc,uI x.jF,uI x.gX,uI x.k,uI x.fair],uI b,uI a] w λk d=>k=.returned (.agg #[uI (rD x b a).cr,uI (rD x b a).dL,uI (rD x b a).acc,uI (rD x b a).jF,uI (rD x b a).gX,uI (rD x b a).k,uI (rD x b a).fair])/\bW w d:=by
 obtain⟨c,z,v,i,B,C,A⟩:=x;obtain⟨f,l,m,n,o,p,q⟩:=t;simp only at f l m n o p q;obtain⟨g,j⟩:=yx (lS c b a f r s) (lS c 17 20 f ⟨dC,dC⟩ ⟨dC,dC⟩);unfold rD;by_cases e:c<i
 .simp only[aB e]
  go_enter Tryz.func202,Tryz.ntmps202;go_wp2_with fail;refine Yd (j.o _) ?_;rintro d ⟨D,rfl⟩;go_wp2_with fail;refine Yd (g.o _) ?_;rintro d ⟨u,rfl⟩;go_wp2;refine mZ ?_;exact⟨rfl,BEL⟩
 .simp only[Ww e]
  have y:decide (c<i)=false:=sO;clear e;go_enter Tryz.func202,Tryz.ntmps202;go_wp2_with fail;refine Yd (g.o _) ?_;rintro d ⟨u,rfl⟩;go_wp2;refine mZ ?_;exact⟨rfl,BEL⟩
theorem Fg {f k t b:Int} (c:Word f) (g:Word k) (i:Word t) (j:Word b):Word (JQ f k t b):=by
 have d:Word 1000000:=⟨dC,dC⟩;have a:=uK i g;have e:Word (cuZ k t b):=gK (gK (gK a a d) a d) (kN sF j) ⟨dC,dC⟩;unfold JQ;split
 .exact fB c e
 .exact nC c e
theorem CR {x:Wi} {a now bK:Int} (h:oz x) (b:Word a) (c:Word now) (d:Word bK):Word (Fh x a now bK)/\x.cr<=Fh x a now bK:=by
 unfold Fh;refine⟨kX (qo (Fg h.jF h.k (fB (nC c h.gX) d) b) (gK h.cr ⟨dC,dC⟩ ⟨dC,dC⟩)) h.cr,oM⟩
theorem AF {x:Wi} (h:oz x) (b:Word z) (a:Word y):Word (vP x y z):=by
 have:=gK b a h.cr;unfold vP;split
 .exact gK this ⟨dC,dC⟩ ⟨dC,dC⟩
 .exact this
theorem CQ {x:Wi} {b now:Int} (h:oz x) (a:Word now):oz (uL x b now):=by
 unfold uL;split
 .exact⟨h.cr,h.dL,h.acc,kX h.jF h.cr,a,JP _ _ _,h.cr⟩
 .exact h
theorem Lj (x:Wi) (e c now bK:Int) (T:oz x) (v:Word e) (s:Word c) (J:Word now) (S:Word bK) (w:World):
  Yk 193 #[.agg #[uI x.cr,uI x.dL,uI x.acc,uI x.jF,uI x.gX,uI x.k,uI x.fair],uI e,uI c,uI now,uI bK] w λH o=>H=.returned (.agg #[uI (mM x e c now bK).cr,uI (mM x e c now bK).dL,uI (mM x e c now bK).acc,uI (mM x e c now bK).jF,uI (mM x e c now bK).gX,uI (mM x e c now bK).k,uI (mM x e c now bK).fair])/\bW w o:=by
 by_cases G:x.cr<x.dL
 .have c6:=zH (Ic x e c T v s)
  (have m:mM x e c now bK=qz x e c:=by unfold mM;rw[aB G]);rw[m];obtain⟨a,k,l,K,A,b8,b2⟩:=x;simp only at G;clear m;go_enter Tryz.func193,Tryz.ntmps193;go_wp2_with fail;refine Yd (c6.o _) ?_;intro f1 Q;have u:=(Wx (w.alloc _) _ _).below Q sM;have B:bW w f1:=((aj w.heap.size w).alloc (av _) _|>.alloc sM _).trans (Q.mono sO);rw[CY]at u;obtain⟨d9,i6,e0,i7,e1,i8,e2,i9,e3,j0,e4,j1,e5,j2⟩:=u.c7;have c4:=zH B;clear Q u B;go_wp2;refine mZ ?_;have B:=c4.o;exact⟨rfl,BEL⟩
 .have m:mM x e c now bK=xZ (uL x c now) e c now bK:=by unfold mM;rw[Ww G]
  rw[m];clear m;obtain⟨a,k,l,K,A,b8,b2⟩:=x;simp only at G;(obtain⟨f,g,j,i,n⟩:∃f g j i,uL ⟨a,k,l,K,A,b8,b2⟩ c now=⟨a,k,l,f,g,j,i⟩:=by unfold uL;split<;>exact⟨_,_,_,_,rfl⟩);(have t:oz ⟨a,k,l,f,g,j,i⟩:=by rw[<-n];exact CQ T J);rw[n];obtain⟨a6,u⟩:=eX (xZ ⟨a,k,l,f,g,j,i⟩ e c now bK);rw[<-u];have a3:=zH u;clear u;obtain⟨O,b3,b4,P,b5,b6,b7⟩:=T;simp only at O b3 b4 P b5 b6 b7;have h8:decide (a<k)=false:=sO;obtain⟨a5,a4,c7,f2⟩:=Bq (Qm K a c P O s) n t (And.intro O P);clear n t b3 b4 b5 b6 b7;go_enter Tryz.func193,Tryz.ntmps193;go_upto_if 25 with fail;go_cut [] (λwx=>X3 (Blk wx w.heap.size 128 #[uI a,uI k,uI l,uI f,uI g,uI j,uI i])/\X3 (Blk wx (w.heap.size+1) 128 #[uI 0,uI 0,uI 0,uI 0,uI 0,uI 0,uI 0])/\X3 (bW w wx));case first=>
   have n:=a4.o;unfold uL at n;by_cases y:A=18446744073709551615
   .rw[aB y]at n
    injection n with X Y Z C D E F;clear X Y Z;(try clear n);(have d6:(A==18446744073709551615)=true:=by simp[y]);have q:=zH (And.intro C (And.intro D (And.intro E F)));clear C D E F y;go_wp2_with fail;go_region_held3 (λo=>o.cell? ⟨w.heap.size,0,none⟩=some (uI a)/\o.cell? ⟨w.heap.size,3,none⟩=some (uI K)) (first|simp[go_sem, *]) (first|(go_at_call 240;refine(a5.o _).mono ?_;rintro H o ⟨rfl,i5,rfl⟩));go_wp2;go_meet;rw[<-q.o.1,<-q.o.2.1,<-q.o.2.2.1,<-q.o.2.2.2];exact⟨BLKA rfl,BLKA rfl,BEL⟩
   .rw[Ww y]at n
    injection n with X Y Z C D E F;clear X Y Z;(try clear n);(have d6:(A==18446744073709551615)=false:=by simp[y]);have q:=zH (And.intro C (And.intro D (And.intro E F)));clear C D E F y;go_wp2;go_meet;rw[<-q.o.1,<-q.o.2.1,<-q.o.2.2.1,<-q.o.2.2.2];exact⟨BLKA rfl,BLKA rfl,BEL⟩
  case rest=>
   obtain⟨a8,a9,b0⟩:=hcut;obtain⟨a0,a1,a2⟩:=FX a8 a9 b0;clear a8 a9 b0 a5 a4;obtain⟨f5,g3,f6,g4,f7,g5,f8,g6,f9,g7,g0,g8,g1,g9⟩:=a0.o.c7;obtain⟨d9,h0,e0,h1,e1,h2,e2,h3,e3,h4,e4,h5,e5,h6⟩:=a1.o.c7;obtain⟨h9,i0,t⟩:=FX a0.o.lt a1.o.lt c7.o;obtain⟨r,e9,f0,U,V,W,c3⟩:=id t;simp only at r e9 f0 U V W c3;by_cases z:a=0
   .have m:a6=⟨a,k,l,f,g,j,i⟩:=by rw[a3.o];unfold xZ;simp only;rw[aB z]
    have L:=zH m;(have d8:(a==0)=true:=by simp[z]);clear m z t;go_wp2;refine mZ ?_;have B:=a2.o;rw[L.o];exact⟨rfl,BEL⟩
   .have d8:(a==0)=false:=by simp[z]
    obtain⟨M,a7⟩:=CR t s J S;have R:=AF t s v;simp only at a7;have c0:=nC J V;have c1:=fB c0 S;have e6:=Fg U W c1 s;have e7:=gK s v r;have e8:=gK r (b:=3) (d:=2) ⟨dC,dC⟩ ⟨dC,dC⟩;(have m:a6=⟨max (WI a (jv (Fh ⟨a,k,l,f,g,j,i⟩ c now bK -a) e a)) (WI i (vP ⟨a,k,l,f,g,j,i⟩ e c)),k,l,f,g,j,WI i (vP ⟨a,k,l,f,g,j,i⟩ e c)⟩:=by rw[a3.o];unfold xZ;simp only;rw[Ww z]);obtain⟨b9,p⟩:∃b9,vP ⟨a,k,l,f,g,j,i⟩ e c=b9:=⟨_,rfl⟩;have b1:Fh ⟨a,k,l,f,g,j,i⟩ c now bK=max (min (JQ f j (WI (WU now g) bK) c) (jv a 3 2)) a:=rfl;rw[p]at R m;rw[b1]at M a7 m;have c5:=zH p;clear p b1;have f4:=M.2;have g2:=r.1;have N:Word (max (min (JQ f j (WI (WU now g) bK) c) (jv a 3 2)) a -a):=⟨oM,oM⟩;have c2:=gK N v r;obtain⟨d5,d0,d1,d2,d3,c8⟩:=Fy (sI now g J V) (lT _ bK c0 S) (at_any f j _ c U W c1 s) (lS a 3 2 r ⟨dC,dC⟩ ⟨dC,dC⟩) (lS _ e a N v r) (nY a _ r c2);obtain⟨d4,c9⟩:=yx (lS c e a s v r) (nY i _ c3 R);clear e6 e8 c2 N M R;generalize JQ f j (WI (WU now g) bK) c=f3 at*
    generalize WI (WU now g) bK=j4 at*
    generalize WU now g=j3 at*
    generalize jv a 3 2=h7 at*
    have L:=zH m;clear z m;clear t;go_wp2;refine bN kR kR ?_;(repeat (quiet_step ((first|(go_at_call 122;exact aJ ((d5.o _).mono λH o h=>⟨h.1,h.2.symm⟩))|(go_at_call 83;exact aJ ((d0.o _).mono λH o h=>⟨h.1,h.2.symm⟩))|(go_at_call 241;exact dn (d1.o _))))));refine aK ?_;rintro _ ⟨nq,rfl⟩;go_wp2_with fail;refine Yd (d2.o _) ?_;rintro o ⟨i1,rfl⟩;go_wp2_with fail;refine Yd (d3.o _) ?_;rintro o ⟨i2,rfl⟩;go_wp2_with fail;refine Yd (c8.o _) ?_;intro o rfl;go_wp2_with fail;refine Yd (d4.o _) ?_;rintro o ⟨i3,rfl⟩;have p:=c5.o;unfold vP at p;simp only at p;by_cases I:i<f
    case' pos=>
     have d7:decide (i<f)=true:=sO;rw[aB I]at p;subst p;clear I;go_wp2_with fail;refine Yd (lS _ 9 17 e7 ⟨dC,dC⟩ ⟨dC,dC⟩ _) ?_;rintro o ⟨i4,rfl⟩
    case' neg=>
     have d7:decide (i<f)=false:=sO;rw[Ww I]at p;subst p;clear I
    all_goals
     go_wp2_with fail;refine Yg (c9.o _) ?_;go_wp2;refine mZ ?_;have B:=a2.o;rw[L.o];exact⟨rfl,BEL⟩
structure lV (c:Cf):Prop where
 bits0:1<=c.bits
 bits1:c.bits<=64
 one:Word c.one
 one1:(c.one==1)=false
 wZ:4<=c.ring
 lW:c.ring<=256
 limit0:0<=c.dO
 mh:c.dO<=4611686018427387903
 Af:1<=c.room
 qC:c.room<=65536
 Gj:1<=c.mss
 Ca:c.mss<=1500
 zM:2*c.mss<=c.bn
 Mg:c.bn<=c.jD
 Mf:c.jD<=c.most
 most:c.most<=1073741824
 pX:c.pX=1\/c.pX=2
 KY:1<=c.first
 Xv:c.first<=1099511627776
 KW:1<=c.jc
 QG:c.jc<=1099511627776
 cap0:c.jc<=c.cap
 cap1:c.cap<=1099511627776
 Rh:c.mss<=c.gD
 Rf:c.gD<=1073741824
 Ie:1<=c.WL
 BA:c.WL<=4294967296
 chal0:0<=c.bE
 chal1:c.bE<=64
 QM:1<=c.every
 XB:c.every<=1099511627776
theorem GZ (c:Cf) (h:lV c) (w:World):
  Yk 177 #[.agg (cfV c)] w λI M=>I=.returned (jI 0)/\bW w M:=by
 obtain⟨N,P,R,O,S,m,l,a,d,Q,first,b,i,k,e,f,j⟩:=c;obtain⟨_,_,_,_,_,_,_,_,_,_,n,o,p,q,r,s,g,t,A,B,C,D,E,F,G,H,u,v,x,y,z⟩:=h;simp only at n o p q r s g t A B C D E F G H u v x y z;have J:((decide (l<a))=false/\decide (d<l)=false/\decide (a<2*m)=false/\decide (d<a)=false/\decide (1073741824<d)=false/\decide (first<1)=false/\decide (1099511627776<first)=false):=sO;have K:((decide (b<1))=false/\decide (1099511627776<b)=false/\decide (i<b)=false/\decide (1099511627776<i)=false/\decide (k<m)=false/\decide (1073741824<k)=false):=sO;have L:((decide (e<1))=false/\decide (4294967296<e)=false/\decide (f<0)=false/\decide (64<f)=false/\decide (j<1)=false/\decide (1099511627776<j)=false):=sO;obtain⟨T,U,V,W,X,Y,Z⟩:=J;obtain⟨a0,a1,a2,a3,a4,a5⟩:=K;obtain⟨a6,a7,a8,a9,b0,b1⟩:=L;rcases g with rfl|rfl
 .go_enter Tryz.func177,Tryz.ntmps177
  go_wp2;go_ret;exact⟨rfl,BEL⟩
 .go_enter Tryz.func177,Tryz.ntmps177
  go_wp2;go_ret;exact⟨rfl,BEL⟩
theorem OA (c:Cf) (h:lV c) (w:World):
  Yk 105 #[.agg (cfV c)] w λy A=>y=.returned (jI 0)/\bW w A:=by
 have j:=zH (GZ c h);obtain⟨b,L,f,x,g,e,I,E,K,M,first,J,F,H,C,D,G⟩:=c;obtain⟨k,o,p,q,r,s,t,u,v,l,m,n,_⟩:=h;simp only at k o p q r s t u v l m n;have z:((decide (b<1))=false/\decide (64<b)=false/\decide (f<4)=false/\decide (256<f)=false/\decide (4611686018427387903<x)=false/\decide (g<1)=false/\decide (65536<g)=false/\decide (e<1)=false/\decide (1500<e)=false):=sO;obtain⟨N,O,P,Q,R,S,T,U,V⟩:=z;go_enter Tryz.func105,Tryz.ntmps105;go_wp2_with fail;refine Yd (j.o _) ?_;intro B d;have a:bW w B:=by
  refine bD ?_ (d.mono ?_)
  .exact BEL
  .first|(simp;done)|(simp;omega)
 have i:=zH a;clear d a;go_wp2;go_ret;have a:=i.o;exact⟨rfl,BEL⟩
theorem yO (c:Cf) (h:lV c) (w:World):
  Yk 42 #[.agg (cfV c)] w λe f=>e=.returned (bV true)/\bW w f:=by
 have d:=zH (OA c h);go_enter Tryz.func42,Tryz.ntmps42;go_wp2_with fail;refine Yd (d.o _) ?_;intro g a;have b:=zH a;clear a;go_wp2;go_ret;exact⟨rfl,JZ b.o⟩
structure Xf (s:Cc):Prop where
 win:oz s.win
 qx:Word s.round.iO
 mX:Word s.round.mX
theorem JW (c:Cf) (h:lV c) (w:World):
  Yk 47 #[.agg (cfV c)] w λp S=>p=.returned (.agg (AX (mF c)))/\bW w S:=by
 have i:=zH (yO c h);obtain⟨l,O,Q,o,R,N,K,m,M,P,first,L,n,r,j,k,q⟩:=c;clear h;go_enter Tryz.func47,Tryz.ntmps47;go_wp2_with fail;refine Yd (i.o _) ?_;intro a b;have f:bW w a:=by
  refine bD ?_ (b.mono ?_)
  .exact BEL
  .first|(simp;done)|(simp;omega)
 have d:Blk a (w.heap.size) 32 (cfV ((⟨l,O,Q,o,R,N,K,m,M,P,first,L,n,r,j,k,q⟩:Cf))):=iK b;have e:Blk a (w.heap.size+1) 132 Yh:=iK b;obtain⟨s,V,t,W,C,a4,D,a5,E,a6,F,a7,G,a8,H,a9,I,b0,J,b1,u,X,v,Y,x,Z,y,a0,z,a1,A,a2,B,a3⟩:=d.c17;have b2:w.heap.size<a.heap.size:=d.lt;have T:=zH d;clear d;obtain⟨b3,c2,b4,c3,b5,c4,b6,c5,b7,c6,b8,c7,b9,c8,c0,c9,c1,d0⟩:=e.c9;have d1:w.heap.size+1<a.heap.size:=e.lt;have U:=zH e;clear e;have g:=zH f;clear b f;simp only at s t C D E F G H I J u v x y z A B;go_wp2;refine mZ ?_;have f:=g.o;exact⟨rfl,BEL⟩
def boV (x:Bool):List Value:=[bV x]
theorem Mx:(prog.info? 4).map (λa=>(a.zero,a.size,a.bytes))=some (some (bV false),1,1):=by kernel_rfl
theorem oW (l:List Bool):l.flatMap boV=l.map Value.bool:=by
 induction l with
 |nil=>rfl
 |cons x t ih=>simp[boV,ih]
def Bos (w:World) (S:X4) (a:X5) (l:List Bool):Prop:=Row w S 4 1 a l.length (l.flatMap boV)
theorem Bos.at_ {S:X4} {a:X5} {l:List Bool} {j:Nat} (h:Bos w S a l) (hb:bW w w') (g:j<l.length):
  ∃b c,a=some ⟨b,c,none⟩/\b<w.heap.size/\w'.cell? ⟨b,c+j,none⟩=some (bV l[j]):=by
 obtain⟨b,c,e,i,d,f⟩:=Row.at_ h oM;refine⟨b,c,e,d,(hb.cell (p:=⟨b,c+j,none⟩) d).trans (f j _ ?_)⟩;rw[oW];simp[g]
theorem pJ (z:Value) (b:z.cells= #[z]):∀a:Nat,(madeCells z.cells (a*1)).toList=List.replicate a z:=by
 intro a;rw[b];unfold madeCells;apply List.ext_getElem
 .simp
 .intro e c d
  simp[Nat.mod_one]
theorem AY:∀(b:List Int) (a:Int),(rT a b).length=b.length
 |[],a=>rfl
 |w::t,a=>by simp[rT,AY t]
theorem GU (l:List Int):(kI l).length=l.length+1:=by simp[kI,AY]
theorem BZ:∀(b:List Bool) (a:Bool),(Xd a b).length=b.length
 |[],a=>rfl
 |w::t,a=>by simp[Xd,BZ t]
theorem IM (l:List Bool):(kW l).length=l.length+1:=by simp[kW,BZ]
theorem Dy:∀(c:List Int) (a:Int) (b:Nat) (d:b<c.length),(a::rT a c)[b+1]?=some (WN ((a::rT a c).getD b 0) c[b])
 |w::t,a,0,d=>by simp[rT]
 |w::t,a,b+1,d=>by
  have:=Dy t (WN a w) b (by simpa using d);simpa[rT]using this
theorem Ew:∀(c:List Bool) (a:Bool) (b:Nat) (d:b<c.length),(a::Xd a c)[b+1]?=some ((a::Xd a c).getD b false !=c[b])
 |w::t,a,0,d=>by simp[Xd]
 |w::t,a,b+1,d=>by
  have:=Ew t (a !=w) b (by simpa using d);simpa[Xd]using this
theorem wm {a b:Int} (c:Word a) (hb:Word b):Word (WN a b):=by
 obtain⟨d,e⟩:=c;obtain⟨f,g⟩:=hb;have:a.toNat^^^b.toNat<2^64:=Nat.xor_lt_two_pow oM oM;unfold WN Word;omega
theorem MG (l:List Int) (j:Nat) (c:j<l.length) (a:j<(kI l).length) (b:j+1<(kI l).length):(kI l)[j+1]=WN (kI l)[j] l[j]:=by
 have h:=Dy l 0 j c;rw[show(0::rT 0 l)=kI l from rfl,aL b,aW,aL a]at h;injection h
theorem NG (l:List Bool) (j:Nat) (c:j<l.length) (a:j<(kW l).length) (b:j+1<(kW l).length):(kW l)[j+1]=((kW l)[j]!=l[j]):=by
 have h:=Ew l false j c;rw[show(false::Xd false l)=kW l from rfl,aL b,aW,aL a]at h;injection h
theorem Fq:∀(d:List Int) (b:Int),Word b->rG d->rG (rT b d)
 |[],b,_,_=>λe a=>by cases a
 |w::t,b,hx,hl=>λe a=>by
  have c:=wm hx (hl w sM);rcases bT.1 a with rfl|a
  .exact c
  .exact Fq t _ c (λg f=>hl g (by simp[f])) e a
def fill {a:Type} (z:a) (P:List a) (j:Nat):List a:=P.take (j+1)++List.replicate (P.length -(j+1)) z
theorem JC {a:Type} (z:a) (P:List a) (j:Nat) (b:j<P.length):(fill z P j).length=P.length:=by simp[fill];omega
theorem Mj {a:Type} (z:a) (P:List a) (j:Nat) (b:j<P.length):(fill z P j)[j]?=some P[j]:=by
 unfold fill;rw[List.getElem?_append_left (by rw[aT];omega),List.getElem?_take,aB oM,aL b]
theorem JB {a:Type} (z:a) (P:List a) (j:Nat) (b:j+1<P.length):(fill z P j).set (j+1) P[j+1]=fill z P (j+1):=by
 unfold fill;(have c:(P.take (j+1)).length=j+1:=by rw[aT];omega);rw[List.set_append_right _ _ oM,c,Nat.sub_self,show P.length -(j+1)=(P.length -(j+1+1))+1 by omega,List.replicate_succ,List.set_cons_zero,bB b,List.append_assoc];rfl
theorem JD {a:Type} (z:a) (P:List a) (j:Nat) (b:P.length=j+1):fill z P j=P:=by simp[fill,b,List.take_of_length_le]
theorem yt {a b:Int} (c:Word a) (hb:Word b):bits BinOp.xor IntKind.u64 a b=WN a b:=u64_xor a b c.1 c.2 hb.1 hb.2
theorem OL (S:X4) (a:X5) (c:Nat) (l:List Int) (w:World) (h:Wos w S a l) (b7:l.length<=100000) (P:rG l):
  Yk 232 #[.slice a l.length c] w λZ z=>∃C Y,Z=.returned (.slice C (kI l).length Y)/\Wos z (λm=>w.heap.size<=m/\m<z.heap.size) C (kI l)/\bW w z:=by
 have W:=zH h;have k:=GU l;have j:(kI l)[0]?=some 0:=rfl;obtain⟨a6,H,Q,R,T⟩:=info_parts Fv;go_enter Tryz.func232,Tryz.ntmps232;go_wp2_with (at_make;refine wpList_make_full _ rfl (.tmp 8) (.tmp 8) 23 rfl w.heap.size 30 a6 (uI 0) 1 Tryz.underlying23 H Q R .i64 .i64 ((l.length:Int)+1) ((l.length:Int)+1) (l.length+1) (by rfl) (by rfl) oM oM (by rw[T];omega) (by simp only[maxLen];omega) (av _) ?_;intro V L G;have D:bW w V:=(aj _ _).grown G (av _) (λp d=>by cases d);have g:=zH L;have e:=zH D;clear L G D);have u:=g.o;rw[pJ (uI 0) rfl]at u;have F:fill 0 (kI l) 0=List.replicate (l.length+1) 0:=by
  unfold fill;rw[k];cases hq:kI l with
  |nil=>rw[hq]at j;cases j
  |cons a7 t=>rw[hq]at j;simp at j;rw[j];simp[List.replicate_succ]
 have K:V.ownsRow w.heap.size 30 1 (.slice (some ⟨w.heap.size,0,none⟩) (l.length+1) (l.length+1)) (l.length+1) ((fill 0 (kI l) 0).flatMap woV):=by
  rw[F,oD,List.map_replicate];exact u
 have A:=zH (OwnAt.fresh K);clear g u K F H Q R T;go_loopw [12,4,5] (λy c4 c5 wr=>∃(b:Nat),b<=l.length/\y=jI b/\X3 (OwnAt wr (λm=>w.heap.size<=m/\m<wr.heap.size) 30 1 (some ⟨w.heap.size,0,none⟩) (l.length+1) (l.length+1) ((fill 0 (kI l) b).flatMap woV))/\X3 (bW w wr)) (λy _ _ _=>l.length -(intOf y).toNat);(case atStart=>exact⟨0,oM,rfl,A,e⟩);case round=>
  clear A e;obtain⟨b,b6,rfl,g,e⟩:=hrel;by_cases s:b<l.length
  .obtain⟨b0,c1,rfl,b4,c0⟩:=W.o.at_ e.o s
   have o:b<(kI l).length:=oM;have I:b+1<(kI l).length:=oM;(have r:(fill 0 (kI l) b).length=l.length+1:=by rw[JC _ _ _ o,k]);obtain⟨p,b1,d,b2,f,q,M⟩:=g.o.bF (i:=b+1) (by rw[oD,bR,r];omega);injection d with d;injection d with d;subst d;have a3:wr.cell? ⟨w.heap.size,b,none⟩=some (uI (kI l)[b]):=by
    rw[f.cell];refine q b _ ?_;rw[oD,List.getElem?_map,Mj _ _ _ o];rfl
   have b5:wr.frozen? ⟨w.heap.size,b+1,none⟩=false:=f.frozen _;have N:(wr.cell? ⟨w.heap.size,b+1,none⟩).isSome=true:=by
    rw[f.cell];have a2:((fill 0 (kI l) b).flatMap woV)[b+1]?=some ((((fill 0 (kI l) b).flatMap woV))[b+1]'(by rw[oD,bR,r];omega)):=aL _;rw[q _ _ a2];rfl
   obtain⟨c2,b8⟩:=Option.isSome_iff_exists.1 N;clear N;have b9:=f.lt;have a4:=P _ (aN s);have a5:Word (kI l)[b]:=by
    have a1:rG (kI l):=λa8 x=>by
     rcases bT.1 x with rfl|x
     .exact⟨dC,dC⟩
     .exact Fq l 0 ⟨dC,dC⟩ P a8 x
    exact a1 _ (aN o)
   have E:=(yt a5 a4).trans (MG l b s o I).symm;obtain⟨X,a9⟩:=yx M f;clear M f q r;obtain⟨c3,O⟩:=eX ((kI l)[b]);obtain⟨U,v⟩:=eX ((kI l)[b+1]);have B:=zH v;rw[<-O]at a3 E;rw[<-v]at E;clear O v;generalize l[b]=a7 at*
   go_wp2;go_roundw;case rel=>
    refine⟨b+1,oM,by go_num,?_,?_⟩
    .have n:=X.o (uI U)
     have a0:=JB 0 (kI l) b I;rw[oD,show(uI U)=(uI (kI l)[b+1]) by rw[B.o],<-List.map_set,a0,<-oD]at n;rw[<-B.o]at n;exact⟨n.own,λp d=>by have:=n.mem p d;simpa[World.setCell]using this⟩
    .have b3:=e.o;exact zH BEL
   case measure=>exact Yl
  .obtain rfl:b=l.length:=oM
   have J:=g.o;rw[JD _ _ _ k]at J;go_wp2;go_ret;refine⟨some ⟨w.heap.size,0,none⟩,l.length+1,by rw[k];rfl,?_,e.o⟩;have:=J.row;unfold Wos;rw[k];exact this
theorem Qd (S:X4) (a:X5) (c:Nat) (l:List Bool) (w:World) (h:Bos w S a l) (b1:l.length<=100000):
  Yk 233 #[.slice a l.length c] w λX x=>∃A W,X=.returned (.slice A (kW l).length W)/\Bos x (λm=>w.heap.size<=m/\m<x.heap.size) A (kW l)/\bW w x:=by
 have U:=zH h;have k:=IM l;have j:(kW l)[0]?=some false:=rfl;obtain⟨a1,F,O,P,Q⟩:=info_parts Mx;go_enter Tryz.func233,Tryz.ntmps233;go_wp2_with (at_make;refine wpList_make_full _ rfl (.tmp 8) (.tmp 8) 341 rfl w.heap.size 4 a1 (bV false) 1 Tryz.underlying341 F O P .i64 .i64 ((l.length:Int)+1) ((l.length:Int)+1) (l.length+1) (by rfl) (by rfl) oM oM (by rw[Q];omega) (by simp only[maxLen];omega) (av _) ?_;intro T K E;have B:bW w T:=(aj _ _).grown E (av _) (λo d=>by cases d);have g:=zH K;have e:=zH B;clear K E B);have s:=g.o;rw[pJ (bV false) rfl]at s;have D:fill false (kW l) 0=List.replicate (l.length+1) false:=by
  unfold fill;rw[k];cases hq:kW l with
  |nil=>rw[hq]at j;cases j
  |cons a2 t=>rw[hq]at j;simp at j;rw[j];simp[List.replicate_succ]
 have J:T.ownsRow w.heap.size 4 1 (.slice (some ⟨w.heap.size,0,none⟩) (l.length+1) (l.length+1)) (l.length+1) ((fill false (kW l) 0).flatMap boV):=by
  rw[D,oW,List.map_replicate];exact s
 have y:=zH (OwnAt.fresh J);clear g s J D F O P Q;go_loopw [12,4,5] (λv b8 b9 wr=>∃(b:Nat),b<=l.length/\v=jI b/\X3 (OwnAt wr (λm=>w.heap.size<=m/\m<wr.heap.size) 4 1 (some ⟨w.heap.size,0,none⟩) (l.length+1) (l.length+1) ((fill false (kW l) b).flatMap boV))/\X3 (bW w wr)) (λv _ _ _=>l.length -(intOf v).toNat);(case atStart=>exact⟨0,oM,rfl,y,e⟩);case round=>
  clear y e;obtain⟨b,b0,rfl,g,e⟩:=hrel;by_cases H:b<l.length
  .obtain⟨a4,b5,rfl,a8,b4⟩:=U.o.at_ e.o H
   have r:b<(kW l).length:=oM;have G:b+1<(kW l).length:=oM;(have q:(fill false (kW l) b).length=l.length+1:=by rw[JC _ _ _ r,k]);obtain⟨o,a5,d,a6,f,p,L⟩:=g.o.bF (i:=b+1) (by rw[oW,bR,q];omega);injection d with d;injection d with d;subst d;have a0:wr.cell? ⟨w.heap.size,b,none⟩=some (bV (kW l)[b]):=by
    rw[f.cell];refine p b _ ?_;rw[oW,List.getElem?_map,Mj _ _ _ r];rfl
   have a9:wr.frozen? ⟨w.heap.size,b+1,none⟩=false:=f.frozen _;have M:(wr.cell? ⟨w.heap.size,b+1,none⟩).isSome=true:=by
    rw[f.cell];have Z:((fill false (kW l) b).flatMap boV)[b+1]?=some ((((fill false (kW l) b).flatMap boV))[b+1]'(by rw[oW,bR,q];omega)):=aL _;rw[p _ _ Z];rfl
   obtain⟨b6,b2⟩:=Option.isSome_iff_exists.1 M;clear M;have b3:=f.lt;have C:(!((kW l)[b]==l[b]))=(kW l)[b+1]:=(NG l b H r G).symm;obtain⟨V,a3⟩:=yx L f;clear L f p q;obtain⟨b7,N⟩:=eX ((kW l)[b]);obtain⟨R,u⟩:=eX ((kW l)[b+1]);have z:=zH u;rw[<-N]at a0 C;rw[<-u]at C;clear N u;generalize l[b]=a2 at*
   go_wp2;go_roundw;case rel=>
    refine⟨b+1,oM,by go_num,?_,?_⟩
    .have n:=V.o (bV R)
     have Y:=JB false (kW l) b G;rw[oW,show(bV R)=(bV (kW l)[b+1]) by rw[z.o],<-List.map_set,Y,<-oW]at n;rw[<-z.o]at n;exact⟨n.own,λo d=>by have:=n.mem o d;simpa[World.setCell]using this⟩
    .have a7:=e.o;exact zH BEL
   case measure=>exact Yl
  .obtain rfl:b=l.length:=oM
   have I:=g.o;rw[JD _ _ _ k]at I;go_wp2;go_ret;refine⟨some ⟨w.heap.size,0,none⟩,l.length+1,by rw[k];rfl,?_,e.o⟩;have:=I.row;unfold Bos;rw[k];exact this
theorem P5 (S:X4) (a:X5) (c:Nat) (l:List Int) (i j:Nat) (w:World) (h:Wos w S a l) (y:l.length<=1000000) (x:i<=j) (d:j<l.length) (g:rG l):
  Yk 234 #[.slice a l.length c,jI i,jI j] w λk p=>k=.returned (.tuple #[uI (WN (l.getD j 0) (l.getD i 0)),bV true])/\bW w p:=by
 obtain⟨q,C,rfl,v,A⟩:=Wos.at_ h (aj _ _) (j:=i) oM;obtain⟨r,D,b,_,B⟩:=Wos.at_ h (aj _ _) d;injection b with b;injection b with m n;subst m n;have o:=yt (g _ (aN d)) (g _ (aN (show i<l.length by omega)));(have e:l.getD j 0=l[j]:=by simp[aW,aL d]);(have f:l.getD i 0=l[i]:=by simp[aW,aL (show i<l.length by omega)]);rw[e,f];have s:decide ((i:Int)<0)=false:=sM;have t:decide ((j:Int)<(i:Int))=false:=sO;have u:decide ((l.length:Int)<=(j:Int))=false:=sO;have z:i<l.length:=oM;clear e f h;generalize l[i]=E at*
 generalize l[j]=F at*
 go_enter Tryz.func234,Tryz.ntmps234;go_wp2;refine mQ ?_;rintro _ ⟨nq,rfl⟩;go_wp2;go_ret2;exact⟨by rw[<-o];rfl,BEL⟩
theorem RY (S:X4) (a:X5) (c:Nat) (l:List Bool) (i j:Nat) (w:World) (h:Bos w S a l) (v:l.length<=1000000) (u:i<=j) (f:j<l.length):
  Yk 235 #[.slice a l.length c,jI i,jI j] w λg n=>g=.returned (.tuple #[bV (l.getD j false !=l.getD i false),bV true])/\bW w n:=by
 obtain⟨o,A,rfl,t,y⟩:=Bos.at_ h (aj _ _) (j:=i) oM;obtain⟨p,B,b,_,z⟩:=Bos.at_ h (aj _ _) f;injection b with b;injection b with k m;subst k m;(have d:l.getD j false=l[j]:=by simp[aW,aL f]);(have e:l.getD i false=l[i]:=by simp[aW,aL (show i<l.length by omega)]);rw[d,e];have q:decide ((i:Int)<0)=false:=sM;have r:decide ((j:Int)<(i:Int))=false:=sO;have s:decide ((l.length:Int)<=(j:Int))=false:=sO;have x:i<l.length:=oM;clear d e h;generalize l[i]=C at*
 generalize l[j]=D at*
 go_enter Tryz.func235,Tryz.ntmps235;go_wp2;refine mQ ?_;rintro _ ⟨nq,rfl⟩;go_wp2;go_ret2;exact⟨rfl,BEL⟩
end Go.Proofs.YtiflndepmgnojaaGreat
