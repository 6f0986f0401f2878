import Derived.Laws.Externs
import Derived.Laws.Bits64b
import Derived.WalkSmall
import Derived.Lib.BitFns
import Derived.Lib.ItoaNum
import Derived.Test.YtiflndepmgnojaaGreatBase
import Derived.Test.YtiflndepmgnojaaGreatShelf
namespace Go.Proofs.YtiflndepmgnojaaGreat
open Go.RowKit
set_option linter.unusedSimpArgs false
set_option linter.unusedVariables false
set_option maxHeartbeats 1000000
set_option maxRecDepth 100000
theorem fB {a b:Int} (c:Word a) (hb:Word b):Word (WI a b):=by
 obtain⟨_,_⟩:=c;obtain⟨_,_⟩:=hb;unfold WI;split<;>exact⟨oM,oM⟩
theorem nC {a b:Int} (c:Word a) (hb:Word b):Word (WU a b):=by
 obtain⟨_,_⟩:=c;obtain⟨_,_⟩:=hb;unfold WU;split<;>exact⟨oM,oM⟩
theorem kN {a b:Int} (c:Word a) (hb:Word b):Word (wW a b):=by
 have:=dK c.1 hb.1;unfold wW;split<;>exact⟨oM,oM⟩
theorem Na {a n:Int} (b:Word a):Word (AL a n):=by
 have:=dK b.1 (show(0:Int)<=2^n.toNat from Int.pow_nonneg dC);unfold AL;split<;>exact⟨oM,oM⟩
theorem uK {a b:Int} (c:Word a) (hb:Word b):Word (ou a b):=by
 obtain⟨_,_⟩:=c;obtain⟨_,_⟩:=hb;unfold ou;split<;>exact⟨oM,oM⟩
theorem DZ {a n:Int} (b:Word a) (h:n<=0):AL a n=a:=by
 obtain⟨_,_⟩:=b;have:n.toNat=0:=oM;unfold AL;rw[this];simp;omega
theorem FF {n:Int}:AL 0 n=0:=by
 unfold AL;simp
theorem IW (a b:Nat):wW a b=if a*b<18446744073709551616 then((a*b:Nat):Int)else 18446744073709551615:=by
 unfold wW;rw[<-Int.natCast_mul];generalize a*b=c;split<;>split<;>omega
theorem WX:∀a:Nat,a≠0->a<2^64->2^Lib.bitLen a<=2*a/\a<2^Lib.bitLen a:=by
 intro a
 induction a using Nat.strongRecOn with
 |ind a ih=>
  intro c h;by_cases d:a=1
  ·subst d;decide
  ·have b:=Lib.bitLen_half a c h
   obtain⟨e,f⟩:=ih (a/2) oM oM oM;rw[b,Nat.pow_add,Nat.pow_one];generalize 2^Lib.bitLen (a/2)=g at*
   omega
theorem Pt {a:Nat} {n:Nat} (b:a≠0) (h:a<2^64) (d:n<=64 -Lib.bitLen a):a*2^n<2^64:=by
 obtain⟨_,e⟩:=WX a b h;have j:=Lib.bitLen_le a 64 oM h;have c:2^n<=2^(64 -Lib.bitLen a):=Nat.pow_le_pow_right oM d;(have f:2^Lib.bitLen a*2^(64 -Lib.bitLen a)=2^64:=by rw[<-Nat.pow_add];congr 1;omega);have g:a*2^n<2^Lib.bitLen a*2^n:=Nat.mul_lt_mul_of_pos_right e (Nat.two_pow_pos n);have i:2^Lib.bitLen a*2^n<=2^Lib.bitLen a*2^(64 -Lib.bitLen a):=Nat.mul_le_mul_left _ c;omega
theorem Pq {a:Nat} {n:Nat} (b:a≠0) (h:a<2^64) (d:64 -Lib.bitLen a+1<=n):2^64<=a*2^n:=by
 obtain⟨e,_⟩:=WX a b h;have k:=Lib.bitLen_le a 64 oM h;have c:2^(64 -Lib.bitLen a+1)<=2^n:=Nat.pow_le_pow_right oM d;(have f:2^Lib.bitLen a*2^(64 -Lib.bitLen a)=2^64:=by rw[<-Nat.pow_add];congr 1;omega);have g:a*2^(64 -Lib.bitLen a+1)<=a*2^n:=Nat.mul_le_mul_left _ c;(have i:a*2^(64 -Lib.bitLen a+1)=(2*a)*2^(64 -Lib.bitLen a):=by rw[Nat.pow_succ,Nat.mul_comm 2 a,Nat.mul_assoc,Nat.mul_comm 2]);have j:2^Lib.bitLen a*2^(64 -Lib.bitLen a)<=(2*a)*2^(64 -Lib.bitLen a):=Nat.mul_le_mul_right _ e;omega
theorem Nc {a n:Int} (g:Word a) (k:a≠0) (e:0<=n) (i:n<=64 -(Lib.bitLen a.toNat:Int)):AL a n=a*2^n.toNat/\a*2^n.toNat<18446744073709551616:=by
 obtain⟨d,j⟩:=g;obtain⟨a,rfl⟩:=bH d;obtain⟨n,rfl⟩:=bH e;have:=Pt (a:=a) (n:=n) oM oM (by simp at i;omega);have b:(a:Int)*2^n<18446744073709551616:=by
  have c:((a*2^n:Nat):Int)<((2^64:Nat):Int):=oM;have f:((a*2^n:Nat):Int)=(a:Int)*2^n:=sM;rw[f]at c;exact c
 unfold AL;simp only[Int.toNat_natCast];exact⟨aB b,b⟩
theorem Nb {a n:Int} (f:Word a) (j:a≠0) (g:64 -(Lib.bitLen a.toNat:Int)+1<=n):AL a n=18446744073709551615:=by
 obtain⟨b,i⟩:=f;obtain⟨a,rfl⟩:=bH b;have l:=Lib.bitLen_le a 64 oM oM;simp only[Int.toNat_natCast]at g;obtain⟨n,rfl⟩:=bH (show 0<=n by omega);have:=Pq (a:=a) (n:=n) oM oM oM;have c:¬(a:Int)*2^n<18446744073709551616:=by
  have d:((2^64:Nat):Int)<=((a*2^n:Nat):Int):=oM;have e:((a*2^n:Nat):Int)=(a:Int)*2^n:=sM;rw[e]at d;have k:((2^64:Nat):Int)=18446744073709551616:=dC;omega
 unfold AL;simp only[Int.toNat_natCast];exact Ww c
theorem ME (x y:Int) (a:0<=x) (hy:0<=y) (w:World):(callFunc 204 #[uI x,uI y,uI 0]).run Tryz.prog w=
  .ok (.value (.tuple #[uI ((x+y)%18446744073709551616),uI ((x+y)/18446744073709551616)])) w:=by
 rw[run_callFunc_extern Tryz.func204 kR kR kR (e:=add64Entry) kR,run_add64 x y 0 oM oM oM oM];simp only[Result.andThen,Int.add_zero]
theorem nY (a b:Int) (j:Word a) (hb:Word b) (w:World):
  Calls Tryz.prog 146 #[uI a,uI b] w λi k=>i=.returned (uI (WI a b))/\w=k:=by
 obtain⟨f,l⟩:=j;obtain⟨g,m⟩:=hb;have e:=λw=>ME a b f g w;by_cases h:a+b<18446744073709551616
 ·have c:(a+b)/18446744073709551616=0:=oM
  have d:(a+b)%18446744073709551616=a+b:=oM;rw[c,d]at e;clear c d;go_enter Tryz.func146,Tryz.ntmps146;go_wp2;go_ret;exact⟨jk (by unfold WI;rw[aB h]),rfl⟩
 ·have c:(a+b)/18446744073709551616=1:=oM
  rw[c]at e;clear c;go_enter Tryz.func146,Tryz.ntmps146;go_wp2;go_ret;exact⟨jk (by unfold WI;rw[Ww oM]),rfl⟩
theorem AP (a b:Int) (d:Word a) (hb:Word b) (w:World):
  Calls Tryz.prog 147 #[uI a,uI b] w λc e=>c=.returned (uI (WU a b))/\w=e:=by
 obtain⟨f,g⟩:=d;obtain⟨i,j⟩:=hb;by_cases h:a<b;all_goals
  go_enter Tryz.func147,Tryz.ntmps147;go_wp2;go_ret;exact⟨jk (by unfold WU;first|rw[aB h]|rw[Ww oM]),rfl⟩
theorem wH (a b:Int) (l:Word a) (hb:Word b) (w:World):
  Calls Tryz.prog 178 #[uI a,uI b] w λe g=>e=.returned (uI (wW a b))/\w=g:=by
 obtain⟨j,m⟩:=l;obtain⟨k,n⟩:=hb;obtain⟨a,rfl⟩:=bH j;obtain⟨b,rfl⟩:=bH k;have c:=λw=>Tryz.bits_Mul64 a b oM oM w;by_cases h:a*b<18446744073709551616
 ·have f:a*b/18446744073709551616=0:=Nat.div_eq_of_lt h
  have i:a*b%18446744073709551616=a*b:=Nat.mod_eq_of_lt h;rw[f,i]at c;clear f i;have d:=zH c;clear c;go_enter Tryz.func178,Tryz.ntmps178;go_wp2_with (first|(go_at_call 230;refine(d.out _).mono ?_;rintro e g ⟨rfl,rfl⟩));go_ret;exact⟨jk (by rw[IW,aB oM,Int.natCast_mul]),rfl⟩
 ·have f:0<a*b/18446744073709551616:=Nat.div_pos oM dC
  (have p:(((a*b/18446744073709551616:Nat):Int)!=0)=true:=by simp;omega);have d:=zH c;clear c;generalize a*b/18446744073709551616=o at*
  go_enter Tryz.func178,Tryz.ntmps178;go_wp2_with (first|(go_at_call 230;refine(d.out _).mono ?_;rintro e g ⟨rfl,rfl⟩));go_ret;exact⟨jk (by rw[IW,Ww oM]),rfl⟩
theorem JK (a b:Int) (d:Word a) (hb:Word b) (w:World):
  Calls Tryz.prog 192 #[uI a,uI b] w λc e=>c=.returned (uI (ou a b))/\w=e:=by
 obtain⟨f,g⟩:=d;obtain⟨i,j⟩:=hb;by_cases h:a<b;all_goals
  go_enter Tryz.func192,Tryz.ntmps192;go_wp2;(all_goals go_ret);all_goals exact⟨jk (by unfold ou;split<;>omega),rfl⟩
theorem zS (x lo a:Int) (w:World):
  Calls Tryz.prog 195 #[uI x,uI lo,uI a] w λb c=>b=.returned (uI (rF x lo a))/\w=c:=by
 by_cases h:a<x<;>by_cases d:x<lo;all_goals
  go_enter Tryz.func195,Tryz.ntmps195;go_wp2;go_ret;exact⟨jk (by unfold rF;(repeat' split)<;>first|rfl|omega),rfl⟩
theorem RO (a n:Int) (b:Word a) (v:n<=9223372036854775807) (w:World):
  Calls Tryz.prog 242 #[uI a,jI n] w λe j=>e=.returned (uI (AL a n))/\w=j:=by
 have m:=b.1;have t:=b.2;by_cases c:a=0
 ·subst c
  go_enter Tryz.func242,Tryz.ntmps242;go_wp2_with fail;go_ret;exact⟨jk FF.symm,rfl⟩
 ·have y:(a==0)=false:=by simp[c]
  by_cases f:n<=0
  ·have x:=DZ b f
   go_enter Tryz.func242,Tryz.ntmps242;go_wp2_with fail;go_ret;exact⟨jk (DZ b oM).symm,rfl⟩
  ·have u:decide (n<=0)=false:=by simp;omega
   have B:0<n:=oM;have i:=λw=>Tryz.bits_LeadingZeros64 a w oM oM;have r:=Lib.bitLen_le a.toNat 64 oM oM;obtain⟨_,g⟩:=WX a.toNat oM oM;(have o:Lib.bitLen a.toNat≠0:=by intro q;rw[q]at g;omega);have z:(1:Int)<=(Lib.bitLen a.toNat:Int):=oM;have A:(Lib.bitLen a.toNat:Int)<=64:=oM;have k:=zH i;clear i g o r;by_cases p:n<=64 -(Lib.bitLen a.toNat:Int)
   case' pos=>
    obtain⟨d,D⟩:=Nc b c oM p;have C:0<=a*2^n.toNat:=dK m (Int.pow_nonneg dC)
   case' neg=>
    have d:=Nb (n:=n) b c oM
   all_goals
    have l:=zH d;clear d c f;generalize(Lib.bitLen a.toNat:Int)=s at*
    go_enter Tryz.func242,Tryz.ntmps242;go_wp2_with (first|(go_at_call 255;refine(k.out _).mono ?_;rintro e j ⟨rfl,rfl⟩));go_ret;exact⟨jk l.out.symm,rfl⟩
theorem lT (a b:Int) (e:Word a) (hb:Word b) (w:World):
  Calls Tryz.prog 83 #[uI a,uI b] w λc d=>c=.returned (uI (WI a b))/\w=d:=by
 go_enter Tryz.func83,Tryz.ntmps83;go_wp2_with fail;refine(nY _ _ e hb _).mono ?_;rintro c d ⟨rfl,rfl⟩;go_wp2_with fail;go_ret;exact⟨rfl,rfl⟩
theorem sI (a b:Int) (e:Word a) (hb:Word b) (w:World):
  Calls Tryz.prog 122 #[uI a,uI b] w λc d=>c=.returned (uI (WU a b))/\w=d:=by
 go_enter Tryz.func122,Tryz.ntmps122;go_wp2_with fail;refine(AP _ _ e hb _).mono ?_;rintro c d ⟨rfl,rfl⟩;go_wp2_with fail;go_ret;exact⟨rfl,rfl⟩
theorem wQ (now a:Int) (w:World):
  Calls Tryz.prog 58 #[uI now,uI a] w λc d=>c=.returned (bV (tH now a))/\w=d:=by
 by_cases h:a=18446744073709551615
 ·have b:(a !=18446744073709551615)=false:=by simp[h]
  clear h;go_enter Tryz.func58,Tryz.ntmps58;go_wp2_with fail;go_ret;exact⟨eF (by unfold tH;rw[b];rfl),rfl⟩
 ·have b:(a !=18446744073709551615)=true:=by simp[h]
  clear h;go_enter Tryz.func58,Tryz.ntmps58;go_wp2_with fail;go_ret;exact⟨eF (by unfold tH;rw[b];rfl),rfl⟩
theorem Rq (d n b:Int) (e:Word d) (f:n<=9223372036854775807) (w:World):
  Calls Tryz.prog 198 #[uI d,jI n,uI b] w λa c=>a=.returned (uI (MB d n b))/\w=c:=by
 go_enter Tryz.func198,Tryz.ntmps198;go_wp2_with fail;refine(RO _ _ e f _).mono ?_;rintro a c ⟨rfl,rfl⟩;go_wp2_with fail;go_ret;exact⟨rfl,rfl⟩
theorem uW (a b:Int) (l:Word a) (hb:Word b) (w:World):
  Calls Tryz.prog 238 #[uI a,uI b] w λd g=>d=.returned (.tuple #[uI (a*b/18446744073709551616),uI (a*b%18446744073709551616)])/\w=g:=by
 obtain⟨j,m⟩:=l;obtain⟨k,n⟩:=hb;obtain⟨a,rfl⟩:=bH j;obtain⟨b,rfl⟩:=bH k;have c:=λw=>Tryz.bits_Mul64 a b oM oM w;have e:((a*b/18446744073709551616:Nat):Int)=(a:Int)*b/18446744073709551616:=sM;have f:((a*b%18446744073709551616:Nat):Int)=(a:Int)*b%18446744073709551616:=sM;rw[e,f]at c;have i:=zH c;clear c e f;go_enter Tryz.func238,Tryz.ntmps238;go_wp2_with fail;refine(i.out _).mono ?_;rintro d g ⟨rfl,rfl⟩;go_wp2_with fail;go_ret2;exact⟨rfl,rfl⟩
theorem Ll (a:Int):a*a*a=a*a/18446744073709551616*a*18446744073709551616+a*a%18446744073709551616*a:=by
 have h:a*a=a*a/18446744073709551616*18446744073709551616+a*a%18446744073709551616:=oM
 conv=>lhs;rw[h]
 rw[Int.add_mul,Int.mul_assoc,Int.mul_assoc,Int.mul_comm 18446744073709551616 a]
theorem Ox {X g f e lo a b c d t:Int} (q:0<=X) (r:0<=g) (s:g<18446744073709551616*18446744073709551616) (u:f=X*18446744073709551616+g)
  (l:Word e) (m:Word lo) (v:a=X/18446744073709551616) (hb:b=X%18446744073709551616) (w:c=g/18446744073709551616) (x:d=g%18446744073709551616) (y:t=(b+c)%18446744073709551616):
  (0<=b/\0<=c/\0<=t/\0<=d/\b<18446744073709551616/\c<18446744073709551616/\(t<b↔t<c))/\(0<a->¬f<=e*18446744073709551616+lo)/\(a<=0->t<b->¬f<=e*18446744073709551616+lo)/\
  (a<=0->b<=t->(t<e->f<=e*18446744073709551616+lo)/\(e<t->¬f<=e*18446744073709551616+lo)/\(t=e->(f<=e*18446744073709551616+lo↔d<=lo))):=by
 obtain⟨o,p⟩:=l;obtain⟨z,A⟩:=m;have j:c<18446744073709551616:=oM;refine⟨⟨oM,oM,oM,oM,oM,j,by constructor<;>(intro h;omega)⟩,λh=>by omega,λh k=>by omega,λh k=>⟨λi=>by omega,λi=>by omega,λi=>⟨λn=>by omega,λn=>by omega⟩⟩⟩
theorem FB {a:Int} (g:Word a):Word (a*a/18446744073709551616)/\Word (a*a%18446744073709551616)/\0<=a*a/18446744073709551616*a/\0<=a*a%18446744073709551616*a/\a*a%18446744073709551616*a<18446744073709551616*18446744073709551616:=by
 obtain⟨b,l⟩:=g;have i:=dK b b;have j:a*a<=18446744073709551615*18446744073709551615:=by
  refine oK (Int.mul_le_mul_of_nonneg_left (show a<=18446744073709551615 by omega) b) ?_;exact bC oM dC
 generalize a*a=c at*
 have e:0<=c/18446744073709551616:=oM;have d:0<=c%18446744073709551616:=oM;have f:c%18446744073709551616<18446744073709551616:=oM;refine⟨⟨e,oM⟩,⟨d,f⟩,dK e b,dK d b,?_⟩;have k:c%18446744073709551616*a<=18446744073709551615*18446744073709551615:=by
  refine oK (Int.mul_le_mul_of_nonneg_left (show a<=18446744073709551615 by omega) d) ?_;exact bC oM dC
 omega
theorem Rm {a c lo:Int} (b:8796093022208<=a) (e:Word c) (f:Word lo):nP a c lo=false:=by
 obtain⟨i,j⟩:=e;obtain⟨k,l⟩:=f;have d:8796093022208*8796093022208<=a*a:=Int.mul_le_mul b b dC oM;have g:8796093022208*8796093022208*8796093022208<=a*a*a:=Int.mul_le_mul d b dC oM;unfold nP;simp;omega
theorem OG (a c lo:Int) (j:Word a) (A:Word c) (B:Word lo) (w:World):
  Calls Tryz.prog 265 #[uI a,uI c,uI lo] w λb d=>b=.returned (bV (nP a c lo))/\w=d:=by
 by_cases z:8796093022208<=a
 ·have b:=Rm z A B
  have e:=zH b;clear b;go_enter Tryz.func265,Tryz.ntmps265;go_wp2_with fail;go_ret;exact⟨eF e.out.symm,rfl⟩
 ·have a1:decide (8796093022208<=a)=false:=by simp;omega
  obtain⟨I,J,K,L,M⟩:=FB j;have C:=λw=>uW a a j j w;have D:=λw=>uW (a*a/18446744073709551616) a I j w;have E:=λw=>uW (a*a%18446744073709551616) a J j w;obtain⟨⟨T,V,a5,X,U,W,S⟩,F,G,H⟩:=Ox K L M (Ll a) A B rfl rfl rfl rfl rfl;have y:nP a c lo=decide (a*a*a<=c*18446744073709551616+lo):=rfl;generalize a*a/18446744073709551616*a/18446744073709551616=o at*
  generalize a*a/18446744073709551616*a%18446744073709551616=i at*
  generalize a*a%18446744073709551616*a/18446744073709551616=p at*
  generalize a*a%18446744073709551616*a%18446744073709551616=Q at*
  generalize a*a/18446744073709551616=a3 at*
  generalize a*a%18446744073709551616=a4 at*
  have a2:IntKind.u64.wrap (i+p)=(i+p)%18446744073709551616:=IntKind.wrap_u64 _;generalize(i+p)%18446744073709551616=f at*
  have k:=zH C;have l:=zH D;have m:=zH E;have N:=zH F;have O:=zH G;have P:=zH H;have g:=zH y;clear C D E F G H y z I J K L M S;by_cases u:0<o
  ·have b:nP a c lo=false:=by rw[g.out];simpa using N.out u
   have e:=zH b;clear b;go_enter Tryz.func265,Tryz.ntmps265;go_wp2_with fail;refine(k.out _).mono ?_;rintro b d ⟨rfl,rfl⟩;go_wp2_with fail;refine(l.out _).mono ?_;rintro b d ⟨rfl,rfl⟩;go_wp2_with fail;refine(m.out _).mono ?_;rintro b d ⟨rfl,rfl⟩;go_wp2_with fail;go_ret;exact⟨eF (by have:=e;unfold Hid at this;exact this.symm),rfl⟩
  ·have Z:decide (0<o)=false:=by simp;omega
   have v:o<=0:=oM;clear u;by_cases x:f<i
   ·have b:nP a c lo=false:=by rw[g.out];simpa using O.out v x
    have e:=zH b;clear b;go_enter Tryz.func265,Tryz.ntmps265;go_wp2_with fail;refine(k.out _).mono ?_;rintro b d ⟨rfl,rfl⟩;go_wp2_with fail;refine(l.out _).mono ?_;rintro b d ⟨rfl,rfl⟩;go_wp2_with fail;refine(m.out _).mono ?_;rintro b d ⟨rfl,rfl⟩;go_wp2_with fail;go_ret;exact⟨eF (by have:=e;unfold Hid at this;exact this.symm),rfl⟩
   ·obtain⟨q,r,s⟩:=P.out v oM
    (have a0:decide (f<i)=false:=by simp;omega);clear x;by_cases t:f<c
    ·have b:nP a c lo=true:=by rw[g.out];simpa using q t
     have e:=zH b;clear b q r s;go_enter Tryz.func265,Tryz.ntmps265;go_wp2_with fail;refine(k.out _).mono ?_;rintro b d ⟨rfl,rfl⟩;go_wp2_with fail;refine(l.out _).mono ?_;rintro b d ⟨rfl,rfl⟩;go_wp2_with fail;refine(m.out _).mono ?_;rintro b d ⟨rfl,rfl⟩;go_wp2_with fail;go_ret;exact⟨eF (by have:=e;unfold Hid at this;exact this.symm),rfl⟩
    ·have Y:decide (f<c)=false:=by simp;omega
     by_cases n:f=c
     case' pos=>
      (have b:nP a c lo=decide (Q<=lo):=by rw[g.out,decide_eq_decide];exact s n);have e:=zH b;have R:(f==c)=true:=by simp[n]
     case' neg=>
      (have b:nP a c lo=false:=by rw[g.out];simpa using r oM);have e:=zH b;have R:(f==c)=false:=by simp[n]
     all_goals
      clear b q r s t n;go_enter Tryz.func265,Tryz.ntmps265;go_wp2_with fail;refine(k.out _).mono ?_;rintro b d ⟨rfl,rfl⟩;go_wp2_with fail;refine(l.out _).mono ?_;rintro b d ⟨rfl,rfl⟩;go_wp2_with fail;refine(m.out _).mono ?_;rintro b d ⟨rfl,rfl⟩;go_wp2_with fail;go_ret;exact⟨eF (by have:=e;unfold Hid at this;exact this.symm),rfl⟩
theorem or_bit {q:Int} {j:Nat} (e:0<=q) (i:1<=j) (h:q*2^j+2^(j -1)<18446744073709551616):bits BinOp.or IntKind.u64 (q*2^j) (2^(j -1))=q*2^j+2^(j -1):=by
 obtain⟨q,rfl⟩:=bH e;(have c:(q:Int)*2^j=((2^j*q:Nat):Int):=by simp[Int.mul_comm]);have d:(2:Int)^(j -1)=((2^(j -1):Nat):Int):=sM;have f:2^(j -1)<2^j:=Nat.pow_lt_pow_right oM oM;rw[c,d]at h|-;have k:2^j*q+2^(j -1)<18446744073709551616:=by
  generalize 2^j*q=a at*
  generalize 2^(j -1)=b at*
  omega
 have g:=Nat.two_pow_add_eq_or_of_lt f q;generalize 2^j*q=a at*
 generalize 2^(j -1)=b at*
 rw[bits_or_u64_nat a b oM oM,<-g];omega
theorem OP {k:Nat} (h:k<64):IntKind.u64.wrap (2^k)=2^k:=by
 rw[IntKind.wrap_u64];have a:2^k<2^64:=Nat.pow_lt_pow_right oM h;have b:((2:Int)^k)=((2^k:Nat):Int):=sM;rw[b];generalize 2^k=c at a;omega
theorem yu (k:Nat):(0:Int)<2^k:=Int.pow_pos dC
theorem qJ {j:Nat} (h:1<=j):(2:Int)^j=2*2^(j -1):=by
 have:j=(j -1)+1:=oM
 conv=>lhs;rw[this,Int.pow_succ]
 omega
theorem key1 {q:Int} {j:Nat} (h:1<=j):(2*q+1)*2^(j -1)=q*2^j+2^(j -1):=by
 rw[qJ h,Int.add_mul,Int.one_mul,Int.mul_comm 2 q,Int.mul_assoc]
theorem key0 {q:Int} {j:Nat} (h:1<=j):(2*q)*2^(j -1)=q*2^j:=by
 rw[qJ h,Int.mul_comm 2 q,Int.mul_assoc]
theorem keyY {q:Int} {j:Nat} (h:1<=j):q*2^j+2^(j -1)+2^(j -1)=q*2^j+2^j:=by
 have:=qJ h;omega
theorem BO {j:Nat} (h:1<=j):((j:Int) -1 -1)=((j -1:Nat):Int) -1:=oM
theorem QU (c lo:Int) (A:Word c) (B:Word lo) (w:World):
  Calls Tryz.prog 254 #[uI c,uI lo] w λg l=>g=.returned (uI (vN c lo))/\w=l:=by
 go_enter Tryz.func254,Tryz.ntmps254;go_wp2_with fail;go_loop [5,6] (λC j=>∃(a:Nat) (b:Int),a<=43/\j=jI ((a:Int) -1)/\C=uI (b*2^a)/\0<=b/\Hid (b*2^a+2^a<=8796093022208)/\
  Hid (pR c lo a (b*2^a)=vN c lo)) (λ_ j=>(intOf j+1).toNat)
 case atStart=>
  exact⟨43,0,oM,rfl,rfl,oM,by(show(0:Int)*2^43+2^43<=8796093022208);decide,by(show pR c lo 43 (0*2^43)=vN c lo);rw[Int.zero_mul];rfl⟩
 case round=>
  obtain⟨a,b,F,rfl,rfl,v,i,o⟩:=hrel;by_cases d:1<=a
  ·have E:decide (0<=(a:Int) -1)=true:=by simp;omega
   have K:=OP (k:=a -1) oM;have I:=yu (a -1);have J:0<=b*2^a:=dK v (Int.le_of_lt (yu a));have s:=qJ d;(have u:b*2^a+2^(a -1)<18446744073709551616:=by have:=i.out;omega);have H:=or_bit v d u;have p:=λw=>OG (b*2^a+2^(a -1)) c lo ⟨oM,u⟩ A B w;have t:pR c lo (a -1) (if nP (b*2^a+2^(a -1)) c lo then b*2^a+2^(a -1)else b*2^a)=vN c lo:=by
    rw[<-o.out];have:a=(a -1)+1:=oM
    conv=>rhs;rw[this]
    rw[pR,<-this]
   have m:=zH p;have y:=zH s;have n:=zH t;clear p s t;by_cases e:nP (b*2^a+2^(a -1)) c lo=true
   ·have f:Hid (pR c lo (a -1) (b*2^a+2^(a -1))=vN c lo):=by have:=n.out;rwa [aB e]at this
    go_wp2_with fail;refine(m.out _).mono ?_;rintro g l ⟨rfl,rfl⟩;go_wp2_with fail;go_round;(case rel=>exact⟨a -1,2*b+1,oM,by rw[BO d],by rw[key1 d],oM,by rw[key1 d,keyY d];exact i,by rw[key1 d];exact f⟩);case measure=>simp[intOf];omega
   ·have D:nP (b*2^a+2^(a -1)) c lo=false:=by simpa using e
    (have f:Hid (pR c lo (a -1) (b*2^a)=vN c lo):=by have:=n.out;rwa [Ww e]at this);(have r:b*2^a+2^(a -1)<=8796093022208:=by have:=i.out;have:=y.out;omega);have x:=zH r;clear e r;go_wp2_with fail;refine(m.out _).mono ?_;rintro g l ⟨rfl,rfl⟩;go_wp2_with fail;go_round;(case rel=>exact⟨a -1,2*b,oM,by rw[BO d],by rw[key0 d],oM,by rw[key0 d];exact x,by rw[key0 d];exact f⟩);case measure=>simp[intOf];omega
  ·have G:(a:Int)<1:=oM
   have q:a=0:=oM;have z:Hid (b*2^a=vN c lo):=by
    have:=o.out;rw[q]at this|-;exact this
   clear q d;go_wp2_with fail;go_ret;exact⟨jk z.out,rfl⟩
theorem Li {a d:Int} (h:a<d):xB a d=true:=by unfold xB;simp;omega
theorem zJ {a b:Int} (e:Word a) (hb:Word b):Word (a*b/18446744073709551616)/\Word (a*b%18446744073709551616):=by
 obtain⟨c,f⟩:=e;obtain⟨d,g⟩:=hb;have i:=dK c d;have j:a*b<=18446744073709551615*18446744073709551615:=by
  refine oK (Int.mul_le_mul_of_nonneg_left (show b<=18446744073709551615 by omega) c) ?_;exact bC oM dC
 generalize a*b=k at*
 exact⟨⟨oM,oM⟩,⟨oM,oM⟩⟩
end Go.Proofs.YtiflndepmgnojaaGreat
