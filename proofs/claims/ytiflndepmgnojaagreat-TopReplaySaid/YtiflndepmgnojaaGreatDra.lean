import Derived.Test.YtiflndepmgnojaaGreatNumC
import Derived.Test.YtiflndepmgnojaaGreatOff
import Derived.Test.YtiflndepmgnojaaGreatInv
import Derived.Test.YtiflndepmgnojaaGreatLawL
namespace Go.Proofs.YtiflndepmgnojaaGreat
open Go.RowKit
set_option linter.unusedSimpArgs false
set_option linter.unusedVariables false
set_option maxHeartbeats 1000000
set_option maxRecDepth 100000
attribute[local go_sem] BW.cell BW.frozen
def seV (s:Se):List Value:=[uI s.pn,uI s.off,uI s.len,uI s.bX,uI s.sat,bV s.rE,bV s.used,jI s.aS]
theorem pZ:Elem Tryz.prog 87 177 8 56 seV:=
 ⟨Tryz.underlying87,by
  obtain⟨a,c,d,e,f⟩:=info_parts (show(Tryz.prog.info? 177).map (λa=>(a.zero,a.size,a.bytes))=some (some (.agg #[uI 0,uI 0,uI 0,uI 0,uI 0,bV false,bV false,jI 0]),8,56) by kernel_rfl);exact⟨a,_,c,d,e,f,rfl⟩,dC,λ_=>rfl,λi g b=>by simp[seV]at b;rcases b with rfl|rfl|rfl|rfl|rfl|rfl|rfl|rfl<;>rfl⟩
def Ses (w:World) (S:Nat->Prop) (a:Option Addr) (l:List Se):Prop:=Row w S 177 8 a l.length (l.flatMap seV)
theorem Ses.at_ {w w':World} {S:Nat->Prop} {a:Option Addr} {l:List Se} {j:Nat} (h:Ses w S a l) (hb:bW w w') (r:j<l.length):
  ∃b c,a=some ⟨b,c,none⟩/\b<w.heap.size/\w'.cell? ⟨b,c+j*8,none⟩=some (uI l[j].pn)/\w'.cell? ⟨b,c+j*8+1,none⟩=some (uI l[j].off)/\w'.cell? ⟨b,c+j*8+2,none⟩=some (uI l[j].len)/\
   w'.cell? ⟨b,c+j*8+3,none⟩=some (uI l[j].bX)/\w'.cell? ⟨b,c+j*8+4,none⟩=some (uI l[j].sat)/\w'.cell? ⟨b,c+j*8+5,none⟩=some (bV l[j].rE)/\
   w'.cell? ⟨b,c+j*8+6,none⟩=some (bV l[j].used)/\w'.cell? ⟨b,c+j*8+7,none⟩=some (jI l[j].aS):=by
 obtain⟨b,c,n,t,k,g⟩:=Row.at_ h oM;have q:=λd g=>mr (f:=seV) (m:=8) (λ_=>rfl) l j d r g;have e:∀d i,d<8->(seV l[j])[d]?=some i->w'.cell? ⟨b,c+j*8+d,none⟩=some i:=λd i o s=>by
  rw[Nat.add_assoc];exact(hb.cell (p:=⟨b,c+(j*8+d),none⟩) k).trans (g _ _ ((q d o).trans s))
 exact⟨b,c,n,k,e 0 _ oM rfl,e 1 _ oM rfl,e 2 _ oM rfl,e 3 _ oM rfl,e 4 _ oM rfl,e 5 _ oM rfl,e 6 _ oM rfl,e 7 _ oM rfl⟩
structure iJ (w:World) (S:Nat->Prop) (p:Nat) (l:Le):Prop where
 ex:∃a c,Blk w p 236 #[jI l.ring,uI l.dO,uI l.next,.slice a l.kept.length c]/\OwnAt w S 177 8 a l.kept.length c (l.kept.flatMap seV)
 mem:S p
section
variable {w w':World} {S S':Nat->Prop} {p:Nat} {l:Le} {ts:List (Option TypeId)}
theorem iJ.lt (h:iJ w S p l):p<w.heap.size:=by obtain⟨a,b,h,_⟩:=h.ex;exact h.lt
theorem iJ.keep (h:iJ w S p l) (a:bQ S ts w w') (d:some 236∈ts) (e:some 177∈ts):iJ w' S p l:=by
 obtain⟨b,c,f,g⟩:=h.ex;exact⟨⟨b,c,f.keep a h.mem d,g.keep a e⟩,h.mem⟩
theorem iJ.below (h:iJ w S p l) (hb:bW w w'):iJ w' S p l:=h.keep (ts:=[some 236,some 177]) (bQ.below hb) sM sM
theorem iJ.mono (h:iJ w S p l) (a:∀b,S b->S' b):iJ w S' p l:=by
 obtain⟨c,d,e,f⟩:=h.ex;exact⟨⟨c,d,e,f.mono a⟩,a _ h.mem⟩
end
theorem gM.words {l:Le} (h:gM l):Word l.next/\Word l.ring/\Word l.dO/\Word (gT l):=by
 have:=h.pE;have:=h.nI;have:=h.mh;have:=h.wZ;have:=h.lW;have:=h.limit0;rw[nU];unfold Word;omega
theorem pK (S:Nat->Prop) (p:Nat) (l:Le) (w:World) (h:iJ w S p l):
  Calls Tryz.prog 61 #[pT p] w λb w'=>b=.returned (uI l.next)/\w=w':=by
 obtain⟨c,d,a,_⟩:=h.ex;have e:=a.Wu 2;clear h a;go_enter Tryz.func61,Tryz.ntmps61;go_wp2_with fail;go_ret;exact⟨rfl,rfl⟩
theorem qY (S:Nat->Prop) (p:Nat) (l:Le) (w:World) (h:iJ w S p l) (e:gM l):
  Calls Tryz.prog 70 #[pT p] w λb w'=>b=.returned (uI (gT l))/\∃g,w'=w.drewN g:=by
 obtain⟨i,j,c,_⟩:=h.ex;have m:=c.Wu 2;have k:=c.Wu 0;obtain⟨d,a,_,_⟩:=e.words;have n:=a.1;have o:=a.2;clear h c;have f:gT l=WU l.next l.ring:=rfl;rw[f];go_enter Tryz.func70,Tryz.ntmps70;go_wp2_with fail;refine bN kR kR ?_;(repeat (first|go_big_quiet_step ((go_at_call 147;exact aJ ((AP _ _ d a _).mono λb w' h=>⟨h.1,h.2.symm⟩)))|quiet_step ((go_at_call 147;exact aJ ((AP _ _ d a _).mono λb w' h=>⟨h.1,h.2.symm⟩)))));refine aK ?_;rintro _ ⟨nq,rfl⟩;go_wp2_with fail;go_ret;exact⟨rfl,_,rfl⟩
theorem Gs (n:Int) (s:Se) (t:List Se):gB n (s::t)=if s.aS=1 then s.pn else gB n t:=rfl
theorem Dt (n:Int) (s:Se) (t:List Se):iT n (s::t)=iT (if s.aS=1 then WI n s.len else n) t:=rfl
theorem xR (S:Nat->Prop) (p:Nat) (l:Le) (w:World) (h:iJ w S p l) (i:gM l):
  Calls Tryz.prog 66 #[pT p] w λy w'=>y=.returned (uI (eY l))/\bW w w':=by
 obtain⟨u,P,e,q⟩:=h.ex;have o:=e.Wu 2;have v:=e.Wu 3;have B:=e.lt;(have A:l.kept.length<=1000:=by have:=i.len;have:=i.lW;omega);have m:=zH (show Ses w S u l.kept from q.row);clear h e q i;obtain⟨L,x,next,a⟩:=l;(have s:eY ⟨L,x,next,a⟩=gB next a:=rfl);rw[s];simp only at o v A m;clear s;go_enter Tryz.func66,Tryz.ntmps66;go_wp2_with fail;go_loopw [12,4,14,15] (λj a4 a2 a3 wr=>∃(c:Nat),c<=a.length/\j=jI c/\Hid (gB next (a.drop c)=gB next a)/\Hid (bW w wr)) (λj _ _ _ _=>a.length -(intOf j).toNat);(case atStart=>exact⟨0,oM,rfl,rfl,aj _ _⟩);case round=>
  obtain⟨c,U,rfl,k,d⟩:=hrel;have V:=d.out.size;have R:=(d.out.cell (p:=⟨p,2,none⟩) B).trans o;by_cases r:c<a.length
  ·obtain⟨N,X,rfl,T,C,D,E,F,G,H,I,J⟩:=m.out.at_ d.out r
   have b:=k.out;rw[aR r,Gs]at b;generalize a[c]=M at*
   obtain⟨K,a0,W,O,Z,Y,a1,n⟩:=M;simp only at C D E F G H I J b;by_cases g:n=1
   ·subst g
    have f:Hid (gB next a=K):=zH (by rw[<-b];rfl);clear b;go_wp2_with fail;go_ret;exact⟨jk f.out.symm,by have z:=d.out;exact BEL⟩
   ·have Q:(n==1)=false:=by simp[g]
    have t:Hid (gB next (a.drop (c+1))=gB next a):=zH (by rw[<-b,Ww g]);clear b;go_wp2_with fail;go_roundw;(case rel=>exact⟨c+1,oM,by go_num,t,zH (by have z:=d.out;exact BEL)⟩);case measure=>simp[intOf];omega
  ·obtain rfl:c=a.length:=oM
   have b:=k.out;rw[List.drop_length]at b;have f:Hid (gB next a=next):=zH b.symm;clear b;go_wp2_with fail;go_ret;exact⟨jk f.out.symm,d.out⟩
theorem vB (S:Nat->Prop) (p:Nat) (l:Le) (w:World) (h:iJ w S p l) (f:gM l):
  Calls Tryz.prog 68 #[pT p] w λx T=>x=.returned (uI (gq l))/\bW w T:=by
 obtain⟨E,X,m,y⟩:=h.ex;have F:=m.Wu 3;have a1:=m.lt;(have I:l.kept.length<=1000:=by have:=f.len;have:=f.lW;omega);have u:=zH (show Ses w S E l.kept from y.row);have s:=zH f.ok;clear h m y f;obtain⟨R,G,next,a⟩:=l;have z:gq ⟨R,G,next,a⟩=iT 0 a:=rfl;rw[z];simp only at F I u s;clear z;go_enter Tryz.func68,Tryz.ntmps68;go_wp2_with fail;go_loopw [13,3,5,15,16] (λq U b2 b0 b1 wr=>∃(b:Nat) (d:Int),b<=a.length/\q=jI b/\U=uI d/\Hid (Word d)/\Hid (iT d (a.drop b)=iT 0 a)/\Hid (bW w wr)) (λq _ _ _ _ _=>a.length -(intOf q).toNat);(case atStart=>exact⟨0,0,oM,rfl,rfl,⟨dC,dC⟩,rfl,aj _ _⟩);case round=>
  obtain⟨b,d,a0,rfl,rfl,j,t,e⟩:=hrel;have a2:=e.out.size;by_cases n:b<a.length
  ·obtain⟨V,a3,rfl,Z,J,K,L,M,N,O,P,Q⟩:=u.out.at_ e.out n
   have c:=t.out;rw[aR n,Dt]at c;have o:=s.out _ (aN n);generalize a[b]=A at*
   have g:Word A.len:=⟨o.yQ,by have:=o.Dr;omega⟩;clear o;obtain⟨a4,a7,r,W,a6,a5,a8,v⟩:=A;simp only at J K L M N O P Q c g;by_cases k:v=1
   ·subst k
    have i:Hid (iT (WI d r) (a.drop (b+1))=iT 0 a):=zH (by rw[<-c];rfl);clear c;have B:=zH (nY d r j.out g);have D:Hid (Word (WI d r)):=zH (fB j.out g);clear g;go_wp2_with fail;refine(B.out _).mono ?_;rintro x a9 ⟨rfl,rfl⟩;go_wp2_with fail;go_roundw;(case rel=>exact⟨b+1,_,oM,by go_num,rfl,D,i,zH (by have H:=e.out;exact BEL)⟩);case measure=>simp[intOf];omega
   ·have Y:(v==1)=false:=by simp[k]
    have i:Hid (iT d (a.drop (b+1))=iT 0 a):=zH (by rw[<-c,Ww k]);clear c;go_wp2_with fail;go_roundw;(case rel=>exact⟨b+1,d,oM,by go_num,rfl,j,i,zH (by have H:=e.out;exact BEL)⟩);case measure=>simp[intOf];omega
  ·obtain rfl:b=a.length:=oM
   have c:=t.out;rw[List.drop_length]at c;have C:Hid (iT 0 a=d):=zH c.symm;clear c;go_wp2_with fail;go_ret;exact⟨jk C.out.symm,e.out⟩
theorem zK (S:Nat->Prop) (p:Nat) (l:Le) (w:World) (h:iJ w S p l) (a:gM l):
  Calls Tryz.prog 91 #[pT p] w λi c=>i=.returned (jI (eu l))/\bW w c:=by
 obtain⟨q,r,b,j⟩:=h.ex;have t:=b.Wu 2;have s:=b.Wu 0;have u:=b.lt;have d:=zH (λc (k:bW w c)=>xR S p l c (h.below k) a);have e:=a.bn;have n:=nU l;obtain⟨g,o,_,_⟩:=a.words;have f:eu l=l.ring -(l.next -eY l):=rfl;have D:=a.wZ;have E:=a.lW;have x:=a.pE;(have y:l.next<=4611686018427387904:=by have:=a.nI;have:=a.mh;omega);have z:0<=eY l:=oM;have A:eY l<=l.next:=e.2;have B:l.next -eY l<=l.ring:=oM;have C:0<=l.next -eY l:=oM;rw[f];clear h b j a e n f g o;generalize eY l=v at*
 go_enter Tryz.func91,Tryz.ntmps91;go_wp2_with fail;refine fq kR kR ?_;(repeat (first|go_big_quiet_step (((go_at_call 66;exact bU _ (d.out _ (by apply BW.same)))))|quiet_step (((go_at_call 66;exact bU _ (d.out _ (by apply BW.same)))))));refine aK ?_;refine bwI ?_;intro g m;go_wp2_with fail;go_ret;exact⟨rfl,m⟩
def xI (s c z:Int):Int:=IntKind.u64.wrap (bits BinOp.xor IntKind.u64 z (z/s)*c)
def mixI (k:Int):Int:=
 let a:=xI 134217728 10723151780598845931 (xI 1073741824 13787848793156543929 (IntKind.u64.wrap (IntKind.u64.wrap (k+1)*11400714819323198485)))
 bits BinOp.xor IntKind.u64 a (a/2147483648)
theorem Gi (c n:Nat):mulN c n<rJ:=Nat.mod_lt _ dC
theorem DV {X s C:Nat} (h:X<rJ):xI ((2^s:Nat):Int) (C:Int) (X:Int)=((mulN C (xsN s X):Nat):Int):=by
 unfold xI mulN xsN;rw[Nat.shiftRight_eq_div_pow];exact mixStep_u64 X (2^s) C h
theorem R4 {k:Nat}:mixI (k:Int)=((mixN k:Nat):Int):=by
 have d:IntKind.u64.wrap (IntKind.u64.wrap ((k:Int)+1)*11400714819323198485)=((mulN 11400714819323198485 ((k+1)%rJ):Nat):Int):=by
  rw[IntKind.wrap_u64,IntKind.wrap_u64];unfold mulN rJ;rw[Int.natCast_emod,Int.natCast_mul,Int.natCast_emod,Int.natCast_add];rfl
 have e:=DV (s:=30) (C:=13787848793156543929) (Gi 11400714819323198485 ((k+1)%rJ));have f:=DV (s:=27) (C:=10723151780598845931) (Gi 13787848793156543929 (xsN 30 (mulN 11400714819323198485 ((k+1)%rJ))));unfold mixI;rw[d];have b:xI 1073741824 13787848793156543929 ((mulN 11400714819323198485 ((k+1)%rJ):Nat):Int)=((mulN 13787848793156543929 (xsN 30 (mulN 11400714819323198485 ((k+1)%rJ))):Nat):Int):=e;have c:xI 134217728 10723151780598845931 ((mulN 13787848793156543929 (xsN 30 (mulN 11400714819323198485 ((k+1)%rJ))):Nat):Int)=((mulN 10723151780598845931 (xsN 27 (mulN 13787848793156543929 (xsN 30 (mulN 11400714819323198485 ((k+1)%rJ))))):Nat):Int):=f;rw[b,c];unfold mixN;have a:=xorShift_u64 (mulN 10723151780598845931 (xsN 27 (mulN 13787848793156543929 (xsN 30 (mulN 11400714819323198485 ((k+1)%rJ)))))) 2147483648 (Gi _ _);have g:((2147483648:Nat):Int)=2147483648:=dC;rw[g]at a;show bits BinOp.xor IntKind.u64 _ _=_;rw[a];generalize mulN 10723151780598845931 (xsN 27 (mulN 13787848793156543929 (xsN 30 (mulN 11400714819323198485 ((k+1)%rJ)))))=i;unfold xsN;rw[Nat.shiftRight_eq_div_pow]
theorem Qk {x n:Int} (b:Word x) (d:1<=n) (e:n<64):bits BinOp.and IntKind.u64 x (IntKind.u64.wrap (IntKind.u64.wrap (2^n.toNat) -1))=x%2^n.toNat:=by
 obtain⟨c,i⟩:=b;obtain⟨x,rfl⟩:=bH c;obtain⟨n,rfl⟩:=bH (show 0<=n by omega);have f:2^n<2^64:=Nat.pow_lt_pow_right oM oM;have g:0<2^n:=Nat.two_pow_pos n;have a:IntKind.u64.wrap (IntKind.u64.wrap ((2:Int)^((n:Int)).toNat) -1)=((2^n -1:Nat):Int):=by
  rw[IntKind.wrap_u64,IntKind.wrap_u64];have:((2:Int)^((n:Int)).toNat)=((2^n:Nat):Int):=sM;rw[this];omega
 rw[a,bits_and_u64_nat x (2^n -1) oM oM,Nat.and_two_pow_sub_one_eq_mod];simp
theorem RZ (k:Int) (b:Word k) (w:World):
  Calls Tryz.prog 216 #[uI k] w λa c=>a=.returned (uI (mixI k))/\w=c:=by
 obtain⟨d,e⟩:=b;go_enter Tryz.func216,Tryz.ntmps216;go_wp2;go_ret;exact⟨by unfold mixI xI;rfl,rfl⟩
theorem R5 (x n:Int) (e:Word x) (w:World):
  Calls Tryz.prog 167 #[uI x,jI n] w λg i=>g=.returned (uI (yP x n))/\w=i:=by
 have c:=λa b=>Qk (x:=x) (n:=n) e a b;obtain⟨j,k⟩:=e;by_cases a:n<1
 ·go_enter Tryz.func167,Tryz.ntmps167
  go_wp2;go_ret;exact⟨jk (by unfold yP;rw[aB a]),rfl⟩
 ·by_cases b:64<=n
  ·go_enter Tryz.func167,Tryz.ntmps167
   go_wp2;go_ret;exact⟨jk (by unfold yP;rw[Ww oM,aB b]),rfl⟩
  ·have d:=c oM oM
   have l:1<=n:=oM;have m:n<64:=oM;clear c;have f:=zH d;clear d;go_enter Tryz.func167,Tryz.ntmps167;go_wp2;go_ret;exact⟨jk (f.out.trans (by unfold yP;rw[Ww oM,Ww oM])),rfl⟩
theorem QZ (x:Int) (b:Word x) (w:World):
  Calls Tryz.prog 168 #[uI x] w λa c=>a=.returned (bV (zn x))/\w=c:=by
 obtain⟨d,e⟩:=b;go_enter Tryz.func168,Tryz.ntmps168;go_wp2;go_ret;exact⟨rfl,rfl⟩
theorem MY (x o:Int) (c:Word x) (d:Word o) (w:World):
  Calls Tryz.prog 164 #[uI x,uI o] w λa e=>a=.returned (bV (zC x o))/\w=e:=by
 obtain⟨f,g⟩:=c;obtain⟨i,j⟩:=d;by_cases h:0<o
 ·go_enter Tryz.func164,Tryz.ntmps164
  go_wp2;go_ret;exact⟨eF (by unfold zC;simp[h]),rfl⟩
 ·have b:decide (0<o)=false:=by simp;omega
  go_enter Tryz.func164,Tryz.ntmps164;go_wp2;go_ret;exact⟨eF (by unfold zC;simp[b]),rfl⟩
def woV (x:Int):List Value:=[uI x]
theorem Fv:(Tryz.prog.info? 30).map (λa=>(a.zero,a.size,a.bytes))=some (some (uI 0),1,8):=by kernel_rfl
theorem qH:Elem Tryz.prog 23 30 1 8 woV:=
 ⟨Tryz.underlying23,by
  obtain⟨f,b,c,d,e⟩:=info_parts Fv;exact⟨f,_,b,c,d,e,rfl⟩,dC,λ_=>rfl,λi g a=>by simp[woV]at a;rw[a];rfl⟩
theorem oD (l:List Int):l.flatMap woV=l.map (Value.int .u64):=by
 induction l with
 |nil=>rfl
 |cons x t ih=>simp[woV,ih]
def Wot (tw:TypeId) (w:World) (S:Nat->Prop) (a:Option Addr) (l:List Int):Prop:=Row w S tw 1 a l.length (l.flatMap woV)
def Wos (w:World) (S:Nat->Prop) (a:Option Addr) (l:List Int):Prop:=Row w S 30 1 a l.length (l.flatMap woV)
theorem Wos.at_ {w w':World} {S:Nat->Prop} {a:Option Addr} {l:List Int} {j:Nat} (h:Wos w S a l) (hb:bW w w') (g:j<l.length):
  ∃b c,a=some ⟨b,c,none⟩/\b<w.heap.size/\w'.cell? ⟨b,c+j,none⟩=some (uI l[j]):=by
 obtain⟨b,c,e,i,d,f⟩:=Row.at_ h oM;refine⟨b,c,e,d,(hb.cell (p:=⟨b,c+j,none⟩) d).trans (f j _ ?_)⟩;rw[oD];simp[g]
def rG (l:List Int):Prop:=∀a∈l,Word a
structure sw (w:World) (S:Nat->Prop) (p:Nat) (s:So):Prop where
 ex:∃a c,Blk w p 232 #[.slice a s.l.length c,jI s.fI]/\Wos w S a s.l
 mem:S p
section
variable {w w':World} {S S':Nat->Prop} {p:Nat} {s:So} {ts:List (Option TypeId)}
theorem sw.lt (h:sw w S p s):p<w.heap.size:=by obtain⟨a,b,h,_⟩:=h.ex;exact h.lt
theorem sw.keep (h:sw w S p s) (a:bQ S ts w w') (d:some 232∈ts) (e:some 30∈ts):sw w' S p s:=by
 obtain⟨b,c,f,g⟩:=h.ex;exact⟨⟨b,c,f.keep a h.mem d,aG g a e⟩,h.mem⟩
theorem sw.below (h:sw w S p s) (hb:bW w w'):sw w' S p s:=h.keep (ts:=[some 232,some 30]) (bQ.below hb) sM sM
theorem sw.mono (h:sw w S p s) (a:∀b,S b->S' b):sw w S' p s:=by
 obtain⟨c,d,e,f⟩:=h.ex;exact⟨⟨c,d,e,aF f a⟩,a _ h.mem⟩
end
theorem MX {tw:TypeId} (S:Nat->Prop) (a:Option Addr) (c:Nat) (l:List Int) (w:World) (h:Wot tw w S a l) (u:l.length<=1000000000):
  Calls Tryz.prog 43 #[.slice a l.length c] w λq w'=>∃p,q=.returned ((pT p))/\w.heap.size<=p/\sw w' (λd=>w.heap.size<=d/\d<w'.heap.size) p ⟨l,0⟩/\bW w w':=by
 have n:=zH h;clear h;go_enter Tryz.func43,Tryz.ntmps43;go_wp2_with (at_builtin;refine qH.wpList rfl _ (.tmp 3) rfl w.heap.size none 0 [] (by rfl) (iq _ _ _ _) a c l (by rfl) n.out sO dC (av _) ?_;intro k o e j g;have f:bW w e:=(aj w.heap.size w).grown g (av _) (by simp[Value.ownBlock]);have m:=zH j;have b:=zH f;clear j g f);go_ret;have i:=m.out;rw[List.nil_append]at i;have r:=OwnAt.fresh (w:=w) i;refine⟨e.heap.size,rfl,b.out.size,⟨⟨k,o,Wx e 232 _,?_⟩,⟨b.out.size,sM⟩⟩,b.out.alloc b.out.size _⟩;exact aF (aD r.row ((aj _ _).alloc (av _) _)) (λd t=>⟨t.1,by simp;omega⟩)
theorem Kr (S:Nat->Prop) (p:Nat) (s:So) (w:World) (h:sw w S p s) (I:s.l.length<=1000000000) (M:s.fI<=1000000000):
  Calls Tryz.prog 165 #[pT p] w λd w'=>d=.returned (uI (Ai s.l s.fI))/\sw w' S p ⟨s.l,s.fI+1⟩/\Mod S [some 232] w w':=by
 have l:=h.mem;obtain⟨n,q,b,e⟩:=h.ex;have z:=b.Wu 0;obtain⟨A,E⟩:=b.cz 1;have k:sw (w.setCell ⟨p,1,none⟩ (jI (s.fI+1))) S p ⟨s.l,s.fI+1⟩/\Mod S [some 232] w (w.setCell ⟨p,1,none⟩ (jI (s.fI+1))):=by
  refine⟨⟨⟨n,q,by simpa using b.bF 1 (jI (s.fI+1)),?_⟩,l⟩,(aV _ _ _).setCell b (λ_=>l) sM 1 _⟩;exact aG e (ts:=[some 30]) (bQ.setCell b dC 1 _) sM
 have g:=zH k;obtain⟨c,a⟩:=s;simp only at*
 by_cases j:a<c.length
 ·obtain⟨o,x,rfl,G,H⟩:=Wos.at_ e (aj _ _) j
  (have f:Ai c a=c[a]:=by unfold Ai;rw[aB j];simp[aW,aL j]);have L:¬((⟨p,1,none⟩:Addr)=⟨o,x+a,none⟩):=by
   intro v;injection v with r C;subst r;obtain⟨y,N,B,F,d,_,i,_⟩:=Row.at_ e oM|>λ_=>e.2 oM;injection d with d;injection d with t D;subst t;unfold Blk at b;rw[b]at i;injection i with i;injection i with _ u;cases u
  rw[f];generalize c[a]=P at*
  clear k h b e f;go_enter Tryz.func165,Tryz.ntmps165;go_wp2_with fail;go_ret;exact⟨rfl,g.out.1,g.out.2⟩
 ·have J:decide (c.length<=a)=true:=by simp;omega
  have K:c.length<=a:=oM;(have f:Ai c a=mixI (a:Int):=by unfold Ai;rw[Ww j,R4]);rw[f];have m:=zH (RZ (a:Int) ⟨oM,oM⟩);clear k h b e f;go_enter Tryz.func165,Tryz.ntmps165;go_wp2_with fail;refine(m.out _).mono ?_;rintro d O ⟨rfl,rfl⟩;go_wp2_with fail;go_ret;exact⟨rfl,g.out.1,g.out.2⟩
theorem Jy (x:Int) (t:List Int) (m:Int):(x::t).foldl min m=t.foldl min (min m x):=rfl
theorem ES (S:Nat->Prop) (a:Option Addr) (c:Nat) (l:List Int) (w:World) (h:Wos w S a l) (v:l.length<=1000000000):
  Calls Tryz.prog 74 #[.slice a l.length c] w λo w'=>o=.returned (uI (vL l))/\w=w':=by
 have n:=zH h;clear h;go_enter Tryz.func74,Tryz.ntmps74;go_wp2_with fail;go_loop [8,3,5,10,11] (λi q C A B=>∃(d:Nat) (e:Int),d<=l.length/\i=jI d/\q=uI e/\Hid ((l.drop d).foldl min e=vL l)) (λi _ _ _ _=>l.length -(intOf i).toNat);(case atStart=>exact⟨0,18446744073709551615,oM,rfl,rfl,rfl⟩);case round=>
  obtain⟨d,e,u,rfl,rfl,f⟩:=hrel;by_cases j:d<l.length
  ·obtain⟨r,z,rfl,t,y⟩:=n.out.at_ (aj _ _) j
   have b:=f.out;rw[aR j,Jy]at b;generalize l[d]=k at*
   by_cases x:k<e
   ·rw[Int.min_eq_right oM]at b
    have g:=zH b;clear b f;go_wp2_with fail;go_round;(case rel=>exact⟨d+1,k,oM,by go_num,by go_num,g⟩);case measure=>simp[intOf];omega
   ·rw[Int.min_eq_left oM]at b
    have g:=zH b;clear b f;go_wp2_with fail;go_round;(case rel=>exact⟨d+1,e,oM,by go_num,by go_num,g⟩);case measure=>simp[intOf];omega
  ·obtain rfl:d=l.length:=oM
   have b:=f.out;rw[List.drop_length]at b;have m:Hid (e=vL l):=zH b;clear b;go_wp2_with fail;go_ret;exact⟨jk m.out,rfl⟩
end Go.Proofs.YtiflndepmgnojaaGreat
