import Derived.Test.YtiflndepmgnojaaGreatModel
namespace Go.Proofs.YtiflndepmgnojaaGreat
set_option linter.unusedSimpArgs false
set_option linter.unusedVariables false
set_option maxRecDepth 100000
def GF (b:Int):List Sp->Prop
 |[]=>True
 |s::t=>b<=s.lo/\s.lo<=s.hi/\s.hi<=4611686018427387903/\GF (s.hi+2) t
theorem Aq:∀(e:List Sp) (h:Int),oh (some h) e=true↔GF (h+2) e
 |[],h=>by simp[oh,GF]
 |s::t,h=>by
  have:=Aq t s.hi;simp only[oh,GF,jf,Bool.and_eq_true,decide_eq_true_eq,Bool.not_eq_true',decide_eq_false_iff_not,this];constructor
  .rintro⟨⟨⟨c,a⟩,d⟩,b⟩;exact⟨by omega,c,a,b⟩
  .rintro⟨c,a,d,b⟩;exact⟨⟨⟨a,d⟩,by omega⟩,b⟩
theorem zO {l:List Sp} (f:∀d∈l,0<=d.lo):iR l=true↔GF 0 l:=by
 cases l with
 |nil=>simp[iR,oh,GF]
 |cons d t=>
  have e:=f d (by simp);simp only[iR,oh,GF,jf,Bool.and_eq_true,decide_eq_true_eq,Aq,Bool.and_true,and_assoc];constructor
  .rintro⟨a,b,c⟩;exact⟨e,a,b,by simpa using c⟩
  .rintro⟨_,a,b,c⟩;exact⟨a,b,by simpa using c⟩
theorem GF.mono {b a:Int} {l:List Sp} (h:GF b l) (hb:a<=b):GF a l:=by
 cases l with
 |nil=>trivial
 |cons s t=>exact⟨by have:=h.1;omega,h.2⟩
theorem GF.low {l:List Sp}:∀{b:Int},GF b l->∀a∈l,b<=a.lo/\a.lo<=a.hi/\a.hi<=4611686018427387903:=by
 induction l with
 |nil=>intro b _ a c;cases c
 |cons x t ih=>
  intro b h a c;rcases List.mem_cons.1 c with rfl|c
  .exact⟨h.1,h.2.1,h.2.2.1⟩
  .obtain⟨e,f,g,d⟩:=h
   have:=ih d a c;omega
theorem iX (s:Sp) (t:List Sp) (n:Int):dI (s::t) n=(nV n s||dI t n):=rfl
theorem LB (n:Int):dI [] n=false:=rfl
theorem Du (l m:List Sp) (n:Int):dI (l++m) n=(dI l n||dI m n):=List.any_append ..
theorem pW {l:List Sp} {n:Int}:dI l n=true↔∃a∈l,a.lo<=n/\n<=a.hi:=by
 simp[dI,nV,List.any_eq_true]
theorem GF.any {l:List Sp} {b n:Int} (h:GF b l) (a:dI l n=true):b<=n/\n<=4611686018427387903:=by
 obtain⟨d,c,e,f⟩:=pW.1 a;have:=h.low d c;omega
theorem Cb:∀(e:List Sp) (a:Sp) (b c:Int),GF c e->a.lo<=a.hi->a.hi<=4611686018427387903->b<=a.lo->b<=c->GF b (WJ a e)
 |[],a,b,c,_,h1,h2,h3,_=>⟨h3,h1,h2,trivial⟩
 |x::t,a,b,c,hg,h1,h2,h3,h4=>by
  obtain⟨i,f,g,d⟩:=hg;unfold WJ;split
  .next h=>
   exact Cb t ⟨min a.lo x.lo,max a.hi x.hi⟩ b (x.hi+2) d (by simp only;omega) (by simp only;omega) (by simp only;omega) (by omega)
  .next h=>exact⟨h3,h1,h2,by omega,f,g,d⟩
theorem EA (n:Int):∀(c:List Sp) (a:Sp) (d:Int),GF d c->a.lo<=a.hi->(∀b∈c,a.lo<=b.hi+1)->dI (WJ a c) n=(nV n a||dI c n)
 |[],a,d,_,h1,_=>by simp[WJ,dI]
 |b::t,a,d,hg,h1,hx=>by
  obtain⟨i,j,k,e⟩:=hg;unfold WJ;split
  .next h=>
   rw[EA n t ⟨min a.lo b.lo,max a.hi b.hi⟩ (b.hi+2) e (by simp only;omega) (λg f=>by have:=e.low g f;simp only;omega),iX,<-Bool.or_assoc];congr 1;have:=hx b (by simp);rw[Bool.eq_iff_iff];simp[nV];omega
  .rfl
theorem De:∀(c:List Sp) (a:Sp) (b:Int),GF b c->a.lo<=a.hi->a.hi<=4611686018427387903->b<=a.lo->GF b (jb a c++WJ a (ja a c))
 |[],a,b,_,h1,h2,h3=>⟨h3,h1,h2,trivial⟩
 |x::t,a,b,hg,h1,h2,h3=>by
  unfold jb ja;split
  .next h=>
   obtain⟨d,e,f,g⟩:=hg;exact⟨d,e,f,De t a _ g h1 h2 (by omega)⟩
  .next h=>exact Cb _ a b b hg h1 h2 h3 (by omega)
theorem Df (n:Int):∀(c:List Sp) (a:Sp) (b:Int),GF b c->a.lo<=a.hi->a.hi<=4611686018427387903->dI (jb a c++WJ a (ja a c)) n=(dI c n||nV n a)
 |[],a,b,_,h1,h2=>by simp[jb,ja,WJ,dI]
 |x::t,a,b,hg,h1,h2=>by
  unfold jb ja;split
  .next h=>
   obtain⟨f,g,i,d⟩:=hg;rw[List.cons_append,iX,Df n t a _ d h1 h2,iX,Bool.or_assoc]
  .next h=>
   rw[List.nil_append,EA n _ a b hg h1 (λj e=>by
    rcases List.mem_cons.1 e with rfl|e
    .omega
    .obtain⟨f,g,i,d⟩:=hg
     have:=d.low j e;omega),Bool.or_comm]
def Gd (l:List Sp):Prop:=GF 0 l
theorem Gd.good {l:List Sp} (h:Gd l):iR l=true:=(zO λb a=>(h.low b a).1).2 h
theorem Gd.of {l:List Sp} (h:iR l=true) (a:∀b∈l,0<=b.lo):Gd l:=(zO a).1 h
theorem zF {s:Sp}:jf s=true↔s.lo<=s.hi/\s.hi<=4611686018427387903:=by simp[jf]
theorem GR {l:List Sp} {s:Sp} (h:Gd l) (a:s.lo<=s.hi) (b:s.hi<=4611686018427387903):iV l s=jb s l++WJ s (ja s l):=by
 unfold iV;rw[h.good,zF.2 ⟨a,b⟩];rfl
theorem zV {l:List Sp} {s:Sp} (h:Gd l) (c:0<=s.lo) (a:s.lo<=s.hi) (b:s.hi<=4611686018427387903):Gd (iV l s):=by
 rw[GR h a b];exact De l s 0 h a b c
theorem vW {l:List Sp} {s:Sp} (h:Gd l) (a:s.lo<=s.hi) (b:s.hi<=4611686018427387903) (n:Int):dI (iV l s) n=(dI l n||nV n s):=by
 rw[GR h a b];exact Df n l s 0 h a b
theorem Dh {l:List Sp} {s:Sp} {b:Int} (h:GF b l) (hb:0<=b) (d:b<=s.lo) (a:s.lo<=s.hi) (c:s.hi<=4611686018427387903):GF b (iV l s):=by
 rw[GR (h.mono hb) a c];exact De l s b h a c d
theorem JO (s:Sp) (i:s.lo<=s.hi):∀(e:List Sp) (b:Int),GF b e->GF b (e.flatMap (ji s))
 |[],b,_=>trivial
 |x::t,b,hg=>by
  obtain⟨c,f,d,g⟩:=hg;have a:=JO s i t (x.hi+2) g;rw[List.flatMap_cons];unfold ji;split
  .exact⟨c,f,d,a⟩
  .next h=>
   split<;>split
   .exact⟨c,by simp only;omega,by simp only;omega,by simp only;omega,by simp only;omega,d,a⟩
   .exact⟨c,by simp only;omega,by simp only;omega,a.mono (by simp only;omega)⟩
   .exact⟨by simp only;omega,by simp only;omega,d,a⟩
   .exact a.mono (by omega)
theorem Xn (s:Sp) (d:s.lo<=s.hi) (n:Int):∀(b:List Sp) (a:Int),GF a b->dI (b.flatMap (ji s)) n=(dI b n&& !nV n s)
 |[],a,_=>rfl
 |x::t,a,hg=>by
  obtain⟨e,f,g,c⟩:=hg;rw[List.flatMap_cons,Du,Xn s d n t _ c,iX,Bool.and_or_distrib_right];congr 1;unfold ji;rw[Bool.eq_iff_iff];split
  .simp[dI,nV];omega
  .split<;>split<;>simp[dI,nV]<;>omega
theorem Mt {l:List Sp} {s:Sp} (h:Gd l) (a:s.lo<=s.hi) (b:s.hi<=4611686018427387903):jh l s=l.flatMap (ji s):=by
 unfold jh;rw[h.good,zF.2 ⟨a,b⟩];rfl
theorem CO {l:List Sp} {s:Sp} {b:Int} (h:GF b l) (hb:0<=b) (a:s.lo<=s.hi) (c:s.hi<=4611686018427387903):GF b (jh l s):=by
 rw[Mt (h.mono hb) a c];exact JO s a l b h
theorem CP {l:List Sp} {s:Sp} (h:Gd l) (a:s.lo<=s.hi) (b:s.hi<=4611686018427387903) (n:Int):dI (jh l s) n=(dI l n&& !nV n s):=by
 rw[Mt h a b];exact Xn s a n l 0 h
theorem EP (lo:Int):∀(c:List Sp) (a:Int),GF a c->GF (max a lo) (jr lo c)
 |[],a,_=>trivial
 |x::t,a,hg=>by
  obtain⟨f,g,d,e⟩:=hg;have b:=EP lo t (x.hi+2) e;unfold jr;split
  .exact⟨by simp only;omega,by simp only;omega,d,b.mono (by simp only;omega)⟩
  .exact b.mono (by omega)
theorem Au (lo n:Int):∀(b:List Sp) (a:Int),GF a b->dI (jr lo b) n=(dI b n&&decide (lo<=n))
 |[],a,_=>rfl
 |x::t,a,hg=>by
  obtain⟨e,f,g,d⟩:=hg;have c:=Au lo n t (x.hi+2) d;unfold jr;split
  .next h=>
   rw[iX,c,iX,Bool.and_or_distrib_right];congr 1;rw[Bool.eq_iff_iff];simp[nV];omega
  .next h=>
   rw[c,iX,Bool.and_or_distrib_right];have:(nV n x&&decide (lo<=n))=false:=by
    rw[Bool.eq_false_iff];simp[nV];omega
   rw[this,Bool.false_or]
theorem vJ {l:List Sp} {lo:Int} (h:Gd l):gV l lo=jr lo l:=by unfold gV;rw[h.good];rfl
theorem pP {l:List Sp} {b lo:Int} (h:GF b l) (hb:0<=b):GF (max b lo) (gV l lo):=by rw[vJ (h.mono hb)];exact EP lo l b h
theorem sW {l:List Sp} {lo:Int} (h:Gd l) (n:Int):dI (gV l lo) n=(dI l n&&decide (lo<=n)):=by rw[vJ h];exact Au lo n l 0 h
theorem Ez:∀(b:List Sp) (a:Sp),(WJ a b).length<=b.length+1
 |[],a=>by simp[WJ]
 |x::t,a=>by
  unfold WJ;split
  .have:=Ez t ⟨min a.lo x.lo,max a.hi x.hi⟩
   simp only[List.length_cons];omega
  .simp
theorem MC (s:Sp):∀(a:List Sp),(jb s a++WJ s (ja s a)).length<=a.length+1
 |[]=>by simp[jb,ja,WJ]
 |x::t=>by
  unfold jb ja;split
  .have:=MC s t
   simp only[List.cons_append,List.length_cons];omega
  .simpa using Ez (x::t) s
theorem zu (l:List Sp) (s:Sp):(iV l s).length<=l.length+1:=by
 unfold iV;split
 .exact MC s l
 .simp
theorem GF.count {l:List Sp}:∀{b e:Int},GF b l->(∀c∈l,c.hi<e)->b<=e->2*(l.length:Int)<=e -b+1:=by
 induction l with
 |nil=>intro b e _ _ h;simp;omega
 |cons x t ih=>
  intro b e h a n;obtain⟨j,k,m,d⟩:=h;have o:=a x (by simp);by_cases f:t=[]
  .subst f;simp;omega
  .have g:x.hi+2<=e:=by
    cases t with
    |nil=>exact absurd rfl f
    |cons y u=>
     obtain⟨p,q,r,s⟩:=d;have:=a y (by simp);omega
   have:=ih d (λc i=>a c (by simp[i])) g;simp only[List.length_cons];omega
structure WV (q:Qu):Prop where
 Af:1<=q.room
 qC:q.room<=65536
 base0:0<=q.base
 vV:q.base<=q.fresh
 fresh:q.fresh<=fT q
 qx:fT q<=4611686018427387903
 len:(q.b.length:Int)<=q.room
 dX:GF (q.base+1) q.dX
 Xk:∀s∈q.dX,s.hi<q.fresh
 cO:GF q.base q.cO
 ni:∀s∈q.cO,s.hi<q.fresh
 apart:∀n,dI q.cO n=true->dI q.dX n=false
theorem GF.below {l:List Sp} {b e:Int} (h:GF b l) (f:∀d,dI l d=true->d<e):∀a∈l,a.hi<e:=by
 intro a c;have:=h.low a c;exact f a.hi (pW.2 ⟨a,c,this.2.1,Int.le_refl _⟩)
theorem uQ {l:List Sp} {e n:Int} (h:∀a∈l,a.hi<e) (b:dI l n=true):n<e:=by
 obtain⟨a,c,d,f⟩:=pW.1 b;have:=h a c;omega
theorem PK (a:Int):WV (nS a):=
 ⟨by simp only[nS];omega,by simp only[nS];omega,by simp[nS],by simp[nS],by simp[nS,fT],by simp[nS,fT],by simp only[nS,List.length_nil];omega,trivial,by simp[nS],trivial,by simp[nS],by simp[nS,dI]⟩
theorem Ee (q:Qu) (h:WV q) (n:Nat):kg q n<=n/\(kg q n:Int)<=q.room -q.b.length/\(kg q n:Int)<=4611686018427387903 -fT q:=by
 have:=h.len;have:=h.qx;unfold kg;omega
theorem KA {q:Qu} (h:WV q) (b:List Int):WV (oI q b):=by
 have a:=Ee q h b.length;have c:((q.b++b.take (kg q b.length)).length:Int)=q.b.length+kg q b.length:=by
  rw[List.length_append,List.length_take,Nat.min_eq_left a.1];omega
 refine⟨h.Af,h.qC,h.base0,h.vV,?_,?_,?_,h.dX,h.Xk,h.cO,h.ni,h.apart⟩
 .have:=h.fresh;simp only[oI,fT]at*;omega
 .have:=h.qx;simp only[oI,fT]at*;omega
 .have:=h.len;simp only[oI]at*;omega
theorem kC {a n e:Int}:nk a n e=true↔0<n/\a<=e/\n<=e -a:=by simp[nk,and_assoc]
theorem GF.head {s:Sp} {t:List Sp} {b:Int} (h:GF b (s::t)):b<=s.lo/\s.lo<=s.hi/\s.hi<=4611686018427387903:=⟨h.1,h.2.1,h.2.2.1⟩
theorem nD {q:Qu} (h:WV q) {b:Int} {p:Pi} (a:iY q b=some p):
  q.base<=p.off/\p.off<=q.fresh/\1<=p.body.length/\(p.body.length:Int)<=b/\p.off+p.body.length<=fT q/\p.body=(q.b.drop (p.off -q.base).toNat).take p.body.length:=by
 unfold iY at a;split at a
 .cases a
 .next hm=>
  split at a
  .cases a
  .next hft=>
   injection a with a;have f:=h.vV;have i:=h.fresh;have g:=h.qx;have c:q.base<=nL q/\nL q<=q.fresh/\nL q<BN q/\BN q<=fT q:=by
    unfold nL BN at*
    cases ho:q.cO with
    |nil=>simp only[ho,List.length_nil,Nat.lt_irrefl,if_false]at hft|-;omega
    |cons s t=>
     have:=h.cO;rw[ho]at this;have d:=this.head;have e:=h.ni s (by simp[ho]);simp only[ho,List.length_cons,Nat.zero_lt_succ,if_true,List.getD_cons_zero]at hft|-;omega
   subst a;have j:(((q.b.take (min (BN q) (nL q+b) -q.base).toNat).drop (nL q -q.base).toNat).length:Int)=min (BN q) (nL q+b) -nL q:=by
    rw[List.length_drop,List.length_take];unfold fT at*
    omega
   refine⟨c.1,c.2.1,?_,?_,?_,?_⟩
   .simp only;omega
   .simp only;omega
   .simp only;omega
   .simp only
    rw[List.drop_take];exact List.take_eq_take_iff.2 (by rw[List.length_take];omega)
theorem Nq {q:Qu} (h:WV q) (b n:Int) (l:q.base<=b):WV (ng q b n):=by
 unfold ng;split
 .exact h
 .next hc=>
  simp only[Bool.or_eq_true,Bool.not_eq_true',decide_eq_true_eq,not_or,Bool.not_eq_false]at hc;obtain⟨e,o⟩:=hc;obtain⟨i,j,k⟩:=kC.1 e;have m:=h.base0;have p:=h.qx;have hcut:=CO (s:=⟨b,b+n -1⟩) h.cO h.base0 (by simp only;omega) (by simp only;omega);have c:=CP (s:=⟨b,b+n -1⟩) (h.cO.mono h.base0) (by simp only;omega) (by simp only;omega);refine⟨h.Af,h.qC,h.base0,by have:=h.vV;simp only;omega,?_,h.qx,h.len,h.dX,λg f=>by have:=h.Xk g f;simp only;omega,hcut,?_,?_⟩
  .have:=h.fresh;simp only[fT]at*;omega
  .refine hcut.below λd a=>?_
   rw[c]at a;have:=uQ h.ni (Bool.and_eq_true _ _▸a).1;simp only;omega
  .intro d a
   simp only at a|-;rw[c]at a;exact h.apart d (Bool.and_eq_true _ _▸a).1
theorem KB {q:Qu} (h:WV {q with dX:=[]}) (w:GF q.base q.dX) (j:∀d∈q.dX,d.hi<q.fresh) (k:∀z,dI q.cO z=true->dI q.dX z=false):WV (oJ q):=by
 obtain⟨f,i,l,m,n,o,p,_,_,b,g,_⟩:=h;simp only[fT]at f i l m n o p b g;unfold oJ;cases hk:q.dX with
 |nil=>
  simp only[List.length_nil,Nat.lt_irrefl,false_and,if_false];exact⟨f,i,l,m,n,o,p,by rw[hk];trivial,by simp[hk],b,g,by simp[hk,dI]⟩
 |cons d t=>
  rw[hk]at w j k;simp only[List.length_cons,Nat.zero_lt_succ,true_and,List.getD_cons_zero,List.drop_succ_cons,List.drop_zero];obtain⟨E,A,B,s⟩:=w;have H:=j d (by simp);split
  .next hlo=>
   (have G:(((q.b.drop (d.hi+1 -q.base).toNat).length:Nat):Int)=q.b.length -(d.hi+1 -q.base):=by rw[List.length_drop];omega);have x:∀a,dI q.cO a=true->d.hi+1<=a:=by
    intro a c;have v:=k a c;have F:=(b.any c).1;rw[iX,Bool.or_eq_false_iff]at v;have:=v.1;simp only[nV,Bool.and_eq_false_iff,decide_eq_false_iff_not]at this;omega
   refine⟨f,i,by simp only;omega,by simp only;omega,by simp only[fT];omega,by simp only[fT];omega,by simp only;omega,?_,λe r=>j e (by simp[r]),?_,g,λa c=>?_⟩
   .exact s.mono (by simp only;omega)
   .cases ho:q.cO with
    |nil=>trivial
    |cons e u=>
     rw[ho]at b x;obtain⟨I,y,C,D⟩:=b;exact⟨x e.lo (pW.2 ⟨e,by simp,Int.le_refl _,y⟩),y,C,D⟩
   .have:=k a c
    rw[iX,Bool.or_eq_false_iff]at this;exact this.2
  .next hlo=>
   refine⟨f,i,l,m,n,o,p,?_,λe r=>j e (by rwa [hk]at r),b,g,λa c=>by rw[hk];exact k a c⟩;rw[hk];exact⟨by omega,A,B,s⟩
theorem xM {q:Qu} (h:WV q) (b n:Int) (m:0<=b):WV (kS q b n):=by
 unfold kS;split
 .exact h
 .next hc=>
  simp only[Bool.not_eq_true',Bool.not_eq_false]at hc;obtain⟨o,p,r⟩:=kC.1 hc;have t:=h.base0;have u:=h.qx;have v:=h.fresh;(have c:b<=b+n -1:=by omega);(have d:b+n -1<=4611686018427387903:=by omega);have f:Gd q.dX:=h.dX.mono (by omega);have hcut:=CO (s:=⟨b,b+n -1⟩) h.cO h.base0 c d;have j:=CP (s:=⟨b,b+n -1⟩) (h.cO.mono h.base0) c d;have g:=zV (s:=⟨b,b+n -1⟩) f m c d;have i:=vW (s:=⟨b,b+n -1⟩) f c d;have l:=pP (lo:=q.base) g (by omega);have k:=sW (lo:=q.base) g;refine KB ⟨h.Af,h.qC,h.base0,h.vV,h.fresh,h.qx,h.len,trivial,by simp,hcut,?_,by simp[dI]⟩ (l.mono (by simp only;omega)) ?_ ?_
  .refine hcut.below λe a=>?_
   rw[j]at a;exact uQ h.ni (Bool.and_eq_true _ _▸a).1
  .refine l.below λe a=>?_
   rw[k,i]at a;simp only[Bool.and_eq_true,Bool.or_eq_true]at a;rcases a.1 with a|a
   .exact uQ h.Xk a
   .simp[nV]at a;simp only;omega
  .intro e a
   simp only at a|-;rw[j]at a;simp only[Bool.and_eq_true,Bool.not_eq_true']at a;rw[k,i,h.apart e a.1,a.2];rfl
theorem tN:∀(f a:List Sp) (b:Int),GF b a->0<=b->(∀c∈f,c.lo<=c.hi/\c.hi<=4611686018427387903)->GF b (f.foldl jh a)/\∀d,dI (f.foldl jh a) d=(dI a d&& !dI f d)
 |[],a,b,hg,_,_=>⟨hg,λd=>by simp[dI]⟩
 |c::t,a,b,hg,hb,hk=>by
  have e:=hk c (by simp);obtain⟨i,j⟩:=tN t (jh a c) b (CO hg hb e.1 e.2) hb (λk g=>hk k (by simp[g]));refine⟨i,λd=>?_⟩;rw[List.foldl_cons,j,CP (hg.mono hb) e.1 e.2,iX,Bool.not_or,Bool.and_assoc]
theorem zU:∀(f b:List Sp) (a:Int),GF a b->0<=a->(∀c∈f,a<=c.lo/\c.lo<=c.hi/\c.hi<=4611686018427387903)->GF a (f.foldl iV b)/\∀e,dI (f.foldl iV b) e=(dI b e||dI f e)
 |[],b,a,hg,_,_=>⟨hg,λe=>by simp[dI]⟩
 |c::t,b,a,hg,hb,hk=>by
  have d:=hk c (by simp);obtain⟨i,j⟩:=zU t (iV b c) a (Dh hg hb d.1 d.2.1 d.2.2) hb (λk g=>hk k (by simp[g]));refine⟨i,λe=>?_⟩;rw[List.foldl_cons,j,vW (hg.mono hb) d.2.1 d.2.2,iX,Bool.or_assoc]
theorem Ns {q:Qu} (h:WV q) (b n:Int) (k:0<=b):WV (pF q b n):=by
 unfold pF;split
 .exact h
 .next hc=>
  simp only[Bool.not_eq_true',Bool.not_eq_false]at hc;obtain⟨s,t,u⟩:=kC.1 hc;have v:=h.base0;have w:=h.qx;have x:=h.fresh;(have p:b<=b+n -1:=by omega);(have r:b+n -1<=4611686018427387903:=by omega);have e:Gd [(⟨b,b+n -1⟩:Sp)]:=⟨k,p,r,trivial⟩;have m:=pP (lo:=q.base) e (by omega);have l:=sW (lo:=q.base) e;obtain⟨o,f⟩:=tN q.dX _ _ m (by omega) (λd c=>(h.dX.low d c).2);obtain⟨g,i⟩:=zU ((q.dX.foldl jh (gV [⟨b,b+n -1⟩] q.base))) q.cO q.base h.cO h.base0 (λd c=>by have:=o.low d c;omega);refine⟨h.Af,h.qC,h.base0,h.vV,h.fresh,h.qx,h.len,h.dX,h.Xk,g,?_,?_⟩
  .refine g.below λj a=>?_
   rw[i,f,l]at a;simp only[Bool.and_eq_true,Bool.or_eq_true]at a;rcases a with a|a
   .exact uQ h.ni a
   .have:=a.1.1
    simp[dI,nV]at this;simp only;omega
  .intro j a
   simp only at a|-;rw[i,f]at a;simp only[Bool.and_eq_true,Bool.or_eq_true,Bool.not_eq_true']at a;rcases a with a|a
   .exact h.apart j a
   .exact a.2
structure LD (s:Se):Prop where
 vz:0<=s.off
 off1:s.off<=4611686018427387903
 yQ:0<=s.len
 Dr:s.len<=1500
 bX:Word s.bX
 sat:Word s.sat
 Pm:1<=s.aS
 U9:s.aS<=4
 some_:s.aS≠4->1<=s.len
structure gM (l:Le):Prop where
 wZ:4<=l.ring
 lW:l.ring<=256
 limit0:0<=l.dO
 mh:l.dO<=4611686018427387903
 pE:0<=l.next
 nI:l.next<=l.dO+1
 len:(l.kept.length:Int)=min l.next l.ring
 pn:∀(i:Nat) (s:Se),l.kept[i]?=some s->s.pn=gT l+i
 ok:∀s∈l.kept,LD s
theorem nU (l:Le):gT l=max (l.next -l.ring) 0:=by unfold gT WU;split<;>omega
theorem gM.ut {l:Le} (h:gM l):gT l+l.kept.length=l.next:=by
 have:=h.len;have:=h.pE;have:=h.wZ;rw[nU];omega
theorem gM.KN {l:Le} (h:gM l):0<=gT l:=by rw[nU];omega
theorem Qr (c a:Int) (h:0<=a):gM (qZ c a):=
 ⟨by simp only[qZ];omega,by simp only[qZ];omega,by simp only[qZ];omega,by simp only[qZ];omega,by simp[qZ],by simp only[qZ];omega,by simp only[qZ,List.length_nil];omega,
  λd e b=>by simp[qZ]at b,by simp[qZ]⟩
theorem Al:∀(c:List Se) (a:Int),gB a c=a\/∃b∈c,b.aS=1/\gB a c=b.pn
 |[],a=>.inl rfl
 |b::t,a=>by
  unfold gB;split
  .next h=>exact .inr ⟨b,by simp,h,rfl⟩
  .rcases Al t a with h|⟨g,f,d,e⟩
   .exact .inl h
   .exact .inr ⟨g,by simp[f],d,e⟩
theorem gM.mem {l:Le} (h:gM l) {s:Se} (b:s∈l.kept):gT l<=s.pn/\s.pn<l.next:=by
 obtain⟨c,a,rfl⟩:=List.mem_iff_getElem.1 b;have:=h.pn c _ (List.getElem?_eq_getElem a);have:=h.ut;omega
theorem gM.bn {l:Le} (h:gM l):gT l<=eY l/\eY l<=l.next:=by
 have c:=h.ut;unfold eY;rcases Al l.kept l.next with a|⟨d,b,_,a⟩
 .rw[a];omega
 .have:=h.mem b
  rw[a];omega
theorem gM.room {l:Le} (h:gM l):0<=eu l/\eu l<=l.ring:=by
 have:=h.bn;have:=nU l;unfold eu;omega
theorem EG {l:Le} (h:gM l) (s:Se) (c:LD s):gM (gG l s).led:=by
 unfold gG;split
 .exact h
 .split
  .exact h
  .next h1 h2=>
   have p:=h.len;have o:=h.pE;have g:=h.wZ;have i:=h.limit0;have j:=h.mh;have k:∀b∈l.kept++[{s with pn:=l.next}],LD b:=by
    intro b a;rcases List.mem_append.1 a with a|a
    .exact h.ok b a
    .obtain rfl:b={s with pn:=l.next}:=by simpa using a
     exact⟨c.vz,c.off1,c.yQ,c.Dr,c.bX,c.sat,c.Pm,c.U9,c.some_⟩
   have m:∀(d:Nat) (b:Se),(l.kept++[{s with pn:=l.next}])[d]?=some b->b.pn=gT l+d:=by
    intro d b a;rw[List.getElem?_append]at a;split at a
    .exact h.pn d b a
    .next hi=>
     have n:d -l.kept.length=0:=by
      rcases Nat.eq_zero_or_pos (d -l.kept.length)with f|f
      .exact f
      .rw[List.getElem?_eq_none (by simp;omega)]at a;cases a
     rw[n]at a;simp at a;subst a;have:=h.ut;simp only;omega
   simp only;by_cases e:l.ring<(l.kept.length:Int)+1
   .refine⟨g,h.lW,i,j,by simp only;omega,by simp only;omega,?_,?_,?_⟩
    .simp only[if_pos e,List.length_drop,List.length_append,List.length_singleton];omega
    .intro d b a
     simp only[if_pos e,List.getElem?_drop]at a;have:=m _ _ a;rw[this,nU,nU];simp only;omega
    .intro b a
     simp only[if_pos e]at a;exact k b (List.mem_of_mem_drop a)
   .refine⟨g,h.lW,i,j,by simp only;omega,by simp only;omega,?_,?_,?_⟩
    .simp only[if_neg e,List.length_append,List.length_singleton];omega
    .intro d b a
     simp only[if_neg e]at a;have:=m _ _ a;rw[this,nU,nU];simp only;omega
    .intro b a
     simp only[if_neg e]at a;exact k b a
theorem EF {l:Le} (h:gM l) (s:Se) (a:0<=s.off) (b:Word s.bX) (c:Word s.sat):gM (jG l s).led:=by
 unfold jG;split
 .exact h
 .next hc=>exact EG h _ ⟨a,by simp only;omega,by simp only;omega,by simp only;omega,b,c,by simp,by simp,λ_=>by simp only;omega⟩
theorem NN {l:Le} (h:gM l):gM (og l).led:=
 EG h _ ⟨by simp[seZ],by simp[seZ],by simp[seZ],by simp[seZ],by simp[seZ,Word],by simp[seZ,Word],by simp,by simp,by simp⟩
theorem Pw {l:Le} (h:gM l) (i:Nat) (s:Se) (d:LD s) (c:i<l.kept.length->s.pn=gT l+i):gM {l with kept:=l.kept.set i s}:=by
 refine⟨h.wZ,h.lW,h.limit0,h.mh,h.pE,h.nI,by simpa using h.len,?_,?_⟩
 .intro f b a
  simp only[List.getElem?_set]at a;split at a
  .next e=>
   subst e;split at a
   .next hlt=>injection a with a;subst a;exact c hlt
   .cases a
  .exact h.pn f b a
 .intro b a
  rcases List.mem_or_eq_of_mem_set a with a|rfl
  .exact h.ok b a
  .exact d
theorem pM {l:Le} (h:gM l) {b:Int} {i:Nat} (a:pN l b=some i):i<l.kept.length/\b=gT l+i:=by
 unfold pN at a;split at a
 .cases a
 .next hc=>
  injection a with a;have:=h.ut;omega
theorem yS {l:Le} (h:gM l) (c:Int):gM (lX l c):=by
 unfold lX;cases hf:pN l c with
 |none=>exact h
 |some i=>
  obtain⟨b,_⟩:=pM h hf;simp only;split
  .exact h
  .rw[List.getD_eq_getElem?_getD,List.getElem?_eq_getElem b]
   have a:=h.ok _ (List.getElem_mem b);have d:=h.pn i _ (List.getElem?_eq_getElem b);exact Pw h i _ ⟨a.vz,a.off1,a.yQ,a.Dr,a.bX,a.sat,a.Pm,a.U9,a.some_⟩ λ_=>d
theorem vC {l:Le} (h:gM l) (d b:Int) (j:b=2\/b=3):gM (gH l d b):=by
 unfold gH;cases hf:pN l d with
 |none=>exact h
 |some i=>
  obtain⟨c,_⟩:=pM h hf;simp only;split
  .next hc=>
   rw[List.getD_eq_getElem?_getD,List.getElem?_eq_getElem c]at hc|-;have a:=h.ok _ (List.getElem_mem c);have g:=h.pn i _ (List.getElem?_eq_getElem c);have f:(l.kept[i]).aS≠4:=by
    intro e;simp only[Option.getD_some]at hc;rw[e]at hc;simp[settles]at hc
   exact Pw h i _ ⟨a.vz,a.off1,a.yQ,a.Dr,a.bX,a.sat,by simp only;omega,by simp only;omega,λ_=>a.some_ f⟩ λ_=>g
  .exact h
def Cov (l:List Pi) (n:Int):Prop:=∃a∈l,a.off<=n/\n<a.off+a.body.length
def Dj (x y:Pi):Prop:=x.off+(x.body.length:Int)<=y.off\/y.off+(y.body.length:Int)<=x.off
structure LF (l:List Pi):Prop where
 dj:l.Pairwise Dj
 pos:∀x∈l,0<=x.off/\1<=x.body.length
theorem Dj.symm {x y:Pi} (h:Dj x y):Dj y x:=h.elim .inr .inl
theorem LF.perm {l m:List Pi} (h:LF l) (a:l.Perm m):LF m:=⟨(a.pairwise_iff (λ{_ _} h=>Dj.symm h)).1 h.dj,λc b=>h.pos c (a.mem_iff.2 b)⟩
theorem Cov.perm {l m:List Pi} (c:l.Perm m) (n:Int):Cov l n↔Cov m n:=⟨λ⟨b,a,h⟩=>⟨b,c.mem_iff.1 a,h⟩,λ⟨b,a,h⟩=>⟨b,c.mem_iff.2 a,h⟩⟩
theorem DU:∀(f:List Pi) (c:Int),f.Pairwise (λb d=>b.off+(b.body.length:Int)<=d.off)->(∀b∈f,c<=b.off/\1<=b.body.length)->
  c<=iM c f/\(∀e,c<=e->e<iM c f->Cov f e)/\¬Cov f (iM c f)
 |[],c,_,_=>⟨Int.le_refl _,λe j g=>by simp[iM]at g;omega,λ⟨b,l,_⟩=>by cases l⟩
 |b::t,c,hs,hp=>by
  obtain⟨k,o⟩:=List.pairwise_cons.1 hs;have l:=hp b (by simp);unfold iM;by_cases h:b.off=c
  .rw[if_pos h]
   obtain⟨p,m,n⟩:=DU t (c+b.body.length) o (λd a=>⟨by have:=k d a;omega,(hp d (by simp[a])).2⟩);refine⟨by omega,λe j g=>?_,?_⟩
   .by_cases q:e<c+b.body.length
    .exact⟨b,by simp,by omega,by omega⟩
    .obtain⟨d,a,i⟩:=m e (by omega) g
     exact⟨d,by simp[a],i⟩
   .rintro⟨d,a,i⟩
    rcases List.mem_cons.1 a with rfl|a
    .omega
    .exact n ⟨d,a,i⟩
  .rw[if_neg h]
   refine⟨Int.le_refl _,λe j g=>by omega,?_⟩;rintro⟨d,a,i⟩;rcases List.mem_cons.1 a with rfl|a
   .omega
   .have:=k d a;omega
theorem FC {l:List Pi} (h:LF l) (g:l.Pairwise (λa b=>a.off<=b.off)):l.Pairwise (λa b=>a.off+(a.body.length:Int)<=b.off):=by
 have e:=g.and h.dj;have f:=List.Pairwise.imp_of_mem (R:=λa b=>a.off<=b.off/\Dj a b) (S:=λa b=>a.off+(a.body.length:Int)<=b.off) (l:=l) (λ{a b} j i d=>?_) e
 .exact f
 .have:=(h.pos b i).2
  rcases d.2 with c|c
  .exact c
  .have:=d.1;omega
theorem DT {l m:List Pi} (h:LF l) (b:l.Perm m) (k:m.Pairwise (λn o=>n.off<=o.off)):
  0<=iM 0 m/\(∀a,0<=a->a<iM 0 m->Cov l a)/\¬Cov l (iM 0 m):=by
 have c:=h.perm b;obtain⟨d,e,f⟩:=DU m 0 (FC c k) c.pos;exact⟨d,λa g i=>(Cov.perm b a).2 (e a g i),λj=>f ((Cov.perm b _).1 j)⟩
theorem uE (x:Pi):∀a:List Pi,(qf x a).Perm (x::a)
 |[]=>List.Perm.refl _
 |y::t=>by
  unfold qf;split
  .exact((uE x t).cons y).trans (List.Perm.swap x y t)
  .exact List.Perm.refl _
theorem vI (x:Pi):∀f:List Pi,f.Pairwise (λx b=>x.off<=b.off)->(qf x f).Pairwise (λx b=>x.off<=b.off)
 |[],_=>by unfold qf;simp
 |b::t,h=>by
  obtain⟨d,g⟩:=List.pairwise_cons.1 h;unfold qf;split
  .rename_i e
   refine List.pairwise_cons.2 ⟨λc a=>?_,vI x t g⟩;rcases List.mem_cons.1 ((uE x t).mem_iff.1 a)with rfl|a
   .exact e
   .exact d c a
  .rename_i e
   refine List.pairwise_cons.2 ⟨λc a=>?_,h⟩;rcases List.mem_cons.1 a with rfl|a
   .omega
   .have:=d c a;omega
theorem Bz:∀(c a:List Pi),a.Pairwise (λb d=>b.off<=d.off)->(c.foldl (λa b=>qf b a) a).Perm (c++a)/\(c.foldl (λa b=>qf b a) a).Pairwise (λb d=>b.off<=d.off)
 |[],a,h=>⟨List.Perm.refl _,h⟩
 |b::t,a,h=>by
  obtain⟨e,f⟩:=Bz t (qf b a) (vI b a h);exact⟨e.trans ((List.perm_append_left_iff t).2 (uE b a)|>.trans List.perm_middle),f⟩
theorem Kq (l:List Pi):l.Perm (LW l):=by have:=(Bz l [] List.Pairwise.nil).1;rw[List.append_nil]at this;exact this.symm
theorem Xo (l:List Pi):(LW l).Pairwise (λa b=>a.off<=b.off):=(Bz l [] List.Pairwise.nil).2
theorem Kl {p:Pe} (h:LF p.pieces) {m:List Pi} (i:p.pieces.Perm m) (j:m.Pairwise (λk l=>k.off<=l.off)):iM 0 m=yL p:=by
 obtain⟨b,c,d⟩:=DT h i j;obtain⟨e,f,g⟩:=DT h (Kq p.pieces) (Xo p.pieces);unfold yL;rcases Int.lt_trichotomy (iM 0 m) (iM 0 (LW p.pieces))with a|a|a
 .exact absurd (f _ b a) d
 .exact a
 .exact absurd (c _ e a) g
end Go.Proofs.YtiflndepmgnojaaGreat
