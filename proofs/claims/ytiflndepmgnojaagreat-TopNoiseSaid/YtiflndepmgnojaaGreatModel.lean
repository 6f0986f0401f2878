namespace Go.Proofs.YtiflndepmgnojaaGreat
set_option linter.unusedSimpArgs false
set_option linter.unusedVariables false
set_option maxRecDepth 100000
def Word (x:Int):Prop:=0<=x/\x<18446744073709551616
structure Sp where
 (lo hi:Int)
structure Se where
 (pn off len bX sat:Int)
 (rE used:Bool)
 aS:Int
structure Cf where
 (bits one ring dO room mss jD bn most pX first jc cap gD WL bE every:Int)
structure Rt where
 has:Bool
 (mJ bK var bn:Int)
structure Pr where
 (count since:Int)
structure Wi where
 (cr dL acc jF gX k fair:Int)
structure Ro where
 (iO mX:Int)
structure Cc where
 win:Wi
 round:Ro
structure Pa where
 (fC pat gP:Int)
structure Ak where
 (cu aO:List Sp)
 (dw xor:Int)
 kZ:Bool
structure Da where
 (pn bn off bX ecn:Int)
 body:List Int
structure Ve where
 (kind why pn:Int)
 dU:Bool
structure Co where
 (dB eT fI bE late:Int)
structure St where
 (aS now cr dL jS bK gU next low fG gP:Int)
 dh:Co
def WI (a b:Int):Int:=if a+b<18446744073709551616 then a+b else 18446744073709551615
def WU (a b:Int):Int:=if a<b then 0 else a -b
def wW (a b:Int):Int:=if a*b<18446744073709551616 then a*b else 18446744073709551615
def AL (a n:Int):Int:=if a*2^n.toNat<18446744073709551616 then a*2^n.toNat else 18446744073709551615
def ou (a b:Int):Int:=if a<b then b -a else a -b
def rF (x lo a:Int):Int:=if a<x then a else if x<lo then lo else x
def xB (a d:Int):Bool:= !decide (d<=a)
def xX (a lo d:Int):Int:=if d<=a then 0 else(a*18446744073709551616+lo)/d
def divR (a lo d:Int):Int:=if d<=a then 0 else(a*18446744073709551616+lo)%d
def jv (a b d:Int):Int:=if d<=a*b/18446744073709551616 then 18446744073709551615 else a*b/d
def nP (a b lo:Int):Bool:=decide (a*a*a<=b*18446744073709551616+lo)
def pR (a lo:Int):Nat->Int->Int
 |0,r=>r
 |k+1,r=>pR a lo k (if nP (r+2^k) a lo then r+2^k else r)
def vN (a lo:Int):Int:=pR a lo 43 0
def tH (now a:Int):Bool:=(a !=18446744073709551615)&&decide (a<=now)
def MB (d n a:Int):Int:=min (AL d n) a
def vL (a:List Int):Int:=a.foldl min 18446744073709551615
def rJ:Nat:=18446744073709551616
def xsN (s n:Nat):Nat:=n^^^(n>>>s)
def mulN (c n:Nat):Nat:=n*c%rJ
def mixN (k:Nat):Nat:=xsN 31 (mulN 10723151780598845931 (xsN 27 (mulN 13787848793156543929 (xsN 30 (mulN 11400714819323198485 ((k+1)%rJ))))))
def Ai (a:List Int) (k:Nat):Int:=if k<a.length then a.getD k 0 else(mixN k:Int)
def yP (x n:Int):Int:=if n<1 then 0 else if 64<=n then x else x%2^n.toNat
def zn (x:Int):Bool:=x/9223372036854775808==1
def Yw (x o:Int):Bool:=decide (0<o)&&(x%o==0)
def WN (a b:Int):Int:=((a.toNat^^^b.toNat:Nat):Int)
def eU (n:Int):Nat:=if n<64 then 1 else if n<16384 then 2 else if n<1073741824 then 4 else if n<=4611686018427387903 then 8 else 0
def kM:Nat->Int->List Int
 |0,_=>[]
 |k+1,n=>kM k (n/256)++[n%256]
def Cg (k:Nat):Int:=if k=2 then 64 else if k=4 then 128 else if k=8 then 192 else 0
def oP (m:Int):List Int->List Int
 |[]=>[]
 |b::t=>(b+m)::t
def kY (n:Int):List Int:=oP (Cg (eU n)) (kM (eU n) n)
def lu (n:Int):List Int:=kM 8 n
def eD (n:Int) (l:List Int):Int:=l.foldl (λn a=>n*256+a) n
structure Rd where
 (val err:Int)
 left:List Int
structure Rb where
 val:List Int
 err:Int
 left:List Int
def nM (b:Int):Nat:=2^(b/64).toNat
def eZ (b:List Int):Rd:=
 match b with
 |[]=>⟨0,2,[]⟩
 |b0::t=>
  if(b0::t).length<nM b0 then⟨0,2,b0::t⟩
  else if eU (eD (b0%64) (t.take (nM b0 -1)))≠nM b0 then⟨0,5,b0::t⟩
  else⟨eD (b0%64) (t.take (nM b0 -1)),0,(b0::t).drop (nM b0)⟩
def fQ (n:Nat) (b:List Int):Rb:=if b.length<n then⟨[],2,b⟩else⟨b.take n,0,b.drop n⟩
def jU (b:List Int):Rd:=if b.length<8 then⟨0,2,b⟩else⟨eD 0 (b.take 8),0,b.drop 8⟩
def jf (s:Sp):Bool:=decide (s.lo<=s.hi)&&decide (s.hi<=4611686018427387903)
def oh (p:Option Int):List Sp->Bool
 |[]=>true
 |s::t=>jf s&&(match p with|none=>true|some h=> !decide (s.lo<=h+1))&&oh (some s.hi) t
def iR (l:List Sp):Bool:=oh none l
def jb (s:Sp):List Sp->List Sp
 |[]=>[]
 |x::t=>if x.hi+1<s.lo then x::jb s t else[]
def ja (s:Sp):List Sp->List Sp
 |[]=>[]
 |x::t=>if x.hi+1<s.lo then ja s t else x::t
def WJ (s:Sp):List Sp->List Sp
 |[]=>[s]
 |x::t=>if x.lo<=s.hi+1 then WJ ⟨min s.lo x.lo,max s.hi x.hi⟩ t else s::x::t
def iV (l:List Sp) (s:Sp):List Sp:=if iR l&&jf s then jb s l++WJ s (ja s l)else[]
def ji (s x:Sp):List Sp:=if x.hi<s.lo\/s.hi<x.lo then[x]else(if x.lo<s.lo then[⟨x.lo,s.lo -1⟩]else[])++(if s.hi<x.hi then[⟨s.hi+1,x.hi⟩]else[])
def jh (l:List Sp) (s:Sp):List Sp:=if iR l&&jf s then l.flatMap (ji s)else[]
def nV (n:Int) (s:Sp):Bool:=decide (s.lo<=n)&&decide (n<=s.hi)
def dI (l:List Sp) (n:Int):Bool:=l.any (nV n)
def oQ (l:List Sp) (n:Int):Bool:=iR l&&dI l n
def jr (lo:Int):List Sp->List Sp
 |[]=>[]
 |s::t=>if lo<=s.hi then⟨max s.lo lo,s.hi⟩::jr lo t else jr lo t
def gV (l:List Sp) (lo:Int):List Sp:=if iR l then jr lo l else[]
def qU (s:Sp):List Sp->List Sp
 |[]=>[]
 |x::t=>if x.hi<s.lo then qU s t else x::t
def lI:List Sp->List Sp->Bool
 |[],_=>true
 |s::t,b=>match qU s b with
  |[]=>false
  |x::r=>if s.lo<x.lo\/x.hi<s.hi then false else lI t (x::r)
def jA (a b:List Sp):Bool:=iR a&&iR b&&lI a b
def tF (e:Int):Bool:=e==1||e==2||e==3
def sS (d:Da):Bool:=decide (d.pn<=4611686018427387903)&&decide (d.bn<=d.pn)&&tF d.ecn&&decide (1<=d.body.length)&&decide (d.body.length<=1500)&&decide (d.off<=4611686018427387903 -d.body.length)
def rY (d:Da):List Int:=[1,d.ecn]++kY d.pn++kY d.bn++kY d.off++lu d.bX++kY d.body.length++d.body
def daZ:Da:=⟨0,0,0,0,0,[]⟩
structure Rda where
 val:Da
 err:Int
def ky (b:List Int):Rda:=
 let g:=fQ 1 b
 if g.err≠0 then⟨daZ,g.err⟩else
 if g.val.getD 0 0≠1 then⟨daZ,4⟩else
 let c:=fQ 1 g.left
 if c.err≠0 then⟨daZ,c.err⟩else
 if !tF (c.val.getD 0 0)then⟨daZ,5⟩else
 let f:=eZ c.left
 if f.err≠0 then⟨daZ,f.err⟩else
 let d:=eZ f.left
 if d.err≠0 then⟨daZ,d.err⟩else
 if f.val<d.val then⟨daZ,5⟩else
 let e:=eZ d.left
 if e.err≠0 then⟨daZ,e.err⟩else
 let j:=jU e.left
 if j.err≠0 then⟨daZ,j.err⟩else
 let a:=eZ j.left
 if a.err≠0 then⟨daZ,a.err⟩else
 if a.val<1\/1500<a.val\/4611686018427387903 -a.val<e.val then⟨daZ,5⟩else
 let i:=fQ a.val.toNat a.left
 if i.err≠0 then⟨daZ,i.err⟩else
 if 0<i.left.length then⟨daZ,3⟩else
 ⟨⟨f.val,d.val,e.val,j.val,c.val.getD 0 0,i.val⟩,0⟩
def xA (a:Bool):Int:=if a then 1 else 2
def uM (a:Int):Bool:=a==1
def jB (a:Int):Bool:=a==1||a==2
def qp (b:List Int):Option (List Int):=if(ky b).err≠0 then none else some (rY {(ky b).val with ecn:=3})
def qA (a:Ak):Bool:=decide (1<=a.cu.length)&&decide (a.cu.length<=32)&&decide (a.aO.length<=32)&&jA a.cu a.cu&&jA a.aO a.cu
def rM (bn:Int):List Sp->List Int
 |[]=>[]
 |s::t=>kY (s.lo -bn)++kY (s.hi -s.lo)++rM (s.hi+2) t
def xL (l:List Sp):List Int:=(l.length:Int)::rM 0 l
def zP (a:Ak):List Int:=[2]++xL a.cu++xL a.aO++lu a.dw++lu a.xor++[if a.kZ then 1 else 0]
structure Rsp where
 val:List Sp
 err:Int
 left:List Int
def Wq:Nat->Int->List Sp->List Int->Rsp
 |0,_,acc,b=>⟨acc,0,b⟩
 |n+1,at_,acc,b=>
  if(eZ b).err≠0 then⟨[],(eZ b).err,(eZ b).left⟩else
  if 4611686018427387903<at_\/4611686018427387903 -at_<(eZ b).val then⟨[],5,(eZ b).left⟩else
  if(eZ (eZ b).left).err≠0 then⟨[],(eZ (eZ b).left).err,(eZ (eZ b).left).left⟩else
  if 4611686018427387903 -(at_+(eZ b).val)<(eZ (eZ b).left).val then⟨[],5,(eZ (eZ b).left).left⟩else
  Wq n (at_+(eZ b).val+(eZ (eZ b).left).val+2) (acc++[⟨at_+(eZ b).val,at_+(eZ b).val+(eZ (eZ b).left).val⟩]) (eZ (eZ b).left).left
def kJ (b:List Int) (bn:Int):Rsp:=
 if(fQ 1 b).err≠0 then⟨[],(fQ 1 b).err,(fQ 1 b).left⟩else
 if(fQ 1 b).val.getD 0 0<bn\/32<(fQ 1 b).val.getD 0 0 then⟨[],5,(fQ 1 b).left⟩else
 Wq ((fQ 1 b).val.getD 0 0).toNat 0 [] (fQ 1 b).left
def akZ:Ak:=⟨[],[],0,0,false⟩
structure Rak where
 val:Ak
 err:Int
def jy (b:List Int):Rak:=
 let e:=fQ 1 b
 if e.err≠0 then⟨akZ,e.err⟩else
 if e.val.getD 0 0≠2 then⟨akZ,4⟩else
 let d:=kJ e.left 1
 if d.err≠0 then⟨akZ,d.err⟩else
 let a:=kJ d.left 0
 if a.err≠0 then⟨akZ,a.err⟩else
 let f:=jU a.left
 if f.err≠0 then⟨akZ,f.err⟩else
 let g:=jU f.left
 if g.err≠0 then⟨akZ,g.err⟩else
 let c:=fQ 1 g.left
 if c.err≠0 then⟨akZ,c.err⟩else
 if 1<c.val.getD 0 0 then⟨akZ,5⟩else
 if 0<c.left.length then⟨akZ,3⟩else
 if !jA a.val d.val then⟨akZ,5⟩else
 ⟨⟨d.val,a.val,f.val,g.val,c.val.getD 0 0==1⟩,0⟩
def rR (n:Int):List Int:=if eU n=0 then[]else 3::kY n
def rT (x:Int):List Int->List Int
 |[]=>[]
 |w::t=>WN x w::rT (WN x w) t
def kI (l:List Int):List Int:=0::rT 0 l
def Xd (x:Bool):List Bool->List Bool
 |[]=>[]
 |c::t=>(x !=c)::Xd (x !=c) t
def kW (l:List Bool):List Bool:=false::Xd false l
structure Le where
 (ring dO next:Int)
 kept:List Se
def qZ (b a:Int):Le:=⟨max 4 (min b 256),min a 4611686018427387903,0,[]⟩
def gT (l:Le):Int:=WU l.next l.ring
def gB (n:Int):List Se->Int
 |[]=>n
 |s::t=>if s.aS=1 then s.pn else gB n t
def eY (l:Le):Int:=gB l.next l.kept
def eu (l:Le):Int:=l.ring -(l.next -eY l)
def iT (n:Int):List Se->Int
 |[]=>n
 |s::t=>iT (if s.aS=1 then WI n s.len else n) t
def gq (l:Le):Int:=iT 0 l.kept
structure Rle where
 (val err:Int)
 led:Le
def gG (l:Le) (s:Se):Rle:=
 if l.dO<l.next then⟨0,8,l⟩else
 if eu l<1 then⟨0,7,l⟩else
 ⟨l.next,0,{l with next:=l.next+1,kept:=if l.ring<(l.kept.length:Int)+1 then(l.kept++[{s with pn:=l.next}]).drop 1 else l.kept++[{s with pn:=l.next}]}⟩
def seZ:Se:=⟨0,0,0,0,0,false,false,0⟩
def jG (l:Le) (s:Se):Rle:=if s.len<1\/1500<s.len\/4611686018427387903<s.off then⟨0,1,l⟩else gG l {s with aS:=1,used:=false}
def og (l:Le):Rle:=gG l {seZ with aS:=4}
def pN (l:Le) (a:Int):Option Nat:=if a<gT l\/l.next<=a then none else some (a -gT l).toNat
def lX (l:Le) (a:Int):Le:=
 match pN l a with
 |none=>l
 |some i=>if(l.kept.getD i seZ).aS=4\/(l.kept.getD i seZ).used=true then l else{l with kept:=l.kept.set i {l.kept.getD i seZ with used:=true}}
def settles (b a:Int):Bool:=(b==2&&(a==1||a==3))||(b==3&&a==1)
def gH (l:Le) (b a:Int):Le:=
 match pN l b with
 |none=>l
 |some i=>if settles a (l.kept.getD i seZ).aS then{l with kept:=l.kept.set i {l.kept.getD i seZ with aS:=a}}else l
def mH (l:Le) (a:Int):Se:=
 match pN l a with
 |none=>seZ
 |some i=>l.kept.getD i seZ
def xQ (a:Ak):List Se->Option Int
 |[]=>none
 |s::t=>if s.aS≠4/\s.used=false/\s.bX=a.dw/\oQ a.cu s.pn=true then some s.pn else xQ a t
structure Rlo where
 (val why:Int)
def jW (l:Le) (a:Ak):Rlo:=
 if !qA a then⟨0,1⟩else
 if(a.cu.getD 0 ⟨0,0⟩).lo<gT l then⟨0,2⟩else
 match xQ a l.kept with
 |some p=>⟨p,0⟩
 |none=>⟨0,3⟩
def oo (b:List Sp) (l:List Se):List Bool:=l.map λa=>a.rE&& !oQ b a.pn
structure Rsu where
 val:Int
 (odd ok:Bool)
def DR (a next:Int) (b:List Se) (p:List Int) (q:List Bool):List Sp->Int->Bool->Rsu
 |[],x,o=>⟨x,o,true⟩
 |c::t,x,o=>
  if c.lo<a\/next<=c.hi then⟨0,false,false⟩else
  if((b.take ((c.hi -a).toNat+1)).drop (c.lo -a).toNat).any (λd=>d.aS==4)then⟨0,false,false⟩else
  DR a next b p q t (WN x (WN (p.getD ((c.hi -a).toNat+1) 0) (p.getD (c.lo -a).toNat 0))) (o !=((q.getD ((c.hi -a).toNat+1) false)!=(q.getD (c.lo -a).toNat false)))
def Bn (l:Le) (b a:List Sp):Rsu:=
 if !(iR b&&iR a)then⟨0,false,false⟩else
 DR (gT l) l.next l.kept (kI (l.kept.map (·.bX))) (kW (oo a l.kept)) b 0 false
def oZ (next:Int):List Sp->Option Int
 |[]=>none
 |s::t=>if next<=s.hi then some (max s.lo next)else oZ next t
def xK (a:List Sp):List Se->Option Int
 |[]=>none
 |s::t=>if s.aS=4/\oQ a s.pn=true then some s.pn else xK a t
structure Rch where
 (why pn:Int)
def kL (l:Le) (a:Ak):Rch:=
 if !qA a then⟨1,0⟩else
 if(a.cu.getD 0 ⟨0,0⟩).lo<gT l then⟨2,0⟩else
 match oZ l.next a.cu with
 |some p=>⟨4,p⟩
 |none=>match xK a.cu l.kept with
  |some p=>⟨5,p⟩
  |none=>if(Bn l a.cu a.aO).val≠a.xor then⟨6,0⟩else if(Bn l a.cu a.aO).odd≠a.kZ then⟨7,0⟩else⟨0,0⟩
structure Bu where
 (most every now:Int)
 times:List Int
 granted:Int
def xD (b a:Int):Bu:=⟨max 0 (min b 64),a,0,[],0⟩
def CZ (a now x:Int):Bool:=decide (WU now x<a)
def uY (b:Bu) (t:Int):List Int:=b.times.filter (CZ b.every (max b.now t))
def qy (b:Bu) (t:Int):Bool:= !decide (b.most<=(uY b t).length)
def uU (b:Bu) (t:Int):Bu:=if qy b t then{b with now:=max b.now t,times:=uY b t++[max b.now t],granted:=b.granted+1}else{b with now:=max b.now t,times:=uY b t}
structure Gu where
 bu:Bu
 n:Co
 over:Bool
def guNew (b a:Int):Gu:=⟨xD b a,⟨0,0,0,0,0⟩,false⟩
structure Rgu where
 ver:Ve
 ack:Ak
 gu:Gu
 led:Le
def dN (g:Gu) (l:Le) (b:List Int) (now:Int):Rgu:=
 if g.over then⟨⟨1,8,0,false⟩,akZ,{g with n:={g.n with late:=g.n.late+1}},l⟩else
 if(jy b).err≠0 then⟨⟨1,1,0,false⟩,akZ,{g with n:={g.n with dB:=g.n.dB+1}},l⟩else
 if(jW l (jy b).val).why≠0 then
  ⟨⟨1,(jW l (jy b).val).why,0,qy g.bu now⟩,akZ,{g with bu:=uU g.bu now,n:={g.n with eT:=g.n.eT+1,bE:=if qy g.bu now then g.n.bE+1 else g.n.bE}},l⟩else
 let a:=lX l (jW l (jy b).val).val
 if(kL a (jy b).val).why≠0 then⟨⟨3,(kL a (jy b).val).why,(kL a (jy b).val).pn,false⟩,(jy b).val,{g with over:=true},a⟩else
 ⟨⟨2,0,(jW l (jy b).val).val,false⟩,(jy b).val,{g with n:={g.n with fI:=g.n.fI+1}},a⟩
def xP (k a b:Int):Int:=(k*a+b)/(k+1)
def mY (a:Rt) (x:Int):Rt:=if a.has then⟨true,x,xP 7 a.bK x,xP 3 a.var (ou a.bK x),min a.bn x⟩else⟨true,x,x,x/2,x⟩
def qP (a:Rt) (first b:Int):Int:=if a.has then WI a.bK (max (wW 4 a.var) b)else WI first (max (wW 2 first) b)
def lJ (a:Rt) (first b:Int):Int:=max (jv (if a.has then max a.bK a.mJ else first) 9 8) b
structure Rfi where
 lost:List Int
 next:Int
def om (dm now a:Int) (b:List Int) (next:Int):List Se->Rfi
 |[]=>⟨b,next⟩
 |s::t=>
  if dm<=s.pn\/s.aS≠1 then om dm now a b next t else
  if 3<=dm -s.pn\/a<=WU now s.sat then om dm now a (b++[s.pn]) next t else
  om dm now a b (min next (WI s.sat a)) t
def qE (l:Le) (dm now a:Int):Rfi:=om dm now a [] 18446744073709551615 l.kept
def qW (p:Pr) (a:Bool) (c b:Int):Int:=if a then WI p.since (MB c p.count b)else 18446744073709551615
def jR (p:Pr) (now:Int):Pr:=⟨min (max p.count 0) 59+1,now⟩
def KD (now:Int):Pr:=⟨0,now⟩
def xN (p:Pr) (now:Int):Pr:=⟨p.count,now⟩
def WM (b:Ro) (a:Int):Bool:=decide (b.iO<=a)
def Gx (x:Int):Int:=if x<18446744073709551615 then x+1 else 18446744073709551615
def Az (a next:Int):Int:=if next<=a then Gx a else next
def oH (a:Ro) (b next:Int):Ro:=if WM a b then⟨Az b next,Gx a.mX⟩else a
def qz (w:Wi) (a b:Int):Wi:={w with cr:=WI w.cr (min a (wW 2 b))}
def lK (w:Wi) (a b:Int):Wi:=
 if w.cr<w.dL then qz w a b else
 if w.cr<=WI w.acc a then{w with acc:=WI w.acc a -w.cr,cr:=WI w.cr b}else{w with acc:=WI w.acc a}
def sJ (w:Wi) (b a:Int):Wi:={w with cr:=jv w.cr b a,dL:=jv w.cr b a,acc:=0}
def sj (a cr b:Int):Int:=
 if a<=cr\/b=0 then 0 else
 vN ((a -cr)*2500000000000000000/18446744073709551616/b) (xX ((a -cr)*2500000000000000000/18446744073709551616%b) ((a -cr)*2500000000000000000%18446744073709551616) b)
def cuZ (k t a:Int):Int:=jv (jv (jv (ou t k) (ou t k) 1000000) (ou t k) 1000000) (wW 2 a) 5000000
def JQ (a k t b:Int):Int:=if k<=t then WI a (cuZ k t b)else WU a (cuZ k t b)
def uL (w:Wi) (a now:Int):Wi:=if w.gX=18446744073709551615 then{w with gX:=now,fair:=w.cr,k:=sj w.jF w.cr a,jF:=max w.jF w.cr}else w
def Fh (w:Wi) (a now bK:Int):Int:=max (min (JQ w.jF w.k (WI (WU now w.gX) bK) a) (jv w.cr 3 2)) w.cr
def vP (w:Wi) (a b:Int):Int:=if w.fair<w.jF then jv (jv b a w.cr) 9 17 else jv b a w.cr
def xZ (w:Wi) (a b now bK:Int):Wi:=
 if w.cr=0 then w else
 {w with fair:=WI w.fair (vP w a b),cr:=max (WI w.cr (jv (Fh w b now bK -w.cr) a w.cr)) (WI w.fair (vP w a b))}
def mM (w:Wi) (b a now bK:Int):Wi:=if w.cr<w.dL then qz w b a else xZ (uL w a now) b a now bK
def rD (w:Wi) (b a:Int):Wi:=
 {cr:=jv w.cr b a,dL:=jv w.cr b a,acc:=0,jF:=if w.cr<w.jF then jv w.cr 17 20 else w.cr,gX:=18446744073709551615,k:=0,fair:=0}
def mF (c:Cf):Cc:=⟨⟨c.jD,18446744073709551615,0,0,18446744073709551615,0,0⟩,⟨0,0⟩⟩
def held (c:Cf) (w:Wi):Wi:={w with cr:=rF w.cr c.bn c.most}
def vQ (c:Cf) (s:Cc) (a now bK:Int):Cc:={s with win:=held c (if c.pX=2 then mM s.win a c.mss now bK else lK s.win a c.mss)}
def vM (c:Cf) (w:Wi) (f e d b:Int):Wi:=
 let a:=held c (if c.pX=2 then rD w d b else sJ w f e)
 {a with dL:=max a.dL c.bn}
def oV (c:Cf) (s:Cc) (a next f e d b:Int):Cc:=if WM s.round a then⟨vM c s.win f e d b,oH s.round a next⟩else s
def uN (c:Cf) (s:Cc) (a next:Int):Cc:=oV c s a next 1 2 7 10
def yg (c:Cf) (s:Cc) (a next:Int):Cc:=oV c s a next 4 5 17 20
def kz (c:Cf) (s:Cc):Cc:={s with win:={vM c s.win 1 2 7 10 with cr:=c.bn}}
def xu (a:Int):Int:=wW a 1000000
def qd (a now b:Int):Pa:=⟨xu a,now,min b 4294967296⟩
def xg (cr bK a:Int):Int:=min (max (jv cr 1250000 (max bK 1)) a) 4294967296
def lM (p:Pa) (a now:Int):Pa:=⟨min (WI p.fC (wW p.gP (WU now p.pat))) (xu a),max p.pat now,p.gP⟩
def xq (p:Pa) (a now b:Int):Pa:={lM p a now with gP:=min b 4294967296}
def vw (p:Pa) (a now size:Int):Bool:= !decide ((lM p a now).fC<xu size)
def WR (p:Pa) (a now size:Int):Pa:={lM p a now with fC:=(lM p a now).fC -xu size}
structure Qu where
 (room base fresh:Int)
 b:List Int
 (dX cO:List Sp)
def nS (a:Int):Qu:=⟨max 1 (min a 65536),0,0,[],[],[]⟩
def fT (q:Qu):Int:=q.base+q.b.length
def kg (q:Qu) (n:Nat):Nat:=(min (min (n:Int) (q.room -q.b.length)) (4611686018427387903 -fT q)).toNat
def oI (q:Qu) (b:List Int):Qu:={q with b:=q.b++b.take (kg q b.length)}
structure Pi where
 off:Int
 body:List Int
def nL (q:Qu):Int:=if 0<q.cO.length then(q.cO.getD 0 ⟨0,0⟩).lo else q.fresh
def BN (q:Qu):Int:=if 0<q.cO.length then(q.cO.getD 0 ⟨0,0⟩).hi+1 else fT q
def iY (q:Qu) (a:Int):Option Pi:=
 if a<1 then none else
 if nL q=BN q then none else
 some ⟨nL q,(q.b.take (min (BN q) (nL q+a) -q.base).toNat).drop (nL q -q.base).toNat⟩
def nk (a n b:Int):Bool:=decide (0<n)&&decide (a<=b)&&decide (n<=b -a)
def ng (q:Qu) (a n:Int):Qu:=if !nk a n (fT q)||decide (q.fresh<a)then q else{q with cO:=jh q.cO ⟨a,a+n -1⟩,fresh:=max q.fresh (a+n)}
def oJ (q:Qu):Qu:=
 if 0<q.dX.length/\(q.dX.getD 0 ⟨0,0⟩).lo=q.base then{q with b:=q.b.drop ((q.dX.getD 0 ⟨0,0⟩).hi+1 -q.base).toNat,base:=(q.dX.getD 0 ⟨0,0⟩).hi+1,dX:=q.dX.drop 1}else q
def kS (q:Qu) (a n:Int):Qu:=
 if !nk a n q.fresh then q else
 oJ {q with cO:=jh q.cO ⟨a,a+n -1⟩,dX:=gV (iV q.dX ⟨a,a+n -1⟩) q.base}
def pF (q:Qu) (a n:Int):Qu:=
 if !nk a n q.fresh then q else
 {q with cO:=(q.dX.foldl jh (gV [⟨a,a+n -1⟩] q.base)).foldl iV q.cO}
structure So where
 l:List Int
 fI:Nat
structure En where
 c:Cf
 (now aS:Int)
 words:So
 dH:Qu
 led:Le
 gu:Gu
 rtt:Rt
 dS:Pr
 cc:Cc
 fM:Pa
 (gU dm told cO:Int)
 fP:Bool
def iI (e:En):Int:=if e.rtt.has then e.rtt.bK else e.c.first
def rA (e:En):Int:=xg e.cc.win.cr (iI e) e.c.WL
def rC (e:En):Bool:=e.dH.base==fT e.dH
def Yn (e:En):Bool:=e.aS==3||e.aS==4
def nK (c:Cf) (words:List Int):En:=
 {c:=c,now:=0,aS:=1,words:=⟨words,0⟩,dH:=nS c.room,led:=qZ c.ring c.dO,gu:=guNew c.bE c.every,rtt:=⟨false,0,0,0,0⟩,dS:=⟨0,0⟩,cc:=mF c,
  fM:=qd c.gD 0 (xg c.jD c.first c.WL),gU:=18446744073709551615,dm:=0,told:=0,cO:=0,fP:=false}
structure Ren where
 (n err:Int)
 en:En
def fU (e:En) (b:List Int):Ren:=
 if e.aS≠1 then⟨0,9,e⟩else
 ⟨kg e.dH b.length,if kg e.dH b.length<b.length then 7 else 0,{e with dH:=oI e.dH b}⟩
def kF (e:En):Ren:=if e.aS≠1 then⟨0,9,e⟩else⟨0,0,{e with aS:=if rC e then 3 else 2}⟩
def jg (e:En):Int:=Ai e.words.l e.words.fI
def WG (e:En):En:={e with words:=⟨e.words.l,e.words.fI+1⟩}
def rQ (e:En):Bool:=Yw (jg e) e.c.one&&decide (2<=eu e.led)&&decide (e.led.next<e.c.dO)
def eH (e:En):En:=if rQ e then{WG e with led:=(og e.led).led}else WG e
structure Rpo where
 b:List Int
 err:Int
 en:En
def wN (e:En) (p:Pi):Rpo:=
 let b:=yP (jg e) e.c.bits
 let g:=WG e
 let f:=zn (jg g)
 let a:=WG g
 let d:=jG a.led ⟨0,p.off,p.body.length,b,a.now,f,false,0⟩
 let c:En:={a with led:=d.led,dH:=ng a.dH p.off p.body.length,dS:=xN a.dS a.now,fP:=false}
 ⟨if sS ⟨d.val,eY c.led,p.off,b,xA f,p.body⟩then rY ⟨d.val,eY c.led,p.off,b,xA f,p.body⟩else[],0,c⟩
def jH (e:En) (p:Pi):Rpo:=wN (eH e) p
def nO (e:En) (now:Int):En:={e with now:=max e.now now}
def WQ (e:En):Rpo:=
 if Yn e then⟨[],9,e⟩else
 if 0<e.cO then⟨rR e.told,0,{e with cO:=e.cO -1,told:=e.told+1}⟩else
 match iY e.dH e.c.mss with
 |none=>⟨[],10,e⟩
 |some p=>
  if e.fP=false/\e.cc.win.cr<gq e.led+p.body.length then⟨[],7,e⟩else
  if e.c.dO<e.led.next then⟨[],8,{e with aS:=3}⟩else
  if eu e.led<1 then⟨[],7,e⟩else
  if vw e.fM e.c.gD e.now p.body.length then jH {e with fM:=WR e.fM e.c.gD e.now p.body.length} p else⟨[],7,e⟩
def fD (e:En) (now:Int):Rpo:=WQ (nO e now)
structure Rse where
 fresh:List Se
 late:Bool
 en:En
def fH (a:Rse) (s:Se):Rse:=
 if s.aS≠1/\s.aS≠3 then a else
 ⟨if s.aS=1 then a.fresh++[s]else a.fresh,if s.aS=1 then a.late else true,{a.en with led:=gH a.en.led s.pn 2,dH:=kS a.en.dH s.off s.len}⟩
def partOf (a:Int) (b:List Se) (c:Sp):List Se:=(b.take (c.hi -a+1).toNat).drop (c.lo -a).toNat
def ed (e:En) (a:Ak):Rse:=(a.cu.flatMap (partOf (gT e.led) e.led.kept)).foldl fH ⟨[],false,e⟩
def jT (e:En) (a:Int):En:={e with led:=gH e.led a 3,dH:=pF e.dH (mH e.led a).off (mH e.led a).len}
structure Rfe where
 lost:Int
 some_:Bool
 en:En
def qi (e:En):Rfi:=qE e.led e.dm e.now (lJ e.rtt e.c.first e.c.jc)
def iB (e:En):Rfe:=
 ⟨(qi e).lost.getLastD 0,decide (0<(qi e).lost.length),(qi e).lost.foldl jT {e with gU:=(qi e).next}⟩
def jm (e:En):En:={e with fM:=xq e.fM e.c.gD e.now (rA e)}
def gJ (a:List Sp):List Se->Option Int
 |[]=>none
 |s::t=>match gJ a t with
  |some p=>some p
  |none=>if dI a s.pn then some s.pn else none
def ko (c:Ro) (l:List Se):Int:=l.foldl (λa b=>if WM c b.pn then a+b.len else a) 0
def iF (e:En) (a:List Se) (top:Int):En:=
 match a.getLast? with
 |none=>e
 |some s=>if s.pn=top then{e with rtt:=mY e.rtt (WU e.now s.sat)}else e
def kv (e:En) (a:List Sp) (b:List Se):En:=
 match gJ a b with
 |none=>e
 |some p=>{e with cc:=yg e.c e.cc p e.led.next}
def kD (e:En) (a:Int) (b:Bool):En:=if b then{e with cc:=uN e.c e.cc a e.led.next}else e
def kE (e:En) (a:List Se):En:=if 0<ko e.cc.round a then{e with cc:=vQ e.c e.cc (ko e.cc.round a) e.now (iI e)}else e
def lQ (e:En) (a:List Se) (b:Bool):En:=if 0<a.length\/b=true then{e with dS:=KD e.now,fP:=false}else e
def nN (e:En):En:=if e.aS=2/\rC e=true then{e with aS:=3}else e
def qh (e:En) (a:Ak):En:=
 let b:=ed e a
 let f:=(a.cu.getLastD ⟨0,0⟩).hi
 let d:=iF b.en b.fresh f
 let c:=iB {d with dm:=max d.dm f}
 let g:=kD (kv c.en a.aO b.fresh) c.lost c.some_
 nN (jm (lQ (kE g b.fresh) b.fresh b.late))
structure Rdg where
 ver:Ve
 en:En
def xw (e:En) (b:List Int):Rdg:=
 if Yn e then⟨⟨1,8,0,false⟩,e⟩else
 let a:=dN e.gu e.led b e.now
 let c:={e with gu:=a.gu,led:=a.led,cO:=if a.ver.dU then e.cO+1 else e.cO}
 ⟨a.ver,if a.ver.kind=3 then{c with aS:=4}else if a.ver.kind=2 then qh c a.ack else c⟩
def lU (e:En) (b:List Int) (now:Int):Rdg:=xw (nO e now) b
def jJ (e:En):Int:=qW e.dS (decide (0<gq e.led)) (qP e.rtt e.c.first e.c.jc) e.c.cap
def jE (e:En):En:=
 if Yn e then e else
 if tH e.now e.gU then
  let b:=iB e
  jm (kD b.en b.lost b.some_)
 else if tH e.now (jJ e)then
  let a:={jT {e with dS:=jR e.dS e.now} (eY e.led)with fP:=true}
  jm (if 3<=a.dS.count then{a with cc:=kz a.c a.cc}else a)
 else e
def kr (e:En) (now:Int):En:=jE (nO e now)
def cK (e:En):St:=
 ⟨e.aS,e.now,e.cc.win.cr,e.cc.win.dL,gq e.led,iI e,if Yn e then 18446744073709551615 else vL [e.gU,jJ e],e.led.next,gT e.led,fT e.dH -e.dH.base,e.fM.gP,e.gu.n⟩
structure Fa where
 (drop twice mark:Bool)
 delay:Int
structure It where
 iat:Int
 b:List Int
structure Pp where
 qF:List Fa
 count:Nat
 items:List It
def WY (x:It):List It->List It->List It
 |[],tail=>x::tail
 |y::t,tail=>if x.iat<y.iat then WY x t (y::tail)else(y::t).reverse++x::tail
def uD (l:List It) (x:It):List It:=WY x l.reverse []
def mK (p:Pp):Fa:=p.qF.getD p.count ⟨false,false,false,0⟩
def qD (p:Pp) (b:List Int) (now:Int):Pp:=
 if(mK p).drop then{p with count:=p.count+1}else
 let a:It:=⟨WI now (mK p).delay,if(mK p).mark then(qp b).getD b else b⟩
 {p with count:=p.count+1,items:=if(mK p).twice then uD (uD p.items a) a else uD p.items a}
def iy (now:Int):List It->List (List Int)
 |[]=>[]
 |x::t=>if x.iat<=now then x.b::iy now t else[]
def iH (now:Int):List It->List It
 |[]=>[]
 |x::t=>if x.iat<=now then iH now t else x::t
structure Kp where
 (pn bX:Int)
 rE:Bool
structure Pe where
 (delay floor next bytes:Int)
 (got aO:List Sp)
 kept:List Kp
 (fG dw due:Int)
 fK:List Sp
 pieces:List Pi
def kU (a:Int):Pe:=⟨a,0,0,0,[],[],[],0,0,18446744073709551615,[],[]⟩
def gz (p:Pe) (a:Int):Pe:=
 if a<=p.floor then p else{p with floor:=a,got:=gV p.got a,aO:=gV p.aO a,kept:=p.kept.filter λb=>decide (a<=b.pn)}
def Es (p:Pe) (d:Da):Pe:=
 {p with pieces:=p.pieces++(p.fK.foldl jh [⟨d.off,d.off+d.body.length -1⟩]).map (λa=>⟨a.lo,(d.body.take (a.hi -d.off+1).toNat).drop (a.lo -d.off).toNat⟩),fK:=iV p.fK ⟨d.off,d.off+d.body.length -1⟩}
structure Rpe where
 b:List Int
 ok:Bool
 pe:Pe
def xk (p:Pe):Ak:=
 ⟨p.got,p.aO,p.dw,(p.kept.map (·.bX)).foldl WN 0,(p.kept.map λa=>a.rE&& !oQ p.aO a.pn).foldl (λb c=>b !=c) false⟩
def lZ (p:Pe):Rpe:=⟨if qA (xk p)then zP (xk p)else[],qA (xk p),{p with fG:=0,due:=18446744073709551615}⟩
def jo:Nat->Pe->Pe
 |0,p=>p
 |n+1,p=>if 32<p.got.length then jo n (gz p (p.got.getD 1 ⟨0,0⟩).lo)else p
def iC:Nat->Pe->Pe
 |0,p=>p
 |n+1,p=>if 32<p.aO.length then iC n (gz p (p.aO.getD 1 ⟨0,0⟩).lo)else p
def Ga (p:Pe) (d:Da):Pe:=
 let a:=Es {p with bytes:=p.bytes+d.body.length} d
 let e:={a with got:=iV a.got ⟨d.pn,d.pn⟩,kept:=a.kept++[⟨d.pn,d.bX,uM d.ecn⟩],aO:=if jB d.ecn then a.aO else iV a.aO ⟨d.pn,d.pn⟩}
 let b:=gz e d.bn
 let c:=jo b.got.length b
 iC c.aO.length c
def oN (p:Pe) (b:List Int) (now:Int):Rpe:=
 if(ky b).err≠0\/(ky b).val.pn<p.floor\/oQ p.got (ky b).val.pn=true then⟨[],false,p⟩else
 let a:=(ky b).val
 let c:=Ga p a
 if a.pn<c.floor then⟨[],false,c⟩else
 let d:={c with next:=max c.next (a.pn+1),fG:=c.fG+1,dw:=a.bX}
 if 2<=d.fG\/jB a.ecn=false\/a.pn≠c.next then lZ d else
 ⟨[],false,if d.due=18446744073709551615 then{d with due:=WI now d.delay}else d⟩
def kK (p:Pe) (now:Int):Rpe:=if tH now p.due then lZ p else⟨[],false,p⟩
def iM (n:Int):List Pi->Int
 |[]=>n
 |x::t=>if x.off=n then iM (n+x.body.length) t else n
def qf (x:Pi):List Pi->List Pi
 |[]=>[x]
 |y::t=>if y.off<=x.off then y::qf x t else x::y::t
def LW (l:List Pi):List Pi:=l.foldl (λa b=>qf b a) []
def yL (p:Pe):Int:=iM 0 (LW p.pieces)
structure Wo where
 en:En
 pe:Pe
 (ahead back:Pp)
 now:Int
 mute:Bool
 eO:Int
 (fu heard sent:Nat)
structure Rw where
 aS:St
 (sent eO told tJ qm err:Int)
def mO (c:Cf) (words:List Int) (a b:List Fa) (d:Int):Wo:=⟨nK c words,kU d,⟨a,0,[]⟩,⟨b,0,[]⟩,0,false,0,0,0,0⟩
def woRow (w:Wo):Rw:=⟨cK w.en,w.sent,w.eO,w.heard,w.pe.bytes,yL w.pe,0⟩
def je (w:Wo) (b:List Int):Wo:={w with en:=(lU w.en b w.now).en,heard:=w.heard+1}
def jP (w:Wo) (a:Rpe):Wo:=if a.ok&& !w.mute then{w with pe:=a.pe,back:=qD w.back a.b w.now}else{w with pe:=a.pe}
def jZ (w:Wo) (b:List Int):Wo:=
 jP {w with eO:=w.eO+1,fu:=if(ky b).err=0 then w.fu+1 else w.fu} (oN w.pe b w.now)
def xF (w:Wo) (n:Int):Wo:=
 let a:={w with now:=WI w.now n}
 let c:=(iy a.now a.ahead.items).foldl jZ {a with ahead:={a.ahead with items:=iH a.now a.ahead.items}}
 let b:=jP c (kK c.pe c.now)
 let d:=(iy b.now b.back.items).foldl je {b with back:={b.back with items:=iH b.now b.back.items}}
 {d with en:=kr d.en d.now}
structure Ev where
 (kind n:Int)
 body:List Int
def qI:Nat->Wo->Wo
 |0,w=>w
 |k+1,w=>
  let a:=fD w.en w.now
  if a.err≠0 then{w with en:=a.en}else
  qI k {w with en:=a.en,sent:=w.sent+1,ahead:=if(ky a.b).err=0 then qD w.ahead a.b w.now else w.ahead}
def Yp (w:Wo) (e:Ev):Wo:=
 if e.kind=1 then{w with en:=(fU w.en e.body).en}else
 if e.kind=2 then xF w (min e.n 1099511627776)else
 if e.kind=3 then je w e.body else
 if e.kind=4 then{w with mute:=true}else
 if e.kind=5 then{w with mute:=false}else
 {w with en:=(kF w.en).en}
def OQ (w:Wo) (e:Ev):Int:=if e.kind=1 then(fU w.en e.body).err else if e.kind=6 then(kF w.en).err else 0
def GY (w:Wo):Wo:=qI (w.en.cO.toNat+257) w
def Bc (w:Wo) (e:Ev):Wo:=if 1<=e.kind/\e.kind<=6 then GY (Yp w e)else w
def zz (w:Wo) (e:Ev):Rw:=if 1<=e.kind/\e.kind<=6 then{woRow (Bc w e)with err:=OQ w e}else{woRow w with err:=1}
end Go.Proofs.YtiflndepmgnojaaGreat
