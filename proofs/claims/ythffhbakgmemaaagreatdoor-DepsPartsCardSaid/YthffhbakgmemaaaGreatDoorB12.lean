/- Part of parts_said. -/
import Derived.Test.YthffhbakgmemaaaGreatDoorB9
import Derived.Test.YthffhbakgmemaaaGreatDoorB11
set_option maxRecDepth 100000
set_option maxHeartbeats 8000000
set_option linter.unusedSimpArgs false
set_option linter.unusedVariables false
namespace Go.Proofs.YthffhbakgmemaaaGreatDoor
open Go Go.aG
attribute [local irreducible] bD
structure b1 where
 n:ax
 s:Bool
 bm:List (ax×Int)
 k:Int
 a:Int
 b:Int
 bV:List jo
 pl:bj
 code:ax
def b1.c24(x:b1):wQ:=⟨x.n,x.s,x.bm.map bF,x.k,x.a,x.b,x.bV.map ef,x.pl.bz,x.code⟩
def b1.row(x:b1):List ah:=x.c24.cs.map .d
def wY(l:List b1):List (List ah):=l.map b1.row
def gB(l:List b1):List ah:=(wY l).flatten
theorem yY(l:List b1):kP 24 (wY l):=λr a=>by
 obtain⟨x,_,rfl⟩:=aCY.1 a;rfl
theorem yZ(l:List b1):(wY l).length=l.length:=aCv _
theorem Ed{l:List b1}{i:Nat}(h:i<(wY l).length):(wY l)[i]=(l[i]' aBv).row:=aFg _
theorem Ee(l:List b1):Flat (gB l):=λv c=>by
 obtain⟨r,a,h⟩:=aGj.1 c;obtain⟨x,_,rfl⟩:=aCY.1 a;obtain⟨d,_,rfl⟩:=aCY.1 h;simp
theorem HW{a:bd}(h:a=bd.bU){l:List b1}{i:Nat}(hi:i<l.length):a.l0 (gB l) (i*24) 24=.d (.agg l[i].c24.cs):=by
 unfold gB;rw[LX h (yY l) aBv,Ed];rfl
theorem r1{a:bd}(h:a=bd.bU){l:List b1}{i:Nat}(hi:i<l.length){j n:Nat}(c:j+n<=24):a.ha (i*24+j) n (gB l) true=true:=LW h (yY l) aBv c
theorem Ef{a:bd}(h:a=bd.bU){l:List b1}{i:Nat}(hi:i<l.length){j:Nat}{d:D}(c:j<24)(f:l[i].c24.cs[j]?=some d):a.kM (gB l) (i*24+j)=.d d:=by
 unfold gB;rw[am2 h (yY l) aBv c,Ed,aC4];unfold b1.row;rw[aDC,f];rfl
theorem atz(x:wQ)(v:ax):aL 54 [.d (.agg x.cs),.ptr 0 0] [.box [.d (.str v)]] (.d (.bool (decide (x.n=v)))) [.box [.d (.str v)]]:=by
 obtain⟨n,s,j,k,a,b,g,⟨c1,c2,L,m,o,u,f,B,p,t,C,X,w,z,A,l⟩,r⟩:=x;refine aal.ct λd ae Q c=> ?_;refine ak ?_
 (subst ae;exact bS c az5 az5)
def atA(C:List ah)(n i:Nat)(v:ax):ag:=cA [(0,.aP 0 0 n n 24),(1,.func 54 [] [.ptr 1 0]),(7,.d (int (Int.ofNat n))),(8,.d (int (Int.ofNat i)))] [.box C,.box [.d (.str v)]]
theorem atB(l:List b1)(n:Nat)(w:l.length=n)(o:n<=1073741824)(v:ax)(P:Nat->Bool)(p:∀i (h:i<l.length),decide (l[i].n=v)=P i):
  ∃r:Int,mI n P r/\aL 53 [.aP 0 0 n n 24,.func 54 [] [.ptr 1 0]] [.box (gB l),.box [.d (.str v)]] (.d (int r)) [.box (gB l),.box [.d (.str v)]]:=by
 refine eW ?_;refine Mb.iX [0] _ λm ae K u=> ?_;obtain⟨f0,f1,f2⟩:=aV.of ae (Ee l);have f:=λi (h:i<l.length)=>HW ae h;have g:=λi (h:i<l.length)=>r1 ae h (j:=0) (n:=24) az';generalize gB l=C at*;refine ak ?_;refine⟨bX (λi=>atA C n i v) (λi=>i<=n/\∀j,j<i->P j=false) (λi=>n-i),_,⟨0,⟨aCu _,λj h=>az6⟩,rfl,az5⟩,?_⟩;rintro _ _ ⟨i,⟨s,d⟩,rfl,rfl⟩;dsimp only at s d⊢;by_cases a:i<n
 .have t1:=ek ae a;have t2:m.dS 24 24 (Int.ofNat i) n=true:=e7 ae a;have t3:=kf ae i 24;have t4:=f i az6;have t5:=g i az6;have t6:=b9 ae (n:=i) az6;have aj:=atz (l[i]' az6).c24 v;rw[show(l[i]' az6).c24.n=(l[i]' az6).n from rfl,p i az6]at aj;have z:P i=true->mI n P (Int.ofNat i):=λh=>.inr ⟨i,a,rfl,h,d⟩;have t:P i=false->∀j,j<i+1->P j=false:=λh j k=>az9;generalize (l[i]' az6).c24.cs=cs at*;generalize i*24=c at*;rw[aDc]at t5;generalize P i=b at*;cases b with
  |true=>
   refine ak ?_;simp_all
  |false=>
   refine ak ?_;exact fixF (i+1) ⟨a,t rfl⟩
 .have t1:=en ae a;have o:mI n P (-1):=.inl ⟨rfl,λj k=>d j az6⟩;refine ak ?_;simp_all
theorem atC(v:ax):aL 53 [.d (.list 24 []),.func 54 [] [.ptr 0 0]] [.box [.d (.str v)]] (.d (int (-1))) [.box [.d (.str v)]]:=by
 refine Mb.ct λa ae Q c=> ?_;have t0:a.len []=0:=aAc;have t1:a.aB .lss (Int.ofNat 0) (Int.ofNat 0)=false:=en ae az6;refine ak ?_;refine⟨bX (λ_:Unit=>cA [(0,.d (.list 24 [])),(1,.func 54 [] [.ptr 0 0]),(7,.d (int (Int.ofNat 0))),(8,.d (int (Int.ofNat 0)))] [.box [.d (.str v)]]) (λ_=>True) (λ_=>0),_,⟨(),trivial,rfl,az5⟩,?_⟩;rintro _ _ ⟨_,_,rfl,rfl⟩;refine ak ?_
 (subst ae;exact bS c az7 az5)
structure bw where
 L:List Go.aG.D
 t:ax
 bf:Nat
 N:List ah
 ps:List Go.aG.D
 ns:Nat
 S:List ah
 gn:Nat
 bI:List ah
 bJ:List ah
 bH:List ah
 P:List (Go.aG.D×ah)
structure bw.Ok(m:bw):Prop where
 N:Flat m.N
 S:Flat m.S
 bI:Flat m.bI
 bJ:Flat m.bJ
 bH:Flat m.bH
 P:po m.P
def dc(L:List Go.aG.D)(t:ax)(ps:List Go.aG.D)(a b c d:ah):cc:=.box [.d (.list 25 L),.d (.str t),a,.own 1 ps,b,c,d]
def bw.st(m:bw):Bool->Bool->Bool->aY
 |true,true,false=>[dc m.L m.t m.ps (.aP 1 0 m.bf m.bf 24) (.aP 2 0 m.ns m.ns 12) (.d .dJ) (.d .h9),.box m.N,.box m.S]
 |true,false,false=>[dc m.L m.t m.ps (.aP 1 0 m.bf m.bf 24) (.own 12 []) (.d .dJ) (.d .h9),.box m.N]
 |false,true,false=>[dc m.L m.t m.ps (.own 24 []) (.aP 1 0 m.ns m.ns 12) (.d .dJ) (.d .h9),.box m.S]
 |false,false,false=>[dc m.L m.t m.ps (.own 24 []) (.own 12 []) (.d .dJ) (.d .h9)]
 |true,true,true=>[dc m.L m.t m.ps (.aP 1 0 m.bf m.bf 24) (.aP 2 0 m.ns m.ns 12) (.ptr 3 0) (.map 4),.box m.N,.box m.S,.box (cv 5 6 7 m.gn),.map m.P,.box m.bI,.box m.bJ,.box m.bH]
 |true,false,true=>[dc m.L m.t m.ps (.aP 1 0 m.bf m.bf 24) (.own 12 []) (.ptr 2 0) (.map 3),.box m.N,.box (cv 4 5 6 m.gn),.map m.P,.box m.bI,.box m.bJ,.box m.bH]
 |false,true,true=>[dc m.L m.t m.ps (.own 24 []) (.aP 1 0 m.ns m.ns 12) (.ptr 2 0) (.map 3),.box m.S,.box (cv 4 5 6 m.gn),.map m.P,.box m.bI,.box m.bJ,.box m.bH]
 |false,false,true=>[dc m.L m.t m.ps (.own 24 []) (.own 12 []) (.ptr 1 0) (.map 2),.box (cv 3 4 5 m.gn),.map m.P,.box m.bI,.box m.bJ,.box m.bH]
def dP:Bool->Bool->Bool->List Nat
 |true,true,false=>[1,2]
 |true,false,false=>[1]
 |false,true,false=>[1]
 |false,false,false=>[]
 |true,true,true=>[1,2,4,5,6,7]
 |true,false,true=>[1,3,4,5,6]
 |false,true,true=>[1,3,4,5,6]
 |false,false,true=>[2,3,4,5]
structure fU(ad:bd)(C:List (Go.aG.D×ah)):Prop where
 refs:ad.yo (.map C)=[]
 ok:∀n,ad.yq n (.map C)=true
 ren:∀f,ad.yp f (.map C)=.map C
theorem fU.of{c:bd}(h:c=bd.bU){C:List (Go.aG.D×ah)}(a:po C):fU c C:=⟨a.refs h,a.ok h,a.ren h⟩
def nB(l:List b1)(v:ax)(i:Nat)(a:Bool):Prop:=(a=true/\∃h:i<l.length,l[i].n=v/\∀j (c:j<i),(l[j]' az6).n≠v)\/(a=false/\i=0/\∀x∈l,x.n≠v)
theorem Br(m:bw)(C:m.Ok)(c d g:Bool)(l:List b1)(B:m.N=gB l)(w:l.length=m.bf)(au:m.bf<=1073741824)(bB:c=false->l=[])(v:ax):
  ∃(i:Nat) (z:Bool),nB l v i z/\aL 27 [.ptr 0 0,.d (.str v)] (m.st c d g) (.tuple [.d (int (Int.ofNat i)),.d (.bool z)]) (m.st c d g):=by
 obtain⟨L,t,s,N,U,R,S,K,G,H,F,P⟩:=m;obtain⟨h1,af,av,o,p,u⟩:=C;dsimp only at h1 af av o p u B w au;obtain⟨r,a,ee⟩:∃r:Int,(r= -1/\nB l v 0 false\/∃k:Nat,r=Int.ofNat k/\nB l v k true/\c=true)/\(if c=true then aL 53 [.aP 0 0 s s 24,.func 54 [] [.ptr 1 0]] [.box N,.box [.d (.str v)]] (.d (int r)) [.box N,.box [.d (.str v)]]else aL 53 [.d (.list 24 []),.func 54 [] [.ptr 0 0]] [.box [.d (.str v)]] (.d (int r)) [.box [.d (.str v)]]):=by
  cases c with
  |false=>exact⟨-1,.inl ⟨rfl,.inr ⟨rfl,rfl,λx A=>az8⟩⟩,atC v⟩
  |true=>
   obtain⟨r,a,aj⟩:=atB l s w au v (λi=>match l[i]? with|some x=>decide (x.n=v)|none=>false) λi h=>az9;refine⟨r,?_,az8⟩;rcases a with⟨rfl,a⟩|⟨k,hk,rfl,J,M⟩
   .refine .inl ⟨rfl,.inr ⟨rfl,rfl,λx A=> ?_⟩⟩;grind[List.getElem_of_mem]
   .refine .inr ⟨k,rfl,.inl ⟨rfl,az6,?_,λj E=> ?_⟩,rfl⟩;all_goals grind
 rcases a with⟨rfl,a⟩|⟨k,rfl,a,rfl⟩
 .refine⟨0,false,a,?_⟩;refine Mr.fX (dP c d g) λn ae Q f=> ?_;have t1:n.aB .lss (-1) 0=true:=aAc;have t2:n.aB .geq (-1) 0=false:=aAc;obtain⟨bp,a2,a3⟩:=aV.of ae h1;obtain⟨bq,aT,b3⟩:=aV.of ae af;obtain⟨c1,c2,c3⟩:=aV.of ae av;obtain⟨d1,d2,d3⟩:=aV.of ae o;obtain⟨bP,bZ,cx⟩:=aV.of ae p;obtain⟨cb,cp,cy⟩:=fU.of ae u;clear bB;cases c<;>cases d<;>cases g;all_goals
   replace ee:=ee;simp only[if_true,aCW,aDq,reduceIte]at ee;dsimp only[bw.st,dP,dc]at f⊢;refine ak ?_
  all_goals (subst ae;exact bS f az7 az5)
 .refine⟨k,true,a,?_⟩;refine Mr.fX (dP true d g) λn ae Q f=> ?_;have t1:n.aB .lss (Int.ofNat k) 0=false:=by rw[(eS ae).2.1];simp
  have t2:n.aB .geq (Int.ofNat k) 0=true:=by rw[(eS ae).2.2.1];simp
  obtain⟨bp,a2,a3⟩:=aV.of ae h1;obtain⟨bq,aT,b3⟩:=aV.of ae af;obtain⟨c1,c2,c3⟩:=aV.of ae av;obtain⟨d1,d2,d3⟩:=aV.of ae o;obtain⟨bP,bZ,cx⟩:=aV.of ae p;obtain⟨cb,cp,cy⟩:=fU.of ae u;clear bB;simp only[if_true]at ee;cases d<;>cases g;all_goals
   dsimp only[bw.st,dP,dc]at f⊢;refine ak ?_
  all_goals (subst ae;exact bS f az7 az5)
structure hr where
 n:ax
 sp:mL
 ks:List Int
def hr.cs(x:hr):List Go.aG.D:=[.str x.n,.int .u64 x.sp.a0,.int .u64 x.sp.bp,.int .u64 x.sp.a2,.int .u64 x.sp.a3,.int .u64 x.sp.a4,.bool x.sp.mA,.bool x.sp.bq,.bool x.sp.aT,.bool x.sp.b3,.bool x.sp.iH,.list 1 (x.ks.map int)]
def hr.row(x:hr):List ah:=[.d (.str x.n),.d (.int .u64 x.sp.a0),.d (.int .u64 x.sp.bp),.d (.int .u64 x.sp.a2),.d (.int .u64 x.sp.a3),.d (.int .u64 x.sp.a4),.d (.bool x.sp.mA),.d (.bool x.sp.bq),.d (.bool x.sp.aT),.d (.bool x.sp.b3),.d (.bool x.sp.iH),.own 1 (x.ks.map int)]
def qL(l:List hr):List (List ah):=l.map hr.row
def gd(l:List hr):List ah:=(qL l).flatten
theorem vm(l:List hr):kP 12 (qL l):=λr a=>by
 obtain⟨x,_,rfl⟩:=aCY.1 a;rfl
theorem Bs(l:List hr):(qL l).length=l.length:=aCv _
theorem HX{l:List hr}{i:Nat}(h:i<(qL l).length):(qL l)[i]=(l[i]' aBe).row:=aFg _
theorem vn(l:List hr):Flat (gd l):=λv c=>by
 obtain⟨r,a,h⟩:=aGj.1 c;obtain⟨x,_,rfl⟩:=aCY.1 a;simp only[hr.row,aCJ,aC5,aDW]at h;grind
theorem atD{a:bd}(h:a=bd.bU){l:List hr}{i:Nat}(hi:i<l.length):a.l0 (gd l) (i*12) 12=.d (.agg l[i].cs):=by
 unfold gd;rw[LX h (vm l) aBe,HX];rfl
theorem atE{a:bd}(h:a=bd.bU){l:List hr}{i:Nat}(hi:i<l.length){j n:Nat}(c:j+n<=12):a.ha (i*12+j) n (gd l) true=true:=LW h (vm l) aBe c
theorem atF(x:hr)(y:lH):aL 142 [.d (.agg x.cs),.ptr 0 0] [.box (y.cs.map .d)] (.d (.bool (decide (x.n=y.n)))) [.box (y.cs.map .d)]:=by
 obtain⟨n,⟨c,bp,a2,a3,d,G,bq,aT,b3,F⟩,M⟩:=x;unfold hr.cs;dsimp only;generalize M.map int=M at*;obtain⟨k,v,l,r,J,K,j,⟨c1,c2,L,o,p,u,g,B,s,t,C,X,w,z,A,m⟩,E,H⟩:=y;refine U6.ct λf ae Q a=> ?_;refine ak ?_
 (subst ae;exact bS a az5 az5)
def atG(C D:List ah)(s n i:Nat):ag:=cA [(0,.aP 0 0 n s 12),(1,.func 142 [] [.ptr 1 0]),(7,.d (int (Int.ofNat n))),(8,.d (int (Int.ofNat i)))] [.box C,.box D]
theorem atH(l:List hr)(s n:Nat)(v:l.length=s)(p:n<=s)(u:n<=1073741824)(D:List ah)(m:Flat D)(d:∀i (h:i<l.length),∃b:Bool,aL 142 [.d (.agg l[i].cs),.ptr 0 0] [.box D] (.d (.bool b)) [.box D]):
  ∃r:Int,aL 192 [.aP 0 0 n s 12,.func 142 [] [.ptr 1 0]] [.box (gd l),.box D] (.d (int r)) [.box (gd l),.box D]:=by
 refine hb ?_;refine Vq.iX [0,1] _ λk ae K t=> ?_;obtain⟨f0,f1,f2⟩:=aV.of ae (vn l);obtain⟨g0,g1,g2⟩:=aV.of ae m;have f:=λi (h:i<l.length)=>atD ae h;have g:=λi (h:i<l.length)=>atE ae h (j:=0) (n:=12) az';generalize gd l=C at*;refine ak ?_;refine⟨bX (λi=>atG C D s n i) (λi=>i<=n) (λi=>n-i),_,⟨0,aCu _,rfl,az5⟩,?_⟩;rintro _ _ ⟨i,o,rfl,rfl⟩;dsimp only at o⊢;by_cases a:i<n
 .have t1:=ek ae a;have t2:k.dS 12 12 (Int.ofNat i) n=true:=e7 ae a;have t3:=kf ae i 12;have t4:=f i az6;have t5:=g i az6;have t6:=b9 ae (n:=i) az6;obtain⟨b,aj⟩:=d i az6;clear d;generalize (l[i]' az6).cs=cs at*;generalize i*12=c at*;rw[aDc]at t5;cases b with
  |true=>
   refine ak ?_;simp_all
  |false=>
   refine ak ?_;exact fixF (i+1) a
 .have t1:=en ae a;refine ak ?_;simp_all
theorem atI(l:List hr)(s n:Nat)(g:l.length=s)(c:n<=s)(d:n<=1073741824)(y:lH):
  ∃b:Bool,aL 141 [.aP 0 0 n s 12,.func 142 [] [.ptr 1 0]] [.box (gd l),.box (y.cs.map .d)] (.d (.bool b)) [.box (gd l),.box (y.cs.map .d)]:=by
 have a:Flat (y.cs.map .d):=λv m=>az9;obtain⟨r,aj⟩:=atH l s n g c d (y.cs.map .d) a λi h=>⟨_,atF l[i] y⟩;have f:=vn l;generalize gd l=C at*;generalize y.cs.map ah.d=D at*;refine hb ?_;refine U4.iX [0,1] _ λj ae K k=> ?_;obtain⟨f0,f1,f2⟩:=aV.of ae f;obtain⟨g0,g1,g2⟩:=aV.of ae a;refine ak ?_;grind
theorem atJ{a:bd}(h:a=bd.bU){l:List hr}{i:Nat}(hi:i<l.length)(c:mL):a.kN (gd l) (i*12+1) [.d (.int .u64 c.a0),.d (.int .u64 c.bp),.d (.int .u64 c.a2),.d (.int .u64 c.a3),.d (.int .u64 c.a4),.d (.bool c.mA),.d (.bool c.bq),.d (.bool c.aT),.d (.bool c.b3),.d (.bool c.iH)]=some (gd (l.set i ⟨l[i].n,c,l[i].ks⟩)):=by
 unfold gd;rw[G2 h (vm l) aBe az7,HX];unfold qL;rw[aFh];rfl
theorem atK{a:bd}(h:a=bd.bU){l:List hr}{i:Nat}(hi:i<l.length)(z:Int):∃d,a.AL (i*12+11) (gd l)=true/\a.Dg (gd l) (i*12+11)=some d/\a.Df (gd l) (i*12+11)=.own 1 (l[i].ks.map int)/\a.lE true (i*12+11) 1 d true=true/\
  a.kN d (i*12+11) [.own 1 ((l[i].ks++[z]).map int)]=some (gd (l.set i ⟨l[i].n,l[i].sp,l[i].ks++[z]⟩)):=by
 have c:i<(qL l).length:=aBe;have f:=(vm l).set i (r:=(qL l)[i].set 11 .undef) (by rw[aDE];exact vm l _ (aCC _));have g:i<((qL l).set i ((qL l)[i].set 11 .undef)).length:=az8;refine⟨_,am1 h (vm l) c az',am4 h (vm l) c az',?_,G1 h f g az',?_⟩
 .unfold gd;rw[am3 h (vm l) c az',HX];rfl
 .rw[G2 h f g az7,aGk,aFu,HX];unfold gd qL;rw[aFh];rfl
def oP(l:List b1)(v:ax):Int:=match l.findIdx? (λx=>decide (x.n=v))with|some i=>Int.ofNat i|none=>0
theorem nB.eq{l:List b1}{v:ax}{i:Nat}{c:Bool}(h:nB l v i c):Int.ofNat i=oP l v:=by
 unfold oP;rcases h with⟨_,hi,h1,a⟩|⟨_,rfl,a⟩
 .rw[(aEt (p:=λx:b1=>decide (x.n=v))).2 ⟨hi,aCI h1,λj d=>az8⟩]
 grind
structure HY(l:List b1)(x:cC)(y:hr):Prop where
 ks:y.ks=x.ms.map (oP l)
 ok:∀v∈x.ms,∃i,nB l v i true
 sp:aL 143 [.d (.str x.fZ)] [] (.tuple [.d (.agg y.sp.cs),.d (int 0)]) []
def h6(_:Bool):Prop:=True
def dj{b:Bool}(_:h6 b):Bool:=b
def atL(m:bw)(a:Bool)(D:List ah)(k:Nat)(c:List Go.aG.D)(n i:Nat):ag:=cA [(0,.ptr 0 0),(1,.d (int (Int.ofNat k))),(39,.d (.list 1 c)),(40,.d (int (Int.ofNat n))),(41,.d (int (Int.ofNat i)))] (m.st a true false++[.box D])
theorem atM(m:bw)(o:m.Ok)(aq:Bool)(l:List b1)(G:m.N=gB l)(aE:l.length=m.bf)(au:m.bf<=1073741824)(bB:aq=false->l=[])(d:List hr)(eI:m.S=gd d)(jT:d.length=m.ns)(oj:m.ns<=1073741824)
  (k:Nat) (hk:k<d.length) (N0:d[k].ks=[]) (x:cC) (az:x.fZ.length<=1073741824) (ai:x.ms.length<=1073741824):
  ∃(e:Int) (y:hr),(y.n=d[k].n/\(e=0->HY l x y))/\aL 100 [.ptr 0 0,.d (int (Int.ofNat k)),.d (.agg x.dX.cs)] (m.st aq true false) (.d (int e)) (({m with S:=gd (d.set k y)}:bw).st aq true false):=by
 refine Dp ?_;obtain⟨L,t,r,N,Y,ns,S,R,J,K,H,P⟩:=m;dsimp only at G aE au eI jT oj;obtain⟨b,aj⟩:=atI d ns k jT az6 az6 x.dX;obtain⟨c,e,aC⟩:=asC x.fZ az;have y0:∀(y:hr),Flat (gd (d.set k y)):=λy=>vn _;refine UP.iX (dP aq true false) _ λf ae ar g=> ?_;replace g:∀(e:Int) (y:hr) (p:aY),(y.n=d[k].n/\(e=0->HY l x y))->p=(⟨L,t,r,N,Y,ns,gd (d.set k y),R,J,K,H,P⟩:bw).st aq true false->ar (.d (int e)) p:=λe y p h1 af=>g _ _ ⟨e,y,h1,rfl,af⟩;obtain⟨bp,a2,a3⟩:=aV.of ae o.N;obtain⟨bq,aT,b3⟩:=aV.of ae o.S;dsimp only at bp a2 a3 bq aT b3;rw[<-eI]at aj;have bC:ns≠0:=az6;have vI:x.dX.fZ=x.fZ:=rfl;have aB:x.dX.ms=x.ms.map .str:=rfl;generalize x.dX=w at*;obtain⟨Bt,aR,aU,aZ,bg,bh,bk,⟨c1,c2,r2,c4,c5,eA,bQ,eQ,c9,e1,eR,aQ,eD,eE,eF,bz⟩,bE,B⟩:=w;dsimp only at vI aB;subst vI;have t1:f.mC true 0 (Int.ofNat k) (Int.ofNat ns) ns=true:=qH ae (aCu _) az6 (aCw _);have t2:f.aB .eql 0 (Int.ofNat ns)=false:=by rw[(eS ae).1];grind
 have t3:f.la 0 0 12=0:=kf ae 0 12;have t4:f.ns (Int.ofNat k) 0=k:=l9 ae k 0;have t5:f.ns (Int.ofNat ns) 0=ns:=l9 ae ns 0;have aF:h6 aq:=trivial;cases b with
 |true=>
  cases aq;all_goals
   dsimp only[bw.st,dP,dc]at g⊢;refine ak ?_
  all_goals exact g _ d[k] _ ⟨rfl,λh=>absurd h az'⟩ aCk
 |false=>
 have kc:k<ns:=az6;by_cases he:e=0
 .subst he;have t6:f.aB .neq 0 0=false:=aAc;have bm:aL 143 [.d (.str x.fZ)] [] (.tuple [.d (.agg c.cs),.d (int 0)]) []:=aC;have fw:f.dS 12 12 (Int.ofNat k) ns=true:=e7 ae kc;have eY:=kf ae k 12;have fa:f.l3 (k*12) 1=k*12+1:=qt ae _ _;have fG:f.lE true (k*12+1) 10 S true=true:=by rw[eI];exact G1 ae (vm d) aBe az'
  have g':=atJ ae hk c;rw[<-eI,N0]at g';have v1:f.l3 (k*12) 11=k*12+11:=qt ae _ _;have o2:∀(c:mL) (a:List Int) (z:Int),_:=λc a z=>atK ae (l:=d.set k ⟨d[k].n,c,a⟩) (i:=k) az8 z;simp only[aGk,aFu]at o2;obtain⟨q,aS⟩:∃q,q=x.ms.length:=⟨_,rfl⟩;have Q:∀(e:Int) (a:List Int) (p:aY),(e=0->a=x.ms.map (oP l)/\∀v∈x.ms,∃i,nB l v i true)->p=(⟨L,t,r,N,Y,ns,gd (d.set k ⟨d[k].n,c,a⟩),R,J,K,H,P⟩:bw).st aq true false->ar (.d (int e)) p:=λe a p h hs=>g e ⟨d[k].n,c,a⟩ _ ⟨rfl,λaf=>⟨(h af).1,(h af).2,bm⟩⟩ hs;clear g;have bn:∀i (h:i<x.ms.length),B[i]?=some (.str x.ms[i]):=λi h=>az8;have r0:f.len B=q:=by subst ae;rw[aS,aB];exact aCv _
  have Bu:∀(j:Nat) (a:List Int),f.app (a.map int) [int (Int.ofNat j)]=(a++[Int.ofNat j]).map int:=λj a=>by subst ae;rw[aCR];rfl
  have y1:=y0 ⟨d[k].n,c,[]⟩;obtain⟨j9,N1⟩:∃j9,j9=gd (d.set k ⟨d[k].n,c,[]⟩):=⟨_,rfl⟩;rw[<-N1]at g' y1;obtain⟨d1,d2,d3⟩:=aV.of ae y1;have aM:∀(j:Nat) (h:j<l.length),f.dS 24 24 (Int.ofNat j) r=true/\f.ha (j*24+1) 1 N true=true/\f.kM N (j*24+1)=.d (.bool l[j].s):=λj h=>⟨e7 ae az6,by rw[G];exact r1 ae h az',by rw[G];exact Ef ae h az' rfl⟩;have Nu:=o.N;generalize d[k].n=nm at*;obtain⟨C,wZ,w2,s,E,X,w3,Z,u,U⟩:=c;dsimp only[mL.cs]at aC g';generalize bt:k*12=w4 at*;generalize bM:w4+1=bN at*;generalize bO:w4+11=bR at*;cases aq;all_goals
   dsimp only[bw.st,dP,dc]at Q⊢;refine ak ?_;refine⟨bX (λz:Nat×List ah=>atL ⟨L,t,r,N,Y,ns,z.2,R,J,K,H,P⟩ (dj aF) ((lH.cs ⟨Bt,aR,aU,aZ,bg,bh,bk,⟨c1,c2,r2,c4,c5,eA,bQ,eQ,c9,e1,eR,aQ,eD,eE,eF,bz⟩,x.fZ,B⟩).map .d) k B q z.1) (λz=>z.1<=q/\∃a:List Int,z.2=gd (d.set k ⟨nm,⟨C,wZ,w2,s,E,X,w3,Z,u,U⟩,a⟩)/\a=(x.ms.take z.1).map (oP l)/\∀v∈x.ms.take z.1,∃i,nB l v i true) (λz=>q-z.1),_,⟨(0,j9),⟨aCu _,[],N1,az7,λv h=>by simp at h⟩,rfl,az5⟩,?_⟩;clear t1 t2 t3 t4 t5 t6 fG g' bq aT b3 d1 d2 d3 aj aC N1 y1;rintro _ _ ⟨⟨i,S⟩,⟨hi,a,qM,A,fW⟩,rfl,rfl⟩;dsimp only at hi qM A fW⊢;have pG:Flat S:=az9;obtain⟨bq,aT,b3⟩:=aV.of ae pG;by_cases F:i<q
   .have b7:=ek ae F;have cq:=cH ae (bn i az6);have dG:f.dS 1 1 (Int.ofNat i) q=true:=e7 ae F;have jj:=b9 ae (n:=i) az6;obtain⟨j,ok,M,lF⟩:=Br ⟨L,t,r,N,Y,ns,S,R,J,K,H,P⟩ ⟨o.N,pG,o.bI,o.bJ,o.bH,o.P⟩ (dj aF) true false l G aE au bB (x.ms[i]' az6);dsimp only[bw.st,dc,dj]at lF;have fK:x.ms.take (i+1)=x.ms.take i++[x.ms[i]' az6]:=az7;have br:a++[Int.ofNat j]=(x.ms.take (i+1)).map (oP l):=by rw[fK,aCR,<-A,M.eq];rfl
    have N2:ok=true->∀v∈x.ms.take (i+1),∃i,nB l v i true:=λh v hv=>by
     rw[fK]at hv;rcases aC9.1 hv with hv|hv
     .exact fW v hv
     .rw[aCS.1 hv];subst h;exact⟨j,M⟩
    have fv:ok=true->j<l.length:=λh=>by
     rcases M with⟨_,h1,_⟩|⟨h1,_⟩
     .omega
     grind
    have P2:a.length<=1073741824:=by rw[A,aCv,aDk];omega
    clear fK M;generalize (x.ms[i]' az6)=v at*;cases ok with
    |false=>
     refine ak ?_;exact Q 13 a _ (λh=>absurd h az') aBU
    |true=>
     have aI:=fv rfl;first
     |exact absurd (bB rfl▸aI) (aDs _)
     |skip
     all_goals
      obtain⟨w1,eG,jw⟩:=aM j aI;have b5:=kf ae j 24;have ni:f.l3 (j*24) 1=j*24+1:=qt ae _ _;obtain⟨nz,cb,cp,cy,kG,pc⟩:=o2 ⟨C,wZ,w2,s,E,X,w3,Z,u,U⟩ a (Int.ofNat j);rw[<-qM]at cb cp cy;have aN:=Bu j a;obtain⟨V,kq⟩:∃V,V=gd (d.set k ⟨nm,⟨C,wZ,w2,s,E,X,w3,Z,u,U⟩,a++[Int.ofNat j]⟩):=⟨_,rfl⟩;rw[<-kq,<-aN]at pc;have N3:Flat V:=by rw[kq];exact vn _
      obtain⟨hl,z2,z3⟩:=aV.of ae N3;have bu:(a.map int).length<=1073741824:=aA2;clear aN aM o2;generalize a.map int=bU at*;generalize NQ:j*24=N4 at*;generalize N4+1=bV at*;generalize l[j].s=gI at*;cases gI with
      |true=>
       refine ak ?_;exact Q 13 a _ (λh=>absurd h az') aBU
      |false=>
       refine ak ?_;exact fixF (i+1,V) ⟨F,a++[Int.ofNat j],kq,br,N2 rfl⟩
   .have b7:=en ae F;have yc:a=x.ms.map (oP l)/\∀v∈x.ms,∃i,nB l v i true:=by
     rw[aDd az6]at A fW;grind
    refine ak ?_;exact Q 0 a _ (λ_=>yc) aBU
 .have t6:f.aB .neq e 0=true:=by subst ae;show(!decide (e=0))=true;simp_all
  obtain⟨C,wZ,w2,s,E,X,w3,Z,u,U⟩:=c;dsimp only[mL.cs]at aC;cases aq;all_goals
   dsimp only[bw.st,dP,dc]at g⊢;refine ak ?_
  all_goals exact g _ d[k] _ ⟨rfl,λh=>absurd h he⟩ aCk
def vp(x:jo):List ah:=[.d (.str x.a),.d (int x.yC),.d (int x.nm),.d (.str x.b)]
theorem atX(x y:jo):aL 147 [.d (ef x),.ptr 0 0] [.box (vp y)] (.d (.bool (decide (x.b=y.b)))) [.box (vp y)]:=by
 obtain⟨a,k,n,b⟩:=x;obtain⟨a2,g,f,aT⟩:=y;refine YS.ct λd ae Q c=> ?_;refine ak ?_
 (subst ae;exact bS c az5 az5)
def atY(L:List Go.aG.D)(y:jo)(n i:Nat):ag:=cA [(0,.d (.list 4 L)),(1,.func 147 [] [.ptr 0 0]),(7,.d (int (Int.ofNat n))),(8,.d (int (Int.ofNat i)))] [.box (vp y)]
theorem atZ(l:List jo)(p:l.length<=1073741824)(y:jo):
  ∃r:Int,aL 198 [.d (.list 4 (l.map ef)),.func 147 [] [.ptr 0 0]] [.box (vp y)] (.d (int r)) [.box (vp y)]:=by
 refine hb ?_;have m:(l.map ef).length=l.length:=aCv _;have j:∀i (h:i<l.length),(l.map ef)[i]?=some (ef l[i]):=λi h=>cY h;generalize l.map ef=L at*;have d:∀i (h:i<l.length),_:=λi h=>atX l[i] y;refine abi.cn _ λf ae K g=> ?_;obtain⟨q,aS⟩:∃q,q=l.length:=⟨_,rfl⟩;have t0:f.len L=q:=by subst ae;exact m.trans aS.symm
 have c:∀k,K (.d (int k)) [.box (vp y)]:=λk=>g _ _ ⟨k,rfl,rfl⟩;refine ak ?_;refine⟨bX (atY L y q) (λi=>i<=q) λi=>q-i,_,⟨0,aCu _,rfl,az5⟩,?_⟩;rintro _ _ ⟨i,o,rfl,rfl⟩;dsimp only at o⊢;by_cases a:i<q
 .have t2:=ek ae a;have t3:=cH ae (j i az6);have t5:=b9 ae (n:=i) az6;have aj:=d i az6;clear d;unfold ef at*;generalize (l[i]' az6)=x at*;generalize decide (x.b=y.b)=b at*;cases b with
  |true=>
   refine ak ?_;exact c _
  |false=>
   refine ak ?_;exact fixF (i+1) a
 .have t2:=en ae a;refine ak ?_;exact c _
theorem at0(l:List jo)(a:l.length<=1073741824)(y:jo):
  ∃b:Bool,aL 146 [.d (.list 4 (l.map ef)),.func 147 [] [.ptr 0 0]] [.box (vp y)] (.d (.bool b)) [.box (vp y)]:=by
 obtain⟨r,aj⟩:=atZ l a y;refine hb ?_;generalize l.map ef=L at*;refine W3.cn _ λd ae K c=> ?_;refine ak ?_;exact c _ _ ⟨_,rfl,az5⟩
end Go.Proofs.YthffhbakgmemaaaGreatDoor
