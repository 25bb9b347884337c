/- Part of ranges_said. -/
import Derived.Test.YthffhbakgmemaaaGreatDoorB9
import Derived.Test.YthffhbakgmemaaaGreatDoorB11
set_option maxRecDepth 100000
set_option maxHeartbeats 8000000
set_option linter.unusedSimpArgs false
set_option linter.unusedVariables false
namespace Go.Proofs.YthffhbakgmemaaaGreatDoor
open Go Go.aH
attribute [local irreducible] bG
structure cX where
 n:aw
 s:Bool
 bq:List (aw×Int)
 k:Int
 a:Int
 b:Int
 bM:List ja
 pl:bk
 code:aw
def cX.c24(x:cX):yc:=⟨x.n,x.s,x.bq.map bD,x.k,x.a,x.b,x.bM.map dW,x.pl.bB,x.code⟩
def cX.row(x:cX):List ah:=x.c24.cs.map .d
def wm(l:List cX):List (List ah):=l.map cX.row
def ha(l:List cX):List ah:=(wm l).flatten
theorem yt(l:List cX):kH 24 (wm l):=λr ax=>by
 obtain⟨x,_,rfl⟩:=aAR.1 ax;rfl
theorem yu(l:List cX):(wm l).length=l.length:=aAb _
theorem Dz{l:List cX}{i:Nat}(h:i<(wm l).length):(wm l)[i]=(l[i]' azf).row:=aCv _
theorem DA(l:List cX):Flat (ha l):=λv hv=>by
 obtain⟨r,ax,h⟩:=List.mem_flatten.1 hv;obtain⟨x,_,rfl⟩:=aAR.1 ax;obtain⟨d,_,rfl⟩:=aAR.1 h;simp
theorem M3{ad:bm}(h:ad=bm.bU){l:List cX}{i:Nat}(hi:i<l.length):ad.oZ (ha l) (i*24) 24=.d (.agg l[i].c24.cs):=by
 unfold ha;rw[Tk h (yt l) azf,Dz];rfl
theorem sX{ad:bm}(h:ad=bm.bU){l:List cX}{i:Nat}(hi:i<l.length){j n:Nat}(aK:j+n<=24):ad.hL (i*24+j) n (ha l) true=true:=Tj h (yt l) azf aK
theorem DB{ad:bm}(h:ad=bm.bU){l:List cX}{i:Nat}(hi:i<l.length){j:Nat}{d:D}(aK:j<24)(aY:l[i].c24.cs[j]?=some d):ad.jS (ha l) (i*24+j)=.d d:=by
 unfold ha;rw[alB h (yt l) azf aK,Dz,aAL];unfold cX.row;rw[aA4,aY];rfl
theorem asn(x:yc)(v:aw):aM 54 [.d (.agg x.cs),.ptr 0 0] [.box [.d (.str v)]] (.d (.bool (decide (x.n=v)))) [.box [.d (.str v)]]:=by
 obtain⟨n,s,bq,k,a,b,bM,⟨c1,c2,L,c4,c5,eI,bQ,e0,c9,fj,e9,X,eN,eR,eS,bB⟩,code⟩:=x;refine W7.cn λad ae Q aV=> ?_;refine af ?_
 (subst ae;exact bZ aV axV axV)
def aso(C:List ah)(n i:Nat)(v:aw):ag:=cx [(0,.aN 0 0 n n 24),(1,.func 54 [] [.ptr 1 0]),(7,.d (int (Int.ofNat n))),(8,.d (int (Int.ofNat i)))] [.box C,.box [.d (.str v)]]
theorem asp(l:List cX)(n:Nat)(jb:l.length=n)(ay:n<=1073741824)(v:aw)(P:Nat->Bool)(jF:∀i (h:i<l.length),decide (l[i].n=v)=P i):
  ∃r:Int,oo n P r/\aM 53 [.aN 0 0 n n 24,.func 54 [] [.ptr 1 0]] [.box (ha l),.box [.d (.str v)]] (.d (int r)) [.box (ha l),.box [.d (.str v)]]:=by
 refine fK ?_;refine W5.jt [0] _ λad ae K ao=> ?_;obtain⟨f0,f1,f2⟩:=br.of ae (DA l);have sS:=λi (h:i<l.length)=>M3 ae h;have M4:=λi (h:i<l.length)=>sX ae h (j:=0) (n:=24) ax0;generalize ha l=C at*;refine af ?_;refine⟨bX (λi=>aso C n i v) (λi=>i<=n/\∀j,j<i->P j=false) (λi=>n-i),_,⟨0,⟨aAa _,λj h=>axW⟩,rfl,axV⟩,?_⟩;rintro _ _ ⟨i,⟨hi,hs⟩,rfl,rfl⟩;dsimp only at hi hs⊢;by_cases aA:i<n
 .have t1:=eT ae aA;have t2:ad.er 24 24 (Int.ofNat i) n=true:=fT ae aA;have t3:=pZ ae i 24;have t4:=sS i axW;have t5:=M4 i axW;have t6:=cd ae (n:=i) axW;have aj:=asn (l[i]' axW).c24 v;rw[show(l[i]' axW).c24.n=(l[i]' axW).n from rfl,jF i axW]at aj;have Ar:P i=true->oo n P (Int.ofNat i):=λh=>.inr ⟨i,aA,rfl,h,hs⟩;have x5:P i=false->∀j,j<i+1->P j=false:=λh j aK=>axZ;generalize (l[i]' axW).c24.cs=cs at*;generalize i*24=c at*;rw[aAS]at t5;generalize P i=b at*;cases b with
  |true=>
   refine af ?_;simp_all
  |false=>
   refine af ?_;exact fixF (i+1) ⟨aA,x5 rfl⟩
 .have t1:=eY ae aA;have ay:oo n P (-1):=.inl ⟨rfl,λj aK=>hs j axW⟩;refine af ?_;simp_all
theorem asq(v:aw):aM 53 [.d (.list 24 []),.func 54 [] [.ptr 0 0]] [.box [.d (.str v)]] (.d (int (-1))) [.box [.d (.str v)]]:=by
 refine W5.cn λad ae Q aV=> ?_;have t0:ad.len []=0:=ax3;have t1:ad.aD .lss (Int.ofNat 0) (Int.ofNat 0)=false:=eY ae axW;refine af ?_;refine⟨bX (λ_:Unit=>cx [(0,.d (.list 24 [])),(1,.func 54 [] [.ptr 0 0]),(7,.d (int (Int.ofNat 0))),(8,.d (int (Int.ofNat 0)))] [.box [.d (.str v)]]) (λ_=>True) (λ_=>0),_,⟨(),trivial,rfl,axV⟩,?_⟩;rintro _ _ ⟨_,_,rfl,rfl⟩;refine af ?_
 (subst ae;exact bZ aV axX axV)
structure cy where
 L:List Go.aH.D
 t:aw
 bn:Nat
 N:List ah
 ps:List Go.aH.D
 ns:Nat
 S:List ah
 gn:Nat
 b0:List ah
 b6:List ah
 b4:List ah
 P:List (Go.aH.D×ah)
structure cy.Ok(m:cy):Prop where
 N:Flat m.N
 S:Flat m.S
 b0:Flat m.b0
 b6:Flat m.b6
 b4:Flat m.b4
 P:o0 m.P
def eD(L:List Go.aH.D)(t:aw)(ps:List Go.aH.D)(a b c d:ah):b9:=.box [.d (.list 25 L),.d (.str t),a,.own 1 ps,b,c,d]
def cy.st(m:cy):Bool->Bool->Bool->aU
 |true,true,false=>[eD m.L m.t m.ps (.aN 1 0 m.bn m.bn 24) (.aN 2 0 m.ns m.ns 12) (.d .dP) (.d .hS),.box m.N,.box m.S]
 |true,false,false=>[eD m.L m.t m.ps (.aN 1 0 m.bn m.bn 24) (.own 12 []) (.d .dP) (.d .hS),.box m.N]
 |false,true,false=>[eD m.L m.t m.ps (.own 24 []) (.aN 1 0 m.ns m.ns 12) (.d .dP) (.d .hS),.box m.S]
 |false,false,false=>[eD m.L m.t m.ps (.own 24 []) (.own 12 []) (.d .dP) (.d .hS)]
 |true,true,true=>[eD m.L m.t m.ps (.aN 1 0 m.bn m.bn 24) (.aN 2 0 m.ns m.ns 12) (.ptr 3 0) (.map 4),.box m.N,.box m.S,.box (cR 5 6 7 m.gn),.map m.P,.box m.b0,.box m.b6,.box m.b4]
 |true,false,true=>[eD m.L m.t m.ps (.aN 1 0 m.bn m.bn 24) (.own 12 []) (.ptr 2 0) (.map 3),.box m.N,.box (cR 4 5 6 m.gn),.map m.P,.box m.b0,.box m.b6,.box m.b4]
 |false,true,true=>[eD m.L m.t m.ps (.own 24 []) (.aN 1 0 m.ns m.ns 12) (.ptr 2 0) (.map 3),.box m.S,.box (cR 4 5 6 m.gn),.map m.P,.box m.b0,.box m.b6,.box m.b4]
 |false,false,true=>[eD m.L m.t m.ps (.own 24 []) (.own 12 []) (.ptr 1 0) (.map 2),.box (cR 3 4 5 m.gn),.map m.P,.box m.b0,.box m.b6,.box m.b4]
def iP:Bool->Bool->Bool->List Nat
 |true,true,false=>[1,2]
 |true,false,false=>[1]
 |false,true,false=>[1]
 |false,false,false=>[]
 |true,true,true=>[1,2,4,5,6,7]
 |true,false,true=>[1,3,4,5,6]
 |false,true,true=>[1,3,4,5,6]
 |false,false,true=>[2,3,4,5]
structure lh(ad:bm)(C:List (Go.aH.D×ah)):Prop where
 refs:ad.xM (.map C)=[]
 ok:∀n,ad.xO n (.map C)=true
 ren:∀f,ad.xN f (.map C)=.map C
theorem lh.of{ad:bm}(h:ad=bm.bU){C:List (Go.aH.D×ah)}(hC:o0 C):lh ad C:=⟨hC.refs h,hC.ok h,hC.ren h⟩
def nS(l:List cX)(v:aw)(i:Nat)(ok:Bool):Prop:=(ok=true/\∃h:i<l.length,l[i].n=v/\∀j (aK:j<i),(l[j]' axW).n≠v)\/(ok=false/\i=0/\∀x∈l,x.n≠v)
theorem G6(m:cy)(hm:m.Ok)(ay hs g:Bool)(l:List cX)(b3:m.N=ha l)(aI:l.length=m.bn)(au:m.bn<=1073741824)(wb:ay=false->l=[])(v:aw):
  ∃(i:Nat) (ok:Bool),nS l v i ok/\aM 27 [.ptr 0 0,.d (.str v)] (m.st ay hs g) (.tuple [.d (int (Int.ofNat i)),.d (.bool ok)]) (m.st ay hs g):=by
 obtain⟨L,t,bn,N,ps,ns,S,gn,b0,b6,b4,P⟩:=m;obtain⟨h1,sh,av,aW,bL,cW⟩:=hm;dsimp only at h1 sh av aW bL cW b3 aI au;obtain⟨r,ax,ee⟩:∃r:Int,(r= -1/\nS l v 0 false\/∃k:Nat,r=Int.ofNat k/\nS l v k true/\ay=true)/\(if ay=true then aM 53 [.aN 0 0 bn bn 24,.func 54 [] [.ptr 1 0]] [.box N,.box [.d (.str v)]] (.d (int r)) [.box N,.box [.d (.str v)]]else aM 53 [.d (.list 24 []),.func 54 [] [.ptr 0 0]] [.box [.d (.str v)]] (.d (int r)) [.box [.d (.str v)]]):=by
  cases ay with
  |false=>exact⟨-1,.inl ⟨rfl,.inr ⟨rfl,rfl,λx ak=>axY⟩⟩,asq v⟩
  |true=>
   obtain⟨r,ax,aj⟩:=asp l bn aI au v (λi=>match l[i]? with|some x=>decide (x.n=v)|none=>false) λi h=>axZ;refine⟨r,?_,axY⟩;rcases ax with⟨rfl,ax⟩|⟨k,aq,rfl,fQ,hf⟩
   .refine .inl ⟨rfl,.inr ⟨rfl,rfl,λx ak=> ?_⟩⟩;grind[List.getElem_of_mem]
   .refine .inr ⟨k,rfl,.inl ⟨rfl,axW,?_,λj aK=> ?_⟩,rfl⟩;all_goals grind
 rcases ax with⟨rfl,ax⟩|⟨k,rfl,ax,rfl⟩
 .refine⟨0,false,ax,?_⟩;refine Ge.kf (iP ay hs g) λad ae Q aV=> ?_;have t1:ad.aD .lss (-1) 0=true:=ax3;have t2:ad.aD .geq (-1) 0=false:=ax3;obtain⟨bw,a2,a3⟩:=br.of ae h1;obtain⟨bJ,a6,cq⟩:=br.of ae sh;obtain⟨c1,c2,c3⟩:=br.of ae av;obtain⟨d1,d2,d3⟩:=br.of ae aW;obtain⟨b',cr,dE⟩:=br.of ae bL;obtain⟨de,dp,dF⟩:=lh.of ae cW;clear wb;cases ay<;>cases hs<;>cases g;all_goals
   replace ee:=ee;simp only[if_true,aAC,aA5,reduceIte]at ee;dsimp only[cy.st,iP,eD]at aV⊢;refine af ?_
  all_goals (subst ae;exact bZ aV axX axV)
 .refine⟨k,true,ax,?_⟩;refine Ge.kf (iP true hs g) λad ae Q aV=> ?_;have t1:ad.aD .lss (Int.ofNat k) 0=false:=by rw[(eF ae).2.1];simp
  have t2:ad.aD .geq (Int.ofNat k) 0=true:=by rw[(eF ae).2.2.1];simp
  obtain⟨bw,a2,a3⟩:=br.of ae h1;obtain⟨bJ,a6,cq⟩:=br.of ae sh;obtain⟨c1,c2,c3⟩:=br.of ae av;obtain⟨d1,d2,d3⟩:=br.of ae aW;obtain⟨b',cr,dE⟩:=br.of ae bL;obtain⟨de,dp,dF⟩:=lh.of ae cW;clear wb;simp only[if_true]at ee;cases hs<;>cases g;all_goals
   dsimp only[cy.st,iP,eD]at aV⊢;refine af ?_
  all_goals (subst ae;exact bZ aV axX axV)
structure gB where
 n:aw
 sp:lK
 ks:List Int
def gB.cs(x:gB):List Go.aH.D:=[.str x.n,.int .u64 x.sp.a0,.int .u64 x.sp.bw,.int .u64 x.sp.a2,.int .u64 x.sp.a3,.int .u64 x.sp.a4,.bool x.sp.l7,.bool x.sp.bJ,.bool x.sp.a6,.bool x.sp.cq,.bool x.sp.im,.list 1 (x.ks.map int)]
def gB.row(x:gB):List ah:=[.d (.str x.n),.d (.int .u64 x.sp.a0),.d (.int .u64 x.sp.bw),.d (.int .u64 x.sp.a2),.d (.int .u64 x.sp.a3),.d (.int .u64 x.sp.a4),.d (.bool x.sp.l7),.d (.bool x.sp.bJ),.d (.bool x.sp.a6),.d (.bool x.sp.cq),.d (.bool x.sp.im),.own 1 (x.ks.map int)]
def qi(l:List gB):List (List ah):=l.map gB.row
def fU(l:List gB):List ah:=(qi l).flatten
theorem uK(l:List gB):kH 12 (qi l):=λr ax=>by
 obtain⟨x,_,rfl⟩:=aAR.1 ax;rfl
theorem AO(l:List gB):(qi l).length=l.length:=aAb _
theorem G7{l:List gB}{i:Nat}(h:i<(qi l).length):(qi l)[i]=(l[i]' ayY).row:=aCv _
theorem uL(l:List gB):Flat (fU l):=λv hv=>by
 obtain⟨r,ax,h⟩:=List.mem_flatten.1 hv;obtain⟨x,_,rfl⟩:=aAR.1 ax;simp only[gB.row,aAs,aAO,aBo]at h;grind
theorem ado{ad:bm}(h:ad=bm.bU){l:List gB}{i:Nat}(hi:i<l.length):ad.oZ (fU l) (i*12) 12=.d (.agg l[i].cs):=by
 unfold fU;rw[Tk h (uK l) ayY,G7];rfl
theorem adp{ad:bm}(h:ad=bm.bU){l:List gB}{i:Nat}(hi:i<l.length){j n:Nat}(aK:j+n<=12):ad.hL (i*12+j) n (fU l) true=true:=Tj h (uK l) ayY aK
theorem asr(x:gB)(y:lb):aM 142 [.d (.agg x.cs),.ptr 0 0] [.box (y.cs.map .d)] (.d (.bool (decide (x.n=y.n)))) [.box (y.cs.map .d)]:=by
 obtain⟨n,⟨a0,bw,a2,a3,a4,l7,bJ,a6,cq,im⟩,M⟩:=x;unfold gB.cs;dsimp only;generalize M.map int=M at*;obtain⟨k,v,bq,db,s1,s2,bM,⟨c1,c2,L,c4,c5,eI,bQ,e0,c9,fj,e9,X,eN,eR,eS,bB⟩,fI,ms⟩:=y;refine Zt.cn λad ae Q aV=> ?_;refine af ?_
 (subst ae;exact bZ aV axV axV)
def ass(C D:List ah)(s n i:Nat):ag:=cx [(0,.aN 0 0 n s 12),(1,.func 142 [] [.ptr 1 0]),(7,.d (int (Int.ofNat n))),(8,.d (int (Int.ofNat i)))] [.box C,.box D]
theorem ast(l:List gB)(s n:Nat)(hs:l.length=s)(Gz:n<=s)(ay:n<=1073741824)(D:List ah)(cv:Flat D)(bh:∀i (h:i<l.length),∃b:Bool,aM 142 [.d (.agg l[i].cs),.ptr 0 0] [.box D] (.d (.bool b)) [.box D]):
  ∃r:Int,aM 192 [.aN 0 0 n s 12,.func 142 [] [.ptr 1 0]] [.box (fU l),.box D] (.d (int r)) [.box (fU l),.box D]:=by
 refine gZ ?_;refine Wg.jt [0,1] _ λad ae K ao=> ?_;obtain⟨f0,f1,f2⟩:=br.of ae (uL l);obtain⟨g0,g1,g2⟩:=br.of ae cv;have sS:=λi (h:i<l.length)=>ado ae h;have M4:=λi (h:i<l.length)=>adp ae h (j:=0) (n:=12) ax0;generalize fU l=C at*;refine af ?_;refine⟨bX (λi=>ass C D s n i) (λi=>i<=n) (λi=>n-i),_,⟨0,aAa _,rfl,axV⟩,?_⟩;rintro _ _ ⟨i,hi,rfl,rfl⟩;dsimp only at hi⊢;by_cases aA:i<n
 .have t1:=eT ae aA;have t2:ad.er 12 12 (Int.ofNat i) n=true:=fT ae aA;have t3:=pZ ae i 12;have t4:=sS i axW;have t5:=M4 i axW;have t6:=cd ae (n:=i) axW;obtain⟨b,aj⟩:=bh i axW;clear bh;generalize (l[i]' axW).cs=cs at*;generalize i*12=c at*;rw[aAS]at t5;cases b with
  |true=>
   refine af ?_;simp_all
  |false=>
   refine af ?_;exact fixF (i+1) aA
 .have t1:=eY ae aA;refine af ?_;simp_all
theorem asu(l:List gB)(s n:Nat)(hs:l.length=s)(Gz:n<=s)(ay:n<=1073741824)(y:lb):
  ∃b:Bool,aM 141 [.aN 0 0 n s 12,.func 142 [] [.ptr 1 0]] [.box (fU l),.box (y.cs.map .d)] (.d (.bool b)) [.box (fU l),.box (y.cs.map .d)]:=by
 have cv:Flat (y.cs.map .d):=λv hv=>axZ;obtain⟨r,aj⟩:=ast l s n hs Gz ay (y.cs.map .d) cv λi h=>⟨_,asr l[i] y⟩;have ey:=uL l;generalize fU l=C at*;generalize y.cs.map ah.d=D at*;refine gZ ?_;refine Ui.jt [0,1] _ λad ae K ao=> ?_;obtain⟨f0,f1,f2⟩:=br.of ae ey;obtain⟨g0,g1,g2⟩:=br.of ae cv;refine af ?_;grind
theorem asv{ad:bm}(h:ad=bm.bU){l:List gB}{i:Nat}(hi:i<l.length)(c:lK):ad.lC (fU l) (i*12+1) [.d (.int .u64 c.a0),.d (.int .u64 c.bw),.d (.int .u64 c.a2),.d (.int .u64 c.a3),.d (.int .u64 c.a4),.d (.bool c.l7),.d (.bool c.bJ),.d (.bool c.a6),.d (.bool c.cq),.d (.bool c.im)]=some (fU (l.set i ⟨l[i].n,c,l[i].ks⟩)):=by
 unfold fU;rw[K2 h (uK l) ayY axX,G7];unfold qi;rw[aCQ];rfl
theorem asw{ad:bm}(h:ad=bm.bU){l:List gB}{i:Nat}(hi:i<l.length)(z:Int):∃nP,ad.zT (i*12+11) (fU l)=true/\ad.CG (fU l) (i*12+11)=some nP/\ad.CF (fU l) (i*12+11)=.own 1 (l[i].ks.map int)/\ad.mR true (i*12+11) 1 nP true=true/\
  ad.lC nP (i*12+11) [.own 1 ((l[i].ks++[z]).map int)]=some (fU (l.set i ⟨l[i].n,l[i].sp,l[i].ks++[z]⟩)):=by
 have k4:i<(qi l).length:=ayY;have ch:=(uK l).set i (r:=(qi l)[i].set 11 .undef) (by rw[aBm];exact uK l _ (aAl _));have ri:i<((qi l).set i ((qi l)[i].set 11 .undef)).length:=axY;refine⟨_,alA h (uK l) k4 ax0,alD h (uK l) k4 ax0,?_,K1 h ch ri ax0,?_⟩
 .unfold fU;rw[alC h (uK l) k4 ax0,G7];rfl
 .rw[K2 h ch ri axX,aDd,aCI,G7];unfold fU qi;rw[aCQ];rfl
def nh(l:List cX)(v:aw):Int:=match l.findIdx? (λx=>decide (x.n=v))with|some i=>Int.ofNat i|none=>0
theorem nS.eq{l:List cX}{v:aw}{i:Nat}{ok:Bool}(h:nS l v i ok):Int.ofNat i=nh l v:=by
 unfold nh;rcases h with⟨_,hi,h1,sh⟩|⟨_,rfl,sh⟩
 .rw[(aB1 (p:=λx:cX=>decide (x.n=v))).2 ⟨hi,aAk h1,λj aK=>axY⟩]
 grind
structure G8(l:List cX)(x:b8)(y:gB):Prop where
 ks:y.ks=x.ms.map (nh l)
 ok:∀v∈x.ms,∃i,nS l v i true
 sp:aM 143 [.d (.str x.fI)] [] (.tuple [.d (.agg y.sp.cs),.d (int 0)]) []
def lM(_:Bool):Prop:=True
def cS{b:Bool}(_:lM b):Bool:=b
def asx(m:cy)(ay:Bool)(D:List ah)(k:Nat)(ms:List Go.aH.D)(n i:Nat):ag:=cx [(0,.ptr 0 0),(1,.d (int (Int.ofNat k))),(39,.d (.list 1 ms)),(40,.d (int (Int.ofNat n))),(41,.d (int (Int.ofNat i)))] (m.st ay true false++[.box D])
theorem asy(m:cy)(hm:m.Ok)(ay:Bool)(l:List cX)(b3:m.N=ha l)(aI:l.length=m.bn)(au:m.bn<=1073741824)(wb:ay=false->l=[])(aN:List gB)(ey:m.S=fU aN)(kz:aN.length=m.ns)(nZ:m.ns<=1073741824)
  (k:Nat) (aq:k<aN.length) (M5:aN[k].ks=[]) (x:b8) (az:x.fI.length<=1073741824) (ak:x.ms.length<=1073741824):
  ∃(e:Int) (y:gB),(y.n=aN[k].n/\(e=0->G8 l x y))/\aM 100 [.ptr 0 0,.d (int (Int.ofNat k)),.d (.agg x.cU.cs)] (m.st ay true false) (.d (int e)) (({m with S:=fU (aN.set k y)}:cy).st ay true false):=by
 refine K7 ?_;obtain⟨L,t,bn,N,ps,ns,S,gn,b0,b6,b4,P⟩:=m;dsimp only at b3 aI au ey kz nZ;obtain⟨b,aj⟩:=asu aN ns k kz axW axW x.cU;obtain⟨c,e,aF⟩:=arn x.fI az;have asz:∀(y:gB),Flat (fU (aN.set k y)):=λy=>uL _;refine Xo.jt (iP ay true false) _ λad ae K ao=> ?_;replace ao:∀(e:Int) (y:gB) (s':aU),(y.n=aN[k].n/\(e=0->G8 l x y))->s'=(⟨L,t,bn,N,ps,ns,fU (aN.set k y),gn,b0,b6,b4,P⟩:cy).st ay true false->K (.d (int e)) s':=λe y s' h1 sh=>ao _ _ ⟨e,y,h1,rfl,sh⟩;obtain⟨bw,a2,a3⟩:=br.of ae hm.N;obtain⟨bJ,a6,cq⟩:=br.of ae hm.S;dsimp only at bw a2 a3 bJ a6 cq;rw[<-ey]at aj;have axj:ns≠0:=axW;have u2:x.cU.fI=x.fI:=rfl;have adq:x.cU.ms=x.ms.map .str:=rfl;generalize x.cU=w at*;obtain⟨AP,asA,asB,asC,asD,asE,asF,⟨c1,c2,qj,c4,c5,eI,bQ,e0,c9,fj,e9,X,eN,eR,eS,bB⟩,axk,G9⟩:=w;dsimp only at u2 adq;subst u2;have t1:ad.pW true 0 (Int.ofNat k) (Int.ofNat ns) ns=true:=ye ae (aAa _) axW (aAd _);have t2:ad.aD .eql 0 (Int.ofNat ns)=false:=by rw[(eF ae).1];grind
 have t3:ad.l9 0 0 12=0:=pZ ae 0 12;have t4:ad.ns (Int.ofNat k) 0=k:=uE ae k 0;have t5:ad.ns (Int.ofNat ns) 0=ns:=uE ae ns 0;have aC:lM ay:=trivial;cases b with
 |true=>
  cases ay;all_goals
   dsimp only[cy.st,iP,eD]at ao⊢;refine af ?_
  all_goals exact ao _ aN[k] _ ⟨rfl,λh=>absurd h ax0⟩ az0
 |false=>
 have za:k<ns:=axW;by_cases he:e=0
 .subst he;have t6:ad.aD .neq 0 0=false:=ax3;have asG:aM 143 [.d (.str x.fI)] [] (.tuple [.d (.agg c.cs),.d (int 0)]) []:=aF;have gE:ad.er 12 12 (Int.ofNat k) ns=true:=fT ae za;have gW:=pZ ae k 12;have gd:ad.lD (k*12) 1=k*12+1:=p2 ae _ _;have hK:ad.mR true (k*12+1) 10 S true=true:=by rw[ey];exact K1 ae (uK aN) ayY ax0
  have gY:=asv ae aq c;rw[<-ey,M5]at gY;have v1:ad.lD (k*12) 11=k*12+11:=p2 ae _ _;have tj:∀(c:lK) (mk:List Int) (z:Int),_:=λc mk z=>asw ae (l:=aN.set k ⟨aN[k].n,c,mk⟩) (i:=k) axY z;simp only[aDd,aCI]at tj;obtain⟨q,aS⟩:∃q,q=x.ms.length:=⟨_,rfl⟩;have fg:∀(e:Int) (mk:List Int) (s':aU),(e=0->mk=x.ms.map (nh l)/\∀v∈x.ms,∃i,nS l v i true)->s'=(⟨L,t,bn,N,ps,ns,fU (aN.set k ⟨aN[k].n,c,mk⟩),gn,b0,b6,b4,P⟩:cy).st ay true false->K (.d (int e)) s':=λe mk s' h hs=>ao e ⟨aN[k].n,c,mk⟩ _ ⟨rfl,λsh=>⟨(h sh).1,(h sh).2,asG⟩⟩ hs;clear ao;have asH:∀i (h:i<x.ms.length),G9[i]?=some (.str x.ms[i]):=λi h=>axY;have r0:ad.len G9=q:=by subst ae;rw[aS,adq];exact aAb _
  have asI:∀(j:Nat) (mk:List Int),ad.app (mk.map int) [int (Int.ofNat j)]=(mk++[Int.ofNat j]).map int:=λj mk=>by subst ae;rw[aAy];rfl
  have yv:=asz ⟨aN[k].n,c,[]⟩;obtain⟨jJ,M6⟩:∃jJ,jJ=fU (aN.set k ⟨aN[k].n,c,[]⟩):=⟨_,rfl⟩;rw[<-M6]at gY yv;obtain⟨d1,d2,d3⟩:=br.of ae yv;have adr:∀(j:Nat) (h:j<l.length),ad.er 24 24 (Int.ofNat j) bn=true/\ad.hL (j*24+1) 1 N true=true/\ad.jS N (j*24+1)=.d (.bool l[j].s):=λj h=>⟨fT ae axW,by rw[b3];exact sX ae h ax0,by rw[b3];exact DB ae h ax0 rfl⟩;have Gq:=hm.N;generalize aN[k].n=nm at*;obtain⟨a0,Ha,Hb,Hc,a4,l7,yw,tZ,yx,im⟩:=c;dsimp only[lK.cs]at aF gY;generalize axl:k*12=M7 at*;generalize axm:M7+1=axn at*;generalize axo:M7+11=axp at*;cases ay;all_goals
   dsimp only[cy.st,iP,eD]at fg⊢;refine af ?_;refine⟨bX (λz:Nat×List ah=>asx ⟨L,t,bn,N,ps,ns,z.2,gn,b0,b6,b4,P⟩ (cS aC) ((lb.cs ⟨AP,asA,asB,asC,asD,asE,asF,⟨c1,c2,qj,c4,c5,eI,bQ,e0,c9,fj,e9,X,eN,eR,eS,bB⟩,x.fI,G9⟩).map .d) k G9 q z.1) (λz=>z.1<=q/\∃mk:List Int,z.2=fU (aN.set k ⟨nm,⟨a0,Ha,Hb,Hc,a4,l7,yw,tZ,yx,im⟩,mk⟩)/\mk=(x.ms.take z.1).map (nh l)/\∀v∈x.ms.take z.1,∃i,nS l v i true) (λz=>q-z.1),_,⟨(0,jJ),⟨aAa _,[],M6,axX,λv h=>by simp at h⟩,rfl,axV⟩,?_⟩;clear t1 t2 t3 t4 t5 t6 hK gY bJ a6 cq d1 d2 d3 aj aF M6 yv;rintro _ _ ⟨⟨i,S⟩,⟨hi,mk,qk,Hd,fW⟩,rfl,rfl⟩;dsimp only at hi qk Hd fW⊢;have pe:Flat S:=axZ;obtain⟨bJ,a6,cq⟩:=br.of ae pe;by_cases aA:i<q
   .have bN:=eT ae aA;have b5:=cz ae (asH i axW);have dq:ad.er 1 1 (Int.ofNat i) q=true:=fT ae aA;have gf:=cd ae (n:=i) axW;obtain⟨j,ok,ch,o9⟩:=G6 ⟨L,t,bn,N,ps,ns,S,gn,b0,b6,b4,P⟩ ⟨hm.N,pe,hm.b0,hm.b6,hm.b4,hm.P⟩ (cS aC) true false l b3 aI au wb (x.ms[i]' axW);dsimp only[cy.st,eD,cS]at o9;have hB:x.ms.take (i+1)=x.ms.take i++[x.ms[i]' axW]:=axX;have asJ:mk++[Int.ofNat j]=(x.ms.take (i+1)).map (nh l):=by rw[hB,aAy,<-Hd,ch.eq];rfl
    have M8:ok=true->∀v∈x.ms.take (i+1),∃i,nS l v i true:=λh v hv=>by
     rw[hB]at hv;rcases aAT.1 hv with hv|hv
     .exact fW v hv
     .rw[aAF.1 hv];subst h;exact⟨j,ch⟩
    have ep:ok=true->j<l.length:=λh=>by
     rcases ch with⟨_,h1,_⟩|⟨h1,_⟩
     .omega
     grind
    have Io:mk.length<=1073741824:=by rw[Hd,aAb,aBq];omega
    clear hB ch;generalize (x.ms[i]' axW)=v at*;cases ok with
    |false=>
     refine af ?_;exact fg 13 mk _ (λh=>absurd h ax0) azC
    |true=>
     have aK:=ep rfl;first
     |exact absurd (wb rfl▸aK) (aBh _)
     |skip
     all_goals
      obtain⟨w1,fb,jP⟩:=adr j aK;have bW:=pZ ae j 24;have oc:ad.lD (j*24) 1=j*24+1:=p2 ae _ _;obtain⟨nP,de,dp,dF,lz,sd⟩:=tj ⟨a0,Ha,Hb,Hc,a4,l7,yw,tZ,yx,im⟩ mk (Int.ofNat j);rw[<-qk]at de dp dF;have ads:=asI j mk;obtain⟨kM,jW⟩:∃kM,kM=fU (aN.set k ⟨nm,⟨a0,Ha,Hb,Hc,a4,l7,yw,tZ,yx,im⟩,mk++[Int.ofNat j]⟩):=⟨_,rfl⟩;rw[<-jW,<-ads]at sd;have M9:Flat kM:=by rw[jW];exact uL _
      obtain⟨fO,z2,z3⟩:=br.of ae M9;have adt:(mk.map int).length<=1073741824:=azD;clear ads adr tj;generalize mk.map int=axq at*;generalize MS:j*24=M' at*;generalize M'+1=axr at*;generalize l[j].s=h' at*;cases h' with
      |true=>
       refine af ?_;exact fg 13 mk _ (λh=>absurd h ax0) azC
      |false=>
       refine af ?_;exact fixF (i+1,kM) ⟨aA,mk++[Int.ofNat j],jW,asJ,M8 rfl⟩
   .have bN:=eY ae aA;have vz:mk=x.ms.map (nh l)/\∀v∈x.ms,∃i,nS l v i true:=by
     rw[aBa axW]at Hd fW;grind
    refine af ?_;exact fg 0 mk _ (λ_=>vz) azC
 .have t6:ad.aD .neq e 0=true:=by subst ae;show(!decide (e=0))=true;simp_all
  obtain⟨a0,Ha,Hb,Hc,a4,l7,yw,tZ,yx,im⟩:=c;dsimp only[lK.cs]at aF;cases ay;all_goals
   dsimp only[cy.st,iP,eD]at ao⊢;refine af ?_
  all_goals exact ao _ aN[k] _ ⟨rfl,λh=>absurd h he⟩ az0
def uM(x:ja):List ah:=[.d (.str x.a),.d (int x.x2),.d (int x.nm),.d (.str x.b)]
theorem asK(x y:ja):aM 147 [.d (dW x),.ptr 0 0] [.box (uM y)] (.d (.bool (decide (x.b=y.b)))) [.box (uM y)]:=by
 obtain⟨a,k,n,b⟩:=x;obtain⟨a2,k2,ic,a6⟩:=y;refine VZ.cn λad ae Q aV=> ?_;refine af ?_
 (subst ae;exact bZ aV axV axV)
def asL(L:List Go.aH.D)(y:ja)(n i:Nat):ag:=cx [(0,.d (.list 4 L)),(1,.func 147 [] [.ptr 0 0]),(7,.d (int (Int.ofNat n))),(8,.d (int (Int.ofNat i)))] [.box (uM y)]
theorem asM(l:List ja)(aI:l.length<=1073741824)(y:ja):
  ∃r:Int,aM 198 [.d (.list 4 (l.map dW)),.func 147 [] [.ptr 0 0]] [.box (uM y)] (.d (int r)) [.box (uM y)]:=by
 refine gZ ?_;have bE:(l.map dW).length=l.length:=aAb _;have bY:∀i (h:i<l.length),(l.map dW)[i]?=some (dW l[i]):=λi h=>c7 h;generalize l.map dW=L at*;have he:∀i (h:i<l.length),_:=λi h=>asK l[i] y;refine UA.cu _ λad ae K ao=> ?_;obtain⟨q,aS⟩:∃q,q=l.length:=⟨_,rfl⟩;have t0:ad.len L=q:=by subst ae;exact bE.trans aS.symm
 have He:∀k,K (.d (int k)) [.box (uM y)]:=λk=>ao _ _ ⟨k,rfl,rfl⟩;refine af ?_;refine⟨bX (asL L y q) (λi=>i<=q) λi=>q-i,_,⟨0,aAa _,rfl,axV⟩,?_⟩;rintro _ _ ⟨i,hi,rfl,rfl⟩;dsimp only at hi⊢;by_cases aA:i<q
 .have t2:=eT ae aA;have t3:=cz ae (bY i axW);have t5:=cd ae (n:=i) axW;have aj:=he i axW;clear he;unfold dW at*;generalize (l[i]' axW)=x at*;generalize decide (x.b=y.b)=b at*;cases b with
  |true=>
   refine af ?_;exact He _
  |false=>
   refine af ?_;exact fixF (i+1) aA
 .have t2:=eY ae aA;refine af ?_;exact He _
theorem asN(l:List ja)(aI:l.length<=1073741824)(y:ja):
  ∃b:Bool,aM 146 [.d (.list 4 (l.map dW)),.func 147 [] [.ptr 0 0]] [.box (uM y)] (.d (.bool b)) [.box (uM y)]:=by
 obtain⟨r,aj⟩:=asM l aI y;refine gZ ?_;generalize l.map dW=L at*;refine ZA.cu _ λad ae K ao=> ?_;refine af ?_;exact ao _ _ ⟨_,rfl,axV⟩
end Go.Proofs.YthffhbakgmemaaaGreatDoor
