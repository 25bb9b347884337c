/- Part of ranges_said. -/
import Derived.Test.YthffhbakgmemaaaGreatDoorB7
import Derived.Test.YthffhbakgmemaaaGreatDoorB6
set_option maxRecDepth 100000
set_option maxHeartbeats 8000000
set_option linter.unusedSimpArgs false
set_option linter.unusedVariables false
namespace Go.Proofs.YthffhbakgmemaaaGreatDoor
open Go Go.aH
attribute [local irreducible] bG
structure br(ad:bm)(C:List ah):Prop where
 refs:ad.xM (.box C)=[]
 ok:∀n,ad.xO n (.box C)=true
 ren:∀f,ad.xN f (.box C)=.box C
theorem br.of{ad:bm}(h:ad=bm.bU){C:List ah}(hC:Flat C):br ad C:=⟨hC.refs h,hC.ok h,hC.ren h⟩
def cR(a b c n:Nat):List ah:=[.aN a 0 n n 1,.aN b 0 n n 1,.aN c 0 n n 1]
def gj(n:Nat)(i:Int):Bool:=decide (0<=i)&&decide (i<n)
theorem wh{n:Nat}{i:Int}(h:gj n i=true):∃k:Nat,k<n/\i=Int.ofNat k:=by
 unfold gj at h;simp only[aAc,aAi]at h;exact⟨i.toNat,axW,(aCS h.1).symm⟩
def bV(zs:List Int):List ah:=zs.map λz=>.d (int z)
theorem pb(zs:List Int):(bV zs).length=zs.length:=aAb _
theorem et(zs:List Int):Flat (bV zs):=λv hv=>azU
theorem MP{zs:List Int}{i:Nat}(h:i<zs.length):(bV zs)[i]?=some (.d (int zs[i])):=by
 grind[bV]
theorem AG(zs:List Int)(i:Nat)(z:Int):(bV zs).set i (.d (int z))=bV (zs.set i z):=by
 grind[bV,List.map_set]
theorem acV(x:Int):aM 59 [.d (int x)] [] (.d (.bool false)) []:=by
 refine aFt.cn λad ae Q aV=> ?_;have t1:ad.aD .neq x x=false:=ax1;refine af ?_
 (subst ae;exact bZ aV axX axV)
def GX(x y:Int):Int:=if x<y then -1 else if y<x then 1 else 0
theorem arp(x y:Int):aM 40 [.d (int x),.d (int y)] [] (.d (int (GX x y))) []:=by
 have aj:=acV x;have aF:=acV y;refine TJ.cn λad ae Q aV=> ?_;unfold GX at aV;by_cases h:x<y
 .rw[aAD h]at aV;have t1:ad.aD .lss x y=true:=aza;refine af ?_
  (subst ae;exact bZ aV axX axV)
 .rw[aAG h]at aV;have t1:ad.aD .lss x y=false:=aza;by_cases sh:y<x
  .rw[aAD sh]at aV;have t2:ad.aD .gtr x y=true:=by simp_all[eF]
   refine af ?_
   (subst ae;exact bZ aV axX axV)
  .rw[aAG sh]at aV;have t2:ad.aD .gtr x y=false:=by simp_all[eF]
   refine af ?_
   (subst ae;exact bZ aV axX axV)
theorem arq{N M:List ah}(ds:List Int)(n a b:Nat)(aY:ds.length=n)(bp:a<n)(au:b<n)(b3:Flat N)(b7:Flat M):∃r:Int,aM 49 [.d (int (Int.ofNat a)),.d (int (Int.ofNat b)),.ptr 0 0] [.box [.ptr 1 0],.box (cR 2 3 4 n),.box N,.box M,.box (bV ds)] (.d (int r)) [.box [.ptr 1 0],.box (cR 2 3 4 n),.box N,.box M,.box (bV ds)]:=by
 refine⟨GX (ds[a]' axW) (ds[b]' axW),?_⟩;have aj:=arp (ds[a]' axW) (ds[b]' axW);unfold cR;refine TL.kf [2,3,4] λad ae Q aV=> ?_;obtain⟨f1,f2,f3⟩:=br.of ae b3;obtain⟨g1,g2,g3⟩:=br.of ae b7;obtain⟨h1,sh,av⟩:=br.of ae (et ds);have t1:ad.er 1 1 (Int.ofNat a) n=true:=fT ae bp;have t2:ad.er 1 1 (Int.ofNat b) n=true:=fT ae au;have t3:=lg ae a;have t4:=lg ae b;have t5:ad.hL a 1 (bV ds) true=true:=rh ae ayN;have t6:ad.hL b 1 (bV ds) true=true:=rh ae ayN;have t7:=v7 ae (MP (zs:=ds) (i:=a) axW);have t8:=v7 ae (MP (zs:=ds) (i:=b) axW);generalize ds[a]' axW=x at*;generalize ds[b]' axW=y at*;generalize GX x y=c at*;generalize bV ds=D at*;clear b3 b7;refine af ?_;simp_all
theorem acW{N M D:List ah}(n:Nat)(i:Int)(b3:Flat N)(b7:Flat M)(cv:Flat D):aM 151 [.ptr 0 0,.d (int i)] [.box (cR 1 2 3 n),.box N,.box M,.box D] (.d (.bool (gj n i))) [.box (cR 1 2 3 n),.box N,.box M,.box D]:=by
 unfold cR;refine amf.kf [1,2,3] λad ae Q aV=> ?_;obtain⟨f1,f2,f3⟩:=br.of ae b3;obtain⟨g1,g2,g3⟩:=br.of ae b7;obtain⟨h1,sh,av⟩:=br.of ae cv;clear b3 b7 cv;by_cases hi:0<=i
 .have t1:ad.aD .geq i 0=true:=by rw[(eF ae).2.2.1];simp_all
  have t2:ad.aD .lss i (Int.ofNat n)=decide (i<n):=ayX;have t3:gj n i=decide (i<n):=by grind[gj]
  rw[t3]at aV;generalize decide (i<n)=b at*;refine af ?_;simp_all
 .have t1:ad.aD .geq i 0=false:=by rw[(eF ae).2.2.1];simp_all
  have t3:gj n i=false:=by grind[gj]
  rw[t3]at aV;refine af ?_;simp_all
theorem ars{N M D:List ah}(n:Nat)(i:Int)(b3:Flat N)(b7:Flat M)(cv:Flat D):aM 150 [.d (int i),.ptr 0 0] [.box [.ptr 1 0],.box (cR 2 3 4 n),.box N,.box M,.box D] (.d (.bool (!gj n i))) [.box [.ptr 1 0],.box (cR 2 3 4 n),.box N,.box M,.box D]:=by
 have aj:=acW (N:=N) (M:=M) (D:=D) n i b3 b7 cv;unfold cR at*;refine alY.kf [2,3,4] λad ae Q aV=> ?_;obtain⟨f1,f2,f3⟩:=br.of ae b3;obtain⟨g1,g2,g3⟩:=br.of ae b7;obtain⟨h1,sh,av⟩:=br.of ae cv;clear b3 b7 cv;generalize gj n i=b at*;cases b
 .refine af ?_;simp_all
 .refine af ?_;simp_all
def art(L:List D)(k i:Nat)(N M D:List ah)(n:Nat):ag:=cx [(0,.d (.list 1 L)),(1,.func 150 [] [.ptr 0 0]),(7,.d (int (Int.ofNat k))),(8,.d (int (Int.ofNat i)))] [.box [.ptr 1 0],.box (cR 2 3 4 n),.box N,.box M,.box D]
theorem aru{N M D:List ah}(n:Nat)(l:List Int)(aI:l.length<=1073741824)(b3:Flat N)(b7:Flat M)(cv:Flat D):∃r:Int,(r<0->∀x∈l,gj n x=true)/\aM 55 [.d (.list 1 (l.map int)),.func 150 [] [.ptr 0 0]] [.box [.ptr 1 0],.box (cR 2 3 4 n),.box N,.box M,.box D] (.d (int r)) [.box [.ptr 1 0],.box (cR 2 3 4 n),.box N,.box M,.box D]:=by
 refine fK ?_;have bE:(l.map int).length=l.length:=aAb _;have bY:∀i (h:i<l.length),(l.map int)[i]?=some (int l[i]):=λi h=>c7 h;generalize l.map int=L at*;have b2:=λi=>ars (N:=N) (M:=M) (D:=D) n i b3 b7 cv;refine Y0.jt [2,3,4] _ λad ae K ao=> ?_;obtain⟨f1,f2,f3⟩:=br.of ae b3;obtain⟨g1,g2,g3⟩:=br.of ae b7;obtain⟨h1,sh,av⟩:=br.of ae cv;clear b3 b7 cv;unfold cR at*;refine af ?_;refine⟨bX (λi=>art L (ad.len L) i N M D n) (λi=>i<=l.length/\∀x∈l.take i,gj n x=true) (λi=>l.length-i),_,⟨0,⟨aAa _,λx ak=>axY⟩,rfl,axV⟩,?_⟩;rintro _ _ ⟨i,⟨hi,gT⟩,rfl,rfl⟩;dsimp only at hi gT⊢;by_cases aA:i<l.length
 .have t1:ad.aD .lss (Int.ofNat i) (Int.ofNat (ad.len L))=true:=by simp_all[aJ]
  have t3:=cz ae (bY i aA);have t6:=cd ae (n:=i) axW;have aj:=b2 l[i];have MQ:gj n l[i]=true->∀x∈l.take (i+1),gj n x=true:=λh x ak=>by
   rw[aA9,aAj aA]at ak;grind
  clear b2;generalize gj n l[i]=b at*;generalize l[i]=x at*;cases b with
  |true=>
   have MQ:=MQ rfl;refine af ?_;exact fixF (i+1) ⟨aA,MQ⟩
  |false=>
   have ay:∀h:(Int.ofNat i:Int)<0,∀x∈l,gj n x=true:=λh=>absurd h axX;refine af ?_;simp_all
 .have t1:ad.aD .lss (Int.ofNat i) (Int.ofNat (ad.len L))=false:=by simp_all[aJ]
  have fg:∀x∈l,gj n x=true:=axZ;refine af ?_;simp_all
theorem arv{N M D:List ah}(n:Nat)(l:List Int)(aI:l.length<=1073741824)(b3:Flat N)(b7:Flat M)(cv:Flat D):∃b:Bool,(b=false->∀x∈l,gj n x=true)/\aM 149 [.d (.list 1 (l.map int)),.func 150 [] [.ptr 0 0]] [.box [.ptr 1 0],.box (cR 2 3 4 n),.box N,.box M,.box D] (.d (.bool b)) [.box [.ptr 1 0],.box (cR 2 3 4 n),.box N,.box M,.box D]:=by
 obtain⟨r,ax,aj⟩:=aru (N:=N) (M:=M) (D:=D) n l aI b3 b7 cv;refine⟨decide (0<=r),λh=>ax axY,?_⟩;generalize l.map int=L at*;unfold cR at*;refine ama.kf [2,3,4] λad ae Q aV=> ?_;obtain⟨f1,f2,f3⟩:=br.of ae b3;obtain⟨g1,g2,g3⟩:=br.of ae b7;obtain⟨h1,sh,av⟩:=br.of ae cv;clear b3 b7 cv ax aI;have t1:ad.aD .geq r 0=decide (0<=r):=by rw[(eF ae).2.2.1]
 generalize decide (0<=r)=b at*;refine af ?_;simp_all
def km(n:Nat)(zs:List Int):Prop:=∀z∈zs,gj n z=true
def swp(zs:List Int)(i j:Nat):List Int:=(zs.set i (zs.getD j 0)).set j (zs.getD i 0)
theorem arw{zs:List Int}{i j:Nat}(hi:i<zs.length)(aK:j<zs.length):(swp zs i j).Perm zs:=by
 grind[swp]
theorem GY{ad:bm}(h:ad=bm.bU){zs:List Int}{i:Nat}(hi:i<zs.length):ad.jS (bV zs) i=.d (int (zs.getD i 0)):=by
 grind[v7,MP]
structure iw(n:Nat)(z0 zs:List Int):Prop where
 len:zs.length=n
 all:km n zs
 perm:zs.Perm z0
theorem iw.swp{n:Nat}{z0 zs:List Int}(h:iw n z0 zs){i j:Nat}(hi:i<n)(aK:j<n):iw n z0 (Go.Proofs.YthffhbakgmemaaaGreatDoor.swp zs i j):=by
 have hp:=arw (zs:=zs) (i:=i) (j:=j) (by grind[len]) (by grind[len]);exact⟨hp.length_eq.trans h.len,λz aO=>h.all z (hp.mem_iff.1 aO),hp.trans h.perm⟩
theorem iw.at{n:Nat}{z0 zs:List Int}(h:iw n z0 zs){i:Nat}(hi:i<n):gj n (zs.getD i 0)=true:=by
 have aI:=h.len;rw[aAL,aAj axW];exact h.all _ (aAl _)
theorem eT{ad:bm}(h:ad=bm.bU){a b:Nat}(hh:a<b):ad.aD .lss (Int.ofNat a) (Int.ofNat b)=true:=azX
theorem eY{ad:bm}(h:ad=bm.bU){a b:Nat}(hh:¬a<b):ad.aD .lss (Int.ofNat a) (Int.ofNat b)=false:=azY
theorem Du{ad:bm}(h:ad=bm.bU){a b:Nat}(hh:b<a):ad.aD .gtr (Int.ofNat a) (Int.ofNat b)=true:=azX
theorem Dv{ad:bm}(h:ad=bm.bU){a b:Nat}(hh:¬b<a):ad.aD .gtr (Int.ofNat a) (Int.ofNat b)=false:=azY
theorem acX{ad:bm}(h:ad=bm.bU){a b:Nat}(hh:a<=b):ad.aD .leq (Int.ofNat a) (Int.ofNat b)=true:=by subst h;exact aAk (Int.ofNat_le.2 hh)
theorem acY{ad:bm}(h:ad=bm.bU){a b:Nat}(hh:¬a<=b):ad.aD .leq (Int.ofNat a) (Int.ofNat b)=false:=by subst h;exact aAK λx=>hh (Int.ofNat_le.1 x)
theorem arx{ad:bm}(h:ad=bm.bU){a b:Nat}(hh:a≠b):ad.aD .neq (Int.ofNat a) (Int.ofNat b)=true:=by subst h;show(!decide (Int.ofNat a=Int.ofNat b))=true;grind
theorem ary{ad:bm}(h:ad=bm.bU){a b:Nat}(hh:a=b):ad.aD .neq (Int.ofNat a) (Int.ofNat b)=false:=by subst h;subst hh;show(!decide (Int.ofNat a=Int.ofNat a))=false;simp
theorem one?{ad:bm}(h:ad=bm.bU)(a:Nat):ad.aD .eql (Int.ofNat a) 1=decide (a=1):=by
 subst h;show decide (Int.ofNat a=1)=_;grind
theorem qg{ad:bm}(h:ad=bm.bU){a b:Nat}(hh:a+b<=4611686018427387904):ad.io .add .i64 (Int.ofNat a) (Int.ofNat b)=Int.ofNat (a+b):=by
 grind[o6]
theorem pc{ad:bm}(h:ad=bm.bU){a b:Nat}(hh:b<=a)(bp:a<=4611686018427387904):ad.io .sub .i64 (Int.ofNat a) (Int.ofNat b)=Int.ofNat (a-b):=by
 grind[Mq]
theorem Dw{ad:bm}(h:ad=bm.bU){a:Nat}(bp:a<=4611686018427387904):ad.wr .u64 (Int.ofNat a)=Int.ofNat a/\ad.aD .geq 1 0=true/\ad.io .shr .u64 (Int.ofNat a) 1=Int.ofNat (a/2)/\ad.wr .i64 (Int.ofNat (a/2))=Int.ofNat (a/2):=by
 subst h;refine⟨?_,rfl,?_,aH.wrap_small (aCu _) axZ⟩
 .have sh:(2:Int)^64=18446744073709551616:=by decide
  show IntKind.wrap .u64 (Int.ofNat a)=_;simp only[IntKind.wrap,IntKind.signed,IntKind.bits,sh,aC',aAh];grind
 .show(Int.ofNat a).fdiv (2^1)=_;grind
theorem sT{ad:bm}(ae:ad=bm.bU){zs:List Int}{C:List ah}{n:Nat}{z0:List Int}(hC:C=bV zs)(h:iw n z0 zs){p:Nat}(hp:p<n):
  ∃x:Int,gj n x=true/\ad.er 1 1 (Int.ofNat p) n=true/\ad.l9 0 (Int.ofNat p) 1=p/\ad.hL p 1 C true=true/\ad.jS C p=.d (int x):=by
 have aI:=h.len;exact⟨_,h.at hp,fT ae hp,lg ae p,rh ae ayN,by grind[GY]⟩
theorem GZ{ad:bm}(ae:ad=bm.bU){zs:List Int}{C:List ah}{n:Nat}{z0:List Int}(hC:C=bV zs)(h:iw n z0 zs){p q:Nat}(hp:p<n)(aS:q<n):
  ∃(x y:Int) (nP d':List ah) (dK:List Int),(d'=bV dK/\iw n z0 dK/\gj n x=true/\gj n y=true)/\(ad.er 1 1 (Int.ofNat p) n=true/\ad.er 1 1 (Int.ofNat q) n=true/\ad.l9 0 (Int.ofNat p) 1=p/\ad.l9 0 (Int.ofNat q) 1=q)/\(ad.hL p 1 C true=true/\ad.hL q 1 C true=true/\ad.jS C p=.d (int x)/\ad.jS C q=.d (int y))/\(ad.mR true p 1 C true=true/\ad.lC C p [.d (int y)]=some nP/\ad.mR true q 1 nP true=true/\ad.lC nP q [.d (int x)]=some d')/\br ad d':=by
 obtain⟨x,ak,b',cr,dE,nA⟩:=sT ae hC h hp;obtain⟨y,wa,de,dp,dF,lz⟩:=sT ae hC h aS;have aI:=h.len;have key:∀{k:Nat} {z:Int},k<zs.length->ad.jS C k=.d (int z)->z=zs.getD k 0:=λaq aO=>by
  grind[GY]
 have ex:=key axW nA;have yg:=key axW lz;refine⟨x,y,bV (zs.set p y),bV (swp zs p q),swp zs p q,⟨rfl,h.swp hp aS,ak,wa⟩,⟨b',de,cr,dp⟩,⟨dE,dF,nA,lz⟩,⟨?_,?_,?_,?_⟩,br.of ae (et _)⟩
 .grind[vZ,pb]
 .grind[sR,AG]
 .grind[vZ,pb]
 .rw[sR ae,AG,ex,yg];rfl
def jy(C N M D:List ah)(n:Nat):aU:=[.box C,.box [.ptr 2 0],.box (cR 3 4 5 n),.box N,.box M,.box D]
def G1(N M D:List ah)(n:Nat):Prop:=∀x y:Int,gj n x=true->gj n y=true->∃r:Int,aM 49 [.d (int x),.d (int y),.ptr 0 0] [.box [.ptr 1 0],.box (cR 2 3 4 n),.box N,.box M,.box D] (.d (int r)) [.box [.ptr 1 0],.box (cR 2 3 4 n),.box N,.box M,.box D]
theorem arz{N M:List ah}{ds:List Int}{n:Nat}(aY:ds.length=n)(b3:Flat N)(b7:Flat M):G1 N M (bV ds) n:=λx y ak wa=>by
 grind[wh,arq]
structure wi(n:Nat)(N M D:List ah):Prop where
 le:n<=1073741824
 aw8:Flat N
 aw9:Flat M
 aw':Flat D
 ord:G1 N M D n
def rk(f:Nat)(dN:List ah)(n:Nat)(z0:List Int)(N M D:List ah):Prop:=∀zs,iw n z0 zs->∃eC:List Int,iw n z0 eC/\aM f dN (jy (bV zs) N M D n) (.tuple []) (jy (bV eC) N M D n)
theorem AH{f:Nat}{dN:List ah}{n:Nat}{z0 zs:List Int}{N M D:List ah}(h:∃r s',(∃eC:List Int,iw n z0 eC/\r=.tuple []/\s'=jy (bV eC) N M D n)/\aM f dN (jy (bV zs) N M D n) r s'):∃eC:List Int,iw n z0 eC/\aM f dN (jy (bV zs) N M D n) (.tuple []) (jy (bV eC) N M D n):=axZ
def arA(C N M D:List ah)(n a b i:Nat):ag:=cx [(0,.aN 0 0 n n 1),(1,.d (int (Int.ofNat a))),(2,.d (int (Int.ofNat b))),(3,.func 49 [] [.ptr 1 0]),(8,.d (int (Int.ofNat i)))] (jy C N M D n)
def arB(C N M D:List ah)(n a b i j:Nat):ag:=cx [(0,.aN 0 0 n n 1),(1,.d (int (Int.ofNat a))),(2,.d (int (Int.ofNat b))),(3,.func 49 [] [.ptr 1 0]),(8,.d (int (Int.ofNat i))),(9,.d (int (Int.ofNat j)))] (jy C N M D n)
theorem arC{n:Nat}{z0:List Int}{N M D:List ah}(fm:wi n N M D)(a b:Nat)(wc:a<=n)(au:b<=n):rk 109 [.aN 0 0 n n 1,.d (int (Int.ofNat a)),.d (int (Int.ofNat b)),.func 49 [] [.ptr 1 0]] n z0 N M D:=by
 intro zs hs;refine AH ?_;obtain⟨ay,b3,b7,cv,bd⟩:=fm;unfold G1 at bd;refine Xv.jt [0,3,4,5] _ λad ae K ao=> ?_;obtain⟨bw,a2,a3⟩:=br.of ae b3;obtain⟨bJ,a6,cq⟩:=br.of ae b7;obtain⟨c1,c2,c3⟩:=br.of ae cv;clear b3 b7 cv;unfold jy cR at*;have t6:=cd ae (n:=a) axW;generalize hC:bV zs=C at*;replace hC:=hC.symm;obtain⟨d1,d2,d3⟩:=br.of ae (et zs);rw[<-hC]at d1 d2 d3;generalize qX:a+1=i0 at*;refine af ?_;refine⟨bX (λz:Nat×List ah=>arA z.2 N M D n a b z.1) (λz=>a<z.1/\∃eC,z.2=bV eC/\iw n z0 eC) (λz=>b-z.1),_,⟨(i0,C),⟨axW,zs,hC,hs⟩,rfl,axV⟩,?_⟩;clear d1 d2 d3 t6 qX hC hs;rintro _ _ ⟨⟨i,C⟩,⟨BO,zs,hC,hs⟩,rfl,rfl⟩;dsimp only at BO hC⊢;obtain⟨d1,d2,d3⟩:=br.of ae (et zs);rw[<-hC]at d1 d2 d3;by_cases aA:i<b
 .have t1:=eT ae aA;refine af ?_;refine⟨bX (λz:Nat×List ah=>arB z.2 N M D n a b i z.1) (λz=>(a<=z.1/\z.1<=i)/\∃eC,z.2=bV eC/\iw n z0 eC) (λz=>z.1),_,⟨(i,C),⟨⟨axW,aAd _⟩,zs,hC,hs⟩,rfl,axV⟩,?_⟩;clear d1 d2 d3 hC hs;rintro _ _ ⟨⟨j,C⟩,⟨⟨arD,n9⟩,zs,hC,hs⟩,rfl,rfl⟩;dsimp only at arD n9 hC⊢;obtain⟨d1,d2,d3⟩:=br.of ae (et zs);rw[<-hC]at d1 d2 d3;have t6:=cd ae (n:=i) axW;by_cases MR:a<j
  .have t1:=Du ae MR;obtain⟨ku,rfl⟩:∃ku,j=ku+1:=⟨j-1,axW⟩;have t7:=uq ae (n:=ku+1) (m:=ku) rfl axW;obtain⟨x,y,nP,d',dK,⟨gi,dR,ak,wa⟩,⟨gE,gW,gd,hK⟩,⟨gY,kJ,jH,u8⟩,⟨v1,v2,v3,v4⟩,w1,bW,fb⟩:=GZ ae hC hs (p:=(ku+1)) (q:=ku) axW axW;obtain⟨r,aj⟩:=bd _ _ ak wa;clear bd;generalize MS:ku+1=acZ at*;cases AN:ad.aD .lss r 0 with
   |true=>
    refine af ?_;exact fixF (ku,d') ⟨⟨axW,axW⟩,dK,gi,dR⟩
   |false=>
    refine af ?_;exact fixF (i+1,C) ⟨axW,zs,hC,hs⟩
  .have t1:=Dv ae MR;refine af ?_;exact fixF (i+1,C) ⟨axW,zs,hC,hs⟩
 .have t1:=eY ae aA;replace ao:=λs h=>ao (.tuple []) s ⟨zs,hs,rfl,h⟩;rw[<-hC]at ao;refine af ?_;simp_all
def arE(C N M D:List ah)(n a b m i:Nat):ag:=cx [(0,.aN 0 0 n n 1),(1,.d (int (Int.ofNat a))),(2,.d (int (Int.ofNat b))),(3,.d (int (Int.ofNat m))),(10,.d (int (Int.ofNat i)))] (jy C N M D n)
theorem arF{n:Nat}{z0:List Int}{N M D:List ah}(fm:wi n N M D)(a b m:Nat)(bp:a+m<=n)(au:b+m<=n):rk 207 [.aN 0 0 n n 1,.d (int (Int.ofNat a)),.d (int (Int.ofNat b)),.d (int (Int.ofNat m)),.func 49 [] [.ptr 1 0]] n z0 N M D:=by
 intro zs hs;refine AH ?_;obtain⟨ay,b3,b7,cv,bd⟩:=fm;clear bd;refine al0.jt [0,3,4,5] _ λad ae K ao=> ?_;obtain⟨bw,a2,a3⟩:=br.of ae b3;obtain⟨bJ,a6,cq⟩:=br.of ae b7;obtain⟨c1,c2,c3⟩:=br.of ae cv;clear b3 b7 cv;unfold jy cR at*;generalize hC:bV zs=C at*;replace hC:=hC.symm;obtain⟨d1,d2,d3⟩:=br.of ae (et zs);rw[<-hC]at d1 d2 d3;refine af ?_;refine⟨bX (λz:Nat×List ah=>arE z.2 N M D n a b m z.1) (λz=>∃eC,z.2=bV eC/\iw n z0 eC) (λz=>m-z.1),_,⟨(0,C),⟨zs,hC,hs⟩,rfl,axV⟩,?_⟩;clear d1 d2 d3 hC hs;rintro _ _ ⟨⟨i,C⟩,⟨zs,hC,hs⟩,rfl,rfl⟩;dsimp only at hC⊢;obtain⟨d1,d2,d3⟩:=br.of ae (et zs);rw[<-hC]at d1 d2 d3;by_cases aA:i<m
 .have t1:=eT ae aA;have t2:=qg ae (a:=a) (b:=i) axW;have t3:=qg ae (a:=b) (b:=i) axW;have t6:=cd ae (n:=i) axW;obtain⟨x,y,nP,d',dK,⟨gi,dR,ak,wa⟩,⟨gE,gW,gd,hK⟩,⟨gY,kJ,jH,u8⟩,⟨v1,v2,v3,v4⟩,w1,bW,fb⟩:=GZ ae hC hs (p:=(a+i)) (q:=(b+i)) axW axW;generalize a+i=p at*;generalize b+i=q at*;refine af ?_;exact fixF (i+1,d') ⟨dK,gi,dR⟩
 .have t1:=eY ae aA;replace ao:=λs h=>ao (.tuple []) s ⟨zs,hs,rfl,h⟩;rw[<-hC]at ao;refine af ?_;simp_all
def arG(C N M D:List ah)(n m i j:Nat):ag:=cx [(0,.aN 0 0 n n 1),(2,.d (int (Int.ofNat m))),(4,.func 49 [] [.ptr 1 0]),(10,.d (int (Int.ofNat i))),(11,.d (int (Int.ofNat j)))] (jy C N M D n)
theorem arH{n:Nat}{z0:List Int}{N M D:List ah}(fm:wi n N M D)(a m b:Nat)(bp:a<m)(hm:m<b)(au:b<=n):rk 161 [.aN 0 0 n n 1,.d (int (Int.ofNat a)),.d (int (Int.ofNat m)),.d (int (Int.ofNat b)),.func 49 [] [.ptr 1 0]] n z0 N M D:=by
 intro zs hs;refine AH ?_;obtain⟨ay,b3,b7,cv,bd⟩:=id fm;clear bd;refine aEv.jt [0,3,4,5] _ λad ae K ao=> ?_;obtain⟨bw,a2,a3⟩:=br.of ae b3;obtain⟨bJ,a6,cq⟩:=br.of ae b7;obtain⟨c1,c2,c3⟩:=br.of ae cv;clear b3 b7 cv;have yh:=λa b m bp au=>arF (z0:=z0) fm a b m bp au;clear fm;unfold rk at yh;unfold jy cR at*;generalize hC:bV zs=C at*;replace hC:=hC.symm;obtain⟨d1,d2,d3⟩:=br.of ae (et zs);rw[<-hC]at d1 d2 d3;have t1:=pc ae (a:=m) (b:=a) axW axW;have t2:=pc ae (a:=b) (b:=m) axW axW;obtain⟨i0,qX⟩:∃k,k=m-a:=⟨_,rfl⟩;obtain⟨uG,G2⟩:∃k,k=b-m:=⟨_,rfl⟩;rw[<-qX]at t1;rw[<-G2]at t2;refine af ?_;refine⟨bX (λz:(Nat×Nat)×List ah=>arG z.2 N M D n m z.1.1 z.1.2) (λz=>(0<z.1.1/\0<z.1.2/\z.1.1<=m/\m+z.1.2<=n)/\∃eC,z.2=bV eC/\iw n z0 eC) (λz=>z.1.1+z.1.2),_,⟨((i0,uG),C),⟨⟨axZ,axZ,axZ,axZ⟩,zs,hC,hs⟩,rfl,axV⟩,?_⟩;clear d1 d2 d3 hC hs t1 t2 qX G2;rintro _ _ ⟨⟨⟨i,j⟩,C⟩,⟨⟨hi,aK,nz,E'⟩,zs,hC,hs⟩,rfl,rfl⟩;dsimp only at hi aK nz E' hC⊢;obtain⟨d1,d2,d3⟩:=br.of ae (et zs);rw[<-hC]at d1 d2 d3;have t3:=pc ae (a:=m) (b:=i) axW axW;by_cases cB:i=j
 .have t1:=ary ae cB;obtain⟨dK,dR,aj⟩:=yh (m-i) m i axW axW zs hs;clear yh;obtain⟨w1,bW,fb⟩:=br.of ae (et dK);replace ao:=λs h=>ao (.tuple []) s ⟨dK,dR,rfl,h⟩;rw[<-hC]at aj;generalize gi:bV dK=d' at*;generalize m-i=p at*;refine af ?_;simp_all
 .have t1:=arx ae cB;by_cases eP:j<i
  .have t2:=Du ae eP;have t4:=pc ae (a:=i) (b:=j) axW axW;obtain⟨dK,dR,aj⟩:=yh (m-i) m j axW axW zs hs;clear yh;obtain⟨w1,bW,fb⟩:=br.of ae (et dK);rw[<-hC]at aj;generalize gi:bV dK=d' at*;generalize m-i=p at*;obtain⟨i1,nY⟩:∃k,k=i-j:=⟨_,rfl⟩;rw[<-nY]at t4;refine af ?_;exact fixF ((i1,j),d') ⟨⟨axZ,aK,axZ,E'⟩,dK,gi.symm,dR⟩
  .have t2:=Dv ae eP;have t4:=qg ae (a:=m) (b:=j) axW;have t5:=pc ae (a:=m+j) (b:=i) axW axW;have t6:=pc ae (a:=j) (b:=i) axW axW;obtain⟨dK,dR,aj⟩:=yh (m-i) (m+j-i) i axW axW zs hs;clear yh;obtain⟨w1,bW,fb⟩:=br.of ae (et dK);rw[<-hC]at aj;generalize gi:bV dK=d' at*;generalize m-i=p at*;generalize m+j-i=q at*;obtain⟨arI,zh⟩:∃k,k=m+j:=⟨_,rfl⟩;rw[<-zh]at t4 t5;obtain⟨acZ,MS⟩:∃k,k=j-i:=⟨_,rfl⟩;rw[<-MS]at t6;refine af ?_;exact fixF ((i,acZ),d') ⟨⟨hi,axZ,nz,axZ⟩,dK,gi.symm,dR⟩
theorem dj{aR:Nat->ah}{k:Nat}{v:ah}{l:List (Nat×ah)}(h:aR k=v)(aI:∀p∈l,aR p.1=p.2):∀p∈(k,v)::l,aR p.1=p.2:=λp hp=>by
 rcases aAs.1 hp with rfl|hp
 .exact h
 .exact aI p hp
theorem sU{aR:Nat->ah}:∀p∈([]:List (Nat×ah)),aR p.1=p.2:=λ_ hp=>by cases hp
def arJ(C N M D:List ah)(n a i j:Nat):ag:=cx [(0,.aN 0 0 n n 1),(1,.d (int (Int.ofNat a))),(4,.func 49 [] [.ptr 1 0]),(10,.d (int (Int.ofNat i))),(11,.d (int (Int.ofNat j)))] (jy C N M D n)
def arK(C N M D:List ah)(n i k:Nat):ag:=cx [(0,.aN 0 0 n n 1),(10,.d (int (Int.ofNat i))),(13,.d (int (Int.ofNat k)))] (jy C N M D n)
def arL(C N M D:List ah)(n m i j:Nat):ag:=cx [(0,.aN 0 0 n n 1),(2,.d (int (Int.ofNat m))),(4,.func 49 [] [.ptr 1 0]),(14,.d (int (Int.ofNat i))),(15,.d (int (Int.ofNat j)))] (jy C N M D n)
def arM(C N M D:List ah)(n i k:Nat):ag:=cx [(0,.aN 0 0 n n 1),(14,.d (int (Int.ofNat i))),(17,.d (int (Int.ofNat k)))] (jy C N M D n)
def ac0(C N M D:List ah)(n a m b mid bn p s r:Nat):ag:=cx [(0,.aN 0 0 n n 1),(1,.d (int (Int.ofNat a))),(2,.d (int (Int.ofNat m))),(3,.d (int (Int.ofNat b))),(4,.func 49 [] [.ptr 1 0]),(18,.d (int (Int.ofNat mid))),(19,.d (int (Int.ofNat bn))),(20,.d (int (Int.ofNat s))),(21,.d (int (Int.ofNat r))),(22,.d (int (Int.ofNat p)))] (jy C N M D n)
set_option maxHeartbeats 40000000 in
theorem arN{n:Nat}{z0:List Int}{N M D:List ah}(fm:wi n N M D)(a m b:Nat)(bp:a<m)(hm:m<b)(au:b<=n)(ax:∀a' m' cj:Nat,cj-a'<b-a->a'<m'->m'<cj->cj<=n->rk 110 [.aN 0 0 n n 1,.d (int (Int.ofNat a')),.d (int (Int.ofNat m')),.d (int (Int.ofNat cj)),.func 49 [] [.ptr 1 0]] n z0 N M D):rk 110 [.aN 0 0 n n 1,.d (int (Int.ofNat a)),.d (int (Int.ofNat m)),.d (int (Int.ofNat b)),.func 49 [] [.ptr 1 0]] n z0 N M D:=by
 intro zs hs;refine AH ?_;obtain⟨ay,b3,b7,cv,bd⟩:=id fm;have yj:=λs m e h1 sh av=>arH (z0:=z0) fm s m e h1 sh av;unfold rk at ax yj;unfold G1 at bd;refine T7.jt [0,3,4,5] _ λad ae K ao=> ?_;obtain⟨bw,a2,a3⟩:=br.of ae b3;obtain⟨bJ,a6,cq⟩:=br.of ae b7;obtain⟨c1,c2,c3⟩:=br.of ae cv;clear b3 b7 cv fm;unfold jy cR at*;generalize hC:bV zs=C at*;replace hC:=hC.symm;obtain⟨d1,d2,d3⟩:=br.of ae (et zs);rw[<-hC]at d1 d2 d3;obtain⟨lH,AJ⟩:∃k:Go.aH.aB->ag->Prop,k=λx st=>match x with|.ret=>∃eC:List Int,iw n z0 eC/\st.bH=(λ_=>none)/\st.s=[.box (bV eC),.box [.ptr 2 0],.box [.aN 3 0 n n 1,.aN 4 0 n n 1,.aN 5 0 n n 1],.box N,.box M,.box D]|.normal=>pY st [(0,.aN 0 0 n n 1),(1,.d (int (Int.ofNat a))),(2,.d (int (Int.ofNat m))),(3,.d (int (Int.ofNat b))),(4,.func 49 [] [.ptr 1 0])] (λ_=>none) [.box C,.box [.ptr 2 0],.box [.aN 3 0 n n 1,.aN 4 0 n n 1,.aN 5 0 n n 1],.box N,.box M,.box D]|_=>False:=⟨_,rfl⟩
 refine xR ae [_] lH ?_ ?_
 .clear ao ax yj;have t1:=pc ae (a:=m) (b:=a) axW axW;obtain⟨k,aq⟩:∃k,k=m-a:=⟨_,rfl⟩;rw[<-aq]at t1;have t2:=one? ae k;by_cases h1:k=1
  .rw[aAk h1]at t2;refine af ?_;clear t1 t2;refine⟨bX (λz:Nat×Nat=>arJ C N M D n a z.1 z.2) (λz=>m<=z.1/\z.1<=z.2/\z.2<=b) (λz=>z.2-z.1),_,⟨(m,b),⟨aAd _,by show m<=b;omega,aAd _⟩,rfl,axV⟩,?_⟩;rintro _ _ ⟨⟨i,j⟩,⟨hi,eP,aK⟩,rfl,rfl⟩;dsimp only at hi eP aK⊢;by_cases aA:i<j
   .have t1:=eT ae aA;have t2:=qg ae (a:=i) (b:=j) axW;obtain⟨t3,t4,t5,t6⟩:=Dw ae (a:=i+j) axW;obtain⟨h,hh⟩:∃h,h=(i+j)/2:=⟨_,rfl⟩;rw[<-hh]at t5 t6;have t7:=cd ae (n:=h) axW;have MT:i<=h:=axW;have MU:h<j:=axW;obtain⟨x,ak,b',cr,dE,nA⟩:=sT ae hC hs (p:=h) axW;obtain⟨y,wa,de,dp,dF,lz⟩:=sT ae hC hs (p:=a) axW;obtain⟨r,aj⟩:=bd x y ak wa;clear bd;generalize i+j=MV at*;cases AN:ad.aD .lss r 0 with
    |true=>
     refine af ?_;exact ec (h+1,j) ⟨by show m<=h+1;omega,azb,aK⟩ azc axV
    |false=>
     refine af ?_;exact ec (i,h) ⟨hi,azd,by show h<=b;omega⟩ aze axV
   .have t1:=eY ae aA;obtain⟨iQ,jj⟩:∃iQ,i=iQ+1:=⟨i-1,axW⟩;have t2:=uq ae jj axW;refine af ?_;refine⟨bX (λz:Nat×List ah=>arK z.2 N M D n i z.1) (λz=>a<=z.1/\∃eC,z.2=bV eC/\iw n z0 eC) (λz=>iQ-z.1),_,⟨(a,C),⟨aAd _,zs,hC,hs⟩,rfl,axV⟩,?_⟩;clear t1 d1 d2 d3 bd;rintro _ _ ⟨⟨k,C⟩,⟨arO,zs,hC,hs⟩,rfl,rfl⟩;dsimp only at arO hC⊢;obtain⟨d1,d2,d3⟩:=br.of ae (et zs);rw[<-hC]at d1 d2 d3;by_cases fF:k<iQ
    .have t1:=eT ae fF;have t3:=cd ae (n:=k) axW;obtain⟨x,y,nP,d',dK,⟨gi,dR,ak,wa⟩,⟨gE,gW,gd,hK⟩,⟨gY,kJ,jH,u8⟩,⟨v1,v2,v3,v4⟩,w1,bW,fb⟩:=GZ ae hC hs (p:=k) (q:=(k+1)) axW axW;generalize fQ:k+1=k1 at*;refine af ?_;exact ec (k1,d') ⟨by show a<=k1;omega,dK,gi,dR⟩ (by show iQ-k1<iQ-k;omega) axV
    .have t1:=eY ae fF;refine af ?_
     (rw[AJ];subst hC;exact⟨zs,hs,axV,axV⟩)
  .rw[aAK h1]at t2;refine af ?_
   (rw[AJ];exact⟨(dj axV (dj axV (dj axV (dj axV (dj axV sU))))),axV,axV⟩)
 intro x st ak;cases x with
 |exit i=>rw[AJ]at ak;exact ak.elim
 |ret=>
  rw[AJ]at ak;obtain⟨dK,dR,h1,sh⟩:=ak;obtain⟨aR,bH,s⟩:=st;dsimp only at h1 sh;subst h1;subst sh;obtain⟨w1,bW,fb⟩:=br.of ae (et dK);replace ao:=λs h=>ao (.tuple []) s ⟨dK,dR,rfl,h⟩;generalize bV dK=d' at*;refine af ?_;exact ao _ axV
 |normal=>
  rw[AJ]at ak;rw[pY.eq ak];generalize st.aR=aR;clear ak AJ lH;obtain⟨iA,xF⟩:∃k:Go.aH.aB->ag->Prop,k=λx st=>match x with|.ret=>∃eC:List Int,iw n z0 eC/\st.bH=(λ_=>none)/\st.s=[.box (bV eC),.box [.ptr 2 0],.box [.aN 3 0 n n 1,.aN 4 0 n n 1,.aN 5 0 n n 1],.box N,.box M,.box D]|.normal=>pY st [(0,.aN 0 0 n n 1),(1,.d (int (Int.ofNat a))),(2,.d (int (Int.ofNat m))),(3,.d (int (Int.ofNat b))),(4,.func 49 [] [.ptr 1 0])] (λ_=>none) [.box C,.box [.ptr 2 0],.box [.aN 3 0 n n 1,.aN 4 0 n n 1,.aN 5 0 n n 1],.box N,.box M,.box D]|_=>False:=⟨_,rfl⟩
  refine xR ae [_] iA ?_ ?_
  .clear ao ax yj;have t1:=pc ae (a:=b) (b:=m) axW axW;obtain⟨k,aq⟩:∃k,k=b-m:=⟨_,rfl⟩;rw[<-aq]at t1;have t2:=one? ae k;by_cases h1:k=1
   .rw[aAk h1]at t2;refine af ?_;clear t1 t2;refine⟨bX (λz:Nat×Nat=>arL C N M D n m z.1 z.2) (λz=>a<=z.1/\z.1<=z.2/\z.2<=m) (λz=>z.2-z.1),_,⟨(a,m),⟨aAd _,by show a<=m;omega,aAd _⟩,rfl,axV⟩,?_⟩;rintro _ _ ⟨⟨i,j⟩,⟨hi,eP,aK⟩,rfl,rfl⟩;dsimp only at hi eP aK⊢;by_cases aA:i<j
    .have t1:=eT ae aA;have t2:=qg ae (a:=i) (b:=j) axW;obtain⟨t3,t4,t5,t6⟩:=Dw ae (a:=i+j) axW;obtain⟨h,hh⟩:∃h,h=(i+j)/2:=⟨_,rfl⟩;rw[<-hh]at t5 t6;have t7:=cd ae (n:=h) axW;have MT:i<=h:=axW;have MU:h<j:=axW;obtain⟨x,ak,b',cr,dE,nA⟩:=sT ae hC hs (p:=m) axW;obtain⟨y,wa,de,dp,dF,lz⟩:=sT ae hC hs (p:=h) axW;obtain⟨r,aj⟩:=bd x y ak wa;clear bd;generalize i+j=MV at*;cases AN:ad.aD .lss r 0 with
     |true=>
      refine af ?_;exact ec (i,h) ⟨hi,azd,by show h<=m;omega⟩ aze axV
     |false=>
      refine af ?_;exact ec (h+1,j) ⟨by show a<=h+1;omega,azb,aK⟩ azc axV
    .have t1:=eY ae aA;refine af ?_;refine⟨bX (λz:Nat×List ah=>arM z.2 N M D n i z.1) (λz=>z.1<=m/\∃eC,z.2=bV eC/\iw n z0 eC) (λz=>z.1),_,⟨(m,C),⟨aAd _,zs,hC,hs⟩,rfl,axV⟩,?_⟩;clear t1 d1 d2 d3 bd;rintro _ _ ⟨⟨k,C⟩,⟨arP,zs,hC,hs⟩,rfl,rfl⟩;dsimp only at arP hC⊢;obtain⟨d1,d2,d3⟩:=br.of ae (et zs);rw[<-hC]at d1 d2 d3;by_cases fF:i<k
     .have t1:=Du ae fF;obtain⟨k1,fQ⟩:∃k1,k=k1+1:=⟨k-1,axW⟩;have t3:=uq ae fQ axW;obtain⟨x,y,nP,d',dK,⟨gi,dR,ak,wa⟩,⟨gE,gW,gd,hK⟩,⟨gY,kJ,jH,u8⟩,⟨v1,v2,v3,v4⟩,w1,bW,fb⟩:=GZ ae hC hs (p:=k) (q:=k1) axW axW;refine af ?_;exact ec (k1,d') ⟨by show k1<=m;omega,dK,gi,dR⟩ (by show k1<k;omega) axV
     .have t1:=Dv ae fF;refine af ?_
      (rw[xF];subst hC;exact⟨zs,hs,axV,axV⟩)
   .rw[aAK h1]at t2;refine af ?_
    (rw[xF];exact⟨(dj axV (dj axV (dj axV (dj axV (dj axV sU))))),axV,axV⟩)
  intro x st ak;cases x with
  |exit i=>rw[xF]at ak;exact ak.elim
  |ret=>
   rw[xF]at ak;obtain⟨dK,dR,h1,sh⟩:=ak;obtain⟨aR,bH,s⟩:=st;dsimp only at h1 sh;subst h1;subst sh;obtain⟨w1,bW,fb⟩:=br.of ae (et dK);replace ao:=λs h=>ao (.tuple []) s ⟨dK,dR,rfl,h⟩;generalize bV dK=d' at*;refine af ?_;exact ao _ axV
  |normal=>
   rw[xF]at ak;rw[pY.eq ak];generalize st.aR=aR;clear ak xF iA;obtain⟨mid,CY⟩:∃k,k=(a+b)/2:=⟨_,rfl⟩;have Gq:mid<b:=axW;have kW:a<=mid:=axW;have axa:2*mid<=a+b:=axW;have axb:a+b<=2*mid+1:=axW;obtain⟨ac1,AK⟩:∃k:Go.aH.aB->ag->Prop,k=λx st=>match x with|.normal=>∃s e:Nat,e<=b/\pY st [(0,.aN 0 0 n n 1),(1,.d (int (Int.ofNat a))),(2,.d (int (Int.ofNat m))),(3,.d (int (Int.ofNat b))),(4,.func 49 [] [.ptr 1 0]),(18,.d (int (Int.ofNat mid))),(20,.d (int (Int.ofNat s))),(24,.d (int (Int.ofNat e)))] (λ_=>none) [.box C,.box [.ptr 2 0],.box [.aN 3 0 n n 1,.aN 4 0 n n 1,.aN 5 0 n n 1],.box N,.box M,.box D]|_=>False:=⟨_,rfl⟩
   refine xR ae [_,_,_,_,_,_,_] ac1 ?_ ?_
   .clear ao ax yj;have t1:=qg ae (a:=a) (b:=b) axW;obtain⟨t2,t3,t4,t5⟩:=Dw ae (a:=a+b) axW;rw[<-CY]at t4 t5;have t6:=qg ae (a:=mid) (b:=m) axW;obtain⟨bn,jb⟩:∃k,k=mid+m:=⟨_,rfl⟩;rw[<-jb]at t6;obtain⟨p,hp⟩:∃p,bn=p+1:=⟨bn-1,axW⟩;have t7:=uq ae hp axW;by_cases y6:mid<m
    .have t8:=Du ae y6;have nF:=pc ae (a:=bn) (b:=b) axW axW;obtain⟨fq,G3⟩:∃k,k=bn-b:=⟨_,rfl⟩;rw[<-G3]at nF;generalize wc:a+b=ab at*;refine af ?_;clear t1 t2 t3 t4 t5 t6 t7 t8 nF;refine⟨bX (λz:Nat×Nat=>ac0 C N M D n a m b mid bn p z.1 z.2) (λz=>fq<=z.1/\z.1<=z.2/\z.2<=mid) (λz=>z.2-z.1),_,⟨(fq,mid),⟨aAd _,by show fq<=mid;omega,aAd _⟩,rfl,axV⟩,?_⟩;rintro _ _ ⟨⟨i,j⟩,⟨hi,eP,aK⟩,rfl,rfl⟩;dsimp only at hi eP aK⊢;by_cases aA:i<j
     .have t1:=eT ae aA;have t2:=qg ae (a:=i) (b:=j) axW;obtain⟨t3,t4,t5,t6⟩:=Dw ae (a:=i+j) axW;obtain⟨h,hh⟩:∃h,h=(i+j)/2:=⟨_,rfl⟩;rw[<-hh]at t5 t6;have t7:=cd ae (n:=h) axW;have MT:i<=h:=axW;have MU:h<j:=axW;have t8:=pc ae (a:=p) (b:=h) axW axW;obtain⟨x,ak,b',cr,dE,nA⟩:=sT ae hC hs (p:=(p-h)) axW;obtain⟨y,wa,de,dp,dF,lz⟩:=sT ae hC hs (p:=h) axW;obtain⟨r,aj⟩:=bd x y ak wa;clear bd;generalize i+j=MV at*;generalize p-h=ph at*;cases AN:ad.aD .lss r 0 with
      |true=>
       refine af ?_;exact ec (i,h) ⟨hi,azd,by show h<=mid;omega⟩ aze axV
      |false=>
       refine af ?_;exact ec (h+1,j) ⟨by show fq<=h+1;omega,azb,aK⟩ azc axV
     .have t1:=eY ae aA;have t2:=pc ae (a:=bn) (b:=i) axW axW;obtain⟨e,he⟩:∃e,e=bn-i:=⟨_,rfl⟩;rw[<-he]at t2;refine af ?_
      (rw[AK];exact⟨i,e,axW,(dj axV (dj axV (dj axV (dj axV (dj axV (dj axV (dj axV (dj axV sU)))))))),axV,axV⟩)
    .have t8:=Dv ae y6;generalize wc:a+b=ab at*;refine af ?_;clear t1 t2 t3 t4 t5 t6 t7 t8;refine⟨bX (λz:Nat×Nat=>ac0 C N M D n a m b mid bn p z.1 z.2) (λz=>a<=z.1/\z.1<=z.2/\z.2<=m) (λz=>z.2-z.1),_,⟨(a,m),⟨aAd _,by show a<=m;omega,aAd _⟩,rfl,axV⟩,?_⟩;rintro _ _ ⟨⟨i,j⟩,⟨hi,eP,aK⟩,rfl,rfl⟩;dsimp only at hi eP aK⊢;by_cases aA:i<j
     .have t1:=eT ae aA;have t2:=qg ae (a:=i) (b:=j) axW;obtain⟨t3,t4,t5,t6⟩:=Dw ae (a:=i+j) axW;obtain⟨h,hh⟩:∃h,h=(i+j)/2:=⟨_,rfl⟩;rw[<-hh]at t5 t6;have t7:=cd ae (n:=h) axW;have MT:i<=h:=axW;have MU:h<j:=axW;have t8:=pc ae (a:=p) (b:=h) axW axW;obtain⟨x,ak,b',cr,dE,nA⟩:=sT ae hC hs (p:=(p-h)) axW;obtain⟨y,wa,de,dp,dF,lz⟩:=sT ae hC hs (p:=h) axW;obtain⟨r,aj⟩:=bd x y ak wa;clear bd;generalize i+j=MV at*;generalize p-h=ph at*;cases AN:ad.aD .lss r 0 with
      |true=>
       refine af ?_;exact ec (i,h) ⟨hi,azd,by show h<=m;omega⟩ aze axV
      |false=>
       refine af ?_;exact ec (h+1,j) ⟨by show a<=h+1;omega,azb,aK⟩ azc axV
     .have t1:=eY ae aA;have t2:=pc ae (a:=bn) (b:=i) axW axW;obtain⟨e,he⟩:∃e,e=bn-i:=⟨_,rfl⟩;rw[<-he]at t2;refine af ?_
      (rw[AK];exact⟨i,e,axW,(dj axV (dj axV (dj axV (dj axV (dj axV (dj axV (dj axV (dj axV sU)))))))),axV,axV⟩)
   intro x st ak;cases x with
   |exit i=>rw[AK]at ak;exact ak.elim
   |ret=>rw[AK]at ak;exact ak.elim
   |normal=>
    rw[AK]at ak;obtain⟨s,e,nX,ak⟩:=ak;rw[pY.eq ak];generalize st.aR=aR;clear ak AK ac1 bd;obtain⟨ac2,yk⟩:∃k:Go.aH.aB->ag->Prop,k=λx st=>match x with|.normal=>∃eC:List Int,iw n z0 eC/\pY st [(0,.aN 0 0 n n 1),(1,.d (int (Int.ofNat a))),(2,.d (int (Int.ofNat m))),(3,.d (int (Int.ofNat b))),(4,.func 49 [] [.ptr 1 0]),(18,.d (int (Int.ofNat mid))),(20,.d (int (Int.ofNat s))),(24,.d (int (Int.ofNat e)))] (λ_=>none) [.box (bV eC),.box [.ptr 2 0],.box [.aN 3 0 n n 1,.aN 4 0 n n 1,.aN 5 0 n n 1],.box N,.box M,.box D]|_=>False:=⟨_,rfl⟩
    refine xR ae [_] ac2 ?_ ?_
    .clear ao;by_cases h1:s<m
     .have t1:=eT ae h1;by_cases sh:m<e
      .have t2:=eT ae sh;obtain⟨dK,dR,aj⟩:=yj s m e h1 sh axW zs hs;clear ax yj;obtain⟨w1,bW,fb⟩:=br.of ae (et dK);rw[<-hC]at aj;generalize gi:bV dK=d' at*;refine af ?_
       (rw[yk];subst gi;exact⟨dK,dR,(dj axV (dj axV (dj axV (dj axV (dj axV (dj axV (dj axV (dj axV sU)))))))),axV,axV⟩)
      .have t2:=eY ae sh;refine af ?_
       (rw[yk];subst hC;exact⟨zs,hs,(dj axV (dj axV (dj axV (dj axV (dj axV (dj axV (dj axV (dj axV sU)))))))),axV,axV⟩)
     .have t1:=eY ae h1;refine af ?_
      (rw[yk];subst hC;exact⟨zs,hs,(dj axV (dj axV (dj axV (dj axV (dj axV (dj axV (dj axV (dj axV sU)))))))),axV,axV⟩)
    clear yj;intro x st ak;cases x with
    |exit i=>rw[yk]at ak;exact ak.elim
    |ret=>rw[yk]at ak;exact ak.elim
    |normal=>
     rw[yk]at ak;obtain⟨zs,hs,ak⟩:=ak;rw[pY.eq ak];generalize st.aR=aR;clear ak yk ac2;clear d1 d2 d3 hC;generalize hC:bV zs=C at*;replace hC:=hC.symm;obtain⟨d1,d2,d3⟩:=br.of ae (et zs);rw[<-hC]at d1 d2 d3;obtain⟨ac3,yl⟩:∃k:Go.aH.aB->ag->Prop,k=λx st=>match x with|.normal=>∃eC:List Int,iw n z0 eC/\pY st [(0,.aN 0 0 n n 1),(1,.d (int (Int.ofNat a))),(2,.d (int (Int.ofNat m))),(3,.d (int (Int.ofNat b))),(4,.func 49 [] [.ptr 1 0]),(18,.d (int (Int.ofNat mid))),(20,.d (int (Int.ofNat s))),(24,.d (int (Int.ofNat e)))] (λ_=>none) [.box (bV eC),.box [.ptr 2 0],.box [.aN 3 0 n n 1,.aN 4 0 n n 1,.aN 5 0 n n 1],.box N,.box M,.box D]|_=>False:=⟨_,rfl⟩
     refine xR ae [_] ac3 ?_ ?_
     .clear ao;by_cases h1:a<s
      .have t1:=eT ae h1;by_cases sh:s<mid
       .have t2:=eT ae sh;obtain⟨dK,dR,aj⟩:=ax a s mid axW h1 sh axW zs hs;clear ax;obtain⟨w1,bW,fb⟩:=br.of ae (et dK);rw[<-hC]at aj;generalize gi:bV dK=d' at*;refine af ?_
        (rw[yl];subst gi;exact⟨dK,dR,(dj axV (dj axV (dj axV (dj axV (dj axV (dj axV (dj axV (dj axV sU)))))))),axV,axV⟩)
       .have t2:=eY ae sh;refine af ?_
        (rw[yl];subst hC;exact⟨zs,hs,(dj axV (dj axV (dj axV (dj axV (dj axV (dj axV (dj axV (dj axV sU)))))))),axV,axV⟩)
      .have t1:=eY ae h1;refine af ?_
       (rw[yl];subst hC;exact⟨zs,hs,(dj axV (dj axV (dj axV (dj axV (dj axV (dj axV (dj axV (dj axV sU)))))))),axV,axV⟩)
     intro x st ak;cases x with
     |exit i=>rw[yl]at ak;exact ak.elim
     |ret=>rw[yl]at ak;exact ak.elim
     |normal=>
      rw[yl]at ak;obtain⟨zs,hs,ak⟩:=ak;rw[pY.eq ak];generalize st.aR=aR;clear ak yl ac3;clear d1 d2 d3 hC;generalize hC:bV zs=C at*;replace hC:=hC.symm;obtain⟨d1,d2,d3⟩:=br.of ae (et zs);rw[<-hC]at d1 d2 d3;by_cases h1:mid<e
      .have t1:=eT ae h1;by_cases sh:e<b
       .have t2:=eT ae sh;obtain⟨dK,dR,aj⟩:=ax mid e b axW h1 sh axW zs hs;clear ax;obtain⟨w1,bW,fb⟩:=br.of ae (et dK);rw[<-hC]at aj;replace ao:=λs h=>ao (.tuple []) s ⟨dK,dR,rfl,h⟩;generalize gi:bV dK=d' at*;refine af ?_;exact ao _ axV
       .have t2:=eY ae sh;replace ao:=λs h=>ao (.tuple []) s ⟨zs,hs,rfl,h⟩;rw[<-hC]at ao;refine af ?_;exact ao _ axV
      .have t1:=eY ae h1;replace ao:=λs h=>ao (.tuple []) s ⟨zs,hs,rfl,h⟩;rw[<-hC]at ao;refine af ?_;exact ao _ axV
theorem ac4{n:Nat}{z0:List Int}{N M D:List ah}(fm:wi n N M D):∀(k a m b:Nat),b-a<=k->a<m->m<b->b<=n->rk 110 [.aN 0 0 n n 1,.d (int (Int.ofNat a)),.d (int (Int.ofNat m)),.d (int (Int.ofNat b)),.func 49 [] [.ptr 1 0]] n z0 N M D
 |0,a,m,b,h,h1,sh,av=>axW
 |k+1,a,m,b,h,h1,sh,av=>arN fm a m b h1 sh av λa' m' cj g g1 g2 g3=>ac4 fm k a' m' cj axW g1 g2 g3
theorem arQ{ad:bm}(h:ad=bm.bU){b:Nat}(au:b<=1152921504606846976):ad.io .mul .i64 2 (Int.ofNat b)=Int.ofNat (2*b)/\ad.io .mul .i64 (Int.ofNat b) 2=Int.ofNat (2*b):=by
 subst h;constructor
 .show IntKind.wrap .i64 (2*Int.ofNat b)=_;rw[aH.wrap_small ayu ayu];simp only[aAh];omega
 .show IntKind.wrap .i64 (Int.ofNat b*2)=_;rw[aH.wrap_small ayu ayu];simp only[aAh];omega
def ac5(C N M D:List ah)(n bs a b:Nat):ag:=cx [(0,.aN 0 0 n n 1),(1,.d (int (Int.ofNat n))),(2,.func 49 [] [.ptr 1 0]),(6,.d (int (Int.ofNat bs))),(7,.d (int (Int.ofNat a))),(8,.d (int (Int.ofNat b)))] (jy C N M D n)
def arR(C N M D:List ah)(n bs:Nat):ag:=cx [(0,.aN 0 0 n n 1),(1,.d (int (Int.ofNat n))),(2,.func 49 [] [.ptr 1 0]),(6,.d (int (Int.ofNat bs)))] (jy C N M D n)
theorem arS{n:Nat}{z0:List Int}{N M D:List ah}(fm:wi n N M D):rk 72 [.aN 0 0 n n 1,.d (int (Int.ofNat n)),.func 49 [] [.ptr 1 0]] n z0 N M D:=by
 intro zs hs;refine AH ?_;obtain⟨ay,b3,b7,cv,bd⟩:=id fm;clear bd;have dw:=λa b h1 sh=>arC (z0:=z0) fm a b h1 sh;have ym:=λa m b h1 sh av=>ac4 (z0:=z0) fm _ a m b (aAd _) h1 sh av;unfold rk at dw ym;refine Zb.jt [0,3,4,5] _ λad ae K ao=> ?_;obtain⟨bw,a2,a3⟩:=br.of ae b3;obtain⟨bJ,a6,cq⟩:=br.of ae b7;obtain⟨c1,c2,c3⟩:=br.of ae cv;clear b3 b7 cv fm;unfold jy cR at*;generalize hC:bV zs=C at*;replace hC:=hC.symm;obtain⟨d1,d2,d3⟩:=br.of ae (et zs);rw[<-hC]at d1 d2 d3;refine af ?_;refine⟨bX (λz:(Nat×Nat)×List ah=>ac5 z.2 N M D n 20 z.1.1 z.1.2) (λz=>(z.1.1<=n/\z.1.2=z.1.1+20)/\∃eC,z.2=bV eC/\iw n z0 eC) (λz=>n+20-z.1.2),_,⟨((0,20),C),⟨⟨aAa _,rfl⟩,zs,hC,hs⟩,rfl,axV⟩,?_⟩;clear d1 d2 d3 hC hs;rintro _ _ ⟨⟨⟨a,b⟩,C⟩,⟨⟨rl,wc⟩,zs,hC,hs⟩,rfl,rfl⟩;dsimp only at rl wc hC⊢;obtain⟨d1,d2,d3⟩:=br.of ae (et zs);rw[<-hC]at d1 d2 d3;by_cases u9:b<=n
 .have t1:=acX ae u9;have t2:ad.io .add .i64 (Int.ofNat b) (Int.ofNat 20)=Int.ofNat (b+20):=qg ae axW;obtain⟨dK,dR,aj⟩:=dw a b rl u9 zs hs;clear dw ym;obtain⟨w1,bW,fb⟩:=br.of ae (et dK);rw[<-hC]at aj;generalize gi:bV dK=d' at*;refine af ?_;exact fixF ((b,b+20),d') ⟨⟨u9,rfl⟩,dK,gi.symm,dR⟩
 .have t1:=acY ae u9;obtain⟨dK,dR,aj⟩:=dw a n rl (aAd _) zs hs;clear dw;obtain⟨w1,bW,fb⟩:=br.of ae (et dK);rw[<-hC]at aj;generalize gi:bV dK=d' at*;replace gi:=gi.symm;refine af ?_;refine⟨bX (λz:Nat×List ah=>arR z.2 N M D n z.1) (λz=>1<=z.1/\∃eC,z.2=bV eC/\iw n z0 eC) (λz=>n-z.1),_,⟨(20,d'),⟨by show 1<=20;omega,dK,gi,dR⟩,rfl,axV⟩,?_⟩;clear d1 d2 d3 w1 bW fb hC hs gi dR t1 aj;rintro _ _ ⟨⟨bs,C⟩,⟨tD,zs,hC,hs⟩,rfl,rfl⟩;dsimp only at tD hC⊢;obtain⟨d1,d2,d3⟩:=br.of ae (et zs);rw[<-hC]at d1 d2 d3;by_cases u9:bs<n
  .have t1:=eT ae u9;obtain⟨m1,m2⟩:=arQ ae (b:=bs) axW;obtain⟨uH,arT⟩:∃k,k=2*bs:=⟨_,rfl⟩;rw[<-arT]at m1 m2;refine af ?_;refine⟨bX (λz:(Nat×Nat)×List ah=>ac5 z.2 N M D n bs z.1.1 z.1.2) (λz=>(z.1.1<=n/\z.1.2=z.1.1+uH)/\∃eC,z.2=bV eC/\iw n z0 eC) (λz=>n+uH-z.1.2),_,⟨((0,uH),C),⟨⟨aAa _,(aA2 _).symm⟩,zs,hC,hs⟩,rfl,axV⟩,?_⟩;clear d1 d2 d3 hC hs t1;rintro _ _ ⟨⟨⟨a,b⟩,C⟩,⟨⟨rl,wc⟩,zs,hC,hs⟩,rfl,rfl⟩;dsimp only at rl wc hC⊢;obtain⟨d1,d2,d3⟩:=br.of ae (et zs);rw[<-hC]at d1 d2 d3;have t2:=qg ae (a:=a) (b:=bs) axW;by_cases G4:b<=n
   .have t1:=acX ae G4;have t3:=qg ae (a:=b) (b:=uH) axW;obtain⟨dK,dR,aj⟩:=ym a (a+bs) b axW axW G4 zs hs;clear ym;obtain⟨w1,bW,fb⟩:=br.of ae (et dK);rw[<-hC]at aj;generalize gi:bV dK=d' at*;generalize a+bs=m at*;generalize arU:b+uH=bc at*;refine af ?_;exact fixF ((b,bc),d') ⟨⟨G4,arU.symm⟩,dK,gi.symm,dR⟩
   .have t1:=acY ae G4;by_cases hm:a+bs<n
    .have t3:=eT ae hm;obtain⟨dK,dR,aj⟩:=ym a (a+bs) n axW hm (aAd _) zs hs;clear ym;obtain⟨w1,bW,fb⟩:=br.of ae (et dK);rw[<-hC]at aj;generalize gi:bV dK=d' at*;generalize a+bs=m at*;refine af ?_;exact fixF (uH,d') ⟨by show 1<=uH;omega,dK,gi.symm,dR⟩
    .have t3:=eY ae hm;clear ym;generalize a+bs=m at*;refine af ?_;exact fixF (uH,C) ⟨by show 1<=uH;omega,zs,hC,hs⟩
  .have t1:=eY ae u9;replace ao:=λs h=>ao (.tuple []) s ⟨zs,hs,rfl,h⟩;rw[<-hC]at ao;refine af ?_;exact ao _ axV
theorem arV{n:Nat}{z0:List Int}{N M D:List ah}(fm:wi n N M D):rk 48 [.aN 0 0 n n 1,.func 49 [] [.ptr 1 0]] n z0 N M D:=by
 intro zs hs;refine AH ?_;obtain⟨ay,b3,b7,cv,bd⟩:=id fm;clear bd;obtain⟨dK,dR,aj⟩:=arS (z0:=z0) fm zs hs;refine Vl.jt [0,3,4,5] _ λad ae K ao=> ?_;obtain⟨bw,a2,a3⟩:=br.of ae b3;obtain⟨bJ,a6,cq⟩:=br.of ae b7;obtain⟨c1,c2,c3⟩:=br.of ae cv;clear b3 b7 cv fm;unfold jy cR at*;obtain⟨d1,d2,d3⟩:=br.of ae (et zs);obtain⟨w1,bW,fb⟩:=br.of ae (et dK);replace ao:=λs h=>ao (.tuple []) s ⟨dK,dR,rfl,h⟩;generalize bV zs=C at*;generalize bV dK=d' at*;refine af ?_;exact ao _ axV
theorem MW{ad:bm}(h:ad=bm.bU):ad.xM .dead=[]/\(∀n,ad.xO n .dead=true)/\(∀f,ad.xN f .dead=.dead):=by
 subst h;exact⟨rfl,λ_=>rfl,λ_=>rfl⟩
def arW(N M D:List ah)(n:Nat):ag:=cx [(0,.d (.list 1 [])),(1,.d (int 0)),(2,.d (int 0)),(3,.func 49 [] [.ptr 0 0]),(8,.d (int 1))] [.box [.ptr 1 0],.box (cR 2 3 4 n),.box N,.box M,.box D]
theorem arX{N M D:List ah}(n:Nat)(b3:Flat N)(b7:Flat M)(cv:Flat D):aM 109 [.d (.list 1 []),.d (int 0),.d (int 0),.func 49 [] [.ptr 0 0]] [.box [.ptr 1 0],.box (cR 2 3 4 n),.box N,.box M,.box D] (.tuple []) [.box [.ptr 1 0],.box (cR 2 3 4 n),.box N,.box M,.box D]:=by
 refine Xv.kf [2,3,4] λad ae Q aV=> ?_;obtain⟨bw,a2,a3⟩:=br.of ae b3;obtain⟨bJ,a6,cq⟩:=br.of ae b7;obtain⟨c1,c2,c3⟩:=br.of ae cv;clear b3 b7 cv;unfold cR at*;have q1:ad.aD .lss 1 0=false:=ax3;have bF:ad.io .add .i64 0 1=1:=ax3;have cE:ad.aD .leq 20 0=false:=ax3;have ei:ad.aD .lss 20 0=false:=ax3;have gF:ad.len []=Nat.zero:=ax3;refine af ?_;refine⟨bX (λ_:Unit=>arW N M D n) (λ_=>True) (λ_=>0),_,⟨(),trivial,rfl,axV⟩,?_⟩;rintro _ _ ⟨_,_,rfl,rfl⟩;refine af ?_
 (subst ae;exact bZ aV axV axV)
def arY(N M D:List ah)(n:Nat):ag:=cx [(0,.d (.list 1 [])),(1,.d (int 0)),(2,.func 49 [] [.ptr 0 0]),(6,.d (int 20)),(7,.d (int 0)),(8,.d (int 20))] [.box [.ptr 1 0],.box (cR 2 3 4 n),.box N,.box M,.box D]
def arZ(N M D:List ah)(n:Nat):ag:=cx [(0,.d (.list 1 [])),(1,.d (int 0)),(2,.func 49 [] [.ptr 0 0]),(6,.d (int 20))] [.box [.ptr 1 0],.box (cR 2 3 4 n),.box N,.box M,.box D]
theorem ar0{N M D:List ah}(n:Nat)(b3:Flat N)(b7:Flat M)(cv:Flat D):aM 72 [.d (.list 1 []),.d (int 0),.func 49 [] [.ptr 0 0]] [.box [.ptr 1 0],.box (cR 2 3 4 n),.box N,.box M,.box D] (.tuple []) [.box [.ptr 1 0],.box (cR 2 3 4 n),.box N,.box M,.box D]:=by
 have aj:=arX n b3 b7 cv;refine Zb.kf [2,3,4] λad ae Q aV=> ?_;obtain⟨bw,a2,a3⟩:=br.of ae b3;obtain⟨bJ,a6,cq⟩:=br.of ae b7;obtain⟨c1,c2,c3⟩:=br.of ae cv;clear b3 b7 cv;unfold cR at*;have q1:ad.aD .lss 1 0=false:=ax3;have bF:ad.io .add .i64 0 1=1:=ax3;have cE:ad.aD .leq 20 0=false:=ax3;have ei:ad.aD .lss 20 0=false:=ax3;have gF:ad.len []=Nat.zero:=ax3;refine af ?_;refine⟨bX (λ_:Unit=>arY N M D n) (λ_=>True) (λ_=>0),_,⟨(),trivial,rfl,axV⟩,?_⟩;rintro _ _ ⟨_,_,rfl,rfl⟩;refine af ?_;refine⟨bX (λ_:Unit=>arZ N M D n) (λ_=>True) (λ_=>0),_,⟨(),trivial,rfl,axV⟩,?_⟩;rintro _ _ ⟨_,_,rfl,rfl⟩;refine af ?_
 (subst ae;exact bZ aV axV axV)
theorem ar1{N M D:List ah}(n:Nat)(b3:Flat N)(b7:Flat M)(cv:Flat D):aM 48 [.d (.list 1 []),.func 49 [] [.ptr 0 0]] [.box [.ptr 1 0],.box (cR 2 3 4 n),.box N,.box M,.box D] (.tuple []) [.box [.ptr 1 0],.box (cR 2 3 4 n),.box N,.box M,.box D]:=by
 have aj:=ar0 n b3 b7 cv;refine Vl.kf [2,3,4] λad ae Q aV=> ?_;obtain⟨bw,a2,a3⟩:=br.of ae b3;obtain⟨bJ,a6,cq⟩:=br.of ae b7;obtain⟨c1,c2,c3⟩:=br.of ae cv;clear b3 b7 cv;unfold cR at*;have q1:ad.aD .lss 1 0=false:=ax3;have bF:ad.io .add .i64 0 1=1:=ax3;have cE:ad.aD .leq 20 0=false:=ax3;have ei:ad.aD .lss 20 0=false:=ax3;have gF:ad.len []=Nat.zero:=ax3;refine af ?_
 (subst ae;exact bZ aV axV axV)
def nQ(k:Nat):List fc:=(List.range k).map λi=>fc.d (int (Int.ofNat i))
def iota(n:Nat):List Int:=(List.range n).map Int.ofNat
theorem ar2(k:Nat):nQ (k+1)=nQ k++[fc.d (int (Int.ofNat k))]:=by
 unfold nQ;rw[List.range_succ,aAy];rfl
theorem ar3(k:Nat):jB (nQ k)=bV (iota k):=by
 unfold jB nQ bV iota;rw[aBE,aBE];rfl
def AL:Nat->ah
 |0=>.own 1 []
 |k+1=>.raw 1 (k+1) (nQ (k+1))
theorem ar4(n:Nat):iw n (iota n) (iota n):=⟨by unfold iota;rw[aAb,List.length_range],λz aO=>by
 unfold iota at aO;obtain⟨i,hi,rfl⟩:=aAR.1 aO;have:=aBi.1 hi;unfold gj;rw[aAc];exact⟨aAk (aCu _),aAk (aBF.2 this)⟩,.refl _⟩
theorem ac6{ad:bm}(h:ad=bm.bU)(zs:List Int){n:Nat}(ay:zs.length=n):ad.CH 0 n n 1 (bV zs)=some (.list 1 (zs.map int)):=by
 subst h;subst ay;have h1:jz ((bV zs).take zs.length)=some (zs.map int):=by
  rw[aBa (by rw[pb];exact aAd _)];unfold bV;induction zs with
  |nil=>rfl
  |cons z l ih=>show(match jz (l.map λz=>ah.d (int z))with|some xs=>some (int z::xs)|none=>none)=_;rw[ih];rfl
 have sh:(zs.map int).all jA=true:=aAx.2 λx ak=>by obtain⟨z,_,rfl⟩:=aAR.1 ak;rfl
 have av:chunks 1 zs.length (zs.map int)=zs.map int:=by
  clear h1 sh;induction zs with
  |nil=>rfl
  |cons z l ih=>show int z::chunks 1 l.length (l.map int)=_;rw[ih];rfl
 show cond (Nat.ble zs.length zs.length&&Nat.blt 0 1&&Nat.ble (0+zs.length*1) (bV zs).length) (match jz (((bV zs).drop 0).take (zs.length*1))with
  |some l=>cond (l.all jA) (some (D.list 1 (chunks 1 zs.length l))) none
  |none=>none) none=_
 rw[pb,aA2,aB6,aBD (aAd _),aDa,h1];dsimp only;rw[sh,av];rfl
def MX(N M D:List ah)(n i:Nat)(v:ah):ag:=cx [(1,.ptr 4 0),(3,v),(9,.d (int (Int.ofNat n))),(10,.d (int (Int.ofNat i)))] [.box (cR 1 2 3 n),.box N,.box M,.box D,.box [.ptr 0 0]]
theorem ac7{N M:List ah}(ds:List Int)(n:Nat)(aY:ds.length=n)(ay:n<=1073741824)(b3:Flat N)(b7:Flat M):∃zs:List Int,iw n (iota n) zs/\aM 24 [.ptr 0 0] [.box (cR 1 2 3 n),.box N,.box M,.box (bV ds)] (.d (.list 1 (zs.map int))) [.box (cR 1 2 3 n),.box N,.box M,.box (bV ds)]:=by
 have fm:wi n N M (bV ds):=⟨ay,b3,b7,et ds,arz aY b3 b7⟩;have cv:=et ds;obtain⟨zs,hs,aj⟩:=arV (z0:=iota n) fm (iota n) (ar4 n);have b2:=ar1 n b3 b7 cv;clear fm;refine⟨zs,hs,?_⟩;refine WZ.kf [1,2,3,5] λad ae Q aV=> ?_;obtain⟨bw,a2,a3⟩:=br.of ae b3;obtain⟨bJ,a6,cq⟩:=br.of ae b7;obtain⟨c1,c2,c3⟩:=br.of ae cv;clear b3 b7 cv;obtain⟨d1,d2,d3⟩:=br.of ae (et (iota n));obtain⟨w1,bW,fb⟩:=br.of ae (et zs);obtain⟨b',cr,dE⟩:=MW ae;have de:=ac6 ae zs hs.len;have dp:ad.xL (nQ n)=some (bV (iota n)):=by rw[<-ar3];subst ae;rfl
 unfold jy cR at*;have aO:n=0->zs.map int=[]:=λh=>by rw[aCO.1 (hs.len.trans h)];rfl
 generalize zs.map int=Z at*;generalize axc:bV zs=axd at*;generalize axe:bV (iota n)=axf at*;generalize bV ds=D at*;refine af ?_;refine⟨bX (λz:Nat=>MX N M D n z (AL z)) (λz=>z<=n) (λz=>n-z),_,⟨0,aAa _,rfl,axV⟩,?_⟩;rintro _ _ ⟨i,hi,rfl,rfl⟩;by_cases aA:i<n
 .have t1:=eT ae aA;have t6:=cd ae (n:=i) axW;cases i with
  |zero=>
   refine af ?_;exact ec 1 (by show 1<=n;omega) (by show n-1<n-0;omega) axV
  |succ k=>
   have dF:ad.zW (nQ (k+1)) [fc.d (int (Int.ofNat (k+1)))]=some (nQ (k+2)):=by subst ae;rw[ar2 (k+1)];rfl
   have lz:ad.lD (k+1) 1=k+2:=ax3;have sd:ad.zX 1 1 (k+1) 1 17592186044416=true:=azZ;have wb:AL (k+1)=.raw 1 (k+1) (nQ (k+1)):=rfl;have sh:AL (k+2)=.raw 1 (k+2) (nQ (k+2)):=rfl;have bh:∀{m:Nat} {st:ag},st=MX N M D n (k+2) (AL (k+2))->∃m,m<n-(k+1)/\bX (λz:Nat=>MX N M D n z (AL z)) (λz=>z<=n) (λz=>n-z) m st:=λh=>ec (k+2) (by show k+2<=n;omega) (by show n-(k+2)<n-(k+1);omega) h;rw[sh]at bh;dsimp only;rw[wb];clear wb sh hi aA;generalize k+1=k1 at*;generalize k+2=k2 at*;generalize nQ k1=ac8 at*;generalize nQ k2=R2 at*;refine af ?_;exact bh (m:=0) axV
 .have t1:=eY ae aA;obtain rfl:i=n:=by show i=n;have:i<=n:=hi;omega
  cases i with
  |zero=>
   have aO:=aO rfl;subst aO;refine af ?_
   (subst ae;exact bZ aV axV axV)
  |succ k=>
   have wb:AL (k+1)=.raw 1 (k+1) (nQ (k+1)):=rfl;dsimp only;rw[wb];clear wb hi aA b2 aO;generalize nQ (k+1)=ac8 at*;generalize k+1=k1 at*;refine af ?_
   (subst ae;exact bZ aV axV axV)
end Go.Proofs.YthffhbakgmemaaaGreatDoor
