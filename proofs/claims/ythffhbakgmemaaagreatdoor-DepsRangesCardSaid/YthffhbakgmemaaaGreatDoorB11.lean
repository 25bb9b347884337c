/- Part of ranges_said. -/
import Derived.Test.YthffhbakgmemaaaGreatDoorB10
set_option maxRecDepth 100000
set_option maxHeartbeats 8000000
set_option linter.unusedSimpArgs false
set_option linter.unusedVariables false
namespace Go.Proofs.YthffhbakgmemaaaGreatDoor
open Go Go.aH
attribute [local irreducible] bG
def lL(zs:List Int):List fc:=zs.map λz=>fc.d (int z)
def nR:List Int->ah
 |[]=>.own 1 []
 |z::l=>.raw 1 (l.length+1) (lL (z::l))
theorem MY{l:List Int}{n:Nat}(h:l.length=n+1):nR l=.raw 1 (n+1) (lL l):=by
 cases l with
 |nil=>cases h
 |cons z l=>rw[<-h];rfl
theorem ar5{ad:bm}(h:ad=bm.bU)(zs:List Int):ad.xL (lL zs)=some (bV zs):=by
 subst h;show some (jB (lL zs))=_;unfold jB lL bV;rw[aBE];rfl
theorem ar6(L:List D):aM 154 [.d (.list 1 L)] [] (.func 202 [] [.ptr 0 0]) [.box [.d (.list 1 L)]]:=by
 refine ZD.cn λad ae Q aV=> ?_;refine af ?_
 (subst ae;exact bZ aV axX axV)
def MZ(L:List D)(k i:Nat)(v:ah):ag:=cx [(0,.fY 2),(5,.d (.list 1 L)),(6,.d (int (Int.ofNat k))),(7,.d (int (Int.ofNat i)))] [.box [.d (.list 1 L)],.box [v],.dead]
theorem ar7(l:List Int)(aI:l.length<=1073741824):aM 237 [.own 1 [],.func 202 [] [.ptr 0 0]] [.box [.d (.list 1 (l.map int))]] (nR l) [.box [.d (.list 1 (l.map int))]]:=by
 have bE:(l.map int).length=l.length:=aAb _;have bY:∀i (h:i<l.length),(l.map int)[i]?=some (int l[i]):=λi h=>c7 h;generalize l.map int=L at*;refine amc.cn λad ae Q aV=> ?_;refine af ?_;refine⟨ZZ,amg,?_⟩;refine af ?_;refine⟨bX (λi=>MZ L (ad.len L) i (nR (l.take i))) (λi=>i<=l.length) (λi=>l.length-i),_,⟨0,aAa _,rfl,axV⟩,?_⟩;rintro _ _ ⟨i,hi,rfl,rfl⟩;dsimp only at hi⊢;have ew:(l.take i).length=i:=axY;by_cases aA:i<l.length
 .have t1:ad.aD .lss (Int.ofNat i) (Int.ofNat (ad.len L))=true:=by simp_all[aJ]
  have t3:=cz ae (bY i aA);have t6:=cd ae (n:=i) axW;have yn:l.take (i+1)=l.take i++[l[i]]:=axX;have dF:ad.zW (lL (l.take i)) [fc.d (int l[i])]=some (lL (l.take (i+1))):=by subst ae;rw[yn];unfold lL;rw[aAy];rfl
  have lz:ad.lD i 1=i+1:=ax3;have sd:ad.zX 1 1 i 1 17592186044416=true:=azZ;have sh:nR (l.take (i+1))=.raw 1 (i+1) (lL (l.take (i+1))):=MY axZ;have bh:∀{st:ag},st=MZ L (ad.len L) (i+1) (nR (l.take (i+1)))->∃m,m<l.length-i/\bX (λi=>MZ L (ad.len L) i (nR (l.take i))) (λi=>i<=l.length) (λi=>l.length-i) m st:=λh=>ec (i+1) aA axW h;rw[sh]at bh;cases i with
  |zero=>
   have wb:lL (l.take 1)=[fc.d (int l[0])]:=by rw[yn];rfl
   rw[wb]at bh;clear dF sh yn wb ew;generalize l[0]=x at*;rw[show nR (List.take 0 l)=.own 1 []from rfl];refine af ?_;exact bh axV
  |succ k=>
   have wb:nR (l.take (k+1))=.raw 1 (k+1) (lL (l.take (k+1))):=MY ew;rw[wb];clear wb sh ew yn hi;generalize l[k+1]=x at*;generalize lL (l.take (k+1+1))=R2 at*;generalize lL (l.take (k+1))=ac8 at*;generalize hf:k+1+1=k2 at*;generalize k+1=k1 at*;refine af ?_;exact bh axV
 .have t1:ad.aD .lss (Int.ofNat i) (Int.ofNat (ad.len L))=false:=by simp_all[aJ]
  have k4:i=l.length:=axW;have yn:l.take i=l:=aBa axW;rw[yn];clear ew yn bY;cases l with
  |nil=>
   rw[show nR []=.own 1 []from rfl]at aV⊢;refine af ?_
   (subst ae;exact bZ aV axX axV)
  |cons z l=>
   have wb:nR (z::l)=.raw 1 (l.length+1) (lL (z::l)):=rfl;rw[wb]at aV⊢;clear wb;generalize lL (z::l)=R at*;generalize aq:l.length+1=k at*;refine af ?_
   (subst ae;exact bZ aV axX axV)
theorem ac9(l:List Int)(aI:l.length<=1073741824):aM 200 [.func 202 [] [.ptr 0 0]] [.box [.d (.list 1 (l.map int))]] (nR l) [.box [.d (.list 1 (l.map int))]]:=by
 have aj:=ar7 l aI;generalize l.map int=L at*;refine aEB.cn λad ae Q aV=> ?_;cases l with
 |nil=>
  replace aV:Q (.own 1 []) _:=aV;replace aj:bG _ _ _ _ _ (.own 1 []) _:=aj;refine af ?_
  (subst ae;exact bZ aV axX axV)
 |cons z l=>
  have wb:nR (z::l)=.raw 1 (l.length+1) (lL (z::l)):=rfl;rw[wb]at aV aj;generalize lL (z::l)=R at*;generalize l.length+1=k at*;refine af ?_
  (subst ae;exact bZ aV axX axV)
theorem ar8(zs:List Int)(h:zs.length<=1073741824):∃eC:List Int,eC.Perm zs/\aM 201 [.aN 0 0 zs.length zs.length 1] [.box (bV zs)] (.tuple []) [.box (bV eC)]:=⟨_,List.mergeSort_perm _ _,alK aav aaw zs h⟩
theorem ar9:aM 201 [.d (.list 1 [])] [] (.tuple []) []:=alL aav aaw
theorem ar':aM 153 [.func 202 [] [.ptr 0 0]] [.box [.d (.list 1 [])]] (.d (.list 1 [])) [.box [.d (.list 1 [])]]:=by
 have aj:=ac9 [] ax0;have aF:=ar9;replace aj:aM 200 [.func 202 [] [.ptr 0 0]] [.box [.d (.list 1 [])]] (.own 1 []) [.box [.d (.list 1 [])]]:=aj;refine V1.cn λad ae Q aV=> ?_;refine af ?_
 (subst ae;exact bZ aV axX axV)
theorem asa(l:List Int)(n:Nat)(aI:l.length=n+1)(ay:n<1073741824):∃zs:List Int,zs.Perm l/\aM 153 [.func 202 [] [.ptr 0 0]] [.box [.d (.list 1 (l.map int))]] (.aN 1 0 (n+1) (n+1) 1) [.box [.d (.list 1 (l.map int))],.box (bV zs)]:=by
 have aj:=ac9 l axW;obtain⟨zs,hp,aF⟩:=ar8 l axW;refine⟨zs,hp,?_⟩;rw[aI]at aF;rw[MY aI]at aj;refine V1.kf [1] λad ae Q aV=> ?_;have dp:=ar5 ae l;obtain⟨d1,d2,d3⟩:=br.of ae (et l);obtain⟨w1,bW,fb⟩:=br.of ae (et zs);generalize l.map int=L at*;generalize lL l=R at*;generalize bV l=C at*;generalize bV zs=d' at*;generalize n+1=k at*;refine af ?_;omega
theorem ac':∀zs:List Int,jz (bV zs)=some (zs.map int)
 |[]=>rfl
 |z::l=>by
  show(match jz (bV l)with|some xs=>some (int z::xs)|none=>none)=_;rw[ac' l];rfl
theorem ada:∀l:List D,chunks 1 l.length l=l
 |[]=>rfl
 |x::l=>by show x::chunks 1 l.length l=_;rw[ada l]
theorem asb{ad:bm}(h:ad=bm.bU)(zs:List Int){n i:Nat}(ay:zs.length=n)(hi:i<=n):ad.CH 0 i n 1 (bV zs)=some (.list 1 ((zs.take i).map int)):=by
 subst h;have h1:((bV zs).drop 0).take (i*1)=bV (zs.take i):=by simp_all[bV]
 have sh:((zs.take i).map int).all jA=true:=aAx.2 λx ak=>by obtain⟨z,_,rfl⟩:=aAR.1 ak;rfl
 have av:chunks 1 i ((zs.take i).map int)=(zs.take i).map int:=by
  have:=ada ((zs.take i).map int);simp_all
 show cond (Nat.ble i n&&Nat.blt 0 1&&Nat.ble (0+i*1) (bV zs).length) (match jz (((bV zs).drop 0).take (i*1))with
  |some l=>cond (l.all jA) (some (D.list 1 (chunks 1 i l))) none
  |none=>none) none=_
 rw[pb,aA2,aB6,aBD hi,aBD (show i<=zs.length by omega)];rw[aB6]at h1;rw[h1,ac'];dsimp only;rw[sh,av];rfl
theorem adb{ad:bm}(h:ad=bm.bU)(o i:Nat):ad.l9 o (Int.ofNat i) 1=o+i:=by
 subst h;show o+i*1=_;simp
theorem ade{ad:bm}(h:ad=bm.bU)(a b:Int):ad.aD .eql a b=decide (a=b):=(eF h).1 a b
theorem M0{ad:bm}(h:ad=bm.bU){a b:Nat}(hh:a≠b):ad.aD .eql (Int.ofNat a) (Int.ofNat b)=false:=by
 rw[(eF h).1];grind
theorem asc:aM 152 [.d (.list 1 [])] [] (.d (.list 1 [])) []:=by
 refine aDI.cn λad ae Q aV=> ?_;have t1:ad.aD .lss (Int.ofNat 0) 2=true:=ayX;have t2:ad.len []=0:=ax3;refine af ?_
 (subst ae;exact bZ aV axX axV)
def asd(C:List ah)(n k:Nat):ag:=cx [(0,.aN 0 0 n n 1),(3,.d (int (Int.ofNat k)))] [.box C]
def ase(C:List ah)(n k m i j:Nat):ag:=cx [(0,.aN 0 0 n n 1),(3,.d (int (Int.ofNat i))),(4,.aN 0 k m m 1),(5,.d (int (Int.ofNat j)))] [.box C]
structure sV(n m:Nat)(zs:List Int):Prop where
 len:zs.length=n
 all:km m zs
theorem sV.at{n m:Nat}{zs:List Int}(h:sV n m zs){i:Nat}(hi:i<n):gj m (zs.getD i 0)=true:=by
 have aI:=h.len;rw[aAL,aAj axW];exact h.all _ (aAl _)
theorem sV.lo{ad:bm}(ae:ad=bm.bU){zs:List Int}{C:List ah}{n m:Nat}(hC:C=bV zs)(h:sV n m zs){p:Nat}(hp:p<n):
  ∃x:Int,x=zs.getD p 0/\gj m x=true/\ad.hL p 1 C true=true/\ad.jS C p=.d (int x):=by
 have aI:=h.len;exact⟨_,rfl,h.at hp,rh ae ayN,by grind[GY]⟩
theorem sV.set{n m:Nat}{zs:List Int}(h:sV n m zs){i:Nat}{x:Int}(ak:gj m x=true):sV n m (zs.set i x):=⟨by grind[len],λz aO=>by
 rcases aB3 aO with aO|rfl
 .exact h.all z aO
 omega⟩
structure ou(z zs:List Int)(i e:Nat):Prop where
 t:∀p,e<=p+1->zs.getD p 0=z.getD p 0
 a:∀x∈z,x∈zs.take i\/x∈z.drop e
 b:∀x∈zs.take i,x∈z
 l:z.getD (e-1) 0∈zs.take i
theorem adf{z:List Int}{e:Nat}(h:e<z.length):z.drop e=z.getD e 0::z.drop (e+1)/\z.getD e 0∈z:=by
 rw[aAL,aAj h];exact⟨aBg h,aAl h⟩
theorem ou.skip{z zs:List Int}{i e:Nat}(h:ou z zs i e)(he:e<z.length)(ak:z.getD e 0=z.getD (e-1) 0):ou z zs i (e+1):=by
 obtain⟨t,a,b,l⟩:=h;have:=adf he;exact⟨λp hp=>t p axW,λx ak=>axZ,b,axZ⟩
theorem ou.init{z:List Int}{k:Nat}(wb:1<=k)(aq:k<z.length)(ak:z.getD k 0=z.getD (k-1) 0):ou z z k (k+1):=
 ou.skip ⟨λ_ _=>rfl,λx h=>by rw[<-aAT,aCq];exact h,λx h=>List.mem_of_mem_take h,by
  rw[aAL,aAj axW];exact List.mem_take_iff_getElem.2 ⟨k-1,axW,rfl⟩⟩ aq ak
theorem ou.put{z zs:List Int}{i e:Nat}(h:ou z zs i e)(he:e<z.length)(aI:zs.length=z.length)(hi:i<e):ou z (zs.set i (z.getD e 0)) (i+1) (e+1):=by
 obtain⟨t,a,b,l⟩:=h;have:=adf he;have sh:(zs.set i (z.getD e 0)).take (i+1)=zs.take i++[z.getD e 0]:=by
  rw[aA9,List.take_set_of_le (aAd _),aAW axW];rfl
 refine⟨λp hp=> ?_,?_,?_,?_⟩
 .rw[<-t p axW,aAL,aAQ axW,aAL]
 all_goals grind
theorem ou.fin{z zs:List Int}{i e:Nat}(h:ou z zs i e)(he:z.length<=e)(x:Int):x∈zs.take i↔x∈z:=by
 have:=h.a;have:=h.b;rw[aBr he]at*;grind
theorem asf(n m:Nat)(zs:List Int)(aO:sV n m zs)(wb:0<n)(ay:n<=1073741824):∃res:List Int,(res.length<=n/\km m res/\∀x,x∈res↔x∈zs)/\aM 152 [.aN 0 0 n n 1] [.box (bV zs)] (.d (.list 1 (res.map int))) [.dead]:=by
 refine fK ?_;refine aDI.jt [0] _ λad ae K ao=> ?_;obtain⟨b',cr,dE⟩:=MW ae;have adg:=ao (.d (.list 1 (zs.map int))) [.dead] ⟨zs,⟨by rw[aO.len];simp,aO.all,λ_=>Iff.rfl⟩,rfl,rfl⟩;have r1:=aO.len;have de:=ac6 ae zs aO.len;obtain⟨d1,d2,d3⟩:=br.of ae (et zs);generalize zs.map int=Z at adg de;generalize hC:bV zs=C at*;replace hC:=hC.symm;have t0:ad.aD .lss (Int.ofNat n) 2=decide (n<2):=by
  rw[(eF ae).2.1];grind
 by_cases sh:n<2
 .rw[aAk sh]at t0;refine af ?_;simp_all
 rw[aAK sh]at t0;refine af ?_;clear t0;refine⟨bX (λk:Nat=>asd C n k) (λk=>1<=k) (λk=>n-k),_,⟨1,aAd _,rfl,axV⟩,?_⟩;rintro _ _ ⟨k,aq,rfl,rfl⟩;replace aq:1<=k:=aq;by_cases aA:k<n
 .have t1:=eT ae aA;obtain⟨ji,qK⟩:∃ji,k=ji+1:=⟨k-1,axW⟩;have t2:=uq ae qK axW;have t3:=cd ae (n:=k) axW;obtain⟨x,ex,ak,gE,gW⟩:=aO.lo ae hC aA;obtain⟨y,yg,wa,v1,v2⟩:=aO.lo ae hC (p:=ji) axW;have gd:ad.er 1 1 (Int.ofNat k) n=true:=fT ae aA;have v3:ad.er 1 1 (Int.ofNat ji) n=true:=fT ae axW;have hK:=lg ae k;have v4:=lg ae ji;cases AN:ad.aD .eql x y with
  |false=>
   refine af ?_;exact ec (k+1) axX axW axV
  |true=>
   have wj:ou zs zs k (k+1):=ou.init aq axW (by rw[ade ae,ex,yg,qK]at AN;rw[qK];exact of_decide_eq_true AN);have w1:ad.pW true (Int.ofNat k) (Int.ofNat n) (Int.ofNat n) n=true:=ye ae axW (aAd _) (aAd _);have bW:=M0 ae (a:=k) (b:=n) axW;have fb:=uE ae n k;obtain⟨q,aS⟩:∃q,q=n-k:=⟨_,rfl⟩;rw[<-aS]at fb;refine af ?_;refine⟨bX (λz:(Nat×Nat)×List ah=>ase z.2 n k q z.1.1 z.1.2) (λz=>(1<=z.1.2/\z.1.1<k+z.1.2/\z.1.2<=q/\k<=z.1.1)/\∃eC,z.2=bV eC/\sV n m eC/\ou zs eC z.1.1 (k+z.1.2)) (λz=>q-z.1.2),_,⟨((k,1),C),⟨⟨aAd _,axX,axZ,aAd _⟩,zs,hC,aO,wj⟩,rfl,axV⟩,?_⟩;clear d1 d2 d3 gE gW gd hK v1 v2 v3 v4 AN t1 t2 t3 de adg w1 bW fb hC aO ak wa ex yg x y wj;rintro _ _ ⟨⟨⟨i,j⟩,C⟩,⟨⟨aK,eP,qh,za⟩,zs,hC,aO,wj⟩,rfl,rfl⟩;dsimp only at aK eP qh za hC wj⊢;obtain⟨d1,d2,d3⟩:=br.of ae (et zs);rw[<-hC]at d1 d2 d3;by_cases fF:j<q
   .have t1:=eT ae fF;obtain⟨uG,G2⟩:∃uG,j=uG+1:=⟨j-1,axW⟩;have t2:=uq ae G2 axW;have t3:=cd ae (n:=j) axW;have t4:=cd ae (n:=i) axW;obtain⟨x,ex,ak,gE,gW⟩:=aO.lo ae hC (p:=k+j) axW;obtain⟨y,yg,wa,v1,v2⟩:=aO.lo ae hC (p:=k+uG) axW;have gd:ad.er 1 1 (Int.ofNat j) q=true:=fT ae fF;have v3:ad.er 1 1 (Int.ofNat uG) q=true:=fT ae axW;have hK:=adb ae k j;have v4:=adb ae k uG;have fb:ad.er 1 1 (Int.ofNat i) n=true:=fT ae axW;have jP:=lg ae i;have aI:=aO.len;have oc:ad.mR true i 1 C true=true:=vZ ae ayN;have B9:ad.lC C i [.d (int x)]=some (bV (zs.set i x)):=by grind[sR,AG]
    have dR:=aO.set (i:=i) ak;obtain⟨g1,g2,g3⟩:=br.of ae (et (zs.set i x));rw[wj.t _ axW]at ex yg;have adh:=λh=>wj.skip axW (show _=_ from h);have N9:=wj.put axW axW eP;rw[show k+j-1=k+uG by omega,<-ex,<-yg]at adh;rw[<-ex]at N9;generalize zs.set i x=dK at*;generalize gi:bV dK=d' at*;generalize axg:k+j=p at*;generalize k+uG=aDj at*;cases AN:ad.aD .neq x y with
    |false=>
     refine af ?_;exact fixF ((i,j+1),C) ⟨⟨axX,axZ,fF,za⟩,zs,hC,aO,by have:=adh (by subst ae;replace AN:(!decide (x=y))=false:=AN;simpa using AN);grind⟩
    |true=>
     refine af ?_;exact fixF ((i+1,j+1),d') ⟨⟨axX,axZ,fF,axZ⟩,dK,gi.symm,dR,axZ⟩
   .have t1:=eY ae fF;have dw:i<n:=axW;have gE:ad.pW true (Int.ofNat i) (Int.ofNat n) (Int.ofNat n) n=true:=ye ae axW (aAd _) (aAd _);have gW:=M0 ae (a:=i) (b:=n) axW;have gd:=lg ae i;have hK:=uE ae n i;obtain⟨r,ax⟩:∃r,r=n-i:=⟨_,rfl⟩;rw[<-ax]at hK;have aI:=aO.len;have gY:ad.zU true i r 1 C=true:=acG ae ayN;have kJ:ad.zV C i r [.d (int 0)]=some (bV (zs.take i++List.replicate r 0)):=by
     have h1:ad.zV C i r [.d (int 0)]=some (putCells C i (List.replicate r [ah.d (int 0)]).flatten):=ax3;have sh:(List.replicate r [ah.d (int 0)]).flatten=List.replicate r (ah.d (int 0)):=axX;grind[MG,bV,List.drop_eq_nil_of_le,List.map_take,List.map_replicate]
    have jm:(zs.take i++List.replicate r (0:Int)).length=n:=axZ;have lf:(zs.take i++List.replicate r (0:Int)).take i=zs.take i:=axZ;have de:=asb ae (zs.take i++List.replicate r (0:Int)) jm (i:=i) axW;rw[lf]at de;have fg:=ao (.d (.list 1 ((zs.take i).map int))) [.dead] ⟨zs.take i,⟨axZ,λz gw=>aO.all z (List.mem_of_mem_take gw),wj.fin axW⟩,rfl,rfl⟩;obtain⟨g1,g2,g3⟩:=br.of ae (et (zs.take i++List.replicate r 0));generalize (zs.take i).map int=Z at*;generalize bV (zs.take i++List.replicate r (0:Int))=d' at*;have v1:ad.pW true 0 (Int.ofNat i) (Int.ofNat n) n=true:=ye (l:=0) ae axW axW (aAd _);have v2:ad.aD .eql 0 (Int.ofNat n)=false:=M0 ae (a:=0) (b:=n) axW;have v3:ad.l9 0 0 1=0:=lg ae 0;have v4:ad.ns (Int.ofNat i) 0=i:=uE ae i 0;have v5:ad.ns (Int.ofNat n) 0=n:=uE ae n 0;refine af ?_;simp_all
 .have t1:=eY ae aA;refine af ?_;simp_all
theorem asg{ad:bm}(h:ad=bm.bU){a b:Int}(h1: -9223372036854775808<=a-b)(sh:a-b<=9223372036854775807):ad.io .sub .i64 a b=a-b:=by
 subst h;show IntKind.wrap .i64 (a-b)=_;have av:(2:Int)^(64-1)=9223372036854775808:=ax0;have aW:(2:Int)^64=18446744073709551616:=ax0;simp only[IntKind.wrap,IntKind.signed,IntKind.bits,av,aW,aB',aAi];split<;>omega
def pd:List Int->Nat
 |[]=>0
 |v::l=>(if 1<=v then 1 else 0)+pd l
theorem adi:∀l:List Int,pd l<=l.length
 |[]=>aAd _
 |v::l=>by
  show(if 1<=v then 1 else 0)+pd l<=l.length+1;have:=adi l;split<;>omega
theorem adj:∀(l:List Int) (i:Nat) (x:Int),i<l.length->pd (l.set i x)+(if 1<=l.getD i 0 then 1 else 0)=pd l+(if 1<=x then 1 else 0)
 |v::l,0,x,_=>by
  show((if 1<=x then 1 else 0)+pd l)+(if 1<=v then 1 else 0)=((if 1<=v then 1 else 0)+pd l)+(if 1<=x then 1 else 0);omega
 |v::l,i+1,x,h=>by
  have ih:=adj l i x (aC8 h);show((if 1<=v then 1 else 0)+pd (l.set i x))+(if 1<=l.getD i 0 then 1 else 0)=((if 1<=v then 1 else 0)+pd l)+(if 1<=x then 1 else 0);omega
structure nf(n S lo:Nat)(left R:List Int):Prop where
 len:left.length=n
 all:km n R
 low:∀v∈left,-(Int.ofNat lo)<=v/\v<=1099511627776
 sum:pd left+R.length=S
theorem nf.at{n S lo:Nat}{left R:List Int}(h:nf n S lo left R){i:Nat}(hi:i<n): -(Int.ofNat lo)<=left.getD i 0/\left.getD i 0<=1099511627776:=by
 have aI:=h.len;rw[aAL,aAj axW];exact h.low _ (aAl _)
theorem nf.mono{n S lo oI:Nat}{left R:List Int}(h:nf n S lo left R)(aI:lo<=oI):nf n S oI left R:=⟨h.len,h.all,λv hv=>by
 have:=h.low v hv;simp only[aAh]at*;omega,h.sum⟩
theorem nf.dec{n S lo:Nat}{left R:List Int}(h:nf n S lo left R){i:Nat}(hi:i<n){R2:List Int}(ch:km n R2)(hs:(left.getD i 0=1/\R2.length=R.length+1)\/(left.getD i 0≠1/\R2.length=R.length)):nf n S (lo+1) (left.set i (left.getD i 0-1)) R2:=by
 have aI:=h.len;have jH:=h.at hi;have az:=adj left i (left.getD i 0-1) axW;have axh:=h.sum;refine⟨azA,ch,λv hv=> ?_,?_⟩
 .rcases aB3 hv with hv|rfl
  .have:=h.low v hv;simp only[aAh]at*;omega
  .simp only[aAh]at*;omega
 .generalize left.getD i 0=v at*;rcases hs with⟨h1,sh⟩|⟨h1,sh⟩
  .subst h1;rw[aAD ax0,aAG ax0]at az;omega
  .have:(if 1<=v-1 then 1 else 0)=(if 1<=v then 1 else 0:Nat):=by
    by_cases hv:1<=v
    .rw[aAD hv,aAD axW]
    .rw[aAG hv,aAG axW]
   rw[this]at az;omega
structure ov(n:Nat)(N:List ah):Prop where
 len:N.length=n
 flat:Flat N
 get:∀i,i<n->∃l:List Int,(km n l/\l.length<=1073741824)/\snap (N.getD i .undef)=.d (.list 1 (l.map int))
theorem ov.lo{ad:bm}(ae:ad=bm.bU){n:Nat}{N:List ah}(h:ov n N){i:Nat}(hi:i<n):∃l:List Int,(km n l/\l.length<=1073741824)/\ad.er 1 1 (Int.ofNat i) n=true/\ad.l9 0 (Int.ofNat i) 1=i/\ad.hL i 1 N true=true/\ad.jS N i=.d (.list 1 (l.map int)):=by
 obtain⟨l,aI,aC⟩:=h.get i hi;exact⟨l,aI,fT ae hi,lg ae i,rh ae (by rw[h.len];exact hi),by subst ae;exact aC⟩
theorem Dx{ad:bm}(ae:ad=bm.bU){zs:List Int}{C:List ah}{n:Nat}(hC:C=bV zs)(aI:zs.length=n){p:Nat}(hp:p<n):
  ad.er 1 1 (Int.ofNat p) n=true/\ad.l9 0 (Int.ofNat p) 1=p/\ad.hL p 1 C true=true/\ad.mR true p 1 C true=true/\ad.jS C p=.d (int (zs.getD p 0)):=
 ⟨fT ae hp,lg ae p,rh ae (by rw[hC,pb];omega),vZ ae (by rw[hC,pb];omega),by rw[hC];exact GY ae axW⟩
def ash(N M D L:List ah)(n i:Nat)(R:List Go.aH.D):ag:=cx [(0,.ptr 0 0),(3,.own 1 R),(4,.aN 4 0 n n 1),(20,.aN 1 0 n n 1),(21,.d (int (Int.ofNat n))),(22,.d (int (Int.ofNat i)))] [.box (cR 1 2 3 n),.box N,.box M,.box D,.box L]
def asi(N M D L:List ah)(n k:Nat)(R:List Go.aH.D):ag:=cx [(0,.ptr 0 0),(3,.own 1 R),(4,.aN 4 0 n n 1),(7,.d (int (Int.ofNat k)))] [.box (cR 1 2 3 n),.box N,.box M,.box D,.box L]
def M1(N M D L:List ah)(n k:Nat)(R:List Go.aH.D)(d:Nat)(B:List Go.aH.D)(b j:Nat):ag:=cx [(0,.ptr 0 0),(3,.own 1 R),(4,.aN 4 0 n n 1),(7,.d (int (Int.ofNat k))),(8,.d (int (Int.ofNat d))),(56,.d (.list 1 B)),(57,.d (int (Int.ofNat b))),(58,.d (int (Int.ofNat j)))] [.box (cR 1 2 3 n),.box N,.box M,.box D,.box L]
set_option maxHeartbeats 20000000 in
theorem asj{N M:List ah}(n:Nat)(ay:n<=1024)(b3:ov n N)(b7:ov n M)(ds:List Int)(aY:ds.length=n):∃(b:Bool) (yo:List Int),yo.length=n/\aM 155 [.ptr 0 0] [.box (cR 1 2 3 n),.box N,.box M,.box (bV ds)] (.d (.bool b)) [.box (cR 1 2 3 n),.box N,.box M,.box (bV yo)]:=by
 suffices h:∃r s',(∃(b:Bool) (yo:List Int),yo.length=n/\r=.d (.bool b)/\s'=[.box (cR 1 2 3 n),.box N,.box M,.box (bV yo)])/\aM 155 [.ptr 0 0] [.box (cR 1 2 3 n),.box N,.box M,.box (bV ds)] r s' by
  obtain⟨_,_,⟨b,yo,h1,rfl,rfl⟩,h⟩:=h;exact⟨b,yo,h1,h⟩
 refine Ul.jt [1,2,3,4] _ λad ae K ao=> ?_;obtain⟨bw,a2,a3⟩:=br.of ae b3.flat;obtain⟨bJ,a6,cq⟩:=br.of ae b7.flat;obtain⟨c1,c2,c3⟩:=br.of ae (et ds);obtain⟨d1,d2,d3⟩:=br.of ae (et (List.replicate n 0));have de:ad.vG (Int.ofNat n) 137438953472=true:=by
  subst ae;show(decide ((0:Int)<=Int.ofNat n)&&decide (Int.ofNat n<=137438953472))=true;simp only[aAh,aAc,aAi];omega
 have dp:ad.xK n [.d (int 0)]=some (bV (List.replicate n 0)):=by
  subst ae;show some (List.replicate n [ah.d (int 0)]).flatten=_;congr 1;unfold bV;rw[List.map_replicate];simp
 have fm:∃left:List Int,bV (List.replicate n 0)=bV left/\left.length=n/\∀v∈left,0<=v/\v<=1099511627776:=⟨_,rfl,aDc,λv hv=>by rw[(List.mem_replicate.1 hv).2];decide⟩;unfold cR at*;generalize bV (List.replicate n 0)=C at*;generalize cv:bV ds=D at*;replace cv:=cv.symm;refine af ?_;refine⟨bX (λz:Nat×List Go.aH.D×List ah=>ash N M D z.2.2 n z.1 z.2.1) (λz=>(∃R:List Int,z.2.1=R.map int/\km n R/\R.length<=z.1)/\z.1<=n/\∃left:List Int,z.2.2=bV left/\left.length=n/\∀v∈left,0<=v/\v<=1099511627776) (λz=>n-z.1),_,⟨(0,[],C),⟨⟨[],rfl,λ_ h=>(aAO h).elim,aAd _⟩,aAa _,fm⟩,rfl,axV⟩,?_⟩;clear de dp d1 d2 d3 fm;rintro _ _ ⟨⟨i,R,C⟩,⟨⟨rs,ch,uI,sW⟩,dw,left,hC,aI,qf⟩,rfl,rfl⟩;dsimp only at ch sW dw hC⊢;obtain⟨d1,d2,d3⟩:=br.of ae (et left);rw[<-hC]at d1 d2 d3;have Dy:R.length=rs.length:=by rw[ch,aAb]
 by_cases aA:i<n
 .have t1:=eT ae aA;have t6:=cd ae (n:=i) axW;obtain⟨l,⟨_,oK⟩,gE,gW,gd,hK⟩:=b3.lo ae aA;have wk:(l.map int).length=l.length:=aAb _;generalize l.map int=L at*;obtain⟨v1,v2,v3,v4,_⟩:=Dx ae hC aI aA;have t2:ad.len L=l.length:=by subst ae;exact wk
  have t3:ad.aD .eql (Int.ofNat l.length) 0=decide (l.length=0):=by
   rw[(eF ae).1];by_cases e:l.length=0
   .rw[aAk e,e];rfl
   .rw[aAK e];exact aAK λx=>e (aCP x)
  have v5:ad.lC C i [.d (int (Int.ofNat l.length))]=some (bV (left.set i (Int.ofNat l.length))):=by rw[sR ae,hC,AG]
  have jm:(left.set i (Int.ofNat l.length)).length=n:=azA;have adk:∀v∈left.set i (Int.ofNat l.length),0<=v/\v<=1099511627776:=λv hv=>by
   rcases aB3 hv with hv|rfl
   .exact qf v hv
   .simp only[aAh];omega
  obtain⟨w1,bW,fb⟩:=br.of ae (et (left.set i (Int.ofNat l.length)));generalize left.set i (Int.ofNat l.length)=yp at*;generalize gi:bV yp=d' at*;generalize l.length=q at*;cases aS:decide (q=0)with
  |true=>
   rw[aS]at t3;have qE:gj n (Int.ofNat i)=true:=by unfold gj;rw[aAc];exact⟨aAk (aCu _),aAk (aBF.2 aA)⟩
   refine af ?_
   all_goals exact ec (i+1,ad.app R [int (Int.ofNat i)],d') ⟨⟨rs++[Int.ofNat i],azB,λz aO=>by
    rcases aAT.1 aO with aO|aO
    .exact uI z aO
    .rw[aAF.1 aO];exact qE,by show(rs++[_]).length<=i+1;rw[aAA];show rs.length+1<=_;omega⟩,aA,yp,gi.symm,jm,adk⟩ (by show n-(i+1)<n-i;omega) axV
  |false=>
   rw[aS]at t3;refine af ?_;exact ec (i+1,R,d') ⟨⟨rs,ch,uI,by show rs.length<=i+1;omega⟩,aA,yp,gi.symm,jm,adk⟩ (by show n-(i+1)<n-i;omega) axV
 have t1:=eY ae aA;refine af ?_;clear t1 aA b3;have yq:nf n (pd left+rs.length) 0 left rs:=⟨aI,uI,λv hv=>by have:=qf v hv;simp only[aAh];omega,rfl⟩;have ey:pd left+rs.length<=2048:=by have:=adi left;omega
 generalize pd left+rs.length=S at*;refine⟨bX (λz:Nat×List Go.aH.D×List ah×List ah=>asi N M z.2.2.1 z.2.2.2 n z.1 z.2.1) (λz=>∃rs left ds:List Int,(z.2.1=rs.map int/\z.2.2.1=bV ds/\z.2.2.2=bV left)/\ds.length=n/\nf n S (z.1*1073741824) left rs/\z.1<=rs.length) (λz=>S-z.1),_,⟨(0,R,D,C),⟨rs,left,ds,⟨ch,cv,hC⟩,aY,by show nf n S (0*1073741824) _ _;rw[aBy];exact yq,aAa _⟩,rfl,axV⟩,?_⟩;clear yq hC cv ch aY aI qf uI Dy sW d1 d2 d3 c1 c2 c3;rintro _ _ ⟨⟨k,R,D,C⟩,⟨rs,left,ds,⟨ch,cv,hC⟩,aY,hm,aq⟩,rfl,rfl⟩;dsimp only at ch cv hC hm aq⊢;obtain⟨c1,c2,c3⟩:=br.of ae (et ds);rw[<-cv]at c1 c2 c3;obtain⟨d1,d2,d3⟩:=br.of ae (et left);rw[<-hC]at d1 d2 d3;have Dy:R.length=rs.length:=by rw[ch,aAb]
 obtain⟨q,aS⟩:∃q,q=rs.length:=⟨_,rfl⟩;have t0:ad.len R=q:=by subst ae;exact Dy.trans aS.symm
 have adl:rs.length<=S:=by have:=hm.sum;omega
 by_cases aA:k<q
 .have t1:=eT ae aA;replace aA:k<rs.length:=by omega
  obtain⟨d,yr,G5⟩:=wh (hm.all _ (aAl aA));have t3:ad.get R (Int.ofNat k)=int (Int.ofNat d):=cz ae (by rw[ch];rw[<-G5];exact c7 aA);have t6:=cd ae (n:=k) axW;obtain⟨l,⟨jE,oK⟩,gE,gW,gd,hK⟩:=b7.lo ae yr;have wk:(l.map int).length=l.length:=aAb _;have bY:∀i (h:i<l.length),(l.map int)[i]?=some (int l[i]):=λi h=>c7 h;generalize l.map int=L at*;obtain⟨g,aC⟩:∃q,q=l.length:=⟨_,rfl⟩;have t2:ad.len L=g:=by subst ae;exact wk.trans aC.symm
  refine af ?_;refine⟨bX (λz:Nat×List Go.aH.D×List ah×List ah=>M1 N M z.2.2.1 z.2.2.2 n k z.2.1 d L g z.1) (λz=>∃rs left ds:List Int,(z.2.1=rs.map int/\z.2.2.1=bV ds/\z.2.2.2=bV left)/\ds.length=n/\nf n S (k*1073741824+z.1) left rs/\k<rs.length/\z.1<=l.length) (λz=>l.length-z.1),_,⟨(0,R,D,C),⟨rs,left,ds,⟨ch,cv,hC⟩,aY,by show nf n S (k*1073741824+0) left rs;rw[aAS];exact hm,aA,aAa _⟩,rfl,axV⟩,?_⟩;clear t0 t1 t2 t3 gE gW gd hK ch cv hC aY hm aq aA Dy aS c1 c2 c3 d1 d2 d3 G5 adl;rintro _ _ ⟨⟨j,R,D,C⟩,⟨rs,left,ds,⟨ch,cv,hC⟩,aY,hm,aq,aK⟩,rfl,rfl⟩;dsimp only at ch cv hC hm aK⊢;obtain⟨c1,c2,c3⟩:=br.of ae (et ds);rw[<-cv]at c1 c2 c3;obtain⟨d1,d2,d3⟩:=br.of ae (et left);rw[<-hC]at d1 d2 d3;have Dy:R.length=rs.length:=by rw[ch,aAb]
  have adl:rs.length<=S:=by have:=hm.sum;omega
  by_cases aA:j<g
  .have t1:=eT ae aA;replace aA:j<l.length:=by omega
   have t2:=cd ae (n:=j) axW;obtain⟨i,dw,n2⟩:=wh (jE _ (aAl aA));have t3:ad.get L (Int.ofNat j)=int (Int.ofNat i):=cz ae (by rw[bY j aA,n2]);have aI:=hm.len;obtain⟨gE,gW,gd,hK,gY⟩:=Dx ae cv aY dw;obtain⟨v1,v2,v3,v4,v5⟩:=Dx ae cv aY yr;obtain⟨w1,bW,fb,jP,oc⟩:=Dx ae hC aI dw;obtain⟨y,u8⟩:∃y,ad.io .add .i64 (ds.getD d 0) 1=y:=⟨_,rfl⟩;have jH:=hm.at dw;have axi:k*1073741824<=2048*1073741824:=aAV _ axW;have b':ad.io .sub .i64 (left.getD i 0) 1=left.getD i 0-1:=asg ae (by simp only[aAh]at jH;omega) axW;have cr:ad.lC C i [.d (int (left.getD i 0-1))]=some (bV (left.set i (left.getD i 0-1))):=by rw[sR ae,hC,AG]
   have jm:(left.set i (left.getD i 0-1)).length=n:=azA;obtain⟨_,_,dE,_,nA⟩:=Dx ae rfl jm dw;have xk:(left.set i (left.getD i 0-1)).getD i 0=left.getD i 0-1:=by rw[aAL,aAW axW];rfl
   rw[xk]at nA;have qE:gj n (Int.ofNat i)=true:=by unfold gj;rw[aAc];exact⟨aAk (aCu _),aAk (aBF.2 dw)⟩
   obtain⟨g1,g2,g3⟩:=br.of ae (et (left.set i (left.getD i 0-1)));have asl:=λR2 ng hs=>hm.dec dw (R2:=R2) ng hs;have tK:=ade ae (left.getD i 0-1) 0;have j6:(left.getD i 0-1=0)↔left.getD i 0=1:=axW;have qF:∀z:Int,∃iN:List Int,iN.length=n/\ad.lC D i [.d (int z)]=some (bV iN):=λz=>⟨ds.set i z,by rw[aBm];exact aY,by rw[sR ae,cv,AG]⟩;have uI:=hm.all;clear hm xk;generalize left.set i (left.getD i 0-1)=yp at*;generalize gi:bV yp=d' at*;generalize left.getD i 0-1=adn at*;have key:∀z:Int,ad.aD .lss (ds.getD i 0) y=true/\z=y\/ad.aD .lss (ds.getD i 0) y=false/\z=ds.getD i 0->∃iN:List Int,iN.length=n/\ad.lC D i [.d (int z)]=some (bV iN):=λz _=>qF z;generalize ds.getD i 0=p at*;generalize ds.getD d 0=eb at*;generalize left.getD i 0=v0 at*;have fg:∀(R2:List Go.aH.D) (uJ iN:List Int) (rm:List ah),R2=uJ.map int->rm=bV iN->iN.length=n->km n uJ->((v0=1/\uJ.length=rs.length+1)\/(v0≠1/\uJ.length=rs.length))->∀{st:ag},st=M1 N M rm d' n k R2 d L g (j+1)->∃m,m<l.length-j/\bX (λz:Nat×List Go.aH.D×List ah×List ah=>M1 N M z.2.2.1 z.2.2.2 n k z.2.1 d L g z.1) (λz=>∃rs left ds:List Int,(z.2.1=rs.map int/\z.2.2.1=bV ds/\z.2.2.2=bV left)/\ds.length=n/\nf n S (k*1073741824+z.1) left rs/\k<rs.length/\z.1<=l.length) (λz=>l.length-z.1) m st:=λR2 uJ iN rm h1 sh av aW bL _ h=>ec (j+1,R2,rm,d') ⟨uJ,yp,iN,⟨h1,sh,gi.symm⟩,av,by show nf n S (k*1073741824+(j+1)) yp uJ;rw[<-aB4];exact asl uJ aW bL,by show k<uJ.length;omega,aA⟩ (by show l.length-(j+1)<l.length-j;omega) h;clear key;cases AN:ad.aD .lss p y with
   |true=>
    obtain⟨iN,nC,K6⟩:=qF (y);obtain⟨aj,aF,aZ⟩:=br.of ae (et iN);generalize rq:bV iN=rm at*;replace rq:=rq.symm;by_cases wb:adn=0
    .rw[aAk wb]at tK;refine af ?_
     all_goals exact fg (ad.app R [int (Int.ofNat i)]) (rs++[Int.ofNat i]) iN rm azB rq nC (λz aO=>by
      rcases aAT.1 aO with aO|aO
      .exact uI z aO
      .rw[aAF.1 aO];exact qE) (.inl ⟨j6.1 wb,by rw[aAA];rfl⟩) axV
    .rw[aAK wb]at tK;refine af ?_;exact fg R rs iN rm ch rq nC uI (.inr ⟨λh=>wb (j6.2 h),rfl⟩) axV
   |false=>
    obtain⟨iN,nC,K6⟩:=qF (p);obtain⟨aj,aF,aZ⟩:=br.of ae (et iN);generalize rq:bV iN=rm at*;replace rq:=rq.symm;by_cases wb:adn=0
    .rw[aAk wb]at tK;refine af ?_
     all_goals exact fg (ad.app R [int (Int.ofNat i)]) (rs++[Int.ofNat i]) iN rm azB rq nC (λz aO=>by
      rcases aAT.1 aO with aO|aO
      .exact uI z aO
      .rw[aAF.1 aO];exact qE) (.inl ⟨j6.1 wb,by rw[aAA];rfl⟩) axV
    .rw[aAK wb]at tK;refine af ?_;exact fg R rs iN rm ch rq nC uI (.inr ⟨λh=>wb (j6.2 h),rfl⟩) axV
  .have t1:=eY ae aA;have kW:nf n S ((k+1)*1073741824) left rs:=hm.mono axW;refine af ?_;exact ec (k+1,R,D,C) ⟨rs,left,ds,⟨ch,cv,hC⟩,aY,kW,aq⟩ (by show S-(k+1)<S-k;omega) axV
 .have t1:=eY ae aA;obtain⟨b,jH⟩:∃b,ad.aD .eql (Int.ofNat k) (Int.ofNat n)=b:=⟨_,rfl⟩;replace ao:=λs h=>ao (.d (.bool b)) s ⟨b,ds,aY,rfl,h⟩;rw[<-cv]at ao;refine af ?_;exact ao _ axV
end Go.Proofs.YthffhbakgmemaaaGreatDoor
