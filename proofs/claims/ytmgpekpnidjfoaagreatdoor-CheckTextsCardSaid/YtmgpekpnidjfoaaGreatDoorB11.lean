/- Part of texts_said. -/
import Derived.Test.YtmgpekpnidjfoaaGreatDoorB10
set_option maxRecDepth 100000
set_option maxHeartbeats 8000000
set_option linter.unusedSimpArgs false
set_option linter.unusedVariables false
namespace Go.Proofs.YtmgpekpnidjfoaaGreatDoor
open Go Go.aJ
attribute [local irreducible] bM
def lC(zs:List Int):List fb:=zs.map λz=>fb.d (int z)
def pW:List Int->ag
 |[]=>.own 1 []
 |z::l=>.raw 1 (l.length+1) (lC (z::l))
theorem Mj{l:List Int}{n:Nat}(h:l.length=n+1):pW l=.raw 1 (n+1) (lC l):=by
 cases l with
 |nil=>cases h
 |cons z l=>rw[<-h];rfl
theorem aq8{ad:bn}(h:ad=bn.bY)(zs:List Int):ad.w7 (lC zs)=some (bZ zs):=by
 subst h;show some (ju (lC zs))=_;unfold ju lC bZ;rw[aBd];rfl
theorem aq9(L:List D):aM 141 [.d (.list 1 L)] [] (.func 180 [] [.ptr 0 0]) [.box [.d (.list 1 L)]]:=by
 refine WY.cw λad ae Q a8=> ?_;refine ai ?_;all_goals (subst ae;exact b5 a8 axt axr)
def Mk(L:List D)(k i:Nat)(v:ag):af:=cA [(0,.fT 2),(5,.d (.list 1 L)),(6,.d (int (Int.ofNat k))),(7,.d (int (Int.ofNat i)))] [.box [.d (.list 1 L)],.box [v],.dead]
theorem aq'(l:List Int)(aH:l.length<=1073741824):aM 205 [.own 1 [],.func 180 [] [.ptr 0 0]] [.box [.d (.list 1 (l.map int))]] (pW l) [.box [.d (.list 1 (l.map int))]]:=by
 have bF:(l.map int).length=l.length:=azG _;have cl:∀i (h:i<l.length),(l.map int)[i]?=some (int l[i]):=λi h=>dv h;generalize l.map int=L at*;refine Zj.cw λad ae Q a8=> ?_;refine ai ?_;refine⟨KF,TS,?_⟩;refine ai ?_;refine⟨b6 (λi=>Mk L (ad.len L) i (pW (l.take i))) (λi=>i<=l.length) (λi=>l.length-i),_,⟨0,azF _,rfl,axr⟩,?_⟩;rintro _ _ ⟨i,hi,rfl,rfl⟩;dsimp only at hi⊢;have ew:(l.take i).length=i:=axu;by_cases aB:i<l.length
 .have t1:ad.aF .lss (Int.ofNat i) (Int.ofNat (ad.len L))=true:=by simp_all[aI]
  have t3:=cV ae (cl i aB);have t6:=cv ae (n:=i) axs;have xK:l.take (i+1)=l.take i++[l[i]]:=axt;have du:ad.zj (lC (l.take i)) [fb.d (int l[i])]=some (lC (l.take (i+1))):=by subst ae;rw[xK];unfold lC;rw[az5];rfl
  have iZ:ad.lp i 1=i+1:=axz;have s7:ad.zk 1 1 i 1 17592186044416=true:=azv;have h2:pW (l.take (i+1))=.raw 1 (i+1) (lC (l.take (i+1))):=Mj axv;have bm:∀{st:af},st=Mk L (ad.len L) (i+1) (pW (l.take (i+1)))->∃m,m<l.length-i/\b6 (λi=>Mk L (ad.len L) i (pW (l.take i))) (λi=>i<=l.length) (λi=>l.length-i) m st:=λh=>eb (i+1) aB axs h;rw[h2]at bm;cases i with
  |zero=>
   have h0:lC (l.take 1)=[fb.d (int l[0])]:=by rw[xK];rfl
   rw[h0]at bm;clear du h2 xK h0 ew;generalize l[0]=x at*;rw[show pW (List.take 0 l)=.own 1 []from rfl];refine ai ?_;repeat' (split<;>refine ai ?_)
   all_goals exact bm axr
  |succ k=>
   have h0:pW (l.take (k+1))=.raw 1 (k+1) (lC (l.take (k+1))):=Mj ew;rw[h0];clear h0 h2 ew xK hi;generalize l[k+1]=x at*;generalize lC (l.take (k+1+1))=R2 at*;generalize lC (l.take (k+1))=aci at*;generalize hf:k+1+1=cz at*;generalize k+1=bN at*;refine ai ?_;repeat' (split<;>refine ai ?_)
   all_goals exact bm axr
 .have t1:ad.aF .lss (Int.ofNat i) (Int.ofNat (ad.len L))=false:=by simp_all[aI]
  have kT:i=l.length:=axs;have xK:l.take i=l:=aAP axs;rw[xK];clear ew xK cl;cases l with
  |nil=>
   rw[show pW []=.own 1 []from rfl]at a8⊢;refine ai ?_;repeat' (split<;>refine ai ?_)
   all_goals (subst ae;exact b5 a8 axt axr)
  |cons z l=>
   have h0:pW (z::l)=.raw 1 (l.length+1) (lC (z::l)):=rfl;rw[h0]at a8⊢;clear h0;generalize lC (z::l)=R at*;generalize au:l.length+1=k at*;refine ai ?_;repeat' (split<;>refine ai ?_)
   all_goals (subst ae;exact b5 a8 axt axr)
theorem acj(l:List Int)(aH:l.length<=1073741824):aM 178 [.func 180 [] [.ptr 0 0]] [.box [.d (.list 1 (l.map int))]] (pW l) [.box [.d (.list 1 (l.map int))]]:=by
 have aj:=aq' l aH;generalize l.map int=L at*;refine W9.cw λad ae Q a8=> ?_;cases l with
 |nil=>
  replace a8:Q (.own 1 []) _:=a8;replace aj:bM _ _ _ _ _ (.own 1 []) _:=aj;refine ai ?_;all_goals (subst ae;exact b5 a8 axt axr)
 |cons z l=>
  have h0:pW (z::l)=.raw 1 (l.length+1) (lC (z::l)):=rfl;rw[h0]at a8 aj;generalize lC (z::l)=R at*;generalize l.length+1=k at*;refine ai ?_;all_goals (subst ae;exact b5 a8 axt axr)
theorem ara(zs:List Int)(h:zs.length<=1073741824):∃eF:List Int,eF.Perm zs/\aM 179 [.aS 0 0 zs.length zs.length 1] [.box (bZ zs)] (.tuple []) [.box (bZ eF)]:=⟨_,List.mergeSort_perm _ _,akw ZI ZJ zs h⟩
theorem arb:aM 179 [.d (.list 1 [])] [] (.tuple []) []:=akx ZI ZJ
theorem arc:aM 140 [.func 180 [] [.ptr 0 0]] [.box [.d (.list 1 [])]] (.d (.list 1 [])) [.box [.d (.list 1 [])]]:=by
 have aj:=acj [] axw;have aD:=arb;replace aj:aM 178 [.func 180 [] [.ptr 0 0]] [.box [.d (.list 1 [])]] (.own 1 []) [.box [.d (.list 1 [])]]:=aj;refine K0.cw λad ae Q a8=> ?_;refine ai ?_;all_goals (subst ae;exact b5 a8 axt axr)
theorem ard(l:List Int)(n:Nat)(aH:l.length=n+1)(az:n<1073741824):∃zs:List Int,zs.Perm l/\aM 140 [.func 180 [] [.ptr 0 0]] [.box [.d (.list 1 (l.map int))]] (.aS 1 0 (n+1) (n+1) 1) [.box [.d (.list 1 (l.map int))],.box (bZ zs)]:=by
 have aj:=acj l axs;obtain⟨zs,hp,aD⟩:=ara l axs;refine⟨zs,hp,?_⟩;rw[aH]at aD;rw[Mj aH]at aj;refine K0.lq [1] λad ae Q a8=> ?_;have c8:=aq8 ae l;obtain⟨d1,d2,d3⟩:=bA.of ae (er l);obtain⟨w1,bS,dZ⟩:=bA.of ae (er zs);generalize l.map int=L at*;generalize lC l=R at*;generalize bZ l=C at*;generalize bZ zs=ea at*;generalize n+1=k at*;refine ai ?_;omega
theorem ack:∀zs:List Int,jr (bZ zs)=some (zs.map int)
 |[]=>rfl
 |z::l=>by
  show(match jr (bZ l)with|some xs=>some (int z::xs)|none=>none)=_;rw[ack l];rfl
theorem acm:∀l:List D,chunks 1 l.length l=l
 |[]=>rfl
 |x::l=>by show x::chunks 1 l.length l=_;rw[acm l]
theorem arf{ad:bn}(h:ad=bn.bY)(zs:List Int){n i:Nat}(az:zs.length=n)(hi:i<=n):ad.Ca 0 i n 1 (bZ zs)=some (.list 1 ((zs.take i).map int)):=by
 subst h;have h1:((bZ zs).drop 0).take (i*1)=bZ (zs.take i):=by simp_all[bZ]
 have h2:((zs.take i).map int).all jt=true:=azX.2 λx ak=>by obtain⟨z,_,rfl⟩:=aAn.1 ak;rfl
 have av:chunks 1 i ((zs.take i).map int)=(zs.take i).map int:=by
  have:=acm ((zs.take i).map int);simp_all
 show cond (Nat.ble i n&&Nat.blt 0 1&&Nat.ble (0+i*1) (bZ zs).length) (match jr (((bZ zs).drop 0).take (i*1))with
  |some l=>cond (l.all jt) (some (D.list 1 (chunks 1 i l))) none
  |none=>none) none=_
 rw[oR,aAy,aBU,aA4 hi,aA4 (show i<=zs.length by omega)];rw[aBU]at h1;rw[h1,ack];dsimp only;rw[h2,av];rfl
theorem acn{ad:bn}(h:ad=bn.bY)(o i:Nat):ad.lW o (Int.ofNat i) 1=o+i:=by
 subst h;show o+i*1=_;simp
theorem arh{ad:bn}(h:ad=bn.bY)(a b:Int):ad.aF .eql a b=decide (a=b):=(eX h).1 a b
theorem Ml{ad:bn}(h:ad=bn.bY){a b:Nat}(hh:a≠b):ad.aF .eql (Int.ofNat a) (Int.ofNat b)=false:=by
 rw[(eX h).1];grind
theorem ari:aM 139 [.d (.list 1 [])] [] (.d (.list 1 [])) []:=by
 refine KQ.cw λad ae Q a8=> ?_;have t1:ad.aF .lss (Int.ofNat 0) 2=true:=ayv;have t2:ad.len []=0:=axz;refine ai ?_;all_goals (subst ae;exact b5 a8 axt axr)
def arj(C:List ag)(n k:Nat):af:=cA [(0,.aS 0 0 n n 1),(3,.d (int (Int.ofNat k)))] [.box C]
def ark(C:List ag)(n k m i j:Nat):af:=cA [(0,.aS 0 0 n n 1),(3,.d (int (Int.ofNat i))),(4,.aS 0 k m m 1),(5,.d (int (Int.ofNat j)))] [.box C]
structure sq(n m:Nat)(zs:List Int):Prop where
 len:zs.length=n
 all:ka m zs
theorem sq.at{n m:Nat}{zs:List Int}(h:sq n m zs){i:Nat}(hi:i<n):gh m (zs.getD i 0)=true:=by
 have aH:=h.len;rw[aAo,azQ axs];exact h.all _ (azT _)
theorem sq.lo{ad:bn}(ae:ad=bn.bY){zs:List Int}{C:List ag}{n m:Nat}(hC:C=bZ zs)(h:sq n m zs){p:Nat}(hp:p<n):
  ∃x:Int,gh m x=true/\ad.ic p 1 C true=true/\ad.j4 C p=.d (int x):=by
 have aH:=h.len;exact⟨_,h.at hp,sj ae ayl,by grind[Gj]⟩
theorem sq.set{n m:Nat}{zs:List Int}(h:sq n m zs){i:Nat}{x:Int}(ak:gh m x=true):sq n m (zs.set i x):=⟨by grind[len],λz aQ=>by
 rcases aBr aQ with aQ|rfl
 .exact h.all z aQ
 omega⟩
theorem arl(n m:Nat)(zs:List Int)(aQ:sq n m zs)(h0:0<n)(az:n<=1073741824):∃res:List Int,(res.length<=n/\ka m res)/\aM 139 [.aS 0 0 n n 1] [.box (bZ zs)] (.d (.list 1 (res.map int))) [.dead]:=by
 refine fL ?_;refine KQ.jl [0] _ λad ae K ao=> ?_;obtain⟨b0,b7,c7⟩:=Mh ae;have aco:=ao (.d (.list 1 (zs.map int))) [.dead] ⟨zs,⟨by rw[aQ.len];simp,aQ.all⟩,rfl,rfl⟩;have cT:=acg ae zs aQ.len;obtain⟨d1,d2,d3⟩:=bA.of ae (er zs);generalize zs.map int=Z at aco cT;generalize hC:bZ zs=C at*;replace hC:=hC.symm;have t0:ad.aF .lss (Int.ofNat n) 2=decide (n<2):=by
  rw[(eX ae).2.1];grind
 by_cases h2:n<2
 .rw[azO h2]at t0;refine ai ?_;simp_all
 rw[aAg h2]at t0;refine ai ?_;repeat' (split<;>refine ai ?_)
 clear t0;refine⟨b6 (λk:Nat=>arj C n k) (λk=>1<=k) (λk=>n-k),_,⟨1,azI _,rfl,axr⟩,?_⟩;rintro _ _ ⟨k,au,rfl,rfl⟩;replace au:1<=k:=au;by_cases aB:k<n
 .have t1:=fS ae aB;obtain⟨jd,sX⟩:∃jd,k=jd+1:=⟨k-1,axs⟩;have t2:=tL ae sX axs;have t3:=cv ae (n:=k) axs;obtain⟨x,ak,gb,fR⟩:=aQ.lo ae hC aB;obtain⟨y,hy,v1,v2⟩:=aQ.lo ae hC (p:=jd) axs;have fp:ad.ez 1 1 (Int.ofNat k) n=true:=fZ ae aB;have v3:ad.ez 1 1 (Int.ofNat jd) n=true:=fZ ae axs;have gd:=lB ae k;have v4:=lB ae jd;cases p1:ad.aF .eql x y with
  |false=>
   refine ai ?_;repeat' (split<;>refine ai ?_)
   all_goals exact eb (k+1) axt axs axr
  |true=>
   have w1:ad.pE true (Int.ofNat k) (Int.ofNat n) (Int.ofNat n) n=true:=xC ae axs (azI _) (azI _);have bS:=Ml ae (a:=k) (b:=n) axs;have dZ:=tX ae n k;obtain⟨q,aT⟩:∃q,q=n-k:=⟨_,rfl⟩;rw[<-aT]at dZ;refine ai ?_;repeat' (split<;>refine ai ?_)
   refine⟨b6 (λz:(Nat×Nat)×List ag=>ark z.2 n k q z.1.1 z.1.2) (λz=>(1<=z.1.2/\z.1.1<k+z.1.2/\z.1.2<=q/\k<=z.1.1)/\∃eF,z.2=bZ eF/\sq n m eF) (λz=>q-z.1.2),_,⟨((k,1),C),⟨⟨azI _,axt,axv,azI _⟩,zs,hC,aQ⟩,rfl,axr⟩,?_⟩;clear d1 d2 d3 gb fR fp gd v1 v2 v3 v4 p1 t1 t2 t3 cT aco w1 bS dZ hC aQ ak hy x y;rintro _ _ ⟨⟨⟨i,j⟩,C⟩,⟨⟨aL,eQ,pX,yr⟩,zs,hC,aQ⟩,rfl,rfl⟩;dsimp only at aL eQ pX yr hC⊢;obtain⟨d1,d2,d3⟩:=bA.of ae (er zs);rw[<-hC]at d1 d2 d3;by_cases fE:j<q
   .have t1:=fS ae fE;obtain⟨vw,Gm⟩:∃vw,j=vw+1:=⟨j-1,axs⟩;have t2:=tL ae Gm axs;have t3:=cv ae (n:=j) axs;have t4:=cv ae (n:=i) axs;obtain⟨x,ak,gb,fR⟩:=aQ.lo ae hC (p:=k+j) axs;obtain⟨y,hy,v1,v2⟩:=aQ.lo ae hC (p:=k+vw) axs;have fp:ad.ez 1 1 (Int.ofNat j) q=true:=fZ ae fE;have v3:ad.ez 1 1 (Int.ofNat vw) q=true:=fZ ae axs;have gd:=acn ae k j;have v4:=acn ae k vw;have dZ:ad.ez 1 1 (Int.ofNat i) n=true:=fZ ae axs;have iP:=lB ae i;have aH:=aQ.len;have ku:ad.mB true i 1 C true=true:=vp ae ayl;have Bz:ad.ln C i [.d (int x)]=some (bZ (zs.set i x)):=by grind[sk,zY]
    have dW:=aQ.set (i:=i) ak;obtain⟨g1,g2,g3⟩:=bA.of ae (er (zs.set i x));generalize zs.set i x=dG at*;generalize gg:bZ dG=ea at*;generalize awP:k+j=p at*;generalize k+vw=p0 at*;cases p1:ad.aF .neq x y with
    |false=>
     refine ai ?_;repeat' (split<;>refine ai ?_)
     all_goals exact fixF ((i,j+1),C) ⟨⟨axt,axv,fE,yr⟩,zs,hC,aQ⟩
    |true=>
     refine ai ?_;repeat' (split<;>refine ai ?_)
     all_goals exact fixF ((i+1,j+1),ea) ⟨⟨axt,axv,fE,axv⟩,dG,gg.symm,dW⟩
   .have t1:=f' ae fE;have dM:i<n:=axs;have gb:ad.pE true (Int.ofNat i) (Int.ofNat n) (Int.ofNat n) n=true:=xC ae axs (azI _) (azI _);have fR:=Ml ae (a:=i) (b:=n) axs;have fp:=lB ae i;have gd:=tX ae n i;obtain⟨r,aw⟩:∃r,r=n-i:=⟨_,rfl⟩;rw[<-aw]at gd;have aH:=aQ.len;have gU:ad.zh true i r 1 C=true:=abR ae ayl;have kW:ad.zi C i r [.d (int 0)]=some (bZ (zs.take i++List.replicate r 0)):=by
     have h1:ad.zi C i r [.d (int 0)]=some (putCells C i (List.replicate r [ag.d (int 0)]).flatten):=axz;have h2:(List.replicate r [ag.d (int 0)]).flatten=List.replicate r (ag.d (int 0)):=axt;grind[L2,bZ,List.drop_eq_nil_of_le,List.map_take,List.map_replicate]
    have jh:(zs.take i++List.replicate r (0:Int)).length=n:=axv;have k1:(zs.take i++List.replicate r (0:Int)).take i=zs.take i:=axv;have cT:=arf ae (zs.take i++List.replicate r (0:Int)) jh (i:=i) axs;rw[k1]at cT;have fg:=ao (.d (.list 1 ((zs.take i).map int))) [.dead] ⟨zs.take i,⟨axv,λz gu=>aQ.all z (List.mem_of_mem_take gu)⟩,rfl,rfl⟩;obtain⟨g1,g2,g3⟩:=bA.of ae (er (zs.take i++List.replicate r 0));generalize (zs.take i).map int=Z at*;generalize bZ (zs.take i++List.replicate r (0:Int))=ea at*;have v1:ad.pE true 0 (Int.ofNat i) (Int.ofNat n) n=true:=xC (l:=0) ae axs axs (azI _);have v2:ad.aF .eql 0 (Int.ofNat n)=false:=Ml ae (a:=0) (b:=n) axs;have v3:ad.lW 0 0 1=0:=lB ae 0;have v4:ad.ns (Int.ofNat i) 0=i:=tX ae i 0;have v5:ad.ns (Int.ofNat n) 0=n:=tX ae n 0;refine ai ?_;simp_all
 .have t1:=f' ae aB;refine ai ?_;simp_all
theorem arn{ad:bn}(h:ad=bn.bY){a b:Int}(h1: -9223372036854775808<=a-b)(h2:a-b<=9223372036854775807):ad.io .sub .i64 a b=a-b:=by
 subst h;show IntKind.wrap .i64 (a-b)=_;have av:(2:Int)^(64-1)=9223372036854775808:=axw;have aZ:(2:Int)^64=18446744073709551616:=axw;simp only[IntKind.wrap,IntKind.signed,IntKind.bits,av,aZ,aBy,azN];split<;>omega
def oT:List Int->Nat
 |[]=>0
 |v::l=>(if 1<=v then 1 else 0)+oT l
theorem acp:∀l:List Int,oT l<=l.length
 |[]=>azI _
 |v::l=>by
  show(if 1<=v then 1 else 0)+oT l<=l.length+1;have:=acp l;split<;>omega
theorem acq:∀(l:List Int) (i:Nat) (x:Int),i<l.length->oT (l.set i x)+(if 1<=l.getD i 0 then 1 else 0)=oT l+(if 1<=x then 1 else 0)
 |v::l,0,x,_=>by
  show((if 1<=x then 1 else 0)+oT l)+(if 1<=v then 1 else 0)=((if 1<=v then 1 else 0)+oT l)+(if 1<=x then 1 else 0);omega
 |v::l,i+1,x,h=>by
  have ih:=acq l i x (aCB h);show((if 1<=v then 1 else 0)+oT (l.set i x))+(if 1<=l.getD i 0 then 1 else 0)=((if 1<=v then 1 else 0)+oT l)+(if 1<=x then 1 else 0);omega
structure mO(n S lo:Nat)(left R:List Int):Prop where
 len:left.length=n
 all:ka n R
 low:∀v∈left,-(Int.ofNat lo)<=v/\v<=1099511627776
 sum:oT left+R.length=S
theorem mO.at{n S lo:Nat}{left R:List Int}(h:mO n S lo left R){i:Nat}(hi:i<n): -(Int.ofNat lo)<=left.getD i 0/\left.getD i 0<=1099511627776:=by
 have aH:=h.len;rw[aAo,azQ axs];exact h.low _ (azT _)
theorem mO.mono{n S lo oj:Nat}{left R:List Int}(h:mO n S lo left R)(aH:lo<=oj):mO n S oj left R:=⟨h.len,h.all,λv hv=>by
 have:=h.low v hv;simp only[azM]at*;omega,h.sum⟩
theorem mO.dec{n S lo:Nat}{left R:List Int}(h:mO n S lo left R){i:Nat}(hi:i<n){R2:List Int}(cX:ka n R2)(hs:(left.getD i 0=1/\R2.length=R.length+1)\/(left.getD i 0≠1/\R2.length=R.length)):mO n S (lo+1) (left.set i (left.getD i 0-1)) R2:=by
 have aH:=h.len;have aq:=h.at hi;have ay:=acq left i (left.getD i 0-1) axs;have awQ:=h.sum;refine⟨ay8,cX,λv hv=> ?_,?_⟩
 .rcases aBr hv with hv|rfl
  .have:=h.low v hv;simp only[azM]at*;omega
  .simp only[azM]at*;omega
 .generalize left.getD i 0=v at*;rcases hs with⟨h1,h2⟩|⟨h1,h2⟩
  .subst h1;rw[aAa axw,aAc axw]at ay;omega
  .have:(if 1<=v-1 then 1 else 0)=(if 1<=v then 1 else 0:Nat):=by
    by_cases hv:1<=v
    .rw[aAa hv,aAa axs]
    .rw[aAc hv,aAc axs]
   rw[this]at ay;omega
structure n1(n:Nat)(N:List ag):Prop where
 len:N.length=n
 flat:Flat N
 get:∀i,i<n->∃l:List Int,(ka n l/\l.length<=1073741824)/\snap (N.getD i .undef)=.d (.list 1 (l.map int))
theorem n1.lo{ad:bn}(ae:ad=bn.bY){n:Nat}{N:List ag}(h:n1 n N){i:Nat}(hi:i<n):∃l:List Int,(ka n l/\l.length<=1073741824)/\ad.ez 1 1 (Int.ofNat i) n=true/\ad.lW 0 (Int.ofNat i) 1=i/\ad.ic i 1 N true=true/\ad.j4 N i=.d (.list 1 (l.map int)):=by
 obtain⟨l,aH,aE⟩:=h.get i hi;exact⟨l,aH,fZ ae hi,lB ae i,sj ae (by rw[h.len];exact hi),by subst ae;exact aE⟩
theorem C3{ad:bn}(ae:ad=bn.bY){zs:List Int}{C:List ag}{n:Nat}(hC:C=bZ zs)(aH:zs.length=n){p:Nat}(hp:p<n):
  ad.ez 1 1 (Int.ofNat p) n=true/\ad.lW 0 (Int.ofNat p) 1=p/\ad.ic p 1 C true=true/\ad.mB true p 1 C true=true/\ad.j4 C p=.d (int (zs.getD p 0)):=
 ⟨fZ ae hp,lB ae p,sj ae (by rw[hC,oR];omega),vp ae (by rw[hC,oR];omega),by rw[hC];exact Gj ae axs⟩
def aro(N M D L:List ag)(n i:Nat)(R:List Go.aJ.D):af:=cA [(0,.ptr 0 0),(3,.own 1 R),(4,.aS 4 0 n n 1),(20,.aS 1 0 n n 1),(21,.d (int (Int.ofNat n))),(22,.d (int (Int.ofNat i)))] [.box (c6 1 2 3 n),.box N,.box M,.box D,.box L]
def arp(N M D L:List ag)(n k:Nat)(R:List Go.aJ.D):af:=cA [(0,.ptr 0 0),(3,.own 1 R),(4,.aS 4 0 n n 1),(7,.d (int (Int.ofNat k)))] [.box (c6 1 2 3 n),.box N,.box M,.box D,.box L]
def Mm(N M D L:List ag)(n k:Nat)(R:List Go.aJ.D)(d:Nat)(B:List Go.aJ.D)(b j:Nat):af:=cA [(0,.ptr 0 0),(3,.own 1 R),(4,.aS 4 0 n n 1),(7,.d (int (Int.ofNat k))),(8,.d (int (Int.ofNat d))),(56,.d (.list 1 B)),(57,.d (int (Int.ofNat b))),(58,.d (int (Int.ofNat j)))] [.box (c6 1 2 3 n),.box N,.box M,.box D,.box L]
set_option maxHeartbeats 20000000 in
theorem arq{N M:List ag}(n:Nat)(az:n<=1024)(b9:n1 n N)(cd:n1 n M)(ds:List Int)(a6:ds.length=n):∃(b:Bool) (xL:List Int),xL.length=n/\aM 142 [.ptr 0 0] [.box (c6 1 2 3 n),.box N,.box M,.box (bZ ds)] (.d (.bool b)) [.box (c6 1 2 3 n),.box N,.box M,.box (bZ xL)]:=by
 suffices h:∃r s',(∃(b:Bool) (xL:List Int),xL.length=n/\r=.d (.bool b)/\s'=[.box (c6 1 2 3 n),.box N,.box M,.box (bZ xL)])/\aM 142 [.ptr 0 0] [.box (c6 1 2 3 n),.box N,.box M,.box (bZ ds)] r s' by
  obtain⟨_,_,⟨b,xL,h1,rfl,rfl⟩,h⟩:=h;exact⟨b,xL,h1,h⟩
 refine Tv.jl [1,2,3,4] _ λad ae K ao=> ?_;obtain⟨bh,a2,a3⟩:=bA.of ae b9.flat;obtain⟨bq,aR,bO⟩:=bA.of ae cd.flat;obtain⟨c1,c2,c3⟩:=bA.of ae (er ds);obtain⟨d1,d2,d3⟩:=bA.of ae (er (List.replicate n 0));have cT:ad.u2 (Int.ofNat n) 137438953472=true:=by
  subst ae;show(decide ((0:Int)<=Int.ofNat n)&&decide (Int.ofNat n<=137438953472))=true;simp only[azM,azH,azN];omega
 have c8:ad.w6 n [.d (int 0)]=some (bZ (List.replicate n 0)):=by
  subst ae;show some (List.replicate n [ag.d (int 0)]).flatten=_;congr 1;unfold bZ;rw[List.map_replicate];simp
 have fm:∃left:List Int,bZ (List.replicate n 0)=bZ left/\left.length=n/\∀v∈left,0<=v/\v<=1099511627776:=⟨_,rfl,aCF,λv hv=>by rw[(List.mem_replicate.1 hv).2];decide⟩;unfold c6 at*;generalize bZ (List.replicate n 0)=C at*;generalize cH:bZ ds=D at*;replace cH:=cH.symm;conv=>cbv
 repeat ((first|refine bG ?_|refine bH ?_|simp -proj only[cT,c8,bh,a2,a3,bq,aR,bO,c1,c2,c3,d1,d2,d3]);conv=>cbv)
 try trivial
 refine⟨b6 (λz:Nat×List Go.aJ.D×List ag=>aro N M D z.2.2 n z.1 z.2.1) (λz=>(∃R:List Int,z.2.1=R.map int/\ka n R/\R.length<=z.1)/\z.1<=n/\∃left:List Int,z.2.2=bZ left/\left.length=n/\∀v∈left,0<=v/\v<=1099511627776) (λz=>n-z.1),_,⟨(0,[],C),⟨⟨[],rfl,λ_ h=>(aAi h).elim,azI _⟩,azF _,fm⟩,rfl,axr⟩,?_⟩;clear cT c8 d1 d2 d3 fm;rintro _ _ ⟨⟨i,R,C⟩,⟨⟨rs,cX,tZ,vy⟩,dM,left,hC,aH,nM⟩,rfl,rfl⟩;dsimp only at cX vy dM hC⊢;obtain⟨d1,d2,d3⟩:=bA.of ae (er left);rw[<-hC]at d1 d2 d3;have C4:R.length=rs.length:=by rw[cX,azG]
 by_cases aB:i<n
 .have t1:=fS ae aB;have t6:=cv ae (n:=i) axs;obtain⟨l,⟨_,o8⟩,gb,fR,fp,gd⟩:=b9.lo ae aB;have vz:(l.map int).length=l.length:=azG _;generalize l.map int=L at*;obtain⟨v1,v2,v3,v4,_⟩:=C3 ae hC aH aB;have t2:ad.len L=l.length:=by subst ae;exact vz
  have t3:ad.aF .eql (Int.ofNat l.length) 0=decide (l.length=0):=by
   rw[(eX ae).1];by_cases e:l.length=0
   .rw[azO e,e];rfl
   .rw[aAg e];exact aAg λx=>e (aCG x)
  have v5:ad.ln C i [.d (int (Int.ofNat l.length))]=some (bZ (left.set i (Int.ofNat l.length))):=by rw[sk ae,hC,zY]
  have jh:(left.set i (Int.ofNat l.length)).length=n:=ay8;have acr:∀v∈left.set i (Int.ofNat l.length),0<=v/\v<=1099511627776:=λv hv=>by
   rcases aBr hv with hv|rfl
   .exact nM v hv
   .simp only[azM];omega
  obtain⟨w1,bS,dZ⟩:=bA.of ae (er (left.set i (Int.ofNat l.length)));generalize left.set i (Int.ofNat l.length)=xM at*;generalize gg:bZ xM=ea at*;generalize l.length=q at*;cases aT:decide (q=0)with
  |true=>
   rw[aT]at t3;have ql:gh n (Int.ofNat i)=true:=by unfold gh;rw[azH];exact⟨azO (aBV _),azO (aA5.2 aB)⟩
   conv=>cbv
   repeat' ((first|refine bG ?_|refine bH ?_|simp -proj only[t1,t2,t3,t6,gb,fR,fp,gd,v1,v2,v3,v4,v5,bh,a2,a3,bq,aR,bO,c1,c2,c3,d1,d2,d3,w1,bS,dZ]|(split<;>(rename_i h;try simp only[h])))<;>conv=>cbv)
   all_goals exact eb (i+1,ad.app R [int (Int.ofNat i)],ea) ⟨⟨rs++[Int.ofNat i],ay9,λz aQ=>by
    rcases aAu.1 aQ with aQ|aQ
    .exact tZ z aQ
    .rw[az9.1 aQ];exact ql,by show(rs++[_]).length<=i+1;rw[az6];show rs.length+1<=_;omega⟩,aB,xM,gg.symm,jh,acr⟩ (by show n-(i+1)<n-i;omega) axr
  |false=>
   rw[aT]at t3;conv=>cbv
   repeat' ((first|refine bG ?_|refine bH ?_|simp -proj only[t1,t2,t3,t6,gb,fR,fp,gd,v1,v2,v3,v4,v5,bh,a2,a3,bq,aR,bO,c1,c2,c3,d1,d2,d3,w1,bS,dZ]|(split<;>(rename_i h;try simp only[h])))<;>conv=>cbv)
   all_goals exact eb (i+1,R,ea) ⟨⟨rs,cX,tZ,by show rs.length<=i+1;omega⟩,aB,xM,gg.symm,jh,acr⟩ (by show n-(i+1)<n-i;omega) axr
 have t1:=f' ae aB;conv=>cbv
 repeat' ((first|refine bG ?_|refine bH ?_|simp -proj only[t1,bh,a2,a3,bq,aR,bO,c1,c2,c3,d1,d2,d3]|(split<;>(rename_i h;try simp only[h])))<;>conv=>cbv)
 clear t1 aB b9;have xN:mO n (oT left+rs.length) 0 left rs:=⟨aH,tZ,λv hv=>by have:=nM v hv;simp only[azM];omega,rfl⟩;have eM:oT left+rs.length<=2048:=by have:=acp left;omega
 generalize oT left+rs.length=S at*;refine⟨b6 (λz:Nat×List Go.aJ.D×List ag×List ag=>arp N M z.2.2.1 z.2.2.2 n z.1 z.2.1) (λz=>∃rs left ds:List Int,(z.2.1=rs.map int/\z.2.2.1=bZ ds/\z.2.2.2=bZ left)/\ds.length=n/\mO n S (z.1*1073741824) left rs/\z.1<=rs.length) (λz=>S-z.1),_,⟨(0,R,D,C),⟨rs,left,ds,⟨cX,cH,hC⟩,a6,by show mO n S (0*1073741824) _ _;rw[aA0];exact xN,azF _⟩,rfl,axr⟩,?_⟩;clear xN hC cH cX a6 aH nM tZ C4 vy d1 d2 d3 c1 c2 c3;rintro _ _ ⟨⟨k,R,D,C⟩,⟨rs,left,ds,⟨cX,cH,hC⟩,a6,hm,au⟩,rfl,rfl⟩;dsimp only at cX cH hC hm au⊢;obtain⟨c1,c2,c3⟩:=bA.of ae (er ds);rw[<-cH]at c1 c2 c3;obtain⟨d1,d2,d3⟩:=bA.of ae (er left);rw[<-hC]at d1 d2 d3;have C4:R.length=rs.length:=by rw[cX,azG]
 obtain⟨q,aT⟩:∃q,q=rs.length:=⟨_,rfl⟩;have t0:ad.len R=q:=by subst ae;exact C4.trans aT.symm
 have acs:rs.length<=S:=by have:=hm.sum;omega
 by_cases aB:k<q
 .have t1:=fS ae aB;replace aB:k<rs.length:=by omega
  obtain⟨d,xO,Gp⟩:=xE (hm.all _ (azT aB));have t3:ad.get R (Int.ofNat k)=int (Int.ofNat d):=cV ae (by rw[cX];rw[<-Gp];exact dv aB);have t6:=cv ae (n:=k) axs;obtain⟨l,⟨jy,o8⟩,gb,fR,fp,gd⟩:=cd.lo ae xO;have vz:(l.map int).length=l.length:=azG _;have cl:∀i (h:i<l.length),(l.map int)[i]?=some (int l[i]):=λi h=>dv h;generalize l.map int=L at*;obtain⟨g,aE⟩:∃q,q=l.length:=⟨_,rfl⟩;have t2:ad.len L=g:=by subst ae;exact vz.trans aE.symm
  conv=>cbv
  repeat' ((first|refine bG ?_|refine bH ?_|simp -proj only[t0,t1,t2,t3,gb,fR,fp,gd,bh,a2,a3,bq,aR,bO,c1,c2,c3,d1,d2,d3]|(split<;>(rename_i h;try simp only[h])))<;>conv=>cbv)
  refine⟨b6 (λz:Nat×List Go.aJ.D×List ag×List ag=>Mm N M z.2.2.1 z.2.2.2 n k z.2.1 d L g z.1) (λz=>∃rs left ds:List Int,(z.2.1=rs.map int/\z.2.2.1=bZ ds/\z.2.2.2=bZ left)/\ds.length=n/\mO n S (k*1073741824+z.1) left rs/\k<rs.length/\z.1<=l.length) (λz=>l.length-z.1),_,⟨(0,R,D,C),⟨rs,left,ds,⟨cX,cH,hC⟩,a6,by show mO n S (k*1073741824+0) left rs;rw[aAj];exact hm,aB,azF _⟩,rfl,axr⟩,?_⟩;clear t0 t1 t2 t3 gb fR fp gd cX cH hC a6 hm au aB C4 aT c1 c2 c3 d1 d2 d3 Gp acs;rintro _ _ ⟨⟨j,R,D,C⟩,⟨rs,left,ds,⟨cX,cH,hC⟩,a6,hm,au,aL⟩,rfl,rfl⟩;dsimp only at cX cH hC hm aL⊢;obtain⟨c1,c2,c3⟩:=bA.of ae (er ds);rw[<-cH]at c1 c2 c3;obtain⟨d1,d2,d3⟩:=bA.of ae (er left);rw[<-hC]at d1 d2 d3;have C4:R.length=rs.length:=by rw[cX,azG]
  have acs:rs.length<=S:=by have:=hm.sum;omega
  by_cases aB:j<g
  .have t1:=fS ae aB;replace aB:j<l.length:=by omega
   have t2:=cv ae (n:=j) axs;obtain⟨i,dM,rv⟩:=xE (jy _ (azT aB));have t3:ad.get L (Int.ofNat j)=int (Int.ofNat i):=cV ae (by rw[cl j aB,rv]);have aH:=hm.len;obtain⟨gb,fR,fp,gd,gU⟩:=C3 ae cH a6 dM;obtain⟨v1,v2,v3,v4,v5⟩:=C3 ae cH a6 xO;obtain⟨w1,bS,dZ,iP,ku⟩:=C3 ae hC aH dM;obtain⟨y,hy⟩:∃y,ad.io .add .i64 (ds.getD d 0) 1=y:=⟨_,rfl⟩;have aq:=hm.at dM;have awR:k*1073741824<=2048*1073741824:=aAl _ axs;have b0:ad.io .sub .i64 (left.getD i 0) 1=left.getD i 0-1:=arn ae (by simp only[azM]at aq;omega) axs;have b7:ad.ln C i [.d (int (left.getD i 0-1))]=some (bZ (left.set i (left.getD i 0-1))):=by rw[sk ae,hC,zY]
   have jh:(left.set i (left.getD i 0-1)).length=n:=ay8;obtain⟨_,_,c7,_,iy⟩:=C3 ae rfl jh dM;have wF:(left.set i (left.getD i 0-1)).getD i 0=left.getD i 0-1:=by rw[aAo,aAq axs];rfl
   rw[wF]at iy;have ql:gh n (Int.ofNat i)=true:=by unfold gh;rw[azH];exact⟨azO (aBV _),azO (aA5.2 dM)⟩
   obtain⟨g1,g2,g3⟩:=bA.of ae (er (left.set i (left.getD i 0-1)));have ars:=λR2 qV hs=>hm.dec dM (R2:=R2) qV hs;have ov:=arh ae (left.getD i 0-1) 0;have jX:(left.getD i 0-1=0)↔left.getD i 0=1:=axs;have ry:∀z:Int,∃iE:List Int,iE.length=n/\ad.ln D i [.d (int z)]=some (bZ iE):=λz=>⟨ds.set i z,by rw[aAN];exact a6,by rw[sk ae,cH,zY]⟩;have tZ:=hm.all;clear hm wF;generalize left.set i (left.getD i 0-1)=xM at*;generalize gg:bZ xM=ea at*;generalize left.getD i 0-1=acu at*;have key:∀z:Int,ad.aF .lss (ds.getD i 0) y=true/\z=y\/ad.aF .lss (ds.getD i 0) y=false/\z=ds.getD i 0->∃iE:List Int,iE.length=n/\ad.ln D i [.d (int z)]=some (bZ iE):=λz _=>ry z;generalize ds.getD i 0=p at*;generalize ds.getD d 0=ey at*;generalize left.getD i 0=v0 at*;have fg:∀(R2:List Go.aJ.D) (t' iE:List Int) (qW:List ag),R2=t'.map int->qW=bZ iE->iE.length=n->ka n t'->((v0=1/\t'.length=rs.length+1)\/(v0≠1/\t'.length=rs.length))->∀{st:af},st=Mm N M qW ea n k R2 d L g (j+1)->∃m,m<l.length-j/\b6 (λz:Nat×List Go.aJ.D×List ag×List ag=>Mm N M z.2.2.1 z.2.2.2 n k z.2.1 d L g z.1) (λz=>∃rs left ds:List Int,(z.2.1=rs.map int/\z.2.2.1=bZ ds/\z.2.2.2=bZ left)/\ds.length=n/\mO n S (k*1073741824+z.1) left rs/\k<rs.length/\z.1<=l.length) (λz=>l.length-z.1) m st:=λR2 t' iE qW h1 h2 av aZ bW _ h=>eb (j+1,R2,qW,ea) ⟨t',xM,iE,⟨h1,h2,gg.symm⟩,av,by show mO n S (k*1073741824+(j+1)) xM t';rw[<-aBD];exact ars t' aZ bW,by show k<t'.length;omega,aB⟩ (by show l.length-(j+1)<l.length-j;omega) h;clear key;cases p1:ad.aF .lss p y with
   |true=>
    obtain⟨iE,mX,xc⟩:=ry (y);obtain⟨aj,aD,aW⟩:=bA.of ae (er iE);generalize qX:bZ iE=qW at*;replace qX:=qX.symm;by_cases h0:acu=0
    .rw[azO h0]at ov;conv=>cbv
     repeat' ((first|refine bG ?_|refine bH ?_|simp -proj only[t1,t2,t3,gb,fR,fp,gd,gU,v1,v2,v3,v4,v5,w1,bS,dZ,iP,ku,hy,b0,b7,c7,iy,ov,xc,p1,bh,a2,a3,bq,aR,bO,c1,c2,c3,d1,d2,d3,g1,g2,g3,aj,aD,aW]|(split<;>(rename_i h;try simp only[h])))<;>conv=>cbv)
     all_goals exact fg (ad.app R [int (Int.ofNat i)]) (rs++[Int.ofNat i]) iE qW ay9 qX mX (λz aQ=>by
      rcases aAu.1 aQ with aQ|aQ
      .exact tZ z aQ
      .rw[az9.1 aQ];exact ql) (.inl ⟨jX.1 h0,by rw[az6];rfl⟩) axr
    .rw[aAg h0]at ov;conv=>cbv
     repeat' ((first|refine bG ?_|refine bH ?_|simp -proj only[t1,t2,t3,gb,fR,fp,gd,gU,v1,v2,v3,v4,v5,w1,bS,dZ,iP,ku,hy,b0,b7,c7,iy,ov,xc,p1,bh,a2,a3,bq,aR,bO,c1,c2,c3,d1,d2,d3,g1,g2,g3,aj,aD,aW]|(split<;>(rename_i h;try simp only[h])))<;>conv=>cbv)
     all_goals exact fg R rs iE qW cX qX mX tZ (.inr ⟨λh=>h0 (jX.2 h),rfl⟩) axr
   |false=>
    obtain⟨iE,mX,xc⟩:=ry (p);obtain⟨aj,aD,aW⟩:=bA.of ae (er iE);generalize qX:bZ iE=qW at*;replace qX:=qX.symm;by_cases h0:acu=0
    .rw[azO h0]at ov;conv=>cbv
     repeat' ((first|refine bG ?_|refine bH ?_|simp -proj only[t1,t2,t3,gb,fR,fp,gd,gU,v1,v2,v3,v4,v5,w1,bS,dZ,iP,ku,hy,b0,b7,c7,iy,ov,xc,p1,bh,a2,a3,bq,aR,bO,c1,c2,c3,d1,d2,d3,g1,g2,g3,aj,aD,aW]|(split<;>(rename_i h;try simp only[h])))<;>conv=>cbv)
     all_goals exact fg (ad.app R [int (Int.ofNat i)]) (rs++[Int.ofNat i]) iE qW ay9 qX mX (λz aQ=>by
      rcases aAu.1 aQ with aQ|aQ
      .exact tZ z aQ
      .rw[az9.1 aQ];exact ql) (.inl ⟨jX.1 h0,by rw[az6];rfl⟩) axr
    .rw[aAg h0]at ov;conv=>cbv
     repeat' ((first|refine bG ?_|refine bH ?_|simp -proj only[t1,t2,t3,gb,fR,fp,gd,gU,v1,v2,v3,v4,v5,w1,bS,dZ,iP,ku,hy,b0,b7,c7,iy,ov,xc,p1,bh,a2,a3,bq,aR,bO,c1,c2,c3,d1,d2,d3,g1,g2,g3,aj,aD,aW]|(split<;>(rename_i h;try simp only[h])))<;>conv=>cbv)
     all_goals exact fg R rs iE qW cX qX mX tZ (.inr ⟨λh=>h0 (jX.2 h),rfl⟩) axr
  .have t1:=f' ae aB;have kM:mO n S ((k+1)*1073741824) left rs:=hm.mono axs;conv=>cbv
   repeat' ((first|refine bG ?_|refine bH ?_|simp -proj only[t1,t6,bh,a2,a3,bq,aR,bO,c1,c2,c3,d1,d2,d3]|(split<;>(rename_i h;try simp only[h])))<;>conv=>cbv)
   all_goals exact eb (k+1,R,D,C) ⟨rs,left,ds,⟨cX,cH,hC⟩,a6,kM,au⟩ (by show S-(k+1)<S-k;omega) axr
 .have t1:=f' ae aB;obtain⟨b,aq⟩:∃b,ad.aF .eql (Int.ofNat k) (Int.ofNat n)=b:=⟨_,rfl⟩;replace ao:=λs h=>ao (.d (.bool b)) s ⟨b,ds,a6,rfl,h⟩;rw[<-cH]at ao;conv=>cbv
  repeat' ((first|refine bG ?_|refine bH ?_|simp -proj only[t0,t1,aq,bh,a2,a3,bq,aR,bO,c1,c2,c3,d1,d2,d3]|(split<;>(rename_i h;try simp only[h])))<;>conv=>cbv)
  all_goals exact ao _ axr
end Go.Proofs.YtmgpekpnidjfoaaGreatDoor
