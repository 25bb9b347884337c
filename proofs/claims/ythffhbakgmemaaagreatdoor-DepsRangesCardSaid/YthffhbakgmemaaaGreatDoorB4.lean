/- Part of ranges_said. -/
import Derived.Test.YthffhbakgmemaaaGreatDoorB3
set_option maxRecDepth 100000
set_option maxHeartbeats 8000000
set_option linter.unusedSimpArgs false
set_option linter.unusedVariables false
namespace Go.Proofs.YthffhbakgmemaaaGreatDoor
open Go Go.aH
attribute [local irreducible] bG
theorem cz{ad:bm}(h:ad=bm.bU){l:List D}{i:Nat}{d:D}(hi:l[i]?=some d):ad.get l (Int.ofNat i)=d:=by
 subst h;show l.getD i .dP=_;simp_all
theorem C9{ad:bm}(h:ad=bm.bU){ks:List Nat}{x y:List D}{b:Bool}(au:cA ks x y=some b):ad.og ks x y=some b:=by subst h;exact au
theorem c7{α:Type}{f:α->D}{l:List α}{i:Nat}(h:i<l.length):(l.map f)[i]?=some (f l[i]):=axY
theorem uw{α:Type}{l m:List α}{i:Nat}(aI:i<l.length)(hm:i<m.length)(h:l.take i=m.take i)(he:l[i]=m[i]):l.take (i+1)=m.take (i+1):=by
 grind[List.take_add_one]
theorem ux{α:Type}{l m:List α}{i:Nat}(aI:l.length=i)(hm:m.length=i)(h:l.take i=m.take i):l=m:=axZ
def Aq(sz:Nat)(L M:List D)(n:Nat)(i:Nat):ag:=cx [(0,.d (.list sz L)),(1,.d (.list sz M)),(12,.d (int (Int.ofNat n))),(13,.d (int (Int.ofNat i)))] []
theorem aoR(x y:aw×Int):∃b:Bool,cA [2,1] [.str (x.1),int (x.2)] [.str (y.1),int (y.2)]=some b/\(b=true->x=y):=by
 refine⟨_,rfl,λh=> ?_⟩;grind
theorem ace(l m:List (aw×Int))(aI:l.length<=1073741824):∃b:Bool,(b=true->l=m)/\aM 185 [.d (.list 2 (l.map bD)),.d (.list 2 (m.map bD))] [] (.d (.bool b)) []:=by
 refine fK ?_;have bE:(l.map bD).length=l.length:=aAb _;have b7:(m.map bD).length=m.length:=aAb _;have bY:∀i (h:i<l.length),(l.map bD)[i]?=some (bD l[i]):=λi h=>c7 h;have kK:∀i (h:i<m.length),(m.map bD)[i]?=some (bD m[i]):=λi h=>c7 h;generalize l.map bD=L at*;generalize m.map bD=M at*;refine aEz.cu _ λad ae K ao=> ?_;by_cases cB:l.length=m.length
 .have t1:ad.aD .neq (Int.ofNat (ad.len L)) (Int.ofNat (ad.len M))=false:=by simp_all[aJ]
  refine af ?_;refine⟨bX (Aq 2 L M (ad.len L)) (λi=>i<=l.length/\l.take i=m.take i) λi=>l.length-i,_,⟨0,⟨aAa _,rfl⟩,rfl,axV⟩,?_⟩;rintro _ _ ⟨i,⟨hi,hs⟩,rfl,rfl⟩;dsimp only at hi hs⊢;by_cases aA:i<l.length
  .have t2:ad.aD .lss (Int.ofNat i) (Int.ofNat (ad.len L))=true:=by simp_all[aJ]
   have fF:i<m.length:=axW;have t3:=cz ae (bY i aA);have t4:=cz ae (kK i fF);have t5:=cd ae (n:=i) axW;obtain⟨b,hd,dY⟩:=aoR l[i] m[i];have t6:=C9 ae hd;unfold bD at t3 t4;have dR:b=true->l.take (i+1)=m.take (i+1):=λh=>uw aA fF hs (dY h);clear hd dY;generalize l[i]=x at*;generalize m[i]=y at*;obtain⟨oa,b'⟩:=x;obtain⟨qd,de⟩:=y;dsimp only at t3 t4 t6;have t7:ad.og [2,1] (.str (oa)::List.take 1 [int (b')]) (.str (qd)::List.take 1 [int (de)])=some b:=t6;cases b with
   |true=>
    refine af ?_;exact fixF (i+1) ⟨aA,dR rfl⟩
   |false=>
    refine af ?_;exact ao _ _ ⟨false,(λh=>ax2),rfl,axV⟩
  .have t2:ad.aD .lss (Int.ofNat i) (Int.ofNat (ad.len L))=false:=by simp_all[aJ]
   have fg:l=m:=ux (i:=i) axW axW hs;refine af ?_;exact ao _ _ ⟨true,λ_=>fg,rfl,axV⟩
 .have t1:ad.aD .neq (Int.ofNat (ad.len L)) (Int.ofNat (ad.len M))=true:=by simp only[aJ ae,aAh,aAE,aAp];omega
  refine af ?_;exact ao _ _ ⟨false,(λh=>ax2),rfl,axV⟩
theorem sv(l m:List (aw))(aI:l.length<=1073741824):∃b:Bool,(b=true->l=m)/\aM 140 [.d (.list 1 (l.map D.str)),.d (.list 1 (m.map D.str))] [] (.d (.bool b)) []:=by
 refine fK ?_;have bE:(l.map D.str).length=l.length:=aAb _;have b7:(m.map D.str).length=m.length:=aAb _;have bY:∀i (h:i<l.length),(l.map D.str)[i]?=some (D.str l[i]):=λi h=>c7 h;have kK:∀i (h:i<m.length),(m.map D.str)[i]?=some (D.str m[i]):=λi h=>c7 h;generalize l.map D.str=L at*;generalize m.map D.str=M at*;refine Lp.cu _ λad ae K ao=> ?_;by_cases cB:l.length=m.length
 .have t1:ad.aD .neq (Int.ofNat (ad.len L)) (Int.ofNat (ad.len M))=false:=by simp_all[aJ]
  refine af ?_;refine⟨bX (Aq 1 L M (ad.len L)) (λi=>i<=l.length/\l.take i=m.take i) λi=>l.length-i,_,⟨0,⟨aAa _,rfl⟩,rfl,axV⟩,?_⟩;rintro _ _ ⟨i,⟨hi,hs⟩,rfl,rfl⟩;dsimp only at hi hs⊢;by_cases aA:i<l.length
  .have t2:ad.aD .lss (Int.ofNat i) (Int.ofNat (ad.len L))=true:=by simp_all[aJ]
   have fF:i<m.length:=axW;have t3:=cz ae (bY i aA);have t4:=cz ae (kK i fF);have t5:=cd ae (n:=i) axW;have t6:ad.bq .neq l[i] m[i]=!decide (l[i]=m[i]):=ax1;generalize ak:l[i]=x at*;generalize wa:m[i]=y at*;cases aY:decide (x=y)with
   |true=>
    rw[aY]at t6;refine af ?_;exact fixF (i+1) ⟨aA,uw aA fF hs axY⟩
   |false=>
    rw[aY]at t6;refine af ?_;exact ao _ _ ⟨false,(λh=>ax2),rfl,axV⟩
  .have t2:ad.aD .lss (Int.ofNat i) (Int.ofNat (ad.len L))=false:=by simp_all[aJ]
   have fg:l=m:=ux (i:=i) axW axW hs;refine af ?_;exact ao _ _ ⟨true,λ_=>fg,rfl,axV⟩
 .have t1:ad.aD .neq (Int.ofNat (ad.len L)) (Int.ofNat (ad.len M))=true:=by simp only[aJ ae,aAh,aAE,aAp];omega
  refine af ?_;exact ao _ _ ⟨false,(λh=>ax2),rfl,axV⟩
theorem aoS(x y:aw×aw):∃b:Bool,cA [2,2] [.str (x.1),.str (x.2)] [.str (y.1),.str (y.2)]=some b/\(b=true->x=y):=by
 refine⟨_,rfl,λh=> ?_⟩;grind
theorem aoT(l m:List (aw×aw))(aI:l.length<=1073741824):∃b:Bool,(b=true->l=m)/\aM 189 [.d (.list 2 (l.map fx)),.d (.list 2 (m.map fx))] [] (.d (.bool b)) []:=by
 refine fK ?_;have bE:(l.map fx).length=l.length:=aAb _;have b7:(m.map fx).length=m.length:=aAb _;have bY:∀i (h:i<l.length),(l.map fx)[i]?=some (fx l[i]):=λi h=>c7 h;have kK:∀i (h:i<m.length),(m.map fx)[i]?=some (fx m[i]):=λi h=>c7 h;generalize l.map fx=L at*;generalize m.map fx=M at*;refine Uw.cu _ λad ae K ao=> ?_;by_cases cB:l.length=m.length
 .have t1:ad.aD .neq (Int.ofNat (ad.len L)) (Int.ofNat (ad.len M))=false:=by simp_all[aJ]
  refine af ?_;refine⟨bX (Aq 2 L M (ad.len L)) (λi=>i<=l.length/\l.take i=m.take i) λi=>l.length-i,_,⟨0,⟨aAa _,rfl⟩,rfl,axV⟩,?_⟩;rintro _ _ ⟨i,⟨hi,hs⟩,rfl,rfl⟩;dsimp only at hi hs⊢;by_cases aA:i<l.length
  .have t2:ad.aD .lss (Int.ofNat i) (Int.ofNat (ad.len L))=true:=by simp_all[aJ]
   have fF:i<m.length:=axW;have t3:=cz ae (bY i aA);have t4:=cz ae (kK i fF);have t5:=cd ae (n:=i) axW;obtain⟨b,hd,dY⟩:=aoS l[i] m[i];have t6:=C9 ae hd;unfold fx at t3 t4;have dR:b=true->l.take (i+1)=m.take (i+1):=λh=>uw aA fF hs (dY h);clear hd dY;generalize l[i]=x at*;generalize m[i]=y at*;obtain⟨oa,b'⟩:=x;obtain⟨qd,de⟩:=y;dsimp only at t3 t4 t6;have t7:ad.og [2,2] (.str (oa)::List.take 1 [.str (b')]) (.str (qd)::List.take 1 [.str (de)])=some b:=t6;cases b with
   |true=>
    refine af ?_;exact fixF (i+1) ⟨aA,dR rfl⟩
   |false=>
    refine af ?_;exact ao _ _ ⟨false,(λh=>ax2),rfl,axV⟩
  .have t2:ad.aD .lss (Int.ofNat i) (Int.ofNat (ad.len L))=false:=by simp_all[aJ]
   have fg:l=m:=ux (i:=i) axW axW hs;refine af ?_;exact ao _ _ ⟨true,λ_=>fg,rfl,axV⟩
 .have t1:ad.aD .neq (Int.ofNat (ad.len L)) (Int.ofNat (ad.len M))=true:=by simp only[aJ ae,aAh,aAE,aAp];omega
  refine af ?_;exact ao _ _ ⟨false,(λh=>ax2),rfl,axV⟩
theorem aoU(x y:aw×aw×aw):∃b:Bool,cA [2,2,2] [.str (x.1),.str (x.2.1),.str (x.2.2)] [.str (y.1),.str (y.2.1),.str (y.2.2)]=some b/\(b=true->x=y):=by
 refine⟨_,rfl,λh=> ?_⟩;grind
theorem aoV(l m:List (aw×aw×aw))(aI:l.length<=1073741824):∃b:Bool,(b=true->l=m)/\aM 190 [.d (.list 3 (l.map eM)),.d (.list 3 (m.map eM))] [] (.d (.bool b)) []:=by
 refine fK ?_;have bE:(l.map eM).length=l.length:=aAb _;have b7:(m.map eM).length=m.length:=aAb _;have bY:∀i (h:i<l.length),(l.map eM)[i]?=some (eM l[i]):=λi h=>c7 h;have kK:∀i (h:i<m.length),(m.map eM)[i]?=some (eM m[i]):=λi h=>c7 h;generalize l.map eM=L at*;generalize m.map eM=M at*;refine Wd.cu _ λad ae K ao=> ?_;by_cases cB:l.length=m.length
 .have t1:ad.aD .neq (Int.ofNat (ad.len L)) (Int.ofNat (ad.len M))=false:=by simp_all[aJ]
  refine af ?_;refine⟨bX (Aq 3 L M (ad.len L)) (λi=>i<=l.length/\l.take i=m.take i) λi=>l.length-i,_,⟨0,⟨aAa _,rfl⟩,rfl,axV⟩,?_⟩;rintro _ _ ⟨i,⟨hi,hs⟩,rfl,rfl⟩;dsimp only at hi hs⊢;by_cases aA:i<l.length
  .have t2:ad.aD .lss (Int.ofNat i) (Int.ofNat (ad.len L))=true:=by simp_all[aJ]
   have fF:i<m.length:=axW;have t3:=cz ae (bY i aA);have t4:=cz ae (kK i fF);have t5:=cd ae (n:=i) axW;obtain⟨b,hd,dY⟩:=aoU l[i] m[i];have t6:=C9 ae hd;unfold eM at t3 t4;have dR:b=true->l.take (i+1)=m.take (i+1):=λh=>uw aA fF hs (dY h);clear hd dY;generalize l[i]=x at*;generalize m[i]=y at*;obtain⟨oa,b',cr⟩:=x;obtain⟨qd,de,dp⟩:=y;dsimp only at t3 t4 t6;have t7:ad.og [2,2,2] (.str (oa)::List.take 2 [.str (b'),.str (cr)]) (.str (qd)::List.take 2 [.str (de),.str (dp)])=some b:=t6;cases b with
   |true=>
    refine af ?_;exact fixF (i+1) ⟨aA,dR rfl⟩
   |false=>
    refine af ?_;exact ao _ _ ⟨false,(λh=>ax2),rfl,axV⟩
  .have t2:ad.aD .lss (Int.ofNat i) (Int.ofNat (ad.len L))=false:=by simp_all[aJ]
   have fg:l=m:=ux (i:=i) axW axW hs;refine af ?_;exact ao _ _ ⟨true,λ_=>fg,rfl,axV⟩
 .have t1:ad.aD .neq (Int.ofNat (ad.len L)) (Int.ofNat (ad.len M))=true:=by simp only[aJ ae,aAh,aAE,aAp];omega
  refine af ?_;exact ao _ _ ⟨false,(λh=>ax2),rfl,axV⟩
theorem aoW(x y:aw×Bool):∃b:Bool,cA [2,0] [.str (x.1),.bool (x.2)] [.str (y.1),.bool (y.2)]=some b/\(b=true->x=y):=by
 refine⟨_,rfl,λh=> ?_⟩;grind
theorem zM(l m:List (aw×Bool))(aI:l.length<=1073741824):∃b:Bool,(b=true->l=m)/\aM 191 [.d (.list 2 (l.map fy)),.d (.list 2 (m.map fy))] [] (.d (.bool b)) []:=by
 refine fK ?_;have bE:(l.map fy).length=l.length:=aAb _;have b7:(m.map fy).length=m.length:=aAb _;have bY:∀i (h:i<l.length),(l.map fy)[i]?=some (fy l[i]):=λi h=>c7 h;have kK:∀i (h:i<m.length),(m.map fy)[i]?=some (fy m[i]):=λi h=>c7 h;generalize l.map fy=L at*;generalize m.map fy=M at*;refine ZX.cu _ λad ae K ao=> ?_;by_cases cB:l.length=m.length
 .have t1:ad.aD .neq (Int.ofNat (ad.len L)) (Int.ofNat (ad.len M))=false:=by simp_all[aJ]
  refine af ?_;refine⟨bX (Aq 2 L M (ad.len L)) (λi=>i<=l.length/\l.take i=m.take i) λi=>l.length-i,_,⟨0,⟨aAa _,rfl⟩,rfl,axV⟩,?_⟩;rintro _ _ ⟨i,⟨hi,hs⟩,rfl,rfl⟩;dsimp only at hi hs⊢;by_cases aA:i<l.length
  .have t2:ad.aD .lss (Int.ofNat i) (Int.ofNat (ad.len L))=true:=by simp_all[aJ]
   have fF:i<m.length:=axW;have t3:=cz ae (bY i aA);have t4:=cz ae (kK i fF);have t5:=cd ae (n:=i) axW;obtain⟨b,hd,dY⟩:=aoW l[i] m[i];have t6:=C9 ae hd;unfold fy at t3 t4;have dR:b=true->l.take (i+1)=m.take (i+1):=λh=>uw aA fF hs (dY h);clear hd dY;generalize l[i]=x at*;generalize m[i]=y at*;obtain⟨oa,b'⟩:=x;obtain⟨qd,de⟩:=y;dsimp only at t3 t4 t6;have t7:ad.og [2,0] (.str (oa)::List.take 1 [.bool (b')]) (.str (qd)::List.take 1 [.bool (de)])=some b:=t6;cases b with
   |true=>
    refine af ?_;exact fixF (i+1) ⟨aA,dR rfl⟩
   |false=>
    refine af ?_;exact ao _ _ ⟨false,(λh=>ax2),rfl,axV⟩
  .have t2:ad.aD .lss (Int.ofNat i) (Int.ofNat (ad.len L))=false:=by simp_all[aJ]
   have fg:l=m:=ux (i:=i) axW axW hs;refine af ?_;exact ao _ _ ⟨true,λ_=>fg,rfl,axV⟩
 .have t1:ad.aD .neq (Int.ofNat (ad.len L)) (Int.ofNat (ad.len M))=true:=by simp only[aJ ae,aAh,aAE,aAp];omega
  refine af ?_;exact ao _ _ ⟨false,(λh=>ax2),rfl,axV⟩
theorem aoX(x y:ja):∃b:Bool,cA [2,1,1,2] [.str (x.a),int (x.x2),int (x.nm),.str (x.b)] [.str (y.a),int (y.x2),int (y.nm),.str (y.b)]=some b/\(b=true->x=y):=by
 refine⟨_,rfl,λh=> ?_⟩;have sh:x.a=y.a/\x.x2=y.x2/\x.nm=y.nm/\x.b=y.b:=axY;obtain⟨wb,h1,sh,av⟩:=sh;obtain⟨oa,b',cr,dE⟩:=x;simp_all
theorem aoY(l m:List (ja))(aI:l.length<=1073741824):∃b:Bool,(b=true->l=m)/\aM 138 [.d (.list 4 (l.map dW)),.d (.list 4 (m.map dW))] [] (.d (.bool b)) []:=by
 refine fK ?_;have bE:(l.map dW).length=l.length:=aAb _;have b7:(m.map dW).length=m.length:=aAb _;have bY:∀i (h:i<l.length),(l.map dW)[i]?=some (dW l[i]):=λi h=>c7 h;have kK:∀i (h:i<m.length),(m.map dW)[i]?=some (dW m[i]):=λi h=>c7 h;generalize l.map dW=L at*;generalize m.map dW=M at*;refine XM.cu _ λad ae K ao=> ?_;by_cases cB:l.length=m.length
 .have t1:ad.aD .neq (Int.ofNat (ad.len L)) (Int.ofNat (ad.len M))=false:=by simp_all[aJ]
  refine af ?_;refine⟨bX (Aq 4 L M (ad.len L)) (λi=>i<=l.length/\l.take i=m.take i) λi=>l.length-i,_,⟨0,⟨aAa _,rfl⟩,rfl,axV⟩,?_⟩;rintro _ _ ⟨i,⟨hi,hs⟩,rfl,rfl⟩;dsimp only at hi hs⊢;by_cases aA:i<l.length
  .have t2:ad.aD .lss (Int.ofNat i) (Int.ofNat (ad.len L))=true:=by simp_all[aJ]
   have fF:i<m.length:=axW;have t3:=cz ae (bY i aA);have t4:=cz ae (kK i fF);have t5:=cd ae (n:=i) axW;obtain⟨b,hd,dY⟩:=aoX l[i] m[i];have t6:=C9 ae hd;unfold dW at t3 t4;have dR:b=true->l.take (i+1)=m.take (i+1):=λh=>uw aA fF hs (dY h);clear hd dY;generalize l[i]=x at*;generalize m[i]=y at*;obtain⟨oa,b',cr,dE⟩:=x;obtain⟨qd,de,dp,dF⟩:=y;dsimp only at t3 t4 t6;have t7:ad.og [2,1,1,2] (.str (oa)::List.take 3 [int (b'),int (cr),.str (dE)]) (.str (qd)::List.take 3 [int (de),int (dp),.str (dF)])=some b:=t6;cases b with
   |true=>
    refine af ?_;exact fixF (i+1) ⟨aA,dR rfl⟩
   |false=>
    refine af ?_;exact ao _ _ ⟨false,(λh=>ax2),rfl,axV⟩
  .have t2:ad.aD .lss (Int.ofNat i) (Int.ofNat (ad.len L))=false:=by simp_all[aJ]
   have fg:l=m:=ux (i:=i) axW axW hs;refine af ?_;exact ao _ _ ⟨true,λ_=>fg,rfl,axV⟩
 .have t1:ad.aD .neq (Int.ofNat (ad.len L)) (Int.ofNat (ad.len M))=true:=by simp only[aJ ae,aAh,aAE,aAp];omega
  refine af ?_;exact ao _ _ ⟨false,(λh=>ax2),rfl,axV⟩
def oo(n:Nat)(P:Nat->Bool)(r:Int):Prop:=(r= -1/\∀i,i<n->P i=false)\/∃k,k<n/\r=Int.ofNat k/\P k=true/\∀j,j<k->P j=false
theorem oo.lt{n:Nat}{P:Nat->Bool}{r:Int}(h:oo n P r)(wb:¬r<0):∃k,k<n/\r=Int.ofNat k/\P k=true:=by
 rcases h with⟨rfl,_⟩|⟨k,h1,sh,av,_⟩
 all_goals grind
def jw(x:aw×List Int×Int):D:=.agg [.str x.1,.list 1 (x.2.1.map int),int x.2.2]
def Mv(sz f:Nat)(L:List D)(v:D)(n i:Nat):ag:=cx [(0,.d (.list sz L)),(1,.func f [] [.ptr 0 0]),(7,.d (int (Int.ofNat n))),(8,.d (int (Int.ofNat i)))] [.box [.d v]]
theorem aoZ(l:List (aw×Int))(f:Nat)(v:aw)(P:Nat->Bool)(aI:l.length<=1073741824)
  (bh:∀i (h:i<l.length),aM f [.d (bD l[i]),.ptr 0 0] [.box [.d (.str v)]] (.d (.bool (P i))) [.box [.d (.str v)]]):
  ∃r:Int,oo l.length P r/\aM 314 [.d (.list 2 (l.map bD)),.func f [] [.ptr 0 0]] [.box [.d (.str v)]] (.d (int r)) [.box [.d (.str v)]]:=by
 refine fK ?_;have bE:(l.map bD).length=l.length:=aAb _;have bY:∀i (h:i<l.length),(l.map bD)[i]?=some (bD l[i]):=λi h=>c7 h;generalize l.map bD=L at*;refine aEL.cu _ λad ae K ao=> ?_;refine af ?_;refine⟨bX (Mv 2 f L (.str v) (ad.len L)) (λi=>i<=l.length/\∀j,j<i->P j=false) λi=>l.length-i,_,⟨0,⟨aAa _,λj h=>axW⟩,rfl,axV⟩,?_⟩;rintro _ _ ⟨i,⟨hi,hs⟩,rfl,rfl⟩;dsimp only at hi hs⊢;by_cases aA:i<l.length
 .have t2:ad.aD .lss (Int.ofNat i) (Int.ofNat (ad.len L))=true:=by simp_all[aJ]
  have t3:=cz ae (bY i aA);have t5:=cd ae (n:=i) axW;have aj:=bh i aA;have Ar:P i=true->oo l.length P (Int.ofNat i):=λh=>.inr ⟨i,aA,rfl,h,hs⟩;have x5:P i=false->∀j,j<i+1->P j=false:=λh j aK=>axZ;unfold bD at*;clear bh;generalize l[i]=x at*;skip;generalize P i=b at*;cases b with
  |true=>
   refine af ?_;exact ao _ _ ⟨_,Ar rfl,rfl,axV⟩
  |false=>
   refine af ?_;exact fixF (i+1) ⟨aA,x5 rfl⟩
 .have t2:ad.aD .lss (Int.ofNat i) (Int.ofNat (ad.len L))=false:=by simp_all[aJ]
  have ay:oo l.length P (-1):=.inl ⟨rfl,λj aK=>hs j axW⟩;refine af ?_;exact ao _ _ ⟨-1,ay,rfl,axV⟩
theorem ao0(l:List (aw×List Int×Int))(f:Nat)(v:aw)(P:Nat->Bool)(aI:l.length<=1073741824)
  (bh:∀i (h:i<l.length),aM f [.d (jw l[i]),.ptr 0 0] [.box [.d (.str v)]] (.d (.bool (P i))) [.box [.d (.str v)]]):
  ∃r:Int,oo l.length P r/\aM 334 [.d (.list 3 (l.map jw)),.func f [] [.ptr 0 0]] [.box [.d (.str v)]] (.d (int r)) [.box [.d (.str v)]]:=by
 refine fK ?_;have bE:(l.map jw).length=l.length:=aAb _;have bY:∀i (h:i<l.length),(l.map jw)[i]?=some (jw l[i]):=λi h=>c7 h;generalize l.map jw=L at*;refine aEf.cu _ λad ae K ao=> ?_;refine af ?_;refine⟨bX (Mv 3 f L (.str v) (ad.len L)) (λi=>i<=l.length/\∀j,j<i->P j=false) λi=>l.length-i,_,⟨0,⟨aAa _,λj h=>axW⟩,rfl,axV⟩,?_⟩;rintro _ _ ⟨i,⟨hi,hs⟩,rfl,rfl⟩;dsimp only at hi hs⊢;by_cases aA:i<l.length
 .have t2:ad.aD .lss (Int.ofNat i) (Int.ofNat (ad.len L))=true:=by simp_all[aJ]
  have t3:=cz ae (bY i aA);have t5:=cd ae (n:=i) axW;have aj:=bh i aA;have Ar:P i=true->oo l.length P (Int.ofNat i):=λh=>.inr ⟨i,aA,rfl,h,hs⟩;have x5:P i=false->∀j,j<i+1->P j=false:=λh j aK=>axZ;unfold jw at*;clear bh;generalize l[i]=x at*;generalize x.2.1.map int=M at*;generalize P i=b at*;cases b with
  |true=>
   refine af ?_;exact ao _ _ ⟨_,Ar rfl,rfl,axV⟩
  |false=>
   refine af ?_;exact fixF (i+1) ⟨aA,x5 rfl⟩
 .have t2:ad.aD .lss (Int.ofNat i) (Int.ofNat (ad.len L))=false:=by simp_all[aJ]
  have ay:oo l.length P (-1):=.inl ⟨rfl,λj aK=>hs j axW⟩;refine af ?_;exact ao _ _ ⟨-1,ay,rfl,axV⟩
theorem ao1(x:aw×Int)(v:aw):aM 315 [.d (bD x),.ptr 0 0] [.box [.d (.str v)]] (.d (.bool (decide (x.1=v)))) [.box [.d (.str v)]]:=by
 unfold bD;refine aFL.cn λad ae Q aV=> ?_;have t1:ad.bq .eql x.1 v=decide (x.1=v):=ax1;generalize decide (x.1=v)=b at*;refine af ?_
 (subst ae;exact bZ aV axX axV)
theorem ao2(x:aw×List Int×Int)(v:aw):aM 335 [.d (jw x),.ptr 0 0] [.box [.d (.str v)]] (.d (.bool (decide (x.1=v)))) [.box [.d (.str v)]]:=by
 unfold jw;refine aFj.cn λad ae Q aV=> ?_;have t1:ad.bq .eql x.1 v=decide (x.1=v):=ax1;generalize decide (x.1=v)=b at*;generalize x.2.1.map int=L at*;refine af ?_
 (subst ae;exact bZ aV axX axV)
theorem ao3{n:Int}(h:dG n):aM 181 [.d (int n)] [] (.d (.str (Lib.itoa n))) []:=alF exts.ci amH h.1 h.2
theorem C'{n:Int}(h:dG n):∃s:aw,s.length<=20/\aM 181 [.d (int n)] [] (.d (.str s)) []:=⟨_,alG h.1 h.2,ao3 h⟩
theorem GI:∀l:List aw,aH.fu (l.map D.str)=some l
 |[]=>rfl
 |x::l=>by show(match aH.fu (l.map D.str)with|some l=>some (x::l)|none=>none)=_;rw[GI l]
def lens(l:List aw):Nat:=fS (λx=>x.length) l
theorem IW(sep:aw):∀l:List aw,(l.flatMap λx=>sep++x).length+200*l.length<=lens l+sep.length*l.length
 |[]=>aAd _
 |x::l=>by
  have:=IW sep l;show((sep++x)++l.flatMap λx=>sep++x).length+200*(l.length+1)<=200+x.length+lens l+sep.length*(l.length+1);grind
theorem Mw{sep:aw}(hs:sep.length<=100)(l:List aw):(sx sep l).length+100*l.length<=lens l:=by
 cases l with
 |nil=>exact aAd _
 |cons a l=>
  have:=IW sep l;have sh:sep.length*l.length<=100*l.length:=aAV _ hs;show(a++l.flatMap λx=>sep++x).length+100*(l.length+1)<=200+a.length+lens l;grind
theorem sN(l:List aw):200*l.length<=lens l:=by
 induction l with
 |nil=>simp
 |cons x l ih=>show 200*(l.length+1)<=200+x.length+lens l;omega
theorem sO(l m:List aw):lens (l++m)=lens l+lens m:=q9 _ _
theorem ao4(ss:List aw)(sep:aw)(hs:sep.length<=100)(h:lens ss<=100000000000):∃s:aw,s.length<=lens ss/\aM 131 [.d (.list 1 (ss.map .str)),.d (.str sep)] [] (.d (.str s)) []:=by
 have h1:=Mw hs ss;have sh:=sN ss;exact⟨_,axW,FM exts.Cw exts.j (GI ss) axW axW⟩
theorem x6{l:List aw}:(l.map D.str).length=l.length:=aAb _
theorem ao5{ad:bm}(h:ad=bm.bU){l:List D}{i:Nat}{d:D}(hi:l[i]?=some d):ad.get l (Int.ofNat i)=d:=by
 subst h;show l.getD i .dP=_;simp_all
theorem Mx{ad:bm}(h:ad=bm.bU):∀a b,ad.bq .eql a b=decide (a=b):=λ_ _=>ayj
theorem acf(k n:Int)(t:aw)(aE:t.length<=1073741824):∃b:Bool,aM 183 [.d (p5 k n t)] [] (.d (.bool b)) []:=by
 refine gZ ?_;have aj:=abo t aE;generalize xT t=b at aj;refine ZR.cu _ λad ae K ao=> ?_;refine af ?_;repeat' (split<;>refine af ?_)
 all_goals exact ao _ _ ⟨_,rfl,axV⟩
theorem acg(k n:Int)(t:aw)(aE:t.length<=1073741824)(ay:dG n):∃s:aw,s.length<=2*t.length+20/\aM 136 [.d (p5 k n t)] [] (.d (.str s)) []:=by
 refine fK ?_;obtain⟨b,aj⟩:=acf k n t aE;obtain⟨i,hi,aF⟩:=C' ay;have aZ:=abp t aE;have aS:=abm t;generalize aV:(34::(mg t++[34]):aw)=Q at aZ;have Bz:Q.length=(mg t).length+2:=axZ;refine XK.cu _ λad ae K ao=> ?_;refine af ?_;repeat' (split<;>refine af ?_)
 .exact ao _ _ ⟨[110,117,108,108],axX,rfl,axV⟩
 .exact ao _ _ ⟨i,axW,rfl,axV⟩
 .exact ao _ _ ⟨Q,axW,rfl,axV⟩
 .exact ao _ _ ⟨_,aAa _,rfl,axV⟩
theorem ach(c:mj):∃r:Nat,r<=8/\aM 266 [.d (.agg c.cs)] [] (.d (int (r:Int))) []:=by
 refine fK ?_;refine aFF.cu _ λad ae K ao=> ?_;obtain⟨o,bd,hv⟩:=alw ae c.op (kl:=[.str [33,61],.str [37],.str [42],.str [43],.str [45],.str [47],.str [60],.str [60,61],.str [61],.str [62],.str [62,61],.str [97,110,100],.str [111,114]])
  (vl:=[.int .i64 4,.int .i64 6,.int .i64 6,.int .i64 5,.int .i64 5,.int .i64 6,.int .i64 4,.int .i64 4,.int .i64 4,.int .i64 4,.int .i64 4,.int .i64 2,.int .i64 1]) axX rfl
 have pC:o=none\/∃n:Nat,n<=8/\o=some (int (n:Int)):=by
  cases o with
  |none=>simp
  |some v=>
   have:=hv v rfl;simp only[aAs,aAO,aBo]at this;rcases this with rfl|rfl|rfl|rfl|rfl|rfl|rfl|rfl|rfl|rfl|rfl|rfl|rfl
   all_goals exact .inr ⟨_,ax0,rfl⟩
 rcases pC with rfl|⟨n,ay,rfl⟩
 .refine af ?_;repeat' (split<;>refine af ?_)
  all_goals first|exact ao _ _ ⟨0,ax0,rfl,axV⟩|exact ao _ _ ⟨3,ax0,rfl,axV⟩|exact ao _ _ ⟨7,ax0,rfl,axV⟩|exact ao _ _ ⟨8,ax0,rfl,axV⟩
 .refine af ?_;repeat' (split<;>refine af ?_)
  all_goals first|exact ao _ _ ⟨n,ay,rfl,axV⟩|exact ao _ _ ⟨0,ax0,rfl,axV⟩|exact ao _ _ ⟨3,ax0,rfl,axV⟩|exact ao _ _ ⟨7,ax0,rfl,axV⟩|exact ao _ _ ⟨8,ax0,rfl,axV⟩
def vR(x:aB):Prop:=∃s:aw,s.length+600<=8*x.w/\aM 224 [.d (.agg x.bQ.cs)] [] (.d (.str s)) []
def dJ:Nat:=1000000000
theorem GJ{x:aB}(ak:vR x)(hw:x.w<=dJ)(k:Int):∃s:aw,s.length+598<=8*x.w/\aM 264 [.d (.agg x.bQ.cs),.d (int k)] [] (.d (.str s)) []:=by
 obtain⟨t,aE,aj⟩:=ak;obtain⟨r,ax,aF⟩:=ach x.bQ;unfold dJ at hw;generalize x.bQ=c at aj aF⊢;refine fK ?_;refine Yn.cu _ λad ae K ao=> ?_;have h1:ad.fJ [40] t=true:=aya;have sh:ad.fJ (ad.cQ [40] t) [41]=true:=ax8;refine af ?_;repeat' (split<;>refine af ?_)
 .exact ao _ _ ⟨_,ax1,rfl,axV⟩
 .exact ao _ _ ⟨t,axW,rfl,axV⟩
theorem ao6{x:aB}(ak:vR x)(hw:x.w<=dJ):∃s:aw,s.length+598<=8*x.w/\aM 265 [.d (.agg x.bQ.cs)] [] (.d (.str s)) []:=by
 obtain⟨s,hs,aZ⟩:=GJ ak hw 7;obtain⟨t,aE,aj⟩:=ak;unfold dJ at hw;generalize x.bQ=c at aj aZ⊢;refine fK ?_;refine aE'.cu _ λad ae K ao=> ?_;have h1:ad.fJ [40] t=true:=aya;have sh:ad.fJ (ad.cQ [40] t) [41]=true:=ax8;refine af ?_;repeat' (split<;>refine af ?_)
 .exact ao _ _ ⟨_,ax1,rfl,axV⟩
 all_goals exact ao _ _ ⟨s,axW,rfl,axV⟩
theorem x7{ad:bm}(h:ad=bm.bU):∀l,ad.len l=l.length:=λ_=>ayj
theorem oq{ad:bm}(h:ad=bm.bU):∀l n,ad.get l n=l.getD n.toNat .dP:=λ_ _=>ayj
theorem get_at{ad:bm}(h:ad=bm.bU){l:List D}{i:Nat}(hi:i<l.length):ad.get l (Int.ofNat i)=l[i]:=by
 grind[oq]
theorem ao7(a:aB):aB.ds [a]=[.agg a.bQ.cs]:=congrArg (λy=>[y]) (aB.mU a)
theorem iN(a b:aB):aB.ds [a,b]=[.agg a.bQ.cs,.agg b.bQ.cs]:=by show[a.d,b.d]=_;rw[aB.mU,aB.mU];rfl
theorem ld:∀l:List aB,aB.ds l=l.map aB.d
 |[]=>rfl
 |x::l=>congrArg (x.d:: ·) (ld l)
theorem aB.sP(x:aB):200<=x.w:=by cases x;show 200<=200+_+_+_+_;omega
theorem ao8(x:aB)(aC:x.good)(hw:x.w<=dJ)(ih:∀y,y∈x.l->vR y):vR x:=by
 obtain⟨k,nm,gy,vi,eL,op,l⟩:=x;have xi:dG vi:=aC.1;have vn:(aB.mk k nm gy vi eL op l).w=200+nm.length+eL.length+op.length+aB.ws l:=rfl;replace ih:∀y,y∈l->vR y:=ih;unfold vR;rw[vn]at hw⊢;unfold dJ at hw;show ∃s:aw,_/\bG _ _ _ [.d (.agg (mj.cs ⟨k,nm,gy,vi,eL,op,aB.ds l⟩))] _ _ _;suffices h:∃r s',(∃s:aw,s.length+600<=8*(200+nm.length+eL.length+op.length+aB.ws l)/\r=.d (.str s)/\s'=[])/\aM 224 [.d (.agg (mj.cs ⟨k,nm,gy,vi,eL,op,aB.ds l⟩))] [] r s' by
  grind
 by_cases h1:k=1
 .subst h1;generalize aB.ds l=L;refine CW.cu _ λad ae K ao=> ?_;conv=>cbv
  repeat' ((first|refine cZ ?_|refine c6 ?_|simp -proj only[e8 ae]|(split<;>(rename_i h;try simp only[h])))<;>conv=>cbv)
  exact ao _ _ ⟨nm,axW,rfl,axV⟩
 by_cases sh:k=2
 .subst sh;obtain⟨s,hs,aj⟩:=acg gy vi eL axW xi;generalize aB.ds l=L;unfold p5 at aj;refine CW.cu _ λad ae K ao=> ?_;conv=>cbv
  repeat' ((first|refine cZ ?_|refine c6 ?_|simp -proj only[e8 ae]|(split<;>(rename_i h;try simp only[h])))<;>conv=>cbv)
  exact ao _ _ ⟨s,axW,rfl,axV⟩
 by_cases av:k=3
 .subst av;match l,ih,hw with
  |[],_,_=>
   refine CW.cu _ λad ae K ao=> ?_;conv=>cbv
   repeat' ((first|refine cZ ?_|refine c6 ?_|simp -proj only[e8 ae,x7 ae]|(split<;>(rename_i h;try simp only[h])))<;>conv=>cbv)
   exact ao _ _ ⟨[],axZ,rfl,axV⟩
  |[a],ih,hw=>
   rw[show aB.ws [a]=a.w from by show a.w+0=_;omega]at hw⊢;have bp:=ih a axX;obtain⟨s,hs,aj⟩:=GJ bp ayc 3;obtain⟨t,aE,aF⟩:=ao6 bp ayc;rw[ao7];generalize a.bQ=c at aj aF⊢;refine CW.cu _ λad ae K ao=> ?_;have g1:ad.fJ [110,111,116,32] s=true:=aya;have g2:ad.fJ op t=true:=by simp only[aJ ae,aAi];omega
   conv=>cbv
   repeat' ((first|refine cZ ?_|refine c6 ?_|simp -proj only[e8 ae,x7 ae,oq ae]|(split<;>(rename_i h;try simp only[h])))<;>conv=>cbv)
   .exact ao _ _ ⟨_,ays,rfl,axV⟩
   exact ao _ _ ⟨_,ays,rfl,axV⟩
  |a::b::l,_,_=>
   have bE:(aB.ds (a::b::l)).length=l.length+2:=by grind[aB.uo]
   generalize aB.ds (a::b::l)=L at bE;refine CW.cu _ λad ae K ao=> ?_;have g1:ad.aD .eql (Int.ofNat (ad.len L)) 1=false:=ayb;conv=>cbv
   repeat' ((first|refine cZ ?_|refine c6 ?_|simp -proj only[g1,e8 ae]|(split<;>(rename_i h;try simp only[h])))<;>conv=>cbv)
   exact ao _ _ ⟨[],axZ,rfl,axV⟩
 by_cases aW:k=4
 .subst aW;match l,ih,hw with
  |[],_,_=>
   refine CW.cu _ λad ae K ao=> ?_;conv=>cbv
   repeat' ((first|refine cZ ?_|refine c6 ?_|simp -proj only[e8 ae,x7 ae]|(split<;>(rename_i h;try simp only[h])))<;>conv=>cbv)
   exact ao _ _ ⟨[],axZ,rfl,axV⟩
  |[a],ih,hw=>
   generalize bE:aB.ds [a]=L;have bE:L.length=1:=by rw[<-bE];rfl
   refine CW.cu _ λad ae K ao=> ?_;have g1:ad.aD .eql (Int.ofNat (ad.len L)) 2=false:=ax1;conv=>cbv
   repeat' ((first|refine cZ ?_|refine c6 ?_|simp -proj only[g1,e8 ae]|(split<;>(rename_i h;try simp only[h])))<;>conv=>cbv)
   exact ao _ _ ⟨[],axZ,rfl,axV⟩
  |[a,b],ih,hw=>
   rw[show aB.ws [a,b]=a.w+b.w from by show a.w+(b.w+0)=_;omega]at hw⊢;have bp:=ih a axX;have au:=ih b axX;obtain⟨r,ax,b2⟩:=ach ⟨4,nm,gy,vi,eL,op,aB.ds [a,b]⟩;rw[iN]at b2⊢;refine CW.cu _ λad ae K ao=> ?_;have aq:∀n,∃s:aw,s.length+598<=8*a.w/\aM 264 [.d (.agg a.bQ.cs),.d (int n)] [] (.d (.str s)) []:=GJ bp ayc;obtain⟨s1,BH,aj⟩:=aq (r:Int);obtain⟨s2,dR,aF⟩:=aq (ad.io .add .i64 (r:Int) 1);obtain⟨kE,awt,aZ⟩:=GJ au ayc (ad.io .add .i64 (r:Int) 1);generalize a.bQ=c at aj aF b2 aq⊢;generalize b.bQ=c2 at aZ b2⊢;have vJ:∀s:aw,s.length+598<=8*a.w->ad.fJ s [32]=true/\ad.fJ (ad.cQ s [32]) op=true/\ad.fJ (ad.cQ (ad.cQ s [32]) op) [32]=true/\ad.fJ (ad.cQ (ad.cQ (ad.cQ s [32]) op) [32]) kE=true/\(ad.cQ (ad.cQ (ad.cQ (ad.cQ s [32]) op) [32]) kE).length+600<=8*(200+nm.length+eL.length+op.length+(a.w+b.w)):=by
    intro s hs;simp only[aJ ae,aAi,aAA,aAu,aA6];omega
   obtain⟨bw,a2,a3,a4,a5⟩:=vJ s1 BH;obtain⟨bJ,a6,cq,im,sQ⟩:=vJ s2 dR;conv=>cbv
   repeat' ((first|refine cZ ?_|refine c6 ?_|simp -proj only[e8 ae,x7 ae,oq ae]|(split<;>(rename_i h;try simp only[h])))<;>conv=>cbv)
   .exact ao _ _ ⟨_,sQ,rfl,axV⟩
   .exact ao _ _ ⟨_,a5,rfl,axV⟩
  |a::b::d::l,_,_=>
   have bE:(aB.ds (a::b::d::l)).length=l.length+3:=by grind[aB.uo]
   generalize aB.ds (a::b::d::l)=L at bE;refine CW.cu _ λad ae K ao=> ?_;have g1:ad.aD .eql (Int.ofNat (ad.len L)) 2=false:=ayb;conv=>cbv
   repeat' ((first|refine cZ ?_|refine c6 ?_|simp -proj only[g1,e8 ae]|(split<;>(rename_i h;try simp only[h])))<;>conv=>cbv)
   exact ao _ _ ⟨[],axZ,rfl,axV⟩
 by_cases bL:k=5
 .subst bL;have rU:∀i (h:i<l.length),(aB.ds l)[i]?=some (.agg l[i].bQ.cs):=by
   intro i h;rw[ld,aA4,aAj h];exact congrArg some (aB.mU _)
  have bE:=aB.uo l;clear vn aC;generalize aB.ds l=L at rU bE⊢;have sj:∀(l:List aB) i,aB.ws (l.take i)<=aB.ws l:=by
   intro l;induction l with
   |nil=>simp
   |cons x l ih=>intro i;cases i with
    |zero=>exact aAa _
    |succ i=>have:=ih i;show x.w+_<=x.w+_;omega
  refine CW.cu _ λad ae K ao=> ?_;conv=>cbv
  repeat' ((first|refine cZ ?_|refine c6 ?_|simp -proj only[e8 ae]|(split<;>(rename_i h;try simp only[h])))<;>conv=>cbv)
  refine⟨bX (λz:Nat×List D=>pV [(1,.dT 1 0),(5,.own 1 z.2),(101,.d (.list 7 L)),(102,.d (int (Int.ofNat (ad.len L)))),(103,.d (int (Int.ofNat z.1)))] [(1,(mj.cs ⟨5,nm,gy,vi,eL,op,L⟩).map .d)] []) (λz=>z.1<=l.length/\∃ss:List aw,z.2=ss.map .str/\ss.length=z.1/\lens ss<=8*aB.ws (l.take z.1)) λz=>l.length-z.1,_,⟨(0,[]),⟨aAa _,[],rfl,rfl,aAa _⟩,rfl,axV⟩,?_⟩;rintro _ _ ⟨⟨i,out⟩,⟨hi,ss,fa,aI,hs⟩,rfl,rfl⟩;dsimp only at hi aI hs fa⊢;have hm:=x6 (l:=ss);have ot:=sN ss;have vS:=sj l i;by_cases aA:i<l.length
  .obtain⟨s,BH,aj⟩:=ih l[i] (aAl aA);have g1:ad.aD .lss (Int.ofNat i) (Int.ofNat (ad.len L))=true:=ax1;have g2:=ao5 ae (rU i aA);have g3:=cd ae (n:=i) axW;have kL:lens (ss++[s])<=8*aB.ws (l.take (i+1)):=by
    rw[sO,aA9,aAj aA,aBM,aB.xY];show lens ss+(200+s.length+0)<=8*(aB.ws (l.take i)+(l[i].w+0));omega
   rw[<-fa]at hm;generalize l[i].bQ=c at aj g2;conv=>cbv
   repeat' ((first|refine cZ ?_|refine c6 ?_|simp -proj only[g1,g2,g3]|(split<;>(rename_i h;try simp only[h])))<;>conv=>cbv)
   refine ec (i+1,ad.app out [.str s]) ⟨aA,ss++[s],ayd,axY,kL⟩ (show l.length-(i+1)<l.length-i by omega) axV
  .have dV:i=l.length:=by omega
   have g1:ad.aD .lss (Int.ofNat i) (Int.ofNat (ad.len L))=false:=ax1;obtain⟨t,aE,aj⟩:=ao4 ss [44,32] ax0 axW;rw[<-fa]at aj;have h1:ad.fJ nm [40]=true:=aya;have sh:ad.fJ (ad.cQ nm [40]) t=true:=ax8;have av:ad.fJ (ad.cQ (ad.cQ nm [40]) t) [41]=true:=ax8;conv=>cbv
   repeat' ((first|refine cZ ?_|refine c6 ?_|simp -proj only[g1]|(split<;>(rename_i h;try simp only[h])))<;>conv=>cbv)
   exact ao _ _ ⟨_,ays,rfl,axV⟩
 .generalize aB.ds l=L;refine CW.cu _ λad ae K ao=> ?_;have g1:ad.aD .eql k 1=false:=ax6;have g2:ad.aD .eql k 2=false:=ax6;have g3:ad.aD .eql k 3=false:=ax6;have g4:ad.aD .eql k 4=false:=ax6;have g5:ad.aD .eql k 5=false:=ax6;conv=>cbv
  repeat' ((first|refine cZ ?_|refine c6 ?_|simp -proj only[g1,g2,g3,g4,g5]|(split<;>(rename_i h;try simp only[h])))<;>conv=>cbv)
  exact ao _ _ ⟨[],axZ,rfl,axV⟩
theorem Au:∀{l:List aB} {y:aB},aB.mV l->y∈l->y.good
 |x::l,y,h,wa=>by
  rcases aAs.1 wa with rfl|wa
  .exact h.1
  .exact Au h.2 wa
theorem x8:∀{l:List aB} {y:aB},y∈l->y.w<=aB.ws l
 |x::l,y,wa=>by
  show y.w<=x.w+aB.ws l;rcases aAs.1 wa with rfl|wa
  .omega
  .have:=x8 wa;omega
theorem aci:∀(n:Nat) (x:aB),x.w<=n->x.good->x.w<=dJ->vR x:=by
 intro n;induction n with
 |zero=>grind[aB.sP]
 |succ n ih=>
  intro x h aC hw;refine ao8 x aC hw λy wa=> ?_;have aA:y.w+200<=x.w:=by
   obtain⟨k,nm,gy,vi,eL,op,l⟩:=x;have:=x8 (l:=l) wa;show _<=200+nm.length+eL.length+op.length+aB.ws l;omega
  exact ih y axW (by obtain⟨k,nm,gy,vi,eL,op,l⟩:=x;exact Au aC.2 wa) axW
theorem uy{ad:bm}(h:ad=bm.bU)(a b:Int):∃c:Bool,ad.aD .eql a b=c/\(c=true->a=b):=⟨_,ayj,λh=>of_decide_eq_true h⟩
theorem Av{ad:bm}(h:ad=bm.bU)(a b:aw):∃c:Bool,ad.bq .eql a b=c/\(c=true->a=b):=⟨_,ayj,λh=>of_decide_eq_true h⟩
theorem acj{ad:bm}(h:ad=bm.bU)(a b:Int)(c:aw)(a' cj:Int)(c':aw):∃r:Bool,ad.og [1,1,2] [int a,int b,.str c] [int a',int cj,.str c']=some r/\(r=true->a=a'/\b=cj/\c=c'):=by
 subst h;exact⟨_,rfl,λh=>axY⟩
theorem ao9{ad:bm}(h:ad=bm.bU)(a b c a' cj c':Int):∃r:Bool,ad.og [1,1,1] [int a,int b,int c] [int a',int cj,int c']=some r/\(r=true->a=a'/\b=cj/\c=c'):=by
 subst h;exact⟨_,rfl,λh=>axY⟩
theorem aB.ld:∀l:List aB,aB.ds l=l.map λx=>.agg x.bQ.cs
 |[]=>rfl
 |x::l=>by show x.d::aB.ds l=_;rw[aB.mU,aB.ld l];rfl
theorem bk.ld:∀l:List bk,bk.ds l=l.map λx=>.agg x.bB.cs
 |[]=>rfl
 |x::l=>by show x.d::bk.ds l=_;rw[bk.mU,bk.ld l];rfl
def GK(x:aB):Prop:=∀y:aB,∃b:Bool,(b=true->x=y)/\aM 187 [.d (.agg x.bQ.cs),.d (.agg y.bQ.cs)] [] (.d (.bool b)) []
def ao'(L M:List D)(n i:Nat):ag:=cx [(1,.d (.list 7 M)),(2,.d (.fn 187)),(15,.d (.list 7 L)),(16,.d (int (Int.ofNat n))),(17,.d (int (Int.ofNat i)))] []
theorem ack(l m:List aB)(aI:l.length<=1073741824)(ih:∀x∈l,GK x):∃b:Bool,(b=true->l=m)/\aM 188 [.d (.list 7 (l.map λx=>.agg x.bQ.cs)),.d (.list 7 (m.map λx=>.agg x.bQ.cs)),.d (.fn 187)] [] (.d (.bool b)) []:=by
 refine fK ?_;have bE:(l.map λx=>D.agg x.bQ.cs).length=l.length:=aAb _;have b7:(m.map λx=>D.agg x.bQ.cs).length=m.length:=aAb _;have bY:∀i (h:i<l.length),(l.map λx=>D.agg x.bQ.cs)[i]?=some (.agg l[i].bQ.cs):=λi h=>c7 h;have kK:∀i (h:i<m.length),(m.map λx=>D.agg x.bQ.cs)[i]?=some (.agg m[i].bQ.cs):=λi h=>c7 h;generalize (l.map λx=>D.agg x.bQ.cs)=L at*;generalize (m.map λx=>D.agg x.bQ.cs)=M at*;refine ZV.cu _ λad ae K ao=> ?_;by_cases cB:l.length=m.length
 .have t1:ad.aD .neq (Int.ofNat (ad.len L)) (Int.ofNat (ad.len M))=false:=by simp_all[aJ]
  refine af ?_;refine⟨bX (ao' L M (ad.len L)) (λi=>i<=l.length/\l.take i=m.take i) λi=>l.length-i,_,⟨0,⟨aAa _,rfl⟩,rfl,axV⟩,?_⟩;rintro _ _ ⟨i,⟨hi,hs⟩,rfl,rfl⟩;dsimp only at hi hs⊢;by_cases aA:i<l.length
  .have t2:ad.aD .lss (Int.ofNat i) (Int.ofNat (ad.len L))=true:=by simp_all[aJ]
   have fF:i<m.length:=axW;have t3:=cz ae (bY i aA);have t4:=cz ae (kK i fF);have t5:=cd ae (n:=i) axW;obtain⟨b,dY,aj⟩:=ih l[i] (aAl aA) m[i];have dR:b=true->l.take (i+1)=m.take (i+1):=λh=>uw aA fF hs (dY h);clear dY;generalize l[i].bQ=x at*;generalize m[i].bQ=y at*;cases b with
   |true=>
    refine af ?_;exact fixF (i+1) ⟨aA,dR rfl⟩
   |false=>
    refine af ?_;exact ao _ _ ⟨false,(λh=>ax2),rfl,axV⟩
  .have t2:ad.aD .lss (Int.ofNat i) (Int.ofNat (ad.len L))=false:=by simp_all[aJ]
   have fg:l=m:=ux (i:=i) axW axW hs;refine af ?_;exact ao _ _ ⟨true,λ_=>fg,rfl,axV⟩
 .have t1:ad.aD .neq (Int.ofNat (ad.len L)) (Int.ofNat (ad.len M))=true:=by simp only[aJ ae,aAh,aAE,aAp];omega
  refine af ?_;exact ao _ _ ⟨false,(λh=>ax2),rfl,axV⟩
theorem apa(x:aB)(hw:x.w<=dJ)(ih:∀y∈x.l,GK y):GK x:=by
 obtain⟨k,nm,gy,vi,eL,op,l⟩:=x;intro y;obtain⟨k',nc,Da,Db,Dc,ti,bC⟩:=y;have oK:l.length<=1073741824:=by
  have h1:∀l:List aB,l.length<=aB.ws l:=by
   intro l;induction l with
   |nil=>simp
   |cons x l ih=>grind[aB.ws,aB.sP]
  have sh:=h1 l;have av:200+nm.length+eL.length+op.length+aB.ws l<=dJ:=hw;grind[dJ]
 obtain⟨sQ,bL,aj⟩:=ack l bC oK ih;rw[<-aB.ld,<-aB.ld]at aj;show ∃b:Bool,_/\bG _ _ _ [.d (.agg (mj.cs ⟨k,nm,gy,vi,eL,op,aB.ds l⟩)),.d (.agg (mj.cs ⟨k',nc,Da,Db,Dc,ti,aB.ds bC⟩))] _ _ _;generalize aB.ds l=L at*;generalize aB.ds bC=L' at*;refine fK ?_;refine ZT.cu _ λad ae K ao=> ?_;obtain⟨bJ,t1,h1⟩:=uy ae k k';obtain⟨a6,t2,sh⟩:=Av ae nm nc;obtain⟨cq,t3,av⟩:=acj ae gy vi eL Da Db Dc;obtain⟨im,t4,aW⟩:=Av ae op ti;have JX:ad.og [1,1,2] (int gy::List.take 2 [int vi,.str eL]) (int Da::List.take 2 [int Db,.str Dc])=some cq:=t3;have fin:bJ=true->a6=true->cq=true->im=true->sQ=true->aB.mk k nm gy vi eL op l=aB.mk k' nc Da Db Dc ti bC:=axY;have awu:∃b:Bool,(b=true->aB.mk k nm gy vi eL op l=aB.mk k' nc Da Db Dc ti bC)/\D.bool false=.bool b:=⟨false,(λh=>ax2),rfl⟩;have gx:∀s,s=[]->K (.d (.bool false)) s:=λs hs=>ao _ _ ⟨false,(λh=>ax2),rfl,hs⟩;cases bJ with
 |false=>
  refine af ?_;exact gx _ axV
 |true=>
 cases a6 with
 |false=>
  refine af ?_;exact gx _ axV
 |true=>
 cases cq with
 |false=>
  refine af ?_;exact gx _ axV
 |true=>
 cases im with
 |false=>
  refine af ?_;exact gx _ axV
 |true=>
  refine af ?_;exact ao _ _ ⟨sQ,fin rfl rfl rfl rfl,rfl,axV⟩
theorem acm:∀(n:Nat) (x:aB),x.w<=n->x.w<=dJ->GK x:=by
 intro n;induction n with
 |zero=>grind[aB.sP]
 |succ n ih=>
  intro x h hw;refine apa x hw λy wa=> ?_;have aA:y.w+200<=x.w:=by
   obtain⟨k,nm,gy,vi,eL,op,l⟩:=x;have:=x8 (l:=l) wa;show _<=200+nm.length+eL.length+op.length+aB.ws l;omega
  grind
def GL(x:bk):Prop:=∀y:bk,∃b:Bool,(b=true->x=y)/\aM 139 [.d (.agg x.bB.cs),.d (.agg y.bB.cs)] [] (.d (.bool b)) []
def apb(L M:List D)(n i:Nat):ag:=cx [(1,.d (.list 16 M)),(2,.d (.fn 139)),(15,.d (.list 16 L)),(16,.d (int (Int.ofNat n))),(17,.d (int (Int.ofNat i)))] []
theorem apc(l m:List bk)(aI:l.length<=1073741824)(ih:∀x∈l,GL x):∃b:Bool,(b=true->l=m)/\aM 186 [.d (.list 16 (l.map λx=>.agg x.bB.cs)),.d (.list 16 (m.map λx=>.agg x.bB.cs)),.d (.fn 139)] [] (.d (.bool b)) []:=by
 refine fK ?_;have bE:(l.map λx=>D.agg x.bB.cs).length=l.length:=aAb _;have b7:(m.map λx=>D.agg x.bB.cs).length=m.length:=aAb _;have bY:∀i (h:i<l.length),(l.map λx=>D.agg x.bB.cs)[i]?=some (.agg l[i].bB.cs):=λi h=>c7 h;have kK:∀i (h:i<m.length),(m.map λx=>D.agg x.bB.cs)[i]?=some (.agg m[i].bB.cs):=λi h=>c7 h;generalize (l.map λx=>D.agg x.bB.cs)=L at*;generalize (m.map λx=>D.agg x.bB.cs)=M at*;refine X4.cu _ λad ae K ao=> ?_;by_cases cB:l.length=m.length
 .have t1:ad.aD .neq (Int.ofNat (ad.len L)) (Int.ofNat (ad.len M))=false:=by simp_all[aJ]
  refine af ?_;refine⟨bX (apb L M (ad.len L)) (λi=>i<=l.length/\l.take i=m.take i) λi=>l.length-i,_,⟨0,⟨aAa _,rfl⟩,rfl,axV⟩,?_⟩;rintro _ _ ⟨i,⟨hi,hs⟩,rfl,rfl⟩;dsimp only at hi hs⊢;by_cases aA:i<l.length
  .have t2:ad.aD .lss (Int.ofNat i) (Int.ofNat (ad.len L))=true:=by simp_all[aJ]
   have fF:i<m.length:=axW;have t3:=cz ae (bY i aA);have t4:=cz ae (kK i fF);have t5:=cd ae (n:=i) axW;obtain⟨b,dY,aj⟩:=ih l[i] (aAl aA) m[i];have dR:b=true->l.take (i+1)=m.take (i+1):=λh=>uw aA fF hs (dY h);clear dY;generalize l[i].bB=x at*;generalize m[i].bB=y at*;cases b with
   |true=>
    refine af ?_;exact fixF (i+1) ⟨aA,dR rfl⟩
   |false=>
    refine af ?_;exact ao _ _ ⟨false,(λh=>ax2),rfl,axV⟩
  .have t2:ad.aD .lss (Int.ofNat i) (Int.ofNat (ad.len L))=false:=by simp_all[aJ]
   have fg:l=m:=ux (i:=i) axW axW hs;refine af ?_;exact ao _ _ ⟨true,λ_=>fg,rfl,axV⟩
 .have t1:ad.aD .neq (Int.ofNat (ad.len L)) (Int.ofNat (ad.len M))=true:=by simp only[aJ ae,aAh,aAE,aAp];omega
  refine af ?_;exact ao _ _ ⟨false,(λh=>ax2),rfl,axV⟩
def acn(x:b8):Prop:=∀y:b8,∃b:Bool,(b=true->x=y)/\aM 99 [.d (.agg x.cU.cs),.d (.agg y.cU.cs)] [] (.d (.bool b)) []
def apd(L M:List D)(n i:Nat):ag:=cx [(1,.d (.list 25 M)),(2,.d (.fn 99)),(15,.d (.list 25 L)),(16,.d (int (Int.ofNat n))),(17,.d (int (Int.ofNat i)))] []
theorem ape(l m:List b8)(aI:l.length<=1073741824)(ih:∀x∈l,acn x):∃b:Bool,(b=true->l=m)/\aM 98 [.d (.list 25 (l.map λx=>.agg x.cU.cs)),.d (.list 25 (m.map λx=>.agg x.cU.cs)),.d (.fn 99)] [] (.d (.bool b)) []:=by
 refine fK ?_;have bE:(l.map λx=>D.agg x.cU.cs).length=l.length:=aAb _;have b7:(m.map λx=>D.agg x.cU.cs).length=m.length:=aAb _;have bY:∀i (h:i<l.length),(l.map λx=>D.agg x.cU.cs)[i]?=some (.agg l[i].cU.cs):=λi h=>c7 h;have kK:∀i (h:i<m.length),(m.map λx=>D.agg x.cU.cs)[i]?=some (.agg m[i].cU.cs):=λi h=>c7 h;generalize (l.map λx=>D.agg x.cU.cs)=L at*;generalize (m.map λx=>D.agg x.cU.cs)=M at*;refine CQ.cu _ λad ae K ao=> ?_;by_cases cB:l.length=m.length
 .have t1:ad.aD .neq (Int.ofNat (ad.len L)) (Int.ofNat (ad.len M))=false:=by simp_all[aJ]
  refine af ?_;refine⟨bX (apd L M (ad.len L)) (λi=>i<=l.length/\l.take i=m.take i) λi=>l.length-i,_,⟨0,⟨aAa _,rfl⟩,rfl,axV⟩,?_⟩;rintro _ _ ⟨i,⟨hi,hs⟩,rfl,rfl⟩;dsimp only at hi hs⊢;by_cases aA:i<l.length
  .have t2:ad.aD .lss (Int.ofNat i) (Int.ofNat (ad.len L))=true:=by simp_all[aJ]
   have fF:i<m.length:=axW;have t3:=cz ae (bY i aA);have t4:=cz ae (kK i fF);have t5:=cd ae (n:=i) axW;obtain⟨b,dY,aj⟩:=ih l[i] (aAl aA) m[i];have dR:b=true->l.take (i+1)=m.take (i+1):=λh=>uw aA fF hs (dY h);clear dY;generalize l[i].cU=x at*;generalize m[i].cU=y at*;cases b with
   |true=>
    refine af ?_;exact fixF (i+1) ⟨aA,dR rfl⟩
   |false=>
    refine af ?_;exact ao _ _ ⟨false,(λh=>ax2),rfl,axV⟩
  .have t2:ad.aD .lss (Int.ofNat i) (Int.ofNat (ad.len L))=false:=by simp_all[aJ]
   have fg:l=m:=ux (i:=i) axW axW hs;refine af ?_;exact ao _ _ ⟨true,λ_=>fg,rfl,axV⟩
 .have t1:ad.aD .neq (Int.ofNat (ad.len L)) (Int.ofNat (ad.len M))=true:=by simp only[aJ ae,aAh,aAE,aAp];omega
  refine af ?_;exact ao _ _ ⟨false,(λh=>ax2),rfl,axV⟩
theorem apf(l:List aB):l.length<=aB.ws l:=by
 induction l with
 |nil=>simp
 |cons x l ih=>grind[aB.ws,aB.sP]
theorem bk.sP(x:bk):500<=x.w:=by cases x;rw[bk.ra];omega
theorem apg(l:List bk):l.length<=bk.ws l:=by
 induction l with
 |nil=>simp
 |cons x l ih=>grind[bk.ws,bk.sP]
theorem lJ{α:Type}(f:α->Nat)(l:List α):l.length<=fS f l:=by
 induction l with
 |nil=>simp
 |cons x l ih=>grind[fS]
theorem aB.eta(x:aB):x=.mk x.k x.n x.gy x.vi x.eL x.op x.l:=ayL
theorem aB.awv{x y:aB}(h:x=y):x.bQ=y.bQ:=by rw[h]
theorem aph(x:bk)(hw:x.w<=dJ)(ih:∀y∈x.l,GL y):GL x:=by
 obtain⟨k,nm,l,c,ns,xs,on,ai,ob,cD⟩:=x;intro y;obtain⟨k',nc,bC,c',Ak,Al,Dd,vk,tG,De⟩:=y;rw[bk.ra]at hw;unfold dJ at hw;have q1:=apg l;have bF:=apf xs;have cE:=lJ (λx=>x.length) ns;have ei:=lJ (λx:aw×aw=>x.1.length+x.2.length) on;have gF:=lJ (λx:aw×aw×aw=>x.1.length+x.2.1.length+x.2.2.length) ai;have jD:=lJ (λx:aw×Bool=>x.1.length) ob;have apj:fw ns=fS (λx=>x.length) ns:=rfl;have aww:kg on=fS (λx:aw×aw=>x.1.length+x.2.length) on:=rfl;have awx:kh ai=fS (λx:aw×aw×aw=>x.1.length+x.2.1.length+x.2.2.length) ai:=rfl;have awy:ki ob=fS (λx:aw×Bool=>x.1.length) ob:=rfl;have rV:∀x∈xs,x.w<=dJ:=λx ak=>by have:=x8 ak;grind[dJ]
 obtain⟨cq,av,aZ⟩:=apc l bC axW ih;obtain⟨im,aW,bP⟩:=acm c.w c (aAd _) ayc c';obtain⟨sQ,bL,cK⟩:=sv ns Ak axW;obtain⟨Df,cW,dO⟩:=ack xs Al axW λx ak=>acm x.w x (aAd _) (rV x ak);obtain⟨vT,hx,vU⟩:=aoT on Dd axW;obtain⟨Dg,hI,jI⟩:=aoV ai vk axW;obtain⟨aco,iD,uz⟩:=zM ob tG axW;rw[<-bk.ld,<-bk.ld]at aZ;rw[<-aB.ld,<-aB.ld]at dO;show ∃b:Bool,_/\bG _ _ _ [.d (.agg (ef.cs ⟨k,nm,bk.ds l,c.bQ.k,c.bQ.n,c.bQ.gy,c.bQ.vi,c.bQ.eL,c.bQ.op,c.bQ.l,ns.map .str,aB.ds xs,on.map fx,ai.map eM,ob.map fy,cD⟩)),.d (.agg (ef.cs ⟨k',nc,bk.ds bC,c'.bQ.k,c'.bQ.n,c'.bQ.gy,c'.bQ.vi,c'.bQ.eL,c'.bQ.op,c'.bQ.l,Ak.map .str,aB.ds Al,Dd.map fx,vk.map eM,tG.map fy,De⟩))] _ _ _;have fin:∀bJ a6 Dh:Bool,(bJ=true->k=k')->(a6=true->nm=nc)->(Dh=true->cD=De)->bJ=true->a6=true->cq=true->im=true->sQ=true->Df=true->vT=true->Dg=true->aco=true->Dh=true->bk.mk k nm l c ns xs on ai ob cD=bk.mk k' nc bC c' Ak Al Dd vk tG De:=axY;generalize jF:bk.mk k nm l c ns xs on ai ob cD=P at fin;generalize apk:bk.mk k' nc bC c' Ak Al Dd vk tG De=apl at fin;generalize bk.ds l=L at*;generalize bk.ds bC=L' at*;generalize aB.ds xs=X at*;generalize aB.ds Al=awz at*;generalize ns.map D.str=N at*;generalize Ak.map D.str=N' at*;generalize on.map fx=O at*;generalize Dd.map fx=awA at*;generalize ai.map eM=A at*;generalize vk.map eM=awB at*;generalize ob.map fy=B at*;generalize tG.map fy=My at*;generalize c.bQ=va at*;generalize c'.bQ=awC at*;clear av aW bL cW hx hI iD;refine fK ?_;refine Lo.cu _ λad ae K ao=> ?_;obtain⟨bJ,t1,f1⟩:=uy ae k k';obtain⟨a6,t2,f2⟩:=Av ae nm nc;obtain⟨Dh,t10,f10⟩:=uy ae cD De;have fin:=fin bJ a6 Dh f1 f2 f10;have gx:∀s,s=[]->K (.d (.bool false)) s:=λs hs=>ao _ _ ⟨false,(λh=>ax2),rfl,hs⟩;cases bJ with
 |false=>
  refine af ?_;exact gx _ axV
 |true=>
 cases a6 with
 |false=>
  refine af ?_;exact gx _ axV
 |true=>
 cases cq with
 |false=>
  refine af ?_;exact gx _ axV
 |true=>
 cases im with
 |false=>
  refine af ?_;exact gx _ axV
 |true=>
 cases sQ with
 |false=>
  refine af ?_;exact gx _ axV
 |true=>
 cases Df with
 |false=>
  refine af ?_;exact gx _ axV
 |true=>
 cases vT with
 |false=>
  refine af ?_;exact gx _ axV
 |true=>
 cases Dg with
 |false=>
  refine af ?_;exact gx _ axV
 |true=>
 cases aco with
 |false=>
  refine af ?_;exact gx _ axV
 |true=>
  conv=>cbv
  repeat' ((first|refine cZ ?_|refine c6 ?_|simp -proj only[t1,t2,t10]|(split<;>(rename_i h;try simp only[h])))<;>conv=>cbv)
  exact ao _ _ ⟨Dh,fin rfl rfl rfl rfl rfl rfl rfl rfl rfl,rfl,axV⟩
theorem acp:∀{l:List bk} {y:bk},y∈l->y.w<=bk.ws l
 |x::l,y,wa=>by
  show y.w<=x.w+bk.ws l;rcases aAs.1 wa with rfl|wa
  .omega
  .have:=acp wa;omega
theorem bk.apm{x y:bk}(wa:y∈x.l):y.w+500<=x.w:=by
 obtain⟨k,nm,l,c,ns,xs,on,ai,ob,cD⟩:=x;have:=acp (l:=l) wa;rw[bk.ra];omega
theorem apn:∀(n:Nat) (x:bk),x.w<=n->x.w<=dJ->GL x:=by
 intro n;induction n with
 |zero=>grind[bk.sP]
 |succ n ih=>exact λx h hw=>aph x hw λy wa=>by have:=bk.apm wa;grind
theorem apo(l m:List (aw×Int))(aI:l.length<=1073741824):∃b:Bool,(b=true->l=m)/\aM 137 [.d (.list 2 (l.map bD)),.d (.list 2 (m.map bD))] [] (.d (.bool b)) []:=by
 obtain⟨b,au,aj⟩:=ace l m aI;refine⟨b,au,?_⟩;generalize l.map bD=L at*;generalize m.map bD=M at*;refine Zr.cn λad ae Q aV=> ?_;refine af ?_
 (subst ae;exact bZ aV axX axV)
theorem apq(x:b8)(hw:x.w<=dJ):acn x:=by
 obtain⟨k,nm,bq,db,s1,s2,bM,pl,fI,ms⟩:=x;intro y;obtain⟨k',nc,Di,Aw,Ax,Ay,Dj,Dk,Dl,Dm⟩:=y;have hw:1000+nm.length+jU bq+jv bM+pl.w+fI.length+fw ms<=dJ:=hw;unfold dJ at hw;have q1:=lJ (λx:aw×Int=>x.1.length) bq;have bF:=lJ (λx:ja=>x.a.length+x.b.length) bM;have cE:=lJ (λx=>x.length) ms;have awD:jU bq=fS (λx:aw×Int=>x.1.length) bq:=rfl;have awE:jv bM=fS (λx:ja=>x.a.length+x.b.length) bM:=rfl;have apj:fw ms=fS (λx=>x.length) ms:=rfl;obtain⟨cq,av,aZ⟩:=apo bq Di axW;obtain⟨sQ,bL,cK⟩:=aoY bM Dj axW;obtain⟨Df,cW,dO⟩:=apn pl.w pl (aAd _) ayc Dk;obtain⟨Dg,hI,jI⟩:=sv ms Dm axW;show ∃b:Bool,_/\bG _ _ _ [.d (.agg (lb.cs ⟨k,nm,bq.map bD,db,s1,s2,bM.map dW,pl.bB,fI,ms.map .str⟩)),.d (.agg (lb.cs ⟨k',nc,Di.map bD,Aw,Ax,Ay,Dj.map dW,Dk.bB,Dl,Dm.map .str⟩))] _ _ _;have fin:∀bJ a6 im vT:Bool,(bJ=true->k=k')->(a6=true->nm=nc)->(im=true->db=Aw/\s1=Ax/\s2=Ay)->(vT=true->fI=Dl)->bJ=true->a6=true->cq=true->im=true->sQ=true->Df=true->vT=true->Dg=true->(⟨k,nm,bq,db,s1,s2,bM,pl,fI,ms⟩:b8)=⟨k',nc,Di,Aw,Ax,Ay,Dj,Dk,Dl,Dm⟩:=axY;generalize jF:(⟨k,nm,bq,db,s1,s2,bM,pl,fI,ms⟩:b8)=P at fin;generalize apk:(⟨k',nc,Di,Aw,Ax,Ay,Dj,Dk,Dl,Dm⟩:b8)=apl at fin;generalize bq.map bD=S at*;generalize Di.map bD=awF at*;generalize bM.map dW=I at*;generalize Dj.map dW=awG at*;generalize ms.map D.str=N at*;generalize Dm.map D.str=N' at*;generalize pl.bB=c at*;generalize Dk.bB=c' at*;clear av bL cW hI;refine fK ?_;refine CR.cu _ λad ae K ao=> ?_;obtain⟨bJ,t1,f1⟩:=uy ae k k';obtain⟨a6,t2,f2⟩:=Av ae nm nc;obtain⟨im,t4,f4⟩:=ao9 ae db s1 s2 Aw Ax Ay;have alP:ad.og [1,1,1] (int db::List.take 2 [int s1,int s2]) (int Aw::List.take 2 [int Ax,int Ay])=some im:=t4;obtain⟨vT,t7,f7⟩:=Av ae fI Dl;have fin:=fin bJ a6 im vT f1 f2 f4 f7;have gx:∀s,s=[]->K (.d (.bool false)) s:=λs hs=>ao _ _ ⟨false,(λh=>ax2),rfl,hs⟩;cases bJ with
 |false=>
  refine af ?_;exact gx _ axV
 |true=>
 cases a6 with
 |false=>
  refine af ?_;exact gx _ axV
 |true=>
 cases cq with
 |false=>
  refine af ?_;exact gx _ axV
 |true=>
 cases im with
 |false=>
  refine af ?_;exact gx _ axV
 |true=>
 cases sQ with
 |false=>
  refine af ?_;exact gx _ axV
 |true=>
 cases Df with
 |false=>
  refine af ?_;exact gx _ axV
 |true=>
 cases vT with
 |false=>
  refine af ?_;exact gx _ axV
 |true=>
  refine af ?_;exact ao _ _ ⟨Dg,fin rfl rfl rfl rfl rfl rfl rfl,rfl,axV⟩
theorem apr(l m:List b8)(aI:hn l<=dJ):∃b:Bool,(b=true->l=m)/\aM 98 [.d (.list 25 (l.map b8.d)),.d (.list 25 (m.map b8.d)),.d (.fn 99)] [] (.d (.bool b)) []:=by
 have h1:=lJ b8.w l;have sh:hn l=fS b8.w l:=rfl;have av:dJ=1000000000:=rfl;have hm:∀{l:List b8} {x:b8},x∈l->x.w<=hn l:=by
  intro l x ak;induction l with
  |nil=>grind
  |cons y l ih=>
   show _<=200+y.w+hn l;grind
 exact ape l m axW λx ak=>apq x axZ
theorem asO(y:Int):∃x:Bool,aM 318 [.d (int y)] [] (.d (.bool x)) []:=by
 refine gZ ?_;refine aFN.cu _ λad ae K ao=> ?_;refine af ?_;repeat' (split<;>refine af ?_)
 all_goals exact ao _ _ ⟨_,rfl,axV⟩
theorem asP(y m:Int):∃x:Int,aM 293 [.d (int y),.d (int m)] [] (.d (int x)) []:=by
 refine gZ ?_;obtain⟨l,aj⟩:=asO y;by_cases h:m<1\/12<m
 .refine WO.cu _ λad ae K ao=> ?_;have t1:ad.aD .lss m 1=true\/ad.aD .gtr m 12=true:=by
   simp only[aJ ae,aAi];exact h
  rcases t1 with t1|t1
  .refine af ?_;exact ao _ _ ⟨_,rfl,axV⟩
  .cases sh:ad.aD .lss m 1
   .refine af ?_;exact ao _ _ ⟨_,rfl,axV⟩
   .refine af ?_;exact ao _ _ ⟨_,rfl,axV⟩
 .have hm:m=1\/m=2\/m=3\/m=4\/m=5\/m=6\/m=7\/m=8\/m=9\/m=10\/m=11\/m=12:=by omega
  have walk:∀c:Int,(c=1\/c=2\/c=3\/c=4\/c=5\/c=6\/c=7\/c=8\/c=9\/c=10\/c=11\/c=12)->∃r s',(∃x:Int,r=.d (int x)/\s'=[])/\aM 293 [.d (int y),.d (int c)] [] r s':=by
   intro c az;rcases az with rfl|rfl|rfl|rfl|rfl|rfl|rfl|rfl|rfl|rfl|rfl|rfl
   all_goals
    refine WO.cu _ λad ae K ao=> ?_;have t1:∀a b,ad.aD .lss a b=decide (a<b):=λa b=>ay9;have t2:∀a b,ad.aD .gtr a b=decide (b<a):=λa b=>ay9;refine af ?_;repeat' (split<;>refine af ?_)
    all_goals exact ao _ _ ⟨_,rfl,axV⟩
  exact walk m hm
theorem asQ(n:Int):∃x:Int,aM 317 [.d (int n)] [] (.d (int x)) []:=by
 refine gZ ?_;refine aD'.cu _ λad ae K ao=> ?_;refine af ?_;repeat' (split<;>refine af ?_)
 all_goals exact ao _ _ ⟨_,rfl,axV⟩
theorem asR(n:Int):∃x:Int,aM 292 [.d (int n)] [] (.d (int x)) []:=by
 refine gZ ?_;obtain⟨b',aj⟩:=asQ n;refine Yx.cu _ λad ae K ao=> ?_;refine af ?_;exact ao _ _ ⟨_,rfl,axV⟩
theorem asS(n:Int):∃x:Bool,aM 251 [.d (int n)] [] (.d (.bool x)) []:=by
 refine gZ ?_;refine amd.cu _ λad ae K ao=> ?_;refine af ?_;repeat' (split<;>refine af ?_)
 all_goals exact ao _ _ ⟨_,rfl,axV⟩
def asT(n:Int)(y d:Int)(m:Nat):ag:=cx [(0,.d (int n)),(3,.d (int y)),(4,.d (int d)),(5,.d (int (Int.ofNat m)))] []
theorem asU(n:Int)(ay:0<=n):∃x:Int,aM 250 [.d (int n)] [] (.d (int x)) []:=by
 refine gZ ?_;refine amj.cu _ λad ae K ao=> ?_;obtain⟨d,aj⟩:=asR (ad.io .quo .i64 n 12);refine af ?_;refine⟨bX (λz:Int×Nat=>asT n (ad.io .quo .i64 n 12) z.1 z.2) (λz=>z.2<=12) (λz=>13-z.2),_,⟨(d,1),by show 1<=12;omega,rfl,axV⟩,?_⟩;rintro _ _ ⟨⟨d,m⟩,hm,rfl,rfl⟩;dsimp only at hm⊢;have ax:n.tmod 12<12:=Int.tmod_lt_of_pos n axW;cases t1:ad.aD .leq (Int.ofNat m) (ad.io .rem .i64 n 12)with
 |true=>
  have t2:=t1;simp only[aJ ae,aAc,aAi,aAp,aAE,aBf,aAh]at t2;have t3:=cd ae (n:=m) axW;obtain⟨x,aF⟩:=asP (ad.io .add .i64 2000 (ad.io .quo .i64 n 12)) (Int.ofNat m);refine af ?_;exact ec (ad.io .add .i64 d x,m+1) (by show m+1<=12;omega) (show 13-(m+1)<13-m by omega) axV
 |false=>
  refine af ?_;exact ao _ _ ⟨_,rfl,axV⟩
theorem asV(n:Int):∃x:Int,aM 206 [.d (int n)] [] (.d (int x)) []:=by
 refine gZ ?_;refine amb.cu _ λad ae K ao=> ?_;cases t1:ad.aD .lss n 0 with
 |true=>
  refine af ?_;exact ao _ _ ⟨_,rfl,axV⟩
 |false=>
  have t2:=t1;simp only[aJ ae,aAc,aAi,aAp,aAE,aBf,aAh]at t2;obtain⟨d,aj⟩:=asU n axW;obtain⟨b,aF⟩:=asS (ad.io .mul .i64 d 1440);refine af ?_;repeat' (split<;>refine af ?_)
  all_goals exact ao _ _ ⟨_,rfl,axV⟩
theorem asW(k a b i:Int):∃x:Int,aM 159 [.d (.agg [int k,int a,int b]),.d (int i)] [] (.d (int x)) []:=by
 refine gZ ?_;obtain⟨b',aj⟩:=asV i;refine V3.cu _ λad ae K ao=> ?_;refine af ?_;repeat' (split<;>refine af ?_)
 all_goals exact ao _ _ ⟨_,rfl,axV⟩
def aDh(a b:Int):Prop:=0<=a/\a<=b/\b-a<512/\b<=2147483648
theorem Na(k a b:Int):∃x:Int,(x=0->aDh a b)/\aM 145 [.d (.agg [int k,int a,int b])] [] (.d (int x)) []:=by
 suffices h:∃r s',(∃x:Int,(x=0->aDh a b)/\r=.d (int x)/\s'=[])/\aM 145 [.d (.agg [int k,int a,int b])] [] r s' by
  obtain⟨_,_,⟨x,h1,rfl,rfl⟩,h⟩:=h;exact⟨x,h1,h⟩
 refine Zy.cu _ λad ae K ao=> ?_;obtain⟨d,aj⟩:=asW k a b (ad.io .add .i64 b 1);by_cases H:aDh a b
 .refine af ?_;repeat' (split<;>refine af ?_)
  all_goals exact ao _ _ ⟨_,λ_=>H,rfl,axV⟩
 .have sh:ad.aD .lss a 0=false->ad.aD .gtr a b=false->ad.aD .geq (ad.io .sub .i64 b a) 512=false->(ad.aD .lss b 1048576=true\/ad.aD .geq b 2147483648=false)->False:=λh1 sh av aW=>H (by
   have e:=Mq ae (a:=b) (b:=a);simp only[aJ ae,aAp,aAi]at h1 sh aW;have bL:=e axW axW;rw[bL]at av;simp only[aJ ae,aAp]at av;unfold aDh;omega)
  clear H;refine af ?_;repeat' (split<;>refine af ?_)
  all_goals first
   |exact ao _ _ ⟨_,(λh=>absurd h ax0),rfl,axV⟩
   |exact absurd (sh ax9 ax9 ax9 (.inl ax9)) id
   |exact absurd (sh ax9 ax9 ax9 (.inr ax9)) id
theorem asX(k n:Int):∃x:Bool,aM 199 [.d (.agg [int k,int n])] [] (.d (.bool x)) []:=by
 refine gZ ?_;refine UC.cu _ λad ae K ao=> ?_;refine af ?_;repeat' (split<;>refine af ?_)
 all_goals exact ao _ _ ⟨_,rfl,axV⟩
theorem asY(k n k1 bw bJ k2 a2 a6:Int):∃x:Int,aM 148 [.d (.agg [int k,int n]),.d (.agg [int k1,int bw,int bJ]),.d (.agg [int k2,int a2,int a6])] [] (.d (int x)) []:=by
 refine gZ ?_;obtain⟨b',aj⟩:=asX k n;obtain⟨cr,_,aF⟩:=Na k1 bw bJ;obtain⟨dE,_,aZ⟩:=Na k2 a2 a6;refine al'.cu _ λad ae K ao=> ?_;refine af ?_;repeat' (split<;>refine af ?_)
 all_goals exact ao _ _ ⟨_,rfl,axV⟩
end Go.Proofs.YthffhbakgmemaaaGreatDoor
