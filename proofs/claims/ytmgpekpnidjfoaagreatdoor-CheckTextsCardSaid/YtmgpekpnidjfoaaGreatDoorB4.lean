/- Part of texts_said. -/
import Derived.Test.YtmgpekpnidjfoaaGreatDoorB3
set_option maxRecDepth 100000
set_option maxHeartbeats 8000000
set_option linter.unusedSimpArgs false
set_option linter.unusedVariables false
namespace Go.Proofs.YtmgpekpnidjfoaaGreatDoor
open Go Go.aJ
attribute [local irreducible] bM
theorem cV{ad:bn}(h:ad=bn.bY){l:List D}{i:Nat}{d:D}(hi:l[i]?=some d):ad.get l (Int.ofNat i)=d:=by
 subst h;show l.getD i .dO=_;simp_all
theorem CD{ad:bn}(h:ad=bn.bY){ks:List Nat}{x y:List D}{b:Bool}(aq:cF ks x y=some b):ad.oF ks x y=some b:=by subst h;exact aq
theorem dv{α:Type}{f:α->D}{l:List α}{i:Nat}(h:i<l.length):(l.map f)[i]?=some (f l[i]):=axu
theorem tP{α:Type}{l m:List α}{i:Nat}(aH:i<l.length)(hm:i<m.length)(h:l.take i=m.take i)(he:l[i]=m[i]):l.take (i+1)=m.take (i+1):=by
 grind[List.take_add_one]
theorem tQ{α:Type}{l m:List α}{i:Nat}(aH:l.length=i)(hm:m.length=i)(h:l.take i=m.take i):l=m:=axv
def zL(sz:Nat)(L M:List D)(n:Nat)(i:Nat):af:=cA [(0,.d (.list sz L)),(1,.d (.list sz M)),(12,.d (int (Int.ofNat n))),(13,.d (int (Int.ofNat i)))] []
theorem an1(x y:ax×Int):∃b:Bool,cF [2,1] [.str (x.1),int (x.2)] [.str (y.1),int (y.2)]=some b/\(b=true->x=y):=by
 refine⟨_,rfl,λh=> ?_⟩;grind
theorem abq(l m:List (ax×Int))(aH:l.length<=1073741824):∃b:Bool,(b=true->l=m)/\aM 110 [.d (.list 2 (l.map bD)),.d (.list 2 (m.map bD))] [] (.d (.bool b)) []:=by
 refine fL ?_;have bF:(l.map bD).length=l.length:=azG _;have cd:(m.map bD).length=m.length:=azG _;have cl:∀i (h:i<l.length),(l.map bD)[i]?=some (bD l[i]):=λi h=>dv h;have l4:∀i (h:i<m.length),(m.map bD)[i]?=some (bD m[i]):=λi h=>dv h;generalize l.map bD=L at*;generalize m.map bD=M at*;refine YB.cr _ λad ae K ao=> ?_;by_cases cB:l.length=m.length
 .have t1:ad.aF .neq (Int.ofNat (ad.len L)) (Int.ofNat (ad.len M))=false:=by simp_all[aI]
  refine ai ?_;repeat' (split<;>refine ai ?_)
  refine⟨b6 (zL 2 L M (ad.len L)) (λi=>i<=l.length/\l.take i=m.take i) λi=>l.length-i,_,⟨0,⟨azF _,rfl⟩,rfl,axr⟩,?_⟩;rintro _ _ ⟨i,⟨hi,hs⟩,rfl,rfl⟩;dsimp only at hi hs⊢;by_cases aB:i<l.length
  .have t2:ad.aF .lss (Int.ofNat i) (Int.ofNat (ad.len L))=true:=by simp_all[aI]
   have fE:i<m.length:=axs;have t3:=cV ae (cl i aB);have t4:=cV ae (l4 i fE);have t5:=cv ae (n:=i) axs;obtain⟨b,gZ,dP⟩:=an1 l[i] m[i];have t6:=CD ae gZ;unfold bD at t3 t4;have dW:b=true->l.take (i+1)=m.take (i+1):=λh=>tP aB fE hs (dP h);clear gZ dP;generalize l[i]=x at*;generalize m[i]=y at*;obtain⟨nR,b0⟩:=x;obtain⟨pT,cT⟩:=y;dsimp only at t3 t4 t6;have t7:ad.oF [2,1] (.str (nR)::List.take 1 [int (b0)]) (.str (pT)::List.take 1 [int (cT)])=some b:=t6;cases b with
   |true=>
    refine ai ?_;repeat' (split<;>refine ai ?_)
    exact fixF (i+1) ⟨aB,dW rfl⟩
   |false=>
    refine ai ?_;repeat' (split<;>refine ai ?_)
    exact ao _ _ ⟨false,(λh=>axy),rfl,axr⟩
  .have t2:ad.aF .lss (Int.ofNat i) (Int.ofNat (ad.len L))=false:=by simp_all[aI]
   have fg:l=m:=tQ (i:=i) axs axs hs;refine ai ?_;repeat' (split<;>refine ai ?_)
   exact ao _ _ ⟨true,λ_=>fg,rfl,axr⟩
 .have t1:ad.aF .neq (Int.ofNat (ad.len L)) (Int.ofNat (ad.len M))=true:=by simp only[aI ae,azM,az8,az2];omega
  refine ai ?_;repeat' (split<;>refine ai ?_)
  exact ao _ _ ⟨false,(λh=>axy),rfl,axr⟩
theorem rW(l m:List (ax))(aH:l.length<=1073741824):∃b:Bool,(b=true->l=m)/\aM 69 [.d (.list 1 (l.map D.str)),.d (.list 1 (m.map D.str))] [] (.d (.bool b)) []:=by
 refine fL ?_;have bF:(l.map D.str).length=l.length:=azG _;have cd:(m.map D.str).length=m.length:=azG _;have cl:∀i (h:i<l.length),(l.map D.str)[i]?=some (D.str l[i]):=λi h=>dv h;have l4:∀i (h:i<m.length),(m.map D.str)[i]?=some (D.str m[i]):=λi h=>dv h;generalize l.map D.str=L at*;generalize m.map D.str=M at*;refine S4.cr _ λad ae K ao=> ?_;by_cases cB:l.length=m.length
 .have t1:ad.aF .neq (Int.ofNat (ad.len L)) (Int.ofNat (ad.len M))=false:=by simp_all[aI]
  refine ai ?_;repeat' (split<;>refine ai ?_)
  refine⟨b6 (zL 1 L M (ad.len L)) (λi=>i<=l.length/\l.take i=m.take i) λi=>l.length-i,_,⟨0,⟨azF _,rfl⟩,rfl,axr⟩,?_⟩;rintro _ _ ⟨i,⟨hi,hs⟩,rfl,rfl⟩;dsimp only at hi hs⊢;by_cases aB:i<l.length
  .have t2:ad.aF .lss (Int.ofNat i) (Int.ofNat (ad.len L))=true:=by simp_all[aI]
   have fE:i<m.length:=axs;have t3:=cV ae (cl i aB);have t4:=cV ae (l4 i fE);have t5:=cv ae (n:=i) axs;have t6:ad.bw .neq l[i] m[i]=!decide (l[i]=m[i]):=axx;generalize ak:l[i]=x at*;generalize hy:m[i]=y at*;cases a6:decide (x=y)with
   |true=>
    rw[a6]at t6;refine ai ?_;repeat' (split<;>refine ai ?_)
    exact fixF (i+1) ⟨aB,tP aB fE hs axu⟩
   |false=>
    rw[a6]at t6;refine ai ?_;repeat' (split<;>refine ai ?_)
    exact ao _ _ ⟨false,(λh=>axy),rfl,axr⟩
  .have t2:ad.aF .lss (Int.ofNat i) (Int.ofNat (ad.len L))=false:=by simp_all[aI]
   have fg:l=m:=tQ (i:=i) axs axs hs;refine ai ?_;repeat' (split<;>refine ai ?_)
   exact ao _ _ ⟨true,λ_=>fg,rfl,axr⟩
 .have t1:ad.aF .neq (Int.ofNat (ad.len L)) (Int.ofNat (ad.len M))=true:=by simp only[aI ae,azM,az8,az2];omega
  refine ai ?_;repeat' (split<;>refine ai ?_)
  exact ao _ _ ⟨false,(λh=>axy),rfl,axr⟩
theorem an2(x y:ax×ax):∃b:Bool,cF [2,2] [.str (x.1),.str (x.2)] [.str (y.1),.str (y.2)]=some b/\(b=true->x=y):=by
 refine⟨_,rfl,λh=> ?_⟩;grind
theorem an3(l m:List (ax×ax))(aH:l.length<=1073741824):∃b:Bool,(b=true->l=m)/\aM 114 [.d (.list 2 (l.map fy)),.d (.list 2 (m.map fy))] [] (.d (.bool b)) []:=by
 refine fL ?_;have bF:(l.map fy).length=l.length:=azG _;have cd:(m.map fy).length=m.length:=azG _;have cl:∀i (h:i<l.length),(l.map fy)[i]?=some (fy l[i]):=λi h=>dv h;have l4:∀i (h:i<m.length),(m.map fy)[i]?=some (fy m[i]):=λi h=>dv h;generalize l.map fy=L at*;generalize m.map fy=M at*;refine WQ.cr _ λad ae K ao=> ?_;by_cases cB:l.length=m.length
 .have t1:ad.aF .neq (Int.ofNat (ad.len L)) (Int.ofNat (ad.len M))=false:=by simp_all[aI]
  refine ai ?_;repeat' (split<;>refine ai ?_)
  refine⟨b6 (zL 2 L M (ad.len L)) (λi=>i<=l.length/\l.take i=m.take i) λi=>l.length-i,_,⟨0,⟨azF _,rfl⟩,rfl,axr⟩,?_⟩;rintro _ _ ⟨i,⟨hi,hs⟩,rfl,rfl⟩;dsimp only at hi hs⊢;by_cases aB:i<l.length
  .have t2:ad.aF .lss (Int.ofNat i) (Int.ofNat (ad.len L))=true:=by simp_all[aI]
   have fE:i<m.length:=axs;have t3:=cV ae (cl i aB);have t4:=cV ae (l4 i fE);have t5:=cv ae (n:=i) axs;obtain⟨b,gZ,dP⟩:=an2 l[i] m[i];have t6:=CD ae gZ;unfold fy at t3 t4;have dW:b=true->l.take (i+1)=m.take (i+1):=λh=>tP aB fE hs (dP h);clear gZ dP;generalize l[i]=x at*;generalize m[i]=y at*;obtain⟨nR,b0⟩:=x;obtain⟨pT,cT⟩:=y;dsimp only at t3 t4 t6;have t7:ad.oF [2,2] (.str (nR)::List.take 1 [.str (b0)]) (.str (pT)::List.take 1 [.str (cT)])=some b:=t6;cases b with
   |true=>
    refine ai ?_;repeat' (split<;>refine ai ?_)
    exact fixF (i+1) ⟨aB,dW rfl⟩
   |false=>
    refine ai ?_;repeat' (split<;>refine ai ?_)
    exact ao _ _ ⟨false,(λh=>axy),rfl,axr⟩
  .have t2:ad.aF .lss (Int.ofNat i) (Int.ofNat (ad.len L))=false:=by simp_all[aI]
   have fg:l=m:=tQ (i:=i) axs axs hs;refine ai ?_;repeat' (split<;>refine ai ?_)
   exact ao _ _ ⟨true,λ_=>fg,rfl,axr⟩
 .have t1:ad.aF .neq (Int.ofNat (ad.len L)) (Int.ofNat (ad.len M))=true:=by simp only[aI ae,azM,az8,az2];omega
  refine ai ?_;repeat' (split<;>refine ai ?_)
  exact ao _ _ ⟨false,(λh=>axy),rfl,axr⟩
theorem an4(x y:ax×ax×ax):∃b:Bool,cF [2,2,2] [.str (x.1),.str (x.2.1),.str (x.2.2)] [.str (y.1),.str (y.2.1),.str (y.2.2)]=some b/\(b=true->x=y):=by
 refine⟨_,rfl,λh=> ?_⟩;grind
theorem an5(l m:List (ax×ax×ax))(aH:l.length<=1073741824):∃b:Bool,(b=true->l=m)/\aM 115 [.d (.list 3 (l.map eL)),.d (.list 3 (m.map eL))] [] (.d (.bool b)) []:=by
 refine fL ?_;have bF:(l.map eL).length=l.length:=azG _;have cd:(m.map eL).length=m.length:=azG _;have cl:∀i (h:i<l.length),(l.map eL)[i]?=some (eL l[i]):=λi h=>dv h;have l4:∀i (h:i<m.length),(m.map eL)[i]?=some (eL m[i]):=λi h=>dv h;generalize l.map eL=L at*;generalize m.map eL=M at*;refine Tj.cr _ λad ae K ao=> ?_;by_cases cB:l.length=m.length
 .have t1:ad.aF .neq (Int.ofNat (ad.len L)) (Int.ofNat (ad.len M))=false:=by simp_all[aI]
  refine ai ?_;repeat' (split<;>refine ai ?_)
  refine⟨b6 (zL 3 L M (ad.len L)) (λi=>i<=l.length/\l.take i=m.take i) λi=>l.length-i,_,⟨0,⟨azF _,rfl⟩,rfl,axr⟩,?_⟩;rintro _ _ ⟨i,⟨hi,hs⟩,rfl,rfl⟩;dsimp only at hi hs⊢;by_cases aB:i<l.length
  .have t2:ad.aF .lss (Int.ofNat i) (Int.ofNat (ad.len L))=true:=by simp_all[aI]
   have fE:i<m.length:=axs;have t3:=cV ae (cl i aB);have t4:=cV ae (l4 i fE);have t5:=cv ae (n:=i) axs;obtain⟨b,gZ,dP⟩:=an4 l[i] m[i];have t6:=CD ae gZ;unfold eL at t3 t4;have dW:b=true->l.take (i+1)=m.take (i+1):=λh=>tP aB fE hs (dP h);clear gZ dP;generalize l[i]=x at*;generalize m[i]=y at*;obtain⟨nR,b0,b7⟩:=x;obtain⟨pT,cT,c8⟩:=y;dsimp only at t3 t4 t6;have t7:ad.oF [2,2,2] (.str (nR)::List.take 2 [.str (b0),.str (b7)]) (.str (pT)::List.take 2 [.str (cT),.str (c8)])=some b:=t6;cases b with
   |true=>
    refine ai ?_;repeat' (split<;>refine ai ?_)
    exact fixF (i+1) ⟨aB,dW rfl⟩
   |false=>
    refine ai ?_;repeat' (split<;>refine ai ?_)
    exact ao _ _ ⟨false,(λh=>axy),rfl,axr⟩
  .have t2:ad.aF .lss (Int.ofNat i) (Int.ofNat (ad.len L))=false:=by simp_all[aI]
   have fg:l=m:=tQ (i:=i) axs axs hs;refine ai ?_;repeat' (split<;>refine ai ?_)
   exact ao _ _ ⟨true,λ_=>fg,rfl,axr⟩
 .have t1:ad.aF .neq (Int.ofNat (ad.len L)) (Int.ofNat (ad.len M))=true:=by simp only[aI ae,azM,az8,az2];omega
  refine ai ?_;repeat' (split<;>refine ai ?_)
  exact ao _ _ ⟨false,(λh=>axy),rfl,axr⟩
theorem an6(x y:ax×Bool):∃b:Bool,cF [2,0] [.str (x.1),.bool (x.2)] [.str (y.1),.bool (y.2)]=some b/\(b=true->x=y):=by
 refine⟨_,rfl,λh=> ?_⟩;grind
theorem y9(l m:List (ax×Bool))(aH:l.length<=1073741824):∃b:Bool,(b=true->l=m)/\aM 116 [.d (.list 2 (l.map fA)),.d (.list 2 (m.map fA))] [] (.d (.bool b)) []:=by
 refine fL ?_;have bF:(l.map fA).length=l.length:=azG _;have cd:(m.map fA).length=m.length:=azG _;have cl:∀i (h:i<l.length),(l.map fA)[i]?=some (fA l[i]):=λi h=>dv h;have l4:∀i (h:i<m.length),(m.map fA)[i]?=some (fA m[i]):=λi h=>dv h;generalize l.map fA=L at*;generalize m.map fA=M at*;refine Ve.cr _ λad ae K ao=> ?_;by_cases cB:l.length=m.length
 .have t1:ad.aF .neq (Int.ofNat (ad.len L)) (Int.ofNat (ad.len M))=false:=by simp_all[aI]
  refine ai ?_;repeat' (split<;>refine ai ?_)
  refine⟨b6 (zL 2 L M (ad.len L)) (λi=>i<=l.length/\l.take i=m.take i) λi=>l.length-i,_,⟨0,⟨azF _,rfl⟩,rfl,axr⟩,?_⟩;rintro _ _ ⟨i,⟨hi,hs⟩,rfl,rfl⟩;dsimp only at hi hs⊢;by_cases aB:i<l.length
  .have t2:ad.aF .lss (Int.ofNat i) (Int.ofNat (ad.len L))=true:=by simp_all[aI]
   have fE:i<m.length:=axs;have t3:=cV ae (cl i aB);have t4:=cV ae (l4 i fE);have t5:=cv ae (n:=i) axs;obtain⟨b,gZ,dP⟩:=an6 l[i] m[i];have t6:=CD ae gZ;unfold fA at t3 t4;have dW:b=true->l.take (i+1)=m.take (i+1):=λh=>tP aB fE hs (dP h);clear gZ dP;generalize l[i]=x at*;generalize m[i]=y at*;obtain⟨nR,b0⟩:=x;obtain⟨pT,cT⟩:=y;dsimp only at t3 t4 t6;have t7:ad.oF [2,0] (.str (nR)::List.take 1 [.bool (b0)]) (.str (pT)::List.take 1 [.bool (cT)])=some b:=t6;cases b with
   |true=>
    refine ai ?_;repeat' (split<;>refine ai ?_)
    exact fixF (i+1) ⟨aB,dW rfl⟩
   |false=>
    refine ai ?_;repeat' (split<;>refine ai ?_)
    exact ao _ _ ⟨false,(λh=>axy),rfl,axr⟩
  .have t2:ad.aF .lss (Int.ofNat i) (Int.ofNat (ad.len L))=false:=by simp_all[aI]
   have fg:l=m:=tQ (i:=i) axs axs hs;refine ai ?_;repeat' (split<;>refine ai ?_)
   exact ao _ _ ⟨true,λ_=>fg,rfl,axr⟩
 .have t1:ad.aF .neq (Int.ofNat (ad.len L)) (Int.ofNat (ad.len M))=true:=by simp only[aI ae,azM,az8,az2];omega
  refine ai ?_;repeat' (split<;>refine ai ?_)
  exact ao _ _ ⟨false,(λh=>axy),rfl,axr⟩
theorem an7(x y:iV):∃b:Bool,cF [2,1,1,2] [.str (x.a),int (x.xm),int (x.nm),.str (x.b)] [.str (y.a),int (y.xm),int (y.nm),.str (y.b)]=some b/\(b=true->x=y):=by
 refine⟨_,rfl,λh=> ?_⟩;have h2:x.a=y.a/\x.xm=y.xm/\x.nm=y.nm/\x.b=y.b:=axu;obtain⟨h0,h1,h2,av⟩:=h2;obtain⟨nR,b0,b7,c7⟩:=x;simp_all
theorem an8(l m:List (iV))(aH:l.length<=1073741824):∃b:Bool,(b=true->l=m)/\aM 67 [.d (.list 4 (l.map eg)),.d (.list 4 (m.map eg))] [] (.d (.bool b)) []:=by
 refine fL ?_;have bF:(l.map eg).length=l.length:=azG _;have cd:(m.map eg).length=m.length:=azG _;have cl:∀i (h:i<l.length),(l.map eg)[i]?=some (eg l[i]):=λi h=>dv h;have l4:∀i (h:i<m.length),(m.map eg)[i]?=some (eg m[i]):=λi h=>dv h;generalize l.map eg=L at*;generalize m.map eg=M at*;refine Yl.cr _ λad ae K ao=> ?_;by_cases cB:l.length=m.length
 .have t1:ad.aF .neq (Int.ofNat (ad.len L)) (Int.ofNat (ad.len M))=false:=by simp_all[aI]
  refine ai ?_;repeat' (split<;>refine ai ?_)
  refine⟨b6 (zL 4 L M (ad.len L)) (λi=>i<=l.length/\l.take i=m.take i) λi=>l.length-i,_,⟨0,⟨azF _,rfl⟩,rfl,axr⟩,?_⟩;rintro _ _ ⟨i,⟨hi,hs⟩,rfl,rfl⟩;dsimp only at hi hs⊢;by_cases aB:i<l.length
  .have t2:ad.aF .lss (Int.ofNat i) (Int.ofNat (ad.len L))=true:=by simp_all[aI]
   have fE:i<m.length:=axs;have t3:=cV ae (cl i aB);have t4:=cV ae (l4 i fE);have t5:=cv ae (n:=i) axs;obtain⟨b,gZ,dP⟩:=an7 l[i] m[i];have t6:=CD ae gZ;unfold eg at t3 t4;have dW:b=true->l.take (i+1)=m.take (i+1):=λh=>tP aB fE hs (dP h);clear gZ dP;generalize l[i]=x at*;generalize m[i]=y at*;obtain⟨nR,b0,b7,c7⟩:=x;obtain⟨pT,cT,c8,du⟩:=y;dsimp only at t3 t4 t6;have t7:ad.oF [2,1,1,2] (.str (nR)::List.take 3 [int (b0),int (b7),.str (c7)]) (.str (pT)::List.take 3 [int (cT),int (c8),.str (du)])=some b:=t6;cases b with
   |true=>
    refine ai ?_;repeat' (split<;>refine ai ?_)
    exact fixF (i+1) ⟨aB,dW rfl⟩
   |false=>
    refine ai ?_;repeat' (split<;>refine ai ?_)
    exact ao _ _ ⟨false,(λh=>axy),rfl,axr⟩
  .have t2:ad.aF .lss (Int.ofNat i) (Int.ofNat (ad.len L))=false:=by simp_all[aI]
   have fg:l=m:=tQ (i:=i) axs axs hs;refine ai ?_;repeat' (split<;>refine ai ?_)
   exact ao _ _ ⟨true,λ_=>fg,rfl,axr⟩
 .have t1:ad.aF .neq (Int.ofNat (ad.len L)) (Int.ofNat (ad.len M))=true:=by simp only[aI ae,azM,az8,az2];omega
  refine ai ?_;repeat' (split<;>refine ai ?_)
  exact ao _ _ ⟨false,(λh=>axy),rfl,axr⟩
def nX(n:Nat)(P:Nat->Bool)(r:Int):Prop:=(r= -1/\∀i,i<n->P i=false)\/∃k,k<n/\r=Int.ofNat k/\P k=true/\∀j,j<k->P j=false
theorem nX.lt{n:Nat}{P:Nat->Bool}{r:Int}(h:nX n P r)(h0:¬r<0):∃k,k<n/\r=Int.ofNat k/\P k=true:=by
 rcases h with⟨rfl,_⟩|⟨k,h1,h2,av,_⟩
 all_goals grind
def jm(x:ax×List Int×Int):D:=.agg [.str x.1,.list 1 (x.2.1.map int),int x.2.2]
def LQ(sz f:Nat)(L:List D)(v:D)(n i:Nat):af:=cA [(0,.d (.list sz L)),(1,.func f [] [.ptr 0 0]),(7,.d (int (Int.ofNat n))),(8,.d (int (Int.ofNat i)))] [.box [.d v]]
theorem an9(l:List (ax×Int))(f:Nat)(v:ax)(P:Nat->Bool)(aH:l.length<=1073741824)
  (bm:∀i (h:i<l.length),aM f [.d (bD l[i]),.ptr 0 0] [.box [.d (.str v)]] (.d (.bool (P i))) [.box [.d (.str v)]]):
  ∃r:Int,nX l.length P r/\aM 283 [.d (.list 2 (l.map bD)),.func f [] [.ptr 0 0]] [.box [.d (.str v)]] (.d (int r)) [.box [.d (.str v)]]:=by
 refine fL ?_;have bF:(l.map bD).length=l.length:=azG _;have cl:∀i (h:i<l.length),(l.map bD)[i]?=some (bD l[i]):=λi h=>dv h;generalize l.map bD=L at*;refine Un.cr _ λad ae K ao=> ?_;refine ai ?_;refine⟨b6 (LQ 2 f L (.str v) (ad.len L)) (λi=>i<=l.length/\∀j,j<i->P j=false) λi=>l.length-i,_,⟨0,⟨azF _,λj h=>axs⟩,rfl,axr⟩,?_⟩;rintro _ _ ⟨i,⟨hi,hs⟩,rfl,rfl⟩;dsimp only at hi hs⊢;by_cases aB:i<l.length
 .have t2:ad.aF .lss (Int.ofNat i) (Int.ofNat (ad.len L))=true:=by simp_all[aI]
  have t3:=cV ae (cl i aB);have t5:=cv ae (n:=i) axs;have aj:=bm i aB;have zM:P i=true->nX l.length P (Int.ofNat i):=λh=>.inr ⟨i,aB,rfl,h,hs⟩;have xp:P i=false->∀j,j<i+1->P j=false:=λh j aL=>axv;unfold bD at*;clear bm;generalize l[i]=x at*;skip;generalize P i=b at*;cases b with
  |true=>
   refine ai ?_;exact ao _ _ ⟨_,zM rfl,rfl,axr⟩
  |false=>
   refine ai ?_;exact fixF (i+1) ⟨aB,xp rfl⟩
 .have t2:ad.aF .lss (Int.ofNat i) (Int.ofNat (ad.len L))=false:=by simp_all[aI]
  have az:nX l.length P (-1):=.inl ⟨rfl,λj aL=>hs j axs⟩;refine ai ?_;repeat' (split<;>refine ai ?_)
  exact ao _ _ ⟨-1,az,rfl,axr⟩
theorem an'(l:List (ax×List Int×Int))(f:Nat)(v:ax)(P:Nat->Bool)(aH:l.length<=1073741824)
  (bm:∀i (h:i<l.length),aM f [.d (jm l[i]),.ptr 0 0] [.box [.d (.str v)]] (.d (.bool (P i))) [.box [.d (.str v)]]):
  ∃r:Int,nX l.length P r/\aM 297 [.d (.list 3 (l.map jm)),.func f [] [.ptr 0 0]] [.box [.d (.str v)]] (.d (int r)) [.box [.d (.str v)]]:=by
 refine fL ?_;have bF:(l.map jm).length=l.length:=azG _;have cl:∀i (h:i<l.length),(l.map jm)[i]?=some (jm l[i]):=λi h=>dv h;generalize l.map jm=L at*;refine XP.cr _ λad ae K ao=> ?_;refine ai ?_;refine⟨b6 (LQ 3 f L (.str v) (ad.len L)) (λi=>i<=l.length/\∀j,j<i->P j=false) λi=>l.length-i,_,⟨0,⟨azF _,λj h=>axs⟩,rfl,axr⟩,?_⟩;rintro _ _ ⟨i,⟨hi,hs⟩,rfl,rfl⟩;dsimp only at hi hs⊢;by_cases aB:i<l.length
 .have t2:ad.aF .lss (Int.ofNat i) (Int.ofNat (ad.len L))=true:=by simp_all[aI]
  have t3:=cV ae (cl i aB);have t5:=cv ae (n:=i) axs;have aj:=bm i aB;have zM:P i=true->nX l.length P (Int.ofNat i):=λh=>.inr ⟨i,aB,rfl,h,hs⟩;have xp:P i=false->∀j,j<i+1->P j=false:=λh j aL=>axv;unfold jm at*;clear bm;generalize l[i]=x at*;generalize x.2.1.map int=M at*;generalize P i=b at*;cases b with
  |true=>
   refine ai ?_;exact ao _ _ ⟨_,zM rfl,rfl,axr⟩
  |false=>
   refine ai ?_;exact fixF (i+1) ⟨aB,xp rfl⟩
 .have t2:ad.aF .lss (Int.ofNat i) (Int.ofNat (ad.len L))=false:=by simp_all[aI]
  have az:nX l.length P (-1):=.inl ⟨rfl,λj aL=>hs j axs⟩;refine ai ?_;repeat' (split<;>refine ai ?_)
  exact ao _ _ ⟨-1,az,rfl,axr⟩
theorem aoa(x:ax×Int)(v:ax):aM 284 [.d (bD x),.ptr 0 0] [.box [.d (.str v)]] (.d (.bool (decide (x.1=v)))) [.box [.d (.str v)]]:=by
 unfold bD;refine VX.cw λad ae Q a8=> ?_;have t1:ad.bw .eql x.1 v=decide (x.1=v):=axx;generalize decide (x.1=v)=b at*;refine ai ?_;all_goals (subst ae;exact b5 a8 axt axr)
theorem aob(x:ax×List Int×Int)(v:ax):aM 298 [.d (jm x),.ptr 0 0] [.box [.d (.str v)]] (.d (.bool (decide (x.1=v)))) [.box [.d (.str v)]]:=by
 unfold jm;refine XR.cw λad ae Q a8=> ?_;have t1:ad.bw .eql x.1 v=decide (x.1=v):=axx;generalize decide (x.1=v)=b at*;generalize x.2.1.map int=L at*;refine ai ?_;all_goals (subst ae;exact b5 a8 axt axr)
theorem aoc{n:Int}(h:dF n):aM 106 [.d (int n)] [] (.d (.str (Lib.itoa n))) []:=akr exts.ci alT h.1 h.2
theorem CF{n:Int}(h:dF n):∃s:ax,s.length<=20/\aM 106 [.d (int n)] [] (.d (.str s)) []:=⟨_,aks h.1 h.2,aoc h⟩
theorem F7:∀l:List ax,aJ.fF (l.map D.str)=some l
 |[]=>rfl
 |x::l=>by show(match aJ.fF (l.map D.str)with|some l=>some (x::l)|none=>none)=_;rw[F7 l]
def lens(l:List ax):Nat:=fM (λx=>x.length) l
theorem Ia(sep:ax):∀l:List ax,(l.flatMap λx=>sep++x).length+200*l.length<=lens l+sep.length*l.length
 |[]=>azI _
 |x::l=>by
  have:=Ia sep l;show((sep++x)++l.flatMap λx=>sep++x).length+200*(l.length+1)<=200+x.length+lens l+sep.length*(l.length+1);grind
theorem LR{sep:ax}(hs:sep.length<=100)(l:List ax):(rY sep l).length+100*l.length<=lens l:=by
 cases l with
 |nil=>exact azI _
 |cons a l=>
  have:=Ia sep l;have h2:sep.length*l.length<=100*l.length:=aAl _ hs;show(a++l.flatMap λx=>sep++x).length+100*(l.length+1)<=200+a.length+lens l;grind
theorem sd(l:List ax):200*l.length<=lens l:=by
 induction l with
 |nil=>simp
 |cons x l ih=>show 200*(l.length+1)<=200+x.length+lens l;omega
theorem se(l m:List ax):lens (l++m)=lens l+lens m:=qM _ _
theorem aod(ss:List ax)(sep:ax)(hs:sep.length<=100)(h:lens ss<=100000000000):∃s:ax,s.length<=lens ss/\aM 46 [.d (.list 1 (ss.map .str)),.d (.str sep)] [] (.d (.str s)) []:=by
 have h1:=LR hs ss;have h2:=sd ss;exact⟨_,axs,E' exts.B1 exts.j (F7 ss) axs axs⟩
theorem xq{l:List ax}:(l.map D.str).length=l.length:=azG _
theorem aoe{ad:bn}(h:ad=bn.bY){l:List D}{i:Nat}{d:D}(hi:l[i]?=some d):ad.get l (Int.ofNat i)=d:=by
 subst h;show l.getD i .dO=_;simp_all
theorem F8{ad:bn}(h:ad=bn.bY):∀a b,ad.bw .eql a b=decide (a=b):=λ_ _=>axT
theorem abr(k n:Int)(t:ax)(aC:t.length<=1073741824):∃b:Bool,aM 108 [.d (pL k n t)] [] (.d (.bool b)) []:=by
 refine gV ?_;have aj:=aaA t aC;generalize xd t=b at aj;refine KK.cr _ λad ae K ao=> ?_;refine ai ?_;repeat' (split<;>refine ai ?_)
 all_goals exact ao _ _ ⟨_,rfl,axr⟩
theorem abt(k n:Int)(t:ax)(aC:t.length<=1073741824)(az:dF n):∃s:ax,s.length<=2*t.length+20/\aM 65 [.d (pL k n t)] [] (.d (.str s)) []:=by
 refine fL ?_;obtain⟨b,aj⟩:=abr k n t aC;obtain⟨i,hi,aD⟩:=CF az;have aW:=aaB t aC;have aT:=aay t;generalize a8:(34::(lY t++[34]):ax)=Q at aW;have AZ:Q.length=(lY t).length+2:=axv;refine KW.cr _ λad ae K ao=> ?_;refine ai ?_;repeat' (split<;>refine ai ?_)
 .exact ao _ _ ⟨[110,117,108,108],axt,rfl,axr⟩
 .exact ao _ _ ⟨i,axs,rfl,axr⟩
 .exact ao _ _ ⟨Q,axs,rfl,axr⟩
 .exact ao _ _ ⟨_,azF _,rfl,axr⟩
theorem abu(c:l0):∃r:Nat,r<=8/\aM 198 [.d (.agg c.cs)] [] (.d (int (r:Int))) []:=by
 refine fL ?_;refine Xl.cr _ λad ae K ao=> ?_;obtain⟨o,bb,hv⟩:=aki ae c.op (kl:=[.str [33,61],.str [37],.str [42],.str [43],.str [45],.str [47],.str [60],.str [60,61],.str [61],.str [62],.str [62,61],.str [97,110,100],.str [111,114]])
  (vl:=[.int .i64 4,.int .i64 6,.int .i64 6,.int .i64 5,.int .i64 5,.int .i64 6,.int .i64 4,.int .i64 4,.int .i64 4,.int .i64 4,.int .i64 4,.int .i64 2,.int .i64 1]) axt rfl
 have o9:o=none\/∃n:Nat,n<=8/\o=some (int (n:Int)):=by
  cases o with
  |none=>simp
  |some v=>
   have:=hv v rfl;simp only[azY,aAi,aAR]at this;rcases this with rfl|rfl|rfl|rfl|rfl|rfl|rfl|rfl|rfl|rfl|rfl|rfl|rfl
   all_goals exact .inr ⟨_,axw,rfl⟩
 rcases o9 with rfl|⟨n,az,rfl⟩
 .refine ai ?_;repeat' (split<;>refine ai ?_)
  all_goals first|exact ao _ _ ⟨0,axw,rfl,axr⟩|exact ao _ _ ⟨3,axw,rfl,axr⟩|exact ao _ _ ⟨7,axw,rfl,axr⟩|exact ao _ _ ⟨8,axw,rfl,axr⟩
 .refine ai ?_;repeat' (split<;>refine ai ?_)
  all_goals first|exact ao _ _ ⟨n,az,rfl,axr⟩|exact ao _ _ ⟨0,axw,rfl,axr⟩|exact ao _ _ ⟨3,axw,rfl,axr⟩|exact ao _ _ ⟨7,axw,rfl,axr⟩|exact ao _ _ ⟨8,axw,rfl,axr⟩
def vf(x:aA):Prop:=∃s:ax,s.length+600<=8*x.w/\aM 163 [.d (.agg x.bT.cs)] [] (.d (.str s)) []
def dS:Nat:=1000000000
theorem F9{x:aA}(ak:vf x)(hw:x.w<=dS)(k:Int):∃s:ax,s.length+598<=8*x.w/\aM 196 [.d (.agg x.bT.cs),.d (int k)] [] (.d (.str s)) []:=by
 obtain⟨t,aC,aj⟩:=ak;obtain⟨r,aw,aD⟩:=abu x.bT;unfold dS at hw;generalize x.bT=c at aj aD⊢;refine fL ?_;refine Vw.cr _ λad ae K ao=> ?_;have h1:ad.fG [40] t=true:=axH;have h2:ad.fG (ad.cR [40] t) [41]=true:=axF;refine ai ?_;repeat' (split<;>refine ai ?_)
 .exact ao _ _ ⟨_,axx,rfl,axr⟩
 .exact ao _ _ ⟨t,axs,rfl,axr⟩
theorem aof{x:aA}(ak:vf x)(hw:x.w<=dS):∃s:ax,s.length+598<=8*x.w/\aM 197 [.d (.agg x.bT.cs)] [] (.d (.str s)) []:=by
 obtain⟨s,hs,aW⟩:=F9 ak hw 7;obtain⟨t,aC,aj⟩:=ak;unfold dS at hw;generalize x.bT=c at aj aW⊢;refine fL ?_;refine Xj.cr _ λad ae K ao=> ?_;have h1:ad.fG [40] t=true:=axH;have h2:ad.fG (ad.cR [40] t) [41]=true:=axF;refine ai ?_;repeat' (split<;>refine ai ?_)
 .exact ao _ _ ⟨_,axx,rfl,axr⟩
 all_goals exact ao _ _ ⟨s,axs,rfl,axr⟩
theorem xr{ad:bn}(h:ad=bn.bY):∀l,ad.len l=l.length:=λ_=>axT
theorem nY{ad:bn}(h:ad=bn.bY):∀l n,ad.get l n=l.getD n.toNat .dO:=λ_ _=>axT
theorem get_at{ad:bn}(h:ad=bn.bY){l:List D}{i:Nat}(hi:i<l.length):ad.get l (Int.ofNat i)=l[i]:=by
 grind[nY]
theorem aog(a:aA):aA.ds [a]=[.agg a.bT.cs]:=congrArg (λy=>[y]) (aA.mK a)
theorem iE(a b:aA):aA.ds [a,b]=[.agg a.bT.cs,.agg b.bT.cs]:=by show[a.d,b.d]=_;rw[aA.mK,aA.mK];rfl
theorem k0:∀l:List aA,aA.ds l=l.map aA.d
 |[]=>rfl
 |x::l=>congrArg (x.d:: ·) (k0 l)
theorem aA.sf(x:aA):200<=x.w:=by cases x;show 200<=200+_+_+_+_;omega
theorem aoh(x:aA)(aE:x.good)(hw:x.w<=dS)(ih:∀y,y∈x.l->vf y):vf x:=by
 obtain⟨k,nm,gx,vi,eK,op,l⟩:=x;have wE:dF vi:=aE.1;have uO:(aA.mk k nm gx vi eK op l).w=200+nm.length+eK.length+op.length+aA.ws l:=rfl;replace ih:∀y,y∈l->vf y:=ih;unfold vf;rw[uO]at hw⊢;unfold dS at hw;show ∃s:ax,_/\bM _ _ _ [.d (.agg (l0.cs ⟨k,nm,gx,vi,eK,op,aA.ds l⟩))] _ _ _;suffices h:∃r s',(∃s:ax,s.length+600<=8*(200+nm.length+eK.length+op.length+aA.ws l)/\r=.d (.str s)/\s'=[])/\aM 163 [.d (.agg (l0.cs ⟨k,nm,gx,vi,eK,op,aA.ds l⟩))] [] r s' by
  grind
 by_cases h1:k=1
 .subst h1;generalize aA.ds l=L;refine pJ.cr _ λad ae K ao=> ?_;conv=>cbv
  repeat' ((first|refine bG ?_|refine bH ?_|simp -proj only[e4 ae]|(split<;>(rename_i h;try simp only[h])))<;>conv=>cbv)
  exact ao _ _ ⟨nm,axs,rfl,axr⟩
 by_cases h2:k=2
 .subst h2;obtain⟨s,hs,aj⟩:=abt gx vi eK axs wE;generalize aA.ds l=L;unfold pL at aj;refine pJ.cr _ λad ae K ao=> ?_;conv=>cbv
  repeat' ((first|refine bG ?_|refine bH ?_|simp -proj only[e4 ae]|(split<;>(rename_i h;try simp only[h])))<;>conv=>cbv)
  exact ao _ _ ⟨s,axs,rfl,axr⟩
 by_cases av:k=3
 .subst av;match l,ih,hw with
  |[],_,_=>
   refine pJ.cr _ λad ae K ao=> ?_;conv=>cbv
   repeat' ((first|refine bG ?_|refine bH ?_|simp -proj only[e4 ae,xr ae]|(split<;>(rename_i h;try simp only[h])))<;>conv=>cbv)
   exact ao _ _ ⟨[],axv,rfl,axr⟩
  |[a],ih,hw=>
   rw[show aA.ws [a]=a.w from by show a.w+0=_;omega]at hw⊢;have br:=ih a axt;obtain⟨s,hs,aj⟩:=F9 br axJ 3;obtain⟨t,aC,aD⟩:=aof br axJ;rw[aog];generalize a.bT=c at aj aD⊢;refine pJ.cr _ λad ae K ao=> ?_;have g1:ad.fG [110,111,116,32] s=true:=axH;have g2:ad.fG op t=true:=by simp only[aI ae,azN];omega
   conv=>cbv
   repeat' ((first|refine bG ?_|refine bH ?_|simp -proj only[e4 ae,xr ae,nY ae]|(split<;>(rename_i h;try simp only[h])))<;>conv=>cbv)
   .exact ao _ _ ⟨_,ax1,rfl,axr⟩
   all_goals exact ao _ _ ⟨_,ax1,rfl,axr⟩
  |a::b::l,_,_=>
   have bF:(aA.ds (a::b::l)).length=l.length+2:=by grind[aA.tK]
   generalize aA.ds (a::b::l)=L at bF;refine pJ.cr _ λad ae K ao=> ?_;have g1:ad.aF .eql (Int.ofNat (ad.len L)) 1=false:=axI;conv=>cbv
   repeat' ((first|refine bG ?_|refine bH ?_|simp -proj only[g1,e4 ae]|(split<;>(rename_i h;try simp only[h])))<;>conv=>cbv)
   exact ao _ _ ⟨[],axv,rfl,axr⟩
 by_cases aZ:k=4
 .subst aZ;match l,ih,hw with
  |[],_,_=>
   refine pJ.cr _ λad ae K ao=> ?_;conv=>cbv
   repeat' ((first|refine bG ?_|refine bH ?_|simp -proj only[e4 ae,xr ae]|(split<;>(rename_i h;try simp only[h])))<;>conv=>cbv)
   exact ao _ _ ⟨[],axv,rfl,axr⟩
  |[a],ih,hw=>
   generalize bF:aA.ds [a]=L;have bF:L.length=1:=by rw[<-bF];rfl
   refine pJ.cr _ λad ae K ao=> ?_;have g1:ad.aF .eql (Int.ofNat (ad.len L)) 2=false:=axx;conv=>cbv
   repeat' ((first|refine bG ?_|refine bH ?_|simp -proj only[g1,e4 ae]|(split<;>(rename_i h;try simp only[h])))<;>conv=>cbv)
   exact ao _ _ ⟨[],axv,rfl,axr⟩
  |[a,b],ih,hw=>
   rw[show aA.ws [a,b]=a.w+b.w from by show a.w+(b.w+0)=_;omega]at hw⊢;have br:=ih a axt;have aq:=ih b axt;obtain⟨r,aw,ch⟩:=abu ⟨4,nm,gx,vi,eK,op,aA.ds [a,b]⟩;rw[iE]at ch⊢;refine pJ.cr _ λad ae K ao=> ?_;have au:∀n,∃s:ax,s.length+598<=8*a.w/\aM 196 [.d (.agg a.bT.cs),.d (int n)] [] (.d (.str s)) []:=F9 br axJ;obtain⟨s1,A5,aj⟩:=au (r:Int);obtain⟨s2,dW,aD⟩:=au (ad.io .add .i64 (r:Int) 1);obtain⟨my,av0,aW⟩:=F9 aq axJ (ad.io .add .i64 (r:Int) 1);generalize a.bT=c at aj aD ch au⊢;generalize b.bT=c2 at aW ch⊢;have u6:∀s:ax,s.length+598<=8*a.w->ad.fG s [32]=true/\ad.fG (ad.cR s [32]) op=true/\ad.fG (ad.cR (ad.cR s [32]) op) [32]=true/\ad.fG (ad.cR (ad.cR (ad.cR s [32]) op) [32]) my=true/\(ad.cR (ad.cR (ad.cR (ad.cR s [32]) op) [32]) my).length+600<=8*(200+nm.length+eK.length+op.length+(a.w+b.w)):=by
    intro s hs;simp only[aI ae,azN,az6,az0,aAz];omega
   obtain⟨bh,a2,a3,a4,a5⟩:=u6 s1 A5;obtain⟨bq,aR,bO,ia,sg⟩:=u6 s2 dW;conv=>cbv
   repeat' ((first|refine bG ?_|refine bH ?_|simp -proj only[e4 ae,xr ae,nY ae]|(split<;>(rename_i h;try simp only[h])))<;>conv=>cbv)
   .exact ao _ _ ⟨_,sg,rfl,axr⟩
   .exact ao _ _ ⟨_,a5,rfl,axr⟩
  |a::b::d::l,_,_=>
   have bF:(aA.ds (a::b::d::l)).length=l.length+3:=by grind[aA.tK]
   generalize aA.ds (a::b::d::l)=L at bF;refine pJ.cr _ λad ae K ao=> ?_;have g1:ad.aF .eql (Int.ofNat (ad.len L)) 2=false:=axI;conv=>cbv
   repeat' ((first|refine bG ?_|refine bH ?_|simp -proj only[g1,e4 ae]|(split<;>(rename_i h;try simp only[h])))<;>conv=>cbv)
   exact ao _ _ ⟨[],axv,rfl,axr⟩
 by_cases bW:k=5
 .subst bW;have rk:∀i (h:i<l.length),(aA.ds l)[i]?=some (.agg l[i].bT.cs):=by
   intro i h;rw[k0,aAK,azQ h];exact congrArg some (aA.mK _)
  have bF:=aA.tK l;clear uO aE;generalize aA.ds l=L at rk bF⊢;have rR:∀(l:List aA) i,aA.ws (l.take i)<=aA.ws l:=by
   intro l;induction l with
   |nil=>simp
   |cons x l ih=>intro i;cases i with
    |zero=>exact azF _
    |succ i=>have:=ih i;show x.w+_<=x.w+_;omega
  refine pJ.cr _ λad ae K ao=> ?_;conv=>cbv
  repeat' ((first|refine bG ?_|refine bH ?_|simp -proj only[e4 ae]|(split<;>(rename_i h;try simp only[h])))<;>conv=>cbv)
  refine⟨b6 (λz:Nat×List D=>pD [(1,.dT 1 0),(5,.own 1 z.2),(101,.d (.list 7 L)),(102,.d (int (Int.ofNat (ad.len L)))),(103,.d (int (Int.ofNat z.1)))] [(1,(l0.cs ⟨5,nm,gx,vi,eK,op,L⟩).map .d)] []) (λz=>z.1<=l.length/\∃ss:List ax,z.2=ss.map .str/\ss.length=z.1/\lens ss<=8*aA.ws (l.take z.1)) λz=>l.length-z.1,_,⟨(0,[]),⟨azF _,[],rfl,rfl,azF _⟩,rfl,axr⟩,?_⟩;rintro _ _ ⟨⟨i,out⟩,⟨hi,ss,e8,aH,hs⟩,rfl,rfl⟩;dsimp only at hi aH hs e8⊢;have hm:=xq (l:=ss);have nZ:=sd ss;have vg:=rR l i;by_cases aB:i<l.length
  .obtain⟨s,A5,aj⟩:=ih l[i] (azT aB);have g1:ad.aF .lss (Int.ofNat i) (Int.ofNat (ad.len L))=true:=axx;have g2:=aoe ae (rk i aB);have g3:=cv ae (n:=i) axs;have kC:lens (ss++[s])<=8*aA.ws (l.take (i+1)):=by
    rw[se,aAS,azQ aB,aBa,aA.xi];show lens ss+(200+s.length+0)<=8*(aA.ws (l.take i)+(l[i].w+0));omega
   rw[<-e8]at hm;generalize l[i].bT=c at aj g2;conv=>cbv
   repeat' ((first|refine bG ?_|refine bH ?_|simp -proj only[g1,g2,g3]|(split<;>(rename_i h;try simp only[h])))<;>conv=>cbv)
   refine eb (i+1,ad.app out [.str s]) ⟨aB,ss++[s],axK,axu,kC⟩ (show l.length-(i+1)<l.length-i by omega) axr
  .have e7:i=l.length:=by omega
   have g1:ad.aF .lss (Int.ofNat i) (Int.ofNat (ad.len L))=false:=axx;obtain⟨t,aC,aj⟩:=aod ss [44,32] axw axs;rw[<-e8]at aj;have h1:ad.fG nm [40]=true:=axH;have h2:ad.fG (ad.cR nm [40]) t=true:=axF;have av:ad.fG (ad.cR (ad.cR nm [40]) t) [41]=true:=axF;conv=>cbv
   repeat' ((first|refine bG ?_|refine bH ?_|simp -proj only[g1]|(split<;>(rename_i h;try simp only[h])))<;>conv=>cbv)
   exact ao _ _ ⟨_,ax1,rfl,axr⟩
 .generalize aA.ds l=L;refine pJ.cr _ λad ae K ao=> ?_;have g1:ad.aF .eql k 1=false:=axC;have g2:ad.aF .eql k 2=false:=axC;have g3:ad.aF .eql k 3=false:=axC;have g4:ad.aF .eql k 4=false:=axC;have g5:ad.aF .eql k 5=false:=axC;conv=>cbv
  repeat' ((first|refine bG ?_|refine bH ?_|simp -proj only[g1,g2,g3,g4,g5]|(split<;>(rename_i h;try simp only[h])))<;>conv=>cbv)
  exact ao _ _ ⟨[],axv,rfl,axr⟩
theorem zN:∀{l:List aA} {y:aA},aA.mL l->y∈l->y.good
 |x::l,y,h,hy=>by
  rcases azY.1 hy with rfl|hy
  .exact h.1
  .exact zN h.2 hy
theorem xt:∀{l:List aA} {y:aA},y∈l->y.w<=aA.ws l
 |x::l,y,hy=>by
  show y.w<=x.w+aA.ws l;rcases azY.1 hy with rfl|hy
  .omega
  .have:=xt hy;omega
theorem abv:∀(n:Nat) (x:aA),x.w<=n->x.good->x.w<=dS->vf x:=by
 intro n;induction n with
 |zero=>grind[aA.sf]
 |succ n ih=>
  intro x h aE hw;refine aoh x aE hw λy hy=> ?_;have aB:y.w+200<=x.w:=by
   obtain⟨k,nm,gx,vi,eK,op,l⟩:=x;have:=xt (l:=l) hy;show _<=200+nm.length+eK.length+op.length+aA.ws l;omega
  exact ih y axs (by obtain⟨k,nm,gx,vi,eK,op,l⟩:=x;exact zN aE.2 hy) axs
theorem tR{ad:bn}(h:ad=bn.bY)(a b:Int):∃c:Bool,ad.aF .eql a b=c/\(c=true->a=b):=⟨_,axT,λh=>of_decide_eq_true h⟩
theorem zO{ad:bn}(h:ad=bn.bY)(a b:ax):∃c:Bool,ad.bw .eql a b=c/\(c=true->a=b):=⟨_,axT,λh=>of_decide_eq_true h⟩
theorem abw{ad:bn}(h:ad=bn.bY)(a b:Int)(c:ax)(a' cg:Int)(c':ax):∃r:Bool,ad.oF [1,1,2] [int a,int b,.str c] [int a',int cg,.str c']=some r/\(r=true->a=a'/\b=cg/\c=c'):=by
 subst h;exact⟨_,rfl,λh=>axu⟩
theorem aoi{ad:bn}(h:ad=bn.bY)(a b c a' cg c':Int):∃r:Bool,ad.oF [1,1,1] [int a,int b,int c] [int a',int cg,int c']=some r/\(r=true->a=a'/\b=cg/\c=c'):=by
 subst h;exact⟨_,rfl,λh=>axu⟩
theorem aA.k0:∀l:List aA,aA.ds l=l.map λx=>.agg x.bT.cs
 |[]=>rfl
 |x::l=>by show x.d::aA.ds l=_;rw[aA.mK,aA.k0 l];rfl
theorem bk.k0:∀l:List bk,bk.ds l=l.map λx=>.agg x.bB.cs
 |[]=>rfl
 |x::l=>by show x.d::bk.ds l=_;rw[bk.mK,bk.k0 l];rfl
def F'(x:aA):Prop:=∀y:aA,∃b:Bool,(b=true->x=y)/\aM 112 [.d (.agg x.bT.cs),.d (.agg y.bT.cs)] [] (.d (.bool b)) []
def aoj(L M:List D)(n i:Nat):af:=cA [(1,.d (.list 7 M)),(2,.d (.fn 112)),(15,.d (.list 7 L)),(16,.d (int (Int.ofNat n))),(17,.d (int (Int.ofNat i)))] []
theorem abx(l m:List aA)(aH:l.length<=1073741824)(ih:∀x∈l,F' x):∃b:Bool,(b=true->l=m)/\aM 113 [.d (.list 7 (l.map λx=>.agg x.bT.cs)),.d (.list 7 (m.map λx=>.agg x.bT.cs)),.d (.fn 112)] [] (.d (.bool b)) []:=by
 refine fL ?_;have bF:(l.map λx=>D.agg x.bT.cs).length=l.length:=azG _;have cd:(m.map λx=>D.agg x.bT.cs).length=m.length:=azG _;have cl:∀i (h:i<l.length),(l.map λx=>D.agg x.bT.cs)[i]?=some (.agg l[i].bT.cs):=λi h=>dv h;have l4:∀i (h:i<m.length),(m.map λx=>D.agg x.bT.cs)[i]?=some (.agg m[i].bT.cs):=λi h=>dv h;generalize (l.map λx=>D.agg x.bT.cs)=L at*;generalize (m.map λx=>D.agg x.bT.cs)=M at*;refine WN.cr _ λad ae K ao=> ?_;by_cases cB:l.length=m.length
 .have t1:ad.aF .neq (Int.ofNat (ad.len L)) (Int.ofNat (ad.len M))=false:=by simp_all[aI]
  refine ai ?_;repeat' (split<;>refine ai ?_)
  refine⟨b6 (aoj L M (ad.len L)) (λi=>i<=l.length/\l.take i=m.take i) λi=>l.length-i,_,⟨0,⟨azF _,rfl⟩,rfl,axr⟩,?_⟩;rintro _ _ ⟨i,⟨hi,hs⟩,rfl,rfl⟩;dsimp only at hi hs⊢;by_cases aB:i<l.length
  .have t2:ad.aF .lss (Int.ofNat i) (Int.ofNat (ad.len L))=true:=by simp_all[aI]
   have fE:i<m.length:=axs;have t3:=cV ae (cl i aB);have t4:=cV ae (l4 i fE);have t5:=cv ae (n:=i) axs;obtain⟨b,dP,aj⟩:=ih l[i] (azT aB) m[i];have dW:b=true->l.take (i+1)=m.take (i+1):=λh=>tP aB fE hs (dP h);clear dP;generalize l[i].bT=x at*;generalize m[i].bT=y at*;cases b with
   |true=>
    refine ai ?_;repeat' (split<;>refine ai ?_)
    exact fixF (i+1) ⟨aB,dW rfl⟩
   |false=>
    refine ai ?_;repeat' (split<;>refine ai ?_)
    exact ao _ _ ⟨false,(λh=>axy),rfl,axr⟩
  .have t2:ad.aF .lss (Int.ofNat i) (Int.ofNat (ad.len L))=false:=by simp_all[aI]
   have fg:l=m:=tQ (i:=i) axs axs hs;refine ai ?_;repeat' (split<;>refine ai ?_)
   exact ao _ _ ⟨true,λ_=>fg,rfl,axr⟩
 .have t1:ad.aF .neq (Int.ofNat (ad.len L)) (Int.ofNat (ad.len M))=true:=by simp only[aI ae,azM,az8,az2];omega
  refine ai ?_;repeat' (split<;>refine ai ?_)
  exact ao _ _ ⟨false,(λh=>axy),rfl,axr⟩
theorem aok(x:aA)(hw:x.w<=dS)(ih:∀y∈x.l,F' y):F' x:=by
 obtain⟨k,nm,gx,vi,eK,op,l⟩:=x;intro y;obtain⟨k',mM,CG,CH,CI,sJ,bC⟩:=y;have o8:l.length<=1073741824:=by
  have h1:∀l:List aA,l.length<=aA.ws l:=by
   intro l;induction l with
   |nil=>simp
   |cons x l ih=>grind[aA.ws,aA.sf]
  have h2:=h1 l;have av:200+nm.length+eK.length+op.length+aA.ws l<=dS:=hw;grind[dS]
 obtain⟨sg,bW,aj⟩:=abx l bC o8 ih;rw[<-aA.k0,<-aA.k0]at aj;show ∃b:Bool,_/\bM _ _ _ [.d (.agg (l0.cs ⟨k,nm,gx,vi,eK,op,aA.ds l⟩)),.d (.agg (l0.cs ⟨k',mM,CG,CH,CI,sJ,aA.ds bC⟩))] _ _ _;generalize aA.ds l=L at*;generalize aA.ds bC=L' at*;refine fL ?_;refine YD.cr _ λad ae K ao=> ?_;obtain⟨bq,t1,h1⟩:=tR ae k k';obtain⟨aR,t2,h2⟩:=zO ae nm mM;obtain⟨bO,t3,av⟩:=abw ae gx vi eK CG CH CI;obtain⟨ia,t4,aZ⟩:=zO ae op sJ;have Jp:ad.oF [1,1,2] (int gx::List.take 2 [int vi,.str eK]) (int CG::List.take 2 [int CH,.str CI])=some bO:=t3;have fin:bq=true->aR=true->bO=true->ia=true->sg=true->aA.mk k nm gx vi eK op l=aA.mk k' mM CG CH CI sJ bC:=axu;have av1:∃b:Bool,(b=true->aA.mk k nm gx vi eK op l=aA.mk k' mM CG CH CI sJ bC)/\D.bool false=.bool b:=⟨false,(λh=>axy),rfl⟩;have gw:∀s,s=[]->K (.d (.bool false)) s:=λs hs=>ao _ _ ⟨false,(λh=>axy),rfl,hs⟩;cases bq with
 |false=>
  refine ai ?_;repeat' (split<;>refine ai ?_)
  exact gw _ axr
 |true=>
 cases aR with
 |false=>
  refine ai ?_;repeat' (split<;>refine ai ?_)
  exact gw _ axr
 |true=>
 cases bO with
 |false=>
  refine ai ?_;repeat' (split<;>refine ai ?_)
  exact gw _ axr
 |true=>
 cases ia with
 |false=>
  refine ai ?_;repeat' (split<;>refine ai ?_)
  exact gw _ axr
 |true=>
  refine ai ?_;repeat' (split<;>refine ai ?_)
  exact ao _ _ ⟨sg,fin rfl rfl rfl rfl,rfl,axr⟩
theorem aby:∀(n:Nat) (x:aA),x.w<=n->x.w<=dS->F' x:=by
 intro n;induction n with
 |zero=>grind[aA.sf]
 |succ n ih=>
  intro x h hw;refine aok x hw λy hy=> ?_;have aB:y.w+200<=x.w:=by
   obtain⟨k,nm,gx,vi,eK,op,l⟩:=x;have:=xt (l:=l) hy;show _<=200+nm.length+eK.length+op.length+aA.ws l;omega
  grind
def Ga(x:bk):Prop:=∀y:bk,∃b:Bool,(b=true->x=y)/\aM 68 [.d (.agg x.bB.cs),.d (.agg y.bB.cs)] [] (.d (.bool b)) []
def aol(L M:List D)(n i:Nat):af:=cA [(1,.d (.list 16 M)),(2,.d (.fn 68)),(15,.d (.list 16 L)),(16,.d (int (Int.ofNat n))),(17,.d (int (Int.ofNat i)))] []
theorem aom(l m:List bk)(aH:l.length<=1073741824)(ih:∀x∈l,Ga x):∃b:Bool,(b=true->l=m)/\aM 111 [.d (.list 16 (l.map λx=>.agg x.bB.cs)),.d (.list 16 (m.map λx=>.agg x.bB.cs)),.d (.fn 68)] [] (.d (.bool b)) []:=by
 refine fL ?_;have bF:(l.map λx=>D.agg x.bB.cs).length=l.length:=azG _;have cd:(m.map λx=>D.agg x.bB.cs).length=m.length:=azG _;have cl:∀i (h:i<l.length),(l.map λx=>D.agg x.bB.cs)[i]?=some (.agg l[i].bB.cs):=λi h=>dv h;have l4:∀i (h:i<m.length),(m.map λx=>D.agg x.bB.cs)[i]?=some (.agg m[i].bB.cs):=λi h=>dv h;generalize (l.map λx=>D.agg x.bB.cs)=L at*;generalize (m.map λx=>D.agg x.bB.cs)=M at*;refine Tg.cr _ λad ae K ao=> ?_;by_cases cB:l.length=m.length
 .have t1:ad.aF .neq (Int.ofNat (ad.len L)) (Int.ofNat (ad.len M))=false:=by simp_all[aI]
  refine ai ?_;repeat' (split<;>refine ai ?_)
  refine⟨b6 (aol L M (ad.len L)) (λi=>i<=l.length/\l.take i=m.take i) λi=>l.length-i,_,⟨0,⟨azF _,rfl⟩,rfl,axr⟩,?_⟩;rintro _ _ ⟨i,⟨hi,hs⟩,rfl,rfl⟩;dsimp only at hi hs⊢;by_cases aB:i<l.length
  .have t2:ad.aF .lss (Int.ofNat i) (Int.ofNat (ad.len L))=true:=by simp_all[aI]
   have fE:i<m.length:=axs;have t3:=cV ae (cl i aB);have t4:=cV ae (l4 i fE);have t5:=cv ae (n:=i) axs;obtain⟨b,dP,aj⟩:=ih l[i] (azT aB) m[i];have dW:b=true->l.take (i+1)=m.take (i+1):=λh=>tP aB fE hs (dP h);clear dP;generalize l[i].bB=x at*;generalize m[i].bB=y at*;cases b with
   |true=>
    refine ai ?_;repeat' (split<;>refine ai ?_)
    exact fixF (i+1) ⟨aB,dW rfl⟩
   |false=>
    refine ai ?_;repeat' (split<;>refine ai ?_)
    exact ao _ _ ⟨false,(λh=>axy),rfl,axr⟩
  .have t2:ad.aF .lss (Int.ofNat i) (Int.ofNat (ad.len L))=false:=by simp_all[aI]
   have fg:l=m:=tQ (i:=i) axs axs hs;refine ai ?_;repeat' (split<;>refine ai ?_)
   exact ao _ _ ⟨true,λ_=>fg,rfl,axr⟩
 .have t1:ad.aF .neq (Int.ofNat (ad.len L)) (Int.ofNat (ad.len M))=true:=by simp only[aI ae,azM,az8,az2];omega
  refine ai ?_;repeat' (split<;>refine ai ?_)
  exact ao _ _ ⟨false,(λh=>axy),rfl,axr⟩
def abz(x:cQ):Prop:=∀y:cQ,∃b:Bool,(b=true->x=y)/\aM 32 [.d (.agg x.d'.cs),.d (.agg y.d'.cs)] [] (.d (.bool b)) []
def aon(L M:List D)(n i:Nat):af:=cA [(1,.d (.list 25 M)),(2,.d (.fn 32)),(15,.d (.list 25 L)),(16,.d (int (Int.ofNat n))),(17,.d (int (Int.ofNat i)))] []
theorem aoo(l m:List cQ)(aH:l.length<=1073741824)(ih:∀x∈l,abz x):∃b:Bool,(b=true->l=m)/\aM 31 [.d (.list 25 (l.map λx=>.agg x.d'.cs)),.d (.list 25 (m.map λx=>.agg x.d'.cs)),.d (.fn 32)] [] (.d (.bool b)) []:=by
 refine fL ?_;have bF:(l.map λx=>D.agg x.d'.cs).length=l.length:=azG _;have cd:(m.map λx=>D.agg x.d'.cs).length=m.length:=azG _;have cl:∀i (h:i<l.length),(l.map λx=>D.agg x.d'.cs)[i]?=some (.agg l[i].d'.cs):=λi h=>dv h;have l4:∀i (h:i<m.length),(m.map λx=>D.agg x.d'.cs)[i]?=some (.agg m[i].d'.cs):=λi h=>dv h;generalize (l.map λx=>D.agg x.d'.cs)=L at*;generalize (m.map λx=>D.agg x.d'.cs)=M at*;refine UF.cr _ λad ae K ao=> ?_;by_cases cB:l.length=m.length
 .have t1:ad.aF .neq (Int.ofNat (ad.len L)) (Int.ofNat (ad.len M))=false:=by simp_all[aI]
  refine ai ?_;repeat' (split<;>refine ai ?_)
  refine⟨b6 (aon L M (ad.len L)) (λi=>i<=l.length/\l.take i=m.take i) λi=>l.length-i,_,⟨0,⟨azF _,rfl⟩,rfl,axr⟩,?_⟩;rintro _ _ ⟨i,⟨hi,hs⟩,rfl,rfl⟩;dsimp only at hi hs⊢;by_cases aB:i<l.length
  .have t2:ad.aF .lss (Int.ofNat i) (Int.ofNat (ad.len L))=true:=by simp_all[aI]
   have fE:i<m.length:=axs;have t3:=cV ae (cl i aB);have t4:=cV ae (l4 i fE);have t5:=cv ae (n:=i) axs;obtain⟨b,dP,aj⟩:=ih l[i] (azT aB) m[i];have dW:b=true->l.take (i+1)=m.take (i+1):=λh=>tP aB fE hs (dP h);clear dP;generalize l[i].d'=x at*;generalize m[i].d'=y at*;cases b with
   |true=>
    refine ai ?_;repeat' (split<;>refine ai ?_)
    exact fixF (i+1) ⟨aB,dW rfl⟩
   |false=>
    refine ai ?_;repeat' (split<;>refine ai ?_)
    exact ao _ _ ⟨false,(λh=>axy),rfl,axr⟩
  .have t2:ad.aF .lss (Int.ofNat i) (Int.ofNat (ad.len L))=false:=by simp_all[aI]
   have fg:l=m:=tQ (i:=i) axs axs hs;refine ai ?_;repeat' (split<;>refine ai ?_)
   exact ao _ _ ⟨true,λ_=>fg,rfl,axr⟩
 .have t1:ad.aF .neq (Int.ofNat (ad.len L)) (Int.ofNat (ad.len M))=true:=by simp only[aI ae,azM,az8,az2];omega
  refine ai ?_;repeat' (split<;>refine ai ?_)
  exact ao _ _ ⟨false,(λh=>axy),rfl,axr⟩
theorem aop(l:List aA):l.length<=aA.ws l:=by
 induction l with
 |nil=>simp
 |cons x l ih=>grind[aA.ws,aA.sf]
theorem bk.sf(x:bk):500<=x.w:=by cases x;rw[bk.qN];omega
theorem aoq(l:List bk):l.length<=bk.ws l:=by
 induction l with
 |nil=>simp
 |cons x l ih=>grind[bk.ws,bk.sf]
theorem lA{α:Type}(f:α->Nat)(l:List α):l.length<=fM f l:=by
 induction l with
 |nil=>simp
 |cons x l ih=>grind[fM]
theorem aA.eta(x:aA):x=.mk x.k x.n x.gx x.vi x.eK x.op x.l:=ayi
theorem aA.av2{x y:aA}(h:x=y):x.bT=y.bT:=by rw[h]
theorem aor(x:bk)(hw:x.w<=dS)(ih:∀y∈x.l,Ga y):Ga x:=by
 obtain⟨k,nm,l,c,ns,xs,on,ah,ob,cC⟩:=x;intro y;obtain⟨k',mM,bC,c',zE,zF,CJ,uM,s0,CK⟩:=y;rw[bk.qN]at hw;unfold dS at hw;have q1:=aoq l;have bK:=aop xs;have cI:=lA (λx=>x.length) ns;have ep:=lA (λx:ax×ax=>x.1.length+x.2.length) on;have gR:=lA (λx:ax×ax×ax=>x.1.length+x.2.1.length+x.2.2.length) ah;have jx:=lA (λx:ax×Bool=>x.1.length) ob;have aos:fH ns=fM (λx=>x.length) ns:=rfl;have av3:j6 on=fM (λx:ax×ax=>x.1.length+x.2.length) on:=rfl;have av4:j7 ah=fM (λx:ax×ax×ax=>x.1.length+x.2.1.length+x.2.2.length) ah:=rfl;have av5:j8 ob=fM (λx:ax×Bool=>x.1.length) ob:=rfl;have rm:∀x∈xs,x.w<=dS:=λx ak=>by have:=xt ak;grind[dS]
 obtain⟨bO,av,aW⟩:=aom l bC axs ih;obtain⟨ia,aZ,bQ⟩:=aby c.w c (azI _) axJ c';obtain⟨sg,bW,cK⟩:=rW ns zE axs;obtain⟨CL,dh,dQ⟩:=abx xs zF axs λx ak=>aby x.w x (azI _) (rm x ak);obtain⟨vh,h6,xu⟩:=an3 on CJ axs;obtain⟨CM,h7,si⟩:=an5 ah uM axs;obtain⟨abA,im,abB⟩:=y9 ob s0 axs;rw[<-bk.k0,<-bk.k0]at aW;rw[<-aA.k0,<-aA.k0]at dQ;show ∃b:Bool,_/\bM _ _ _ [.d (.agg (ef.cs ⟨k,nm,bk.ds l,c.bT.k,c.bT.n,c.bT.gx,c.bT.vi,c.bT.eK,c.bT.op,c.bT.l,ns.map .str,aA.ds xs,on.map fy,ah.map eL,ob.map fA,cC⟩)),.d (.agg (ef.cs ⟨k',mM,bk.ds bC,c'.bT.k,c'.bT.n,c'.bT.gx,c'.bT.vi,c'.bT.eK,c'.bT.op,c'.bT.l,zE.map .str,aA.ds zF,CJ.map fy,uM.map eL,s0.map fA,CK⟩))] _ _ _;have fin:∀bq aR CN:Bool,(bq=true->k=k')->(aR=true->nm=mM)->(CN=true->cC=CK)->bq=true->aR=true->bO=true->ia=true->sg=true->CL=true->vh=true->CM=true->abA=true->CN=true->bk.mk k nm l c ns xs on ah ob cC=bk.mk k' mM bC c' zE zF CJ uM s0 CK:=axu;generalize kU:bk.mk k nm l c ns xs on ah ob cC=P at fin;generalize aot:bk.mk k' mM bC c' zE zF CJ uM s0 CK=aou at fin;generalize bk.ds l=L at*;generalize bk.ds bC=L' at*;generalize aA.ds xs=X at*;generalize aA.ds zF=av6 at*;generalize ns.map D.str=N at*;generalize zE.map D.str=N' at*;generalize on.map fy=O at*;generalize CJ.map fy=av7 at*;generalize ah.map eL=A at*;generalize uM.map eL=av8 at*;generalize ob.map fA=B at*;generalize s0.map fA=LS at*;generalize c.bT=uF at*;generalize c'.bT=av9 at*;clear av aZ bW dh h6 h7 im;refine fL ?_;refine UT.cr _ λad ae K ao=> ?_;obtain⟨bq,t1,f1⟩:=tR ae k k';obtain⟨aR,t2,f2⟩:=zO ae nm mM;obtain⟨CN,t10,f10⟩:=tR ae cC CK;have fin:=fin bq aR CN f1 f2 f10;have gw:∀s,s=[]->K (.d (.bool false)) s:=λs hs=>ao _ _ ⟨false,(λh=>axy),rfl,hs⟩;cases bq with
 |false=>
  refine ai ?_;repeat' (split<;>refine ai ?_)
  exact gw _ axr
 |true=>
 cases aR with
 |false=>
  refine ai ?_;repeat' (split<;>refine ai ?_)
  exact gw _ axr
 |true=>
 cases bO with
 |false=>
  refine ai ?_;repeat' (split<;>refine ai ?_)
  exact gw _ axr
 |true=>
 cases ia with
 |false=>
  refine ai ?_;repeat' (split<;>refine ai ?_)
  exact gw _ axr
 |true=>
 cases sg with
 |false=>
  refine ai ?_;repeat' (split<;>refine ai ?_)
  exact gw _ axr
 |true=>
 cases CL with
 |false=>
  refine ai ?_;repeat' (split<;>refine ai ?_)
  exact gw _ axr
 |true=>
 cases vh with
 |false=>
  refine ai ?_;repeat' (split<;>refine ai ?_)
  exact gw _ axr
 |true=>
 cases CM with
 |false=>
  refine ai ?_;repeat' (split<;>refine ai ?_)
  exact gw _ axr
 |true=>
 cases abA with
 |false=>
  refine ai ?_;repeat' (split<;>refine ai ?_)
  exact gw _ axr
 |true=>
  conv=>cbv
  repeat' ((first|refine bG ?_|refine bH ?_|simp -proj only[t1,t2,t10]|(split<;>(rename_i h;try simp only[h])))<;>conv=>cbv)
  exact ao _ _ ⟨CN,fin rfl rfl rfl rfl rfl rfl rfl rfl rfl,rfl,axr⟩
theorem abC:∀{l:List bk} {y:bk},y∈l->y.w<=bk.ws l
 |x::l,y,hy=>by
  show y.w<=x.w+bk.ws l;rcases azY.1 hy with rfl|hy
  .omega
  .have:=abC hy;omega
theorem bk.aov{x y:bk}(hy:y∈x.l):y.w+500<=x.w:=by
 obtain⟨k,nm,l,c,ns,xs,on,ah,ob,cC⟩:=x;have:=abC (l:=l) hy;rw[bk.qN];omega
theorem aow:∀(n:Nat) (x:bk),x.w<=n->x.w<=dS->Ga x:=by
 intro n;induction n with
 |zero=>grind[bk.sf]
 |succ n ih=>exact λx h hw=>aor x hw λy hy=>by have:=bk.aov hy;grind
theorem aox(l m:List (ax×Int))(aH:l.length<=1073741824):∃b:Bool,(b=true->l=m)/\aM 66 [.d (.list 2 (l.map bD)),.d (.list 2 (m.map bD))] [] (.d (.bool b)) []:=by
 obtain⟨b,aq,aj⟩:=abq l m aH;refine⟨b,aq,?_⟩;generalize l.map bD=L at*;generalize m.map bD=M at*;refine KX.cw λad ae Q a8=> ?_;refine ai ?_;all_goals (subst ae;exact b5 a8 axt axr)
theorem aoy(x:cQ)(hw:x.w<=dS):abz x:=by
 obtain⟨k,nm,bw,db,s1,s2,b1,pl,fY,ms⟩:=x;intro y;obtain⟨k',mM,CO,zP,zQ,zR,CP,CQ,CR,CS⟩:=y;have hw:1000+nm.length+j' bw+jM b1+pl.w+fY.length+fH ms<=dS:=hw;unfold dS at hw;have q1:=lA (λx:ax×Int=>x.1.length) bw;have bK:=lA (λx:iV=>x.a.length+x.b.length) b1;have cI:=lA (λx=>x.length) ms;have av':j' bw=fM (λx:ax×Int=>x.1.length) bw:=rfl;have awa:jM b1=fM (λx:iV=>x.a.length+x.b.length) b1:=rfl;have aos:fH ms=fM (λx=>x.length) ms:=rfl;obtain⟨bO,av,aW⟩:=aox bw CO axs;obtain⟨sg,bW,cK⟩:=an8 b1 CP axs;obtain⟨CL,dh,dQ⟩:=aow pl.w pl (azI _) axJ CQ;obtain⟨CM,h7,si⟩:=rW ms CS axs;show ∃b:Bool,_/\bM _ _ _ [.d (.agg (kZ.cs ⟨k,nm,bw.map bD,db,s1,s2,b1.map eg,pl.bB,fY,ms.map .str⟩)),.d (.agg (kZ.cs ⟨k',mM,CO.map bD,zP,zQ,zR,CP.map eg,CQ.bB,CR,CS.map .str⟩))] _ _ _;have fin:∀bq aR ia vh:Bool,(bq=true->k=k')->(aR=true->nm=mM)->(ia=true->db=zP/\s1=zQ/\s2=zR)->(vh=true->fY=CR)->bq=true->aR=true->bO=true->ia=true->sg=true->CL=true->vh=true->CM=true->(⟨k,nm,bw,db,s1,s2,b1,pl,fY,ms⟩:cQ)=⟨k',mM,CO,zP,zQ,zR,CP,CQ,CR,CS⟩:=axu;generalize kU:(⟨k,nm,bw,db,s1,s2,b1,pl,fY,ms⟩:cQ)=P at fin;generalize aot:(⟨k',mM,CO,zP,zQ,zR,CP,CQ,CR,CS⟩:cQ)=aou at fin;generalize bw.map bD=S at*;generalize CO.map bD=awb at*;generalize b1.map eg=I at*;generalize CP.map eg=awc at*;generalize ms.map D.str=N at*;generalize CS.map D.str=N' at*;generalize pl.bB=c at*;generalize CQ.bB=c' at*;clear av bW dh h7;refine fL ?_;refine X3.cr _ λad ae K ao=> ?_;obtain⟨bq,t1,f1⟩:=tR ae k k';obtain⟨aR,t2,f2⟩:=zO ae nm mM;obtain⟨ia,t4,f4⟩:=aoi ae db s1 s2 zP zQ zR;have akB:ad.oF [1,1,1] (int db::List.take 2 [int s1,int s2]) (int zP::List.take 2 [int zQ,int zR])=some ia:=t4;obtain⟨vh,t7,f7⟩:=zO ae fY CR;have fin:=fin bq aR ia vh f1 f2 f4 f7;have gw:∀s,s=[]->K (.d (.bool false)) s:=λs hs=>ao _ _ ⟨false,(λh=>axy),rfl,hs⟩;cases bq with
 |false=>
  refine ai ?_;repeat' (split<;>refine ai ?_)
  exact gw _ axr
 |true=>
 cases aR with
 |false=>
  refine ai ?_;repeat' (split<;>refine ai ?_)
  exact gw _ axr
 |true=>
 cases bO with
 |false=>
  refine ai ?_;repeat' (split<;>refine ai ?_)
  exact gw _ axr
 |true=>
 cases ia with
 |false=>
  refine ai ?_;repeat' (split<;>refine ai ?_)
  exact gw _ axr
 |true=>
 cases sg with
 |false=>
  refine ai ?_;repeat' (split<;>refine ai ?_)
  exact gw _ axr
 |true=>
 cases CL with
 |false=>
  refine ai ?_;repeat' (split<;>refine ai ?_)
  exact gw _ axr
 |true=>
 cases vh with
 |false=>
  refine ai ?_;repeat' (split<;>refine ai ?_)
  exact gw _ axr
 |true=>
  refine ai ?_;repeat' (split<;>refine ai ?_)
  exact ao _ _ ⟨CM,fin rfl rfl rfl rfl rfl rfl rfl,rfl,axr⟩
theorem aoz(l m:List cQ)(aH:iD l<=dS):∃b:Bool,(b=true->l=m)/\aM 31 [.d (.list 25 (l.map cQ.d)),.d (.list 25 (m.map cQ.d)),.d (.fn 32)] [] (.d (.bool b)) []:=by
 have h1:=lA cQ.w l;have h2:iD l=fM cQ.w l:=rfl;have av:dS=1000000000:=rfl;have hm:∀{l:List cQ} {x:cQ},x∈l->x.w<=iD l:=by
  intro l x ak;induction l with
  |nil=>grind
  |cons y l ih=>
   show _<=200+y.w+iD l;grind
 exact aoo l m axs λx ak=>aoy x axv
theorem arW(y:Int):∃x:Bool,aM 293 [.d (int y)] [] (.d (.bool x)) []:=by
 refine gV ?_;refine VZ.cr _ λad ae K ao=> ?_;refine ai ?_;repeat' (split<;>refine ai ?_)
 all_goals exact ao _ _ ⟨_,rfl,axr⟩
theorem arX(y m:Int):∃x:Int,aM 270 [.d (int y),.d (int m)] [] (.d (int x)) []:=by
 refine gV ?_;obtain⟨l,aj⟩:=arW y;by_cases h:m<1\/12<m
 .refine KG.cr _ λad ae K ao=> ?_;have t1:ad.aF .lss m 1=true\/ad.aF .gtr m 12=true:=by
   simp only[aI ae,azN];exact h
  rcases t1 with t1|t1
  .refine ai ?_;repeat' (split<;>refine ai ?_)
   all_goals exact ao _ _ ⟨_,rfl,axr⟩
  .cases h2:ad.aF .lss m 1
   .refine ai ?_;repeat' (split<;>refine ai ?_)
    all_goals exact ao _ _ ⟨_,rfl,axr⟩
   .refine ai ?_;repeat' (split<;>refine ai ?_)
    all_goals exact ao _ _ ⟨_,rfl,axr⟩
 .have hm:m=1\/m=2\/m=3\/m=4\/m=5\/m=6\/m=7\/m=8\/m=9\/m=10\/m=11\/m=12:=by omega
  have walk:∀c:Int,(c=1\/c=2\/c=3\/c=4\/c=5\/c=6\/c=7\/c=8\/c=9\/c=10\/c=11\/c=12)->∃r s',(∃x:Int,r=.d (int x)/\s'=[])/\aM 270 [.d (int y),.d (int c)] [] r s':=by
   intro c ay;rcases ay with rfl|rfl|rfl|rfl|rfl|rfl|rfl|rfl|rfl|rfl|rfl|rfl
   all_goals
    refine KG.cr _ λad ae K ao=> ?_;have t1:∀a b,ad.aF .lss a b=decide (a<b):=λa b=>ayH;have t2:∀a b,ad.aF .gtr a b=decide (b<a):=λa b=>ayH;refine ai ?_;repeat' (split<;>refine ai ?_)
    all_goals exact ao _ _ ⟨_,rfl,axr⟩
  exact walk m hm
theorem arY(n:Int):∃x:Int,aM 292 [.d (int n)] [] (.d (int x)) []:=by
 refine gV ?_;refine Zu.cr _ λad ae K ao=> ?_;refine ai ?_;repeat' (split<;>refine ai ?_)
 all_goals exact ao _ _ ⟨_,rfl,axr⟩
theorem arZ(n:Int):∃x:Int,aM 269 [.d (int n)] [] (.d (int x)) []:=by
 refine gV ?_;obtain⟨b0,aj⟩:=arY n;refine Uf.cr _ λad ae K ao=> ?_;refine ai ?_;repeat' (split<;>refine ai ?_)
 all_goals exact ao _ _ ⟨_,rfl,axr⟩
theorem ar0(n:Int):∃x:Bool,aM 236 [.d (int n)] [] (.d (.bool x)) []:=by
 refine gV ?_;refine XB.cr _ λad ae K ao=> ?_;refine ai ?_;repeat' (split<;>refine ai ?_)
 all_goals exact ao _ _ ⟨_,rfl,axr⟩
def ar1(n:Int)(y d:Int)(m:Nat):af:=cA [(0,.d (int n)),(3,.d (int y)),(4,.d (int d)),(5,.d (int (Int.ofNat m)))] []
theorem ar2(n:Int)(az:0<=n):∃x:Int,aM 235 [.d (int n)] [] (.d (int x)) []:=by
 refine gV ?_;refine Xz.cr _ λad ae K ao=> ?_;obtain⟨d,aj⟩:=arZ (ad.io .quo .i64 n 12);refine ai ?_;refine⟨b6 (λz:Int×Nat=>ar1 n (ad.io .quo .i64 n 12) z.1 z.2) (λz=>z.2<=12) (λz=>13-z.2),_,⟨(d,1),by show 1<=12;omega,rfl,axr⟩,?_⟩;rintro _ _ ⟨⟨d,m⟩,hm,rfl,rfl⟩;dsimp only at hm⊢;have aw:n.tmod 12<12:=Int.tmod_lt_of_pos n axs;cases t1:ad.aF .leq (Int.ofNat m) (ad.io .rem .i64 n 12)with
 |true=>
  have t2:=t1;simp only[aI ae,azH,azN,az2,az8,aAF,azM]at t2;have t3:=cv ae (n:=m) axs;obtain⟨x,aD⟩:=arX (ad.io .add .i64 2000 (ad.io .quo .i64 n 12)) (Int.ofNat m);refine ai ?_;repeat' (split<;>refine ai ?_)
  exact eb (ad.io .add .i64 d x,m+1) (by show m+1<=12;omega) (show 13-(m+1)<13-m by omega) axr
 |false=>
  refine ai ?_;repeat' (split<;>refine ai ?_)
  exact ao _ _ ⟨_,rfl,axr⟩
theorem ar3(n:Int):∃x:Int,aM 204 [.d (int n)] [] (.d (int x)) []:=by
 refine gV ?_;refine Vy.cr _ λad ae K ao=> ?_;cases t1:ad.aF .lss n 0 with
 |true=>
  refine ai ?_;repeat' (split<;>refine ai ?_)
  all_goals exact ao _ _ ⟨_,rfl,axr⟩
 |false=>
  have t2:=t1;simp only[aI ae,azH,azN,az2,az8,aAF,azM]at t2;obtain⟨d,aj⟩:=ar2 n axs;obtain⟨b,aD⟩:=ar0 (ad.io .mul .i64 d 1440);refine ai ?_;repeat' (split<;>refine ai ?_)
  all_goals exact ao _ _ ⟨_,rfl,axr⟩
theorem ar4(k a b i:Int):∃x:Int,aM 174 [.d (.agg [int k,int a,int b]),.d (int i)] [] (.d (int x)) []:=by
 refine gV ?_;obtain⟨b0,aj⟩:=ar3 i;refine TN.cr _ λad ae K ao=> ?_;refine ai ?_;repeat' (split<;>refine ai ?_)
 all_goals exact ao _ _ ⟨_,rfl,axr⟩
theorem Mv(k a b:Int):∃x:Int,aM 133 [.d (.agg [int k,int a,int b])] [] (.d (int x)) []:=by
 refine gV ?_;refine YL.cr _ λad ae K ao=> ?_;obtain⟨d,aj⟩:=ar4 k a b (ad.io .add .i64 b 1);refine ai ?_;repeat' (split<;>refine ai ?_)
 all_goals exact ao _ _ ⟨_,rfl,axr⟩
theorem ar5(k n:Int):∃x:Bool,aM 176 [.d (.agg [int k,int n])] [] (.d (.bool x)) []:=by
 refine gV ?_;refine W7.cr _ λad ae K ao=> ?_;refine ai ?_;repeat' (split<;>refine ai ?_)
 all_goals exact ao _ _ ⟨_,rfl,axr⟩
theorem ar6(k n bN bh bq cz a2 aR:Int):∃x:Int,aM 136 [.d (.agg [int k,int n]),.d (.agg [int bN,int bh,int bq]),.d (.agg [int cz,int a2,int aR])] [] (.d (int x)) []:=by
 refine gV ?_;obtain⟨b0,aj⟩:=ar5 k n;obtain⟨b7,aD⟩:=Mv bN bh bq;obtain⟨c7,aW⟩:=Mv cz a2 aR;refine YN.cr _ λad ae K ao=> ?_;refine ai ?_;repeat' (split<;>refine ai ?_)
 all_goals exact ao _ _ ⟨_,rfl,axr⟩
end Go.Proofs.YtmgpekpnidjfoaaGreatDoor
