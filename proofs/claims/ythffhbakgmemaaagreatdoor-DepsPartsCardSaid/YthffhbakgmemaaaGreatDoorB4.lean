/- Part of parts_said. -/
import Derived.Test.YthffhbakgmemaaaGreatDoorB3
set_option maxRecDepth 100000
set_option maxHeartbeats 8000000
set_option linter.unusedSimpArgs false
set_option linter.unusedVariables false
namespace Go.Proofs.YthffhbakgmemaaaGreatDoor
open Go Go.aG
attribute [local irreducible] bD
theorem wI{a:bd}(h:a=bd.bU){ks:List Nat}{x y:List D}{b:Bool}(au:cG ks x y=some b):a.lD ks x y=some b:=by subst h;exact au
theorem u6{a:Type}{l m:List a}{i:Nat}(c:i<l.length)(f:i<m.length)(h:l.take i=m.take i)(d:l[i]=m[i]):l.take (i+1)=m.take (i+1):=by
 grind[List.take_add_one]
theorem u7{a:Type}{l m:List a}{i:Nat}(c:l.length=i)(d:m.length=i)(h:l.take i=m.take i):l=m:=az9
def A8(sz:Nat)(L M:List D)(n:Nat)(i:Nat):ag:=cA [(0,.d (.list sz L)),(1,.d (.list sz M)),(12,.d (int (Int.ofNat n))),(13,.d (int (Int.ofNat i)))] []
theorem ap3(x y:ax×Int):∃b:Bool,cG [2,1] [.str (x.1),int (x.2)] [.str (y.1),int (y.2)]=some b/\(b=true->x=y):=by
 refine⟨_,rfl,λh=> ?_⟩;grind
theorem adr(l m:List (ax×Int))(w:l.length<=1073741824):∃b:Bool,(b=true->l=m)/\aL 185 [.d (.list 2 (l.map bF)),.d (.list 2 (m.map bF))] [] (.d (.bool b)) []:=by
 refine eW ?_;have z:(l.map bF).length=l.length:=aCv _;have B:(m.map bF).length=m.length:=aCv _;have o:∀i (h:i<l.length),(l.map bF)[i]?=some (bF l[i]):=λi h=>cY h;have t:∀i (h:i<m.length),(m.map bF)[i]?=some (bF m[i]):=λi h=>cY h;generalize l.map bF=L at*;generalize m.map bF=M at*;refine Xm.cn _ λa ae K c=> ?_;by_cases A:l.length=m.length
 .have t1:a.aB .neq (Int.ofNat (a.len L)) (Int.ofNat (a.len M))=false:=by simp_all[aH]
  refine ak ?_;refine⟨bX (A8 2 L M (a.len L)) (λi=>i<=l.length/\l.take i=m.take i) λi=>l.length-i,_,⟨0,⟨aCu _,rfl⟩,rfl,az5⟩,?_⟩;rintro _ _ ⟨i,⟨s,f⟩,rfl,rfl⟩;dsimp only at s f⊢;by_cases d:i<l.length
  .have t2:a.aB .lss (Int.ofNat i) (Int.ofNat (a.len L))=true:=by simp_all[aH]
   have g:i<m.length:=az6;have t3:=cH ae (o i d);have t4:=cH ae (t i g);have t5:=b9 ae (n:=i) az6;obtain⟨b,k,j⟩:=ap3 l[i] m[i];have t6:=wI ae k;unfold bF at t3 t4;have p:b=true->l.take (i+1)=m.take (i+1):=λh=>u6 d g f (j h);clear k j;generalize l[i]=x at*;generalize m[i]=y at*;obtain⟨u,bP⟩:=x;obtain⟨v,cb⟩:=y;dsimp only at t3 t4 t6;have t7:a.lD [2,1] (.str (u)::List.take 1 [int (bP)]) (.str (v)::List.take 1 [int (cb)])=some b:=t6;cases b with
   |true=>
    refine ak ?_;exact fixF (i+1) ⟨d,p rfl⟩
   |false=>
    refine ak ?_;exact c _ _ ⟨false,(λh=>aAb),rfl,az5⟩
  .have t2:a.aB .lss (Int.ofNat i) (Int.ofNat (a.len L))=false:=by simp_all[aH]
   have r:l=m:=u7 (i:=i) az6 az6 f;refine ak ?_;exact c _ _ ⟨true,λ_=>r,rfl,az5⟩
 .have t1:a.aB .neq (Int.ofNat (a.len L)) (Int.ofNat (a.len M))=true:=by simp only[aH ae,aCy,aCX,aCE];omega
  refine ak ?_;exact c _ _ ⟨false,(λh=>aAb),rfl,az5⟩
theorem s8(l m:List (ax))(s:l.length<=1073741824):∃b:Bool,(b=true->l=m)/\aL 140 [.d (.list 1 (l.map D.str)),.d (.list 1 (m.map D.str))] [] (.d (.bool b)) []:=by
 refine eW ?_;have v:(l.map D.str).length=l.length:=aCv _;have z:(m.map D.str).length=m.length:=aCv _;have k:∀i (h:i<l.length),(l.map D.str)[i]?=some (D.str l[i]):=λi h=>cY h;have r:∀i (h:i<m.length),(m.map D.str)[i]?=some (D.str m[i]):=λi h=>cY h;generalize l.map D.str=L at*;generalize m.map D.str=M at*;refine YO.cn _ λa ae K c=> ?_;by_cases w:l.length=m.length
 .have t1:a.aB .neq (Int.ofNat (a.len L)) (Int.ofNat (a.len M))=false:=by simp_all[aH]
  refine ak ?_;refine⟨bX (A8 1 L M (a.len L)) (λi=>i<=l.length/\l.take i=m.take i) λi=>l.length-i,_,⟨0,⟨aCu _,rfl⟩,rfl,az5⟩,?_⟩;rintro _ _ ⟨i,⟨p,f⟩,rfl,rfl⟩;dsimp only at p f⊢;by_cases d:i<l.length
  .have t2:a.aB .lss (Int.ofNat i) (Int.ofNat (a.len L))=true:=by simp_all[aH]
   have j:i<m.length:=az6;have t3:=cH ae (k i d);have t4:=cH ae (r i j);have t5:=b9 ae (n:=i) az6;have t6:a.bm .neq l[i] m[i]=!decide (l[i]=m[i]):=aAa;generalize u:l[i]=x at*;generalize t:m[i]=y at*;cases g:decide (x=y)with
   |true=>
    rw[g]at t6;refine ak ?_;exact fixF (i+1) ⟨d,u6 d j f az8⟩
   |false=>
    rw[g]at t6;refine ak ?_;exact c _ _ ⟨false,(λh=>aAb),rfl,az5⟩
  .have t2:a.aB .lss (Int.ofNat i) (Int.ofNat (a.len L))=false:=by simp_all[aH]
   have o:l=m:=u7 (i:=i) az6 az6 f;refine ak ?_;exact c _ _ ⟨true,λ_=>o,rfl,az5⟩
 .have t1:a.aB .neq (Int.ofNat (a.len L)) (Int.ofNat (a.len M))=true:=by simp only[aH ae,aCy,aCX,aCE];omega
  refine ak ?_;exact c _ _ ⟨false,(λh=>aAb),rfl,az5⟩
theorem ap4(x y:ax×ax):∃b:Bool,cG [2,2] [.str (x.1),.str (x.2)] [.str (y.1),.str (y.2)]=some b/\(b=true->x=y):=by
 refine⟨_,rfl,λh=> ?_⟩;grind
theorem ap5(l m:List (ax×ax))(w:l.length<=1073741824):∃b:Bool,(b=true->l=m)/\aL 189 [.d (.list 2 (l.map fm)),.d (.list 2 (m.map fm))] [] (.d (.bool b)) []:=by
 refine eW ?_;have z:(l.map fm).length=l.length:=aCv _;have B:(m.map fm).length=m.length:=aCv _;have o:∀i (h:i<l.length),(l.map fm)[i]?=some (fm l[i]):=λi h=>cY h;have t:∀i (h:i<m.length),(m.map fm)[i]?=some (fm m[i]):=λi h=>cY h;generalize l.map fm=L at*;generalize m.map fm=M at*;refine Vo.cn _ λa ae K c=> ?_;by_cases A:l.length=m.length
 .have t1:a.aB .neq (Int.ofNat (a.len L)) (Int.ofNat (a.len M))=false:=by simp_all[aH]
  refine ak ?_;refine⟨bX (A8 2 L M (a.len L)) (λi=>i<=l.length/\l.take i=m.take i) λi=>l.length-i,_,⟨0,⟨aCu _,rfl⟩,rfl,az5⟩,?_⟩;rintro _ _ ⟨i,⟨s,f⟩,rfl,rfl⟩;dsimp only at s f⊢;by_cases d:i<l.length
  .have t2:a.aB .lss (Int.ofNat i) (Int.ofNat (a.len L))=true:=by simp_all[aH]
   have g:i<m.length:=az6;have t3:=cH ae (o i d);have t4:=cH ae (t i g);have t5:=b9 ae (n:=i) az6;obtain⟨b,k,j⟩:=ap4 l[i] m[i];have t6:=wI ae k;unfold fm at t3 t4;have p:b=true->l.take (i+1)=m.take (i+1):=λh=>u6 d g f (j h);clear k j;generalize l[i]=x at*;generalize m[i]=y at*;obtain⟨u,bP⟩:=x;obtain⟨v,cb⟩:=y;dsimp only at t3 t4 t6;have t7:a.lD [2,2] (.str (u)::List.take 1 [.str (bP)]) (.str (v)::List.take 1 [.str (cb)])=some b:=t6;cases b with
   |true=>
    refine ak ?_;exact fixF (i+1) ⟨d,p rfl⟩
   |false=>
    refine ak ?_;exact c _ _ ⟨false,(λh=>aAb),rfl,az5⟩
  .have t2:a.aB .lss (Int.ofNat i) (Int.ofNat (a.len L))=false:=by simp_all[aH]
   have r:l=m:=u7 (i:=i) az6 az6 f;refine ak ?_;exact c _ _ ⟨true,λ_=>r,rfl,az5⟩
 .have t1:a.aB .neq (Int.ofNat (a.len L)) (Int.ofNat (a.len M))=true:=by simp only[aH ae,aCy,aCX,aCE];omega
  refine ak ?_;exact c _ _ ⟨false,(λh=>aAb),rfl,az5⟩
theorem ap6(x y:ax×ax×ax):∃b:Bool,cG [2,2,2] [.str (x.1),.str (x.2.1),.str (x.2.2)] [.str (y.1),.str (y.2.1),.str (y.2.2)]=some b/\(b=true->x=y):=by
 refine⟨_,rfl,λh=> ?_⟩;grind
theorem ap7(l m:List (ax×ax×ax))(w:l.length<=1073741824):∃b:Bool,(b=true->l=m)/\aL 190 [.d (.list 3 (l.map eK)),.d (.list 3 (m.map eK))] [] (.d (.bool b)) []:=by
 refine eW ?_;have z:(l.map eK).length=l.length:=aCv _;have B:(m.map eK).length=m.length:=aCv _;have o:∀i (h:i<l.length),(l.map eK)[i]?=some (eK l[i]):=λi h=>cY h;have t:∀i (h:i<m.length),(m.map eK)[i]?=some (eK m[i]):=λi h=>cY h;generalize l.map eK=L at*;generalize m.map eK=M at*;refine abb.cn _ λa ae K c=> ?_;by_cases A:l.length=m.length
 .have t1:a.aB .neq (Int.ofNat (a.len L)) (Int.ofNat (a.len M))=false:=by simp_all[aH]
  refine ak ?_;refine⟨bX (A8 3 L M (a.len L)) (λi=>i<=l.length/\l.take i=m.take i) λi=>l.length-i,_,⟨0,⟨aCu _,rfl⟩,rfl,az5⟩,?_⟩;rintro _ _ ⟨i,⟨s,f⟩,rfl,rfl⟩;dsimp only at s f⊢;by_cases d:i<l.length
  .have t2:a.aB .lss (Int.ofNat i) (Int.ofNat (a.len L))=true:=by simp_all[aH]
   have g:i<m.length:=az6;have t3:=cH ae (o i d);have t4:=cH ae (t i g);have t5:=b9 ae (n:=i) az6;obtain⟨b,k,j⟩:=ap6 l[i] m[i];have t6:=wI ae k;unfold eK at t3 t4;have p:b=true->l.take (i+1)=m.take (i+1):=λh=>u6 d g f (j h);clear k j;generalize l[i]=x at*;generalize m[i]=y at*;obtain⟨u,bP,bZ⟩:=x;obtain⟨v,cb,cp⟩:=y;dsimp only at t3 t4 t6;have t7:a.lD [2,2,2] (.str (u)::List.take 2 [.str (bP),.str (bZ)]) (.str (v)::List.take 2 [.str (cb),.str (cp)])=some b:=t6;cases b with
   |true=>
    refine ak ?_;exact fixF (i+1) ⟨d,p rfl⟩
   |false=>
    refine ak ?_;exact c _ _ ⟨false,(λh=>aAb),rfl,az5⟩
  .have t2:a.aB .lss (Int.ofNat i) (Int.ofNat (a.len L))=false:=by simp_all[aH]
   have r:l=m:=u7 (i:=i) az6 az6 f;refine ak ?_;exact c _ _ ⟨true,λ_=>r,rfl,az5⟩
 .have t1:a.aB .neq (Int.ofNat (a.len L)) (Int.ofNat (a.len M))=true:=by simp only[aH ae,aCy,aCX,aCE];omega
  refine ak ?_;exact c _ _ ⟨false,(λh=>aAb),rfl,az5⟩
theorem ap8(x y:ax×Bool):∃b:Bool,cG [2,0] [.str (x.1),.bool (x.2)] [.str (y.1),.bool (y.2)]=some b/\(b=true->x=y):=by
 refine⟨_,rfl,λh=> ?_⟩;grind
theorem AE(l m:List (ax×Bool))(w:l.length<=1073741824):∃b:Bool,(b=true->l=m)/\aL 191 [.d (.list 2 (l.map fp)),.d (.list 2 (m.map fp))] [] (.d (.bool b)) []:=by
 refine eW ?_;have z:(l.map fp).length=l.length:=aCv _;have B:(m.map fp).length=m.length:=aCv _;have o:∀i (h:i<l.length),(l.map fp)[i]?=some (fp l[i]):=λi h=>cY h;have t:∀i (h:i<m.length),(m.map fp)[i]?=some (fp m[i]):=λi h=>cY h;generalize l.map fp=L at*;generalize m.map fp=M at*;refine abe.cn _ λa ae K c=> ?_;by_cases A:l.length=m.length
 .have t1:a.aB .neq (Int.ofNat (a.len L)) (Int.ofNat (a.len M))=false:=by simp_all[aH]
  refine ak ?_;refine⟨bX (A8 2 L M (a.len L)) (λi=>i<=l.length/\l.take i=m.take i) λi=>l.length-i,_,⟨0,⟨aCu _,rfl⟩,rfl,az5⟩,?_⟩;rintro _ _ ⟨i,⟨s,f⟩,rfl,rfl⟩;dsimp only at s f⊢;by_cases d:i<l.length
  .have t2:a.aB .lss (Int.ofNat i) (Int.ofNat (a.len L))=true:=by simp_all[aH]
   have g:i<m.length:=az6;have t3:=cH ae (o i d);have t4:=cH ae (t i g);have t5:=b9 ae (n:=i) az6;obtain⟨b,k,j⟩:=ap8 l[i] m[i];have t6:=wI ae k;unfold fp at t3 t4;have p:b=true->l.take (i+1)=m.take (i+1):=λh=>u6 d g f (j h);clear k j;generalize l[i]=x at*;generalize m[i]=y at*;obtain⟨u,bP⟩:=x;obtain⟨v,cb⟩:=y;dsimp only at t3 t4 t6;have t7:a.lD [2,0] (.str (u)::List.take 1 [.bool (bP)]) (.str (v)::List.take 1 [.bool (cb)])=some b:=t6;cases b with
   |true=>
    refine ak ?_;exact fixF (i+1) ⟨d,p rfl⟩
   |false=>
    refine ak ?_;exact c _ _ ⟨false,(λh=>aAb),rfl,az5⟩
  .have t2:a.aB .lss (Int.ofNat i) (Int.ofNat (a.len L))=false:=by simp_all[aH]
   have r:l=m:=u7 (i:=i) az6 az6 f;refine ak ?_;exact c _ _ ⟨true,λ_=>r,rfl,az5⟩
 .have t1:a.aB .neq (Int.ofNat (a.len L)) (Int.ofNat (a.len M))=true:=by simp only[aH ae,aCy,aCX,aCE];omega
  refine ak ?_;exact c _ _ ⟨false,(λh=>aAb),rfl,az5⟩
theorem ap9(x y:jo):∃b:Bool,cG [2,1,1,2] [.str (x.a),int (x.yC),int (x.nm),.str (x.b)] [.str (y.a),int (y.yC),int (y.nm),.str (y.b)]=some b/\(b=true->x=y):=by
 refine⟨_,rfl,λh=> ?_⟩;have a:x.a=y.a/\x.yC=y.yC/\x.nm=y.nm/\x.b=y.b:=az8;obtain⟨bB,h1,a,c⟩:=a;obtain⟨j,d,f,g⟩:=x;simp_all
theorem ap'(l m:List (jo))(w:l.length<=1073741824):∃b:Bool,(b=true->l=m)/\aL 138 [.d (.list 4 (l.map ef)),.d (.list 4 (m.map ef))] [] (.d (.bool b)) []:=by
 refine eW ?_;have z:(l.map ef).length=l.length:=aCv _;have B:(m.map ef).length=m.length:=aCv _;have o:∀i (h:i<l.length),(l.map ef)[i]?=some (ef l[i]):=λi h=>cY h;have t:∀i (h:i<m.length),(m.map ef)[i]?=some (ef m[i]):=λi h=>cY h;generalize l.map ef=L at*;generalize m.map ef=M at*;refine U0.cn _ λa ae K c=> ?_;by_cases A:l.length=m.length
 .have t1:a.aB .neq (Int.ofNat (a.len L)) (Int.ofNat (a.len M))=false:=by simp_all[aH]
  refine ak ?_;refine⟨bX (A8 4 L M (a.len L)) (λi=>i<=l.length/\l.take i=m.take i) λi=>l.length-i,_,⟨0,⟨aCu _,rfl⟩,rfl,az5⟩,?_⟩;rintro _ _ ⟨i,⟨s,f⟩,rfl,rfl⟩;dsimp only at s f⊢;by_cases d:i<l.length
  .have t2:a.aB .lss (Int.ofNat i) (Int.ofNat (a.len L))=true:=by simp_all[aH]
   have g:i<m.length:=az6;have t3:=cH ae (o i d);have t4:=cH ae (t i g);have t5:=b9 ae (n:=i) az6;obtain⟨b,k,j⟩:=ap9 l[i] m[i];have t6:=wI ae k;unfold ef at t3 t4;have p:b=true->l.take (i+1)=m.take (i+1):=λh=>u6 d g f (j h);clear k j;generalize l[i]=x at*;generalize m[i]=y at*;obtain⟨u,bP,bZ,cx⟩:=x;obtain⟨v,cb,cp,cy⟩:=y;dsimp only at t3 t4 t6;have t7:a.lD [2,1,1,2] (.str (u)::List.take 3 [int (bP),int (bZ),.str (cx)]) (.str (v)::List.take 3 [int (cb),int (cp),.str (cy)])=some b:=t6;cases b with
   |true=>
    refine ak ?_;exact fixF (i+1) ⟨d,p rfl⟩
   |false=>
    refine ak ?_;exact c _ _ ⟨false,(λh=>aAb),rfl,az5⟩
  .have t2:a.aB .lss (Int.ofNat i) (Int.ofNat (a.len L))=false:=by simp_all[aH]
   have r:l=m:=u7 (i:=i) az6 az6 f;refine ak ?_;exact c _ _ ⟨true,λ_=>r,rfl,az5⟩
 .have t1:a.aB .neq (Int.ofNat (a.len L)) (Int.ofNat (a.len M))=true:=by simp only[aH ae,aCy,aCX,aCE];omega
  refine ak ?_;exact c _ _ ⟨false,(λh=>aAb),rfl,az5⟩
def mI(n:Nat)(P:Nat->Bool)(r:Int):Prop:=(r= -1/\∀i,i<n->P i=false)\/∃k,k<n/\r=Int.ofNat k/\P k=true/\∀j,j<k->P j=false
theorem mI.lt{n:Nat}{P:Nat->Bool}{r:Int}(h:mI n P r)(bB:¬r<0):∃k,k<n/\r=Int.ofNat k/\P k=true:=by
 rcases h with⟨rfl,_⟩|⟨k,h1,a,c,_⟩
 all_goals grind
def jO(x:ax×List Int×Int):D:=.agg [.str x.1,.list 1 (x.2.1.map int),int x.2.2]
def Nr(sz f:Nat)(L:List D)(v:D)(n i:Nat):ag:=cA [(0,.d (.list sz L)),(1,.func f [] [.ptr 0 0]),(7,.d (int (Int.ofNat n))),(8,.d (int (Int.ofNat i)))] [.box [.d v]]
theorem aqa(l:List (ax×Int))(f:Nat)(v:ax)(P:Nat->Bool)(w:l.length<=1073741824)
  (k:∀i (h:i<l.length),aL f [.d (bF l[i]),.ptr 0 0] [.box [.d (.str v)]] (.d (.bool (P i))) [.box [.d (.str v)]]):
  ∃r:Int,mI l.length P r/\aL 314 [.d (.list 2 (l.map bF)),.func f [] [.ptr 0 0]] [.box [.d (.str v)]] (.d (int r)) [.box [.d (.str v)]]:=by
 refine eW ?_;have z:(l.map bF).length=l.length:=aCv _;have p:∀i (h:i<l.length),(l.map bF)[i]?=some (bF l[i]):=λi h=>cY h;generalize l.map bF=L at*;refine X5.cn _ λa ae K g=> ?_;refine ak ?_;refine⟨bX (Nr 2 f L (.str v) (a.len L)) (λi=>i<=l.length/\∀j,j<i->P j=false) λi=>l.length-i,_,⟨0,⟨aCu _,λj h=>az6⟩,rfl,az5⟩,?_⟩;rintro _ _ ⟨i,⟨s,d⟩,rfl,rfl⟩;dsimp only at s d⊢;by_cases c:i<l.length
 .have t2:a.aB .lss (Int.ofNat i) (Int.ofNat (a.len L))=true:=by simp_all[aH]
  have t3:=cH ae (p i c);have t5:=b9 ae (n:=i) az6;have aj:=k i c;have u:P i=true->mI l.length P (Int.ofNat i):=λh=>.inr ⟨i,c,rfl,h,d⟩;have t:P i=false->∀j,j<i+1->P j=false:=λh j m=>az9;unfold bF at*;clear k;generalize l[i]=x at*;skip;generalize P i=b at*;cases b with
  |true=>
   refine ak ?_;exact g _ _ ⟨_,u rfl,rfl,az5⟩
  |false=>
   refine ak ?_;exact fixF (i+1) ⟨c,t rfl⟩
 .have t2:a.aB .lss (Int.ofNat i) (Int.ofNat (a.len L))=false:=by simp_all[aH]
  have o:mI l.length P (-1):=.inl ⟨rfl,λj m=>d j az6⟩;refine ak ?_;exact g _ _ ⟨-1,o,rfl,az5⟩
theorem aqb(l:List (ax×List Int×Int))(f:Nat)(v:ax)(P:Nat->Bool)(w:l.length<=1073741824)
  (k:∀i (h:i<l.length),aL f [.d (jO l[i]),.ptr 0 0] [.box [.d (.str v)]] (.d (.bool (P i))) [.box [.d (.str v)]]):
  ∃r:Int,mI l.length P r/\aL 334 [.d (.list 3 (l.map jO)),.func f [] [.ptr 0 0]] [.box [.d (.str v)]] (.d (int r)) [.box [.d (.str v)]]:=by
 refine eW ?_;have z:(l.map jO).length=l.length:=aCv _;have p:∀i (h:i<l.length),(l.map jO)[i]?=some (jO l[i]):=λi h=>cY h;generalize l.map jO=L at*;refine Wb.cn _ λa ae K g=> ?_;refine ak ?_;refine⟨bX (Nr 3 f L (.str v) (a.len L)) (λi=>i<=l.length/\∀j,j<i->P j=false) λi=>l.length-i,_,⟨0,⟨aCu _,λj h=>az6⟩,rfl,az5⟩,?_⟩;rintro _ _ ⟨i,⟨s,d⟩,rfl,rfl⟩;dsimp only at s d⊢;by_cases c:i<l.length
 .have t2:a.aB .lss (Int.ofNat i) (Int.ofNat (a.len L))=true:=by simp_all[aH]
  have t3:=cH ae (p i c);have t5:=b9 ae (n:=i) az6;have aj:=k i c;have u:P i=true->mI l.length P (Int.ofNat i):=λh=>.inr ⟨i,c,rfl,h,d⟩;have t:P i=false->∀j,j<i+1->P j=false:=λh j m=>az9;unfold jO at*;clear k;generalize l[i]=x at*;generalize x.2.1.map int=M at*;generalize P i=b at*;cases b with
  |true=>
   refine ak ?_;exact g _ _ ⟨_,u rfl,rfl,az5⟩
  |false=>
   refine ak ?_;exact fixF (i+1) ⟨c,t rfl⟩
 .have t2:a.aB .lss (Int.ofNat i) (Int.ofNat (a.len L))=false:=by simp_all[aH]
  have o:mI l.length P (-1):=.inl ⟨rfl,λj m=>d j az6⟩;refine ak ?_;exact g _ _ ⟨-1,o,rfl,az5⟩
theorem aqc(x:ax×Int)(v:ax):aL 315 [.d (bF x),.ptr 0 0] [.box [.d (.str v)]] (.d (.bool (decide (x.1=v)))) [.box [.d (.str v)]]:=by
 unfold bF;refine abO.ct λc ae Q a=> ?_;have t1:c.bm .eql x.1 v=decide (x.1=v):=aAa;generalize decide (x.1=v)=b at*;refine ak ?_
 (subst ae;exact bS a az7 az5)
theorem aqd(x:ax×List Int×Int)(v:ax):aL 335 [.d (jO x),.ptr 0 0] [.box [.d (.str v)]] (.d (.bool (decide (x.1=v)))) [.box [.d (.str v)]]:=by
 unfold jO;refine ZM.ct λc ae Q a=> ?_;have t1:c.bm .eql x.1 v=decide (x.1=v):=aAa;generalize decide (x.1=v)=b at*;generalize x.2.1.map int=L at*;refine ak ?_
 (subst ae;exact bS a az7 az5)
theorem HA:∀l:List ax,aG.fx (l.map D.str)=some l
 |[]=>rfl
 |x::l=>by show(match aG.fx (l.map D.str)with|some l=>some (x::l)|none=>none)=_;rw[HA l]
def lens(l:List ax):Nat:=fS (λx=>x.length) l
theorem JR(sep:ax):∀l:List ax,(l.flatMap λx=>sep++x).length+200*l.length<=lens l+sep.length*l.length
 |[]=>aCw _
 |x::l=>by
  have:=JR sep l;show((sep++x)++l.flatMap λx=>sep++x).length+200*(l.length+1)<=200+x.length+lens l+sep.length*(l.length+1);grind
theorem Ns{sep:ax}(c:sep.length<=100)(l:List ax):(s9 sep l).length+100*l.length<=lens l:=by
 cases l with
 |nil=>exact aCw _
 |cons a l=>
  have:=JR sep l;have d:sep.length*l.length<=100*l.length:=aDi _ c;show(a++l.flatMap λx=>sep++x).length+100*(l.length+1)<=200+a.length+lens l;grind
theorem tt(l:List ax):200*l.length<=lens l:=by
 induction l with
 |nil=>simp
 |cons x l ih=>show 200*(l.length+1)<=200+x.length+lens l;omega
theorem tu(l m:List ax):lens (l++m)=lens l+lens m:=rO _ _
theorem aqe(a:List ax)(sep:ax)(c:sep.length<=100)(h:lens a<=100000000000):∃s:ax,s.length<=lens a/\aL 131 [.d (.list 1 (a.map .str)),.d (.str sep)] [] (.d (.str s)) []:=by
 have h1:=Ns c a;have d:=tt a;exact⟨_,az6,Gz exts.C8 exts.j (HA a) az6 az6⟩
theorem yF{l:List ax}:(l.map D.str).length=l.length:=aCv _
theorem ads{c:bd}(h:c=bd.bU):∀a b,c.bm .eql a b=decide (a=b):=λ_ _=>aAn
theorem adt(c:j3):∃r:Nat,r<=8/\aL 266 [.d (.agg c.cs)] [] (.d (int (r:Int))) []:=by
 refine eW ?_;refine abD.cn _ λg ae K a=> ?_;obtain⟨o,j,d⟩:=amV ae c.op (kl:=[.str [33,61],.str [37],.str [42],.str [43],.str [45],.str [47],.str [60],.str [60,61],.str [61],.str [62],.str [62,61],.str [97,110,100],.str [111,114]])
  (vl:=[.int .i64 4,.int .i64 6,.int .i64 6,.int .i64 5,.int .i64 5,.int .i64 6,.int .i64 4,.int .i64 4,.int .i64 4,.int .i64 4,.int .i64 4,.int .i64 2,.int .i64 1]) az7 rfl
 have f:o=none\/∃n:Nat,n<=8/\o=some (int (n:Int)):=by
  cases o with
  |none=>simp
  |some v=>
   have:=d v rfl;simp only[aCJ,aC5,aDW]at this;rcases this with rfl|rfl|rfl|rfl|rfl|rfl|rfl|rfl|rfl|rfl|rfl|rfl|rfl
   all_goals exact .inr ⟨_,az',rfl⟩
 rcases f with rfl|⟨n,aq,rfl⟩
 .refine ak ?_;repeat' (split<;>refine ak ?_)
  all_goals first|exact a _ _ ⟨0,az',rfl,az5⟩|exact a _ _ ⟨3,az',rfl,az5⟩|exact a _ _ ⟨7,az',rfl,az5⟩|exact a _ _ ⟨8,az',rfl,az5⟩
 .refine ak ?_;repeat' (split<;>refine ak ?_)
  all_goals first|exact a _ _ ⟨n,aq,rfl,az5⟩|exact a _ _ ⟨0,az',rfl,az5⟩|exact a _ _ ⟨3,az',rfl,az5⟩|exact a _ _ ⟨7,az',rfl,az5⟩|exact a _ _ ⟨8,az',rfl,az5⟩
def wK(x:aD):Prop:=∃s:ax,s.length+600<=8*x.w/\aL 224 [.d (.agg x.bQ.cs)] [] (.d (.str s)) []
def dr:Nat:=1000000000
theorem HB{x:aD}(f:wK x)(g:x.w<=dr)(k:Int):∃s:ax,s.length+598<=8*x.w/\aL 264 [.d (.agg x.bQ.cs),.d (int k)] [] (.d (.str s)) []:=by
 obtain⟨t,l,aj⟩:=f;obtain⟨r,j,aC⟩:=adt x.bQ;unfold dr at g;generalize x.bQ=c at aj aC⊢;refine eW ?_;refine XX.cn _ λa ae K d=> ?_;have h1:a.fL [40] t=true:=aAj;have af:a.fL (a.cV [40] t) [41]=true:=aAh;refine ak ?_;repeat' (split<;>refine ak ?_)
 .exact d _ _ ⟨_,aAa,rfl,az5⟩
 .exact d _ _ ⟨t,az6,rfl,az5⟩
theorem aqf{x:aD}(d:wK x)(g:x.w<=dr):∃s:ax,s.length+598<=8*x.w/\aL 265 [.d (.agg x.bQ.cs)] [] (.d (.str s)) []:=by
 obtain⟨s,k,aX⟩:=HB d g 7;obtain⟨t,j,aj⟩:=d;unfold dr at g;generalize x.bQ=c at aj aX⊢;refine eW ?_;refine Zy.cn _ λa ae K f=> ?_;have h1:a.fL [40] t=true:=aAj;have af:a.fL (a.cV [40] t) [41]=true:=aAh;refine ak ?_;repeat' (split<;>refine ak ?_)
 .exact f _ _ ⟨_,aAa,rfl,az5⟩
 all_goals exact f _ _ ⟨s,az6,rfl,az5⟩
theorem yG{a:bd}(h:a=bd.bU):∀l,a.len l=l.length:=λ_=>aAn
theorem oJ{a:bd}(h:a=bd.bU):∀l n,a.get l n=l.getD n.toNat .dJ:=λ_ _=>aAn
theorem get_at{a:bd}(h:a=bd.bU){l:List D}{i:Nat}(hi:i<l.length):a.get l (Int.ofNat i)=l[i]:=by
 grind[oJ]
theorem acA(a:aD):aD.ds [a]=[.agg a.bQ.cs]:=congrArg (λy=>[y]) (aD.nr a)
theorem iZ(a b:aD):aD.ds [a,b]=[.agg a.bQ.cs,.agg b.bQ.cs]:=by show[a.d,b.d]=_;rw[aD.nr,aD.nr];rfl
theorem kn:∀l:List aD,aD.ds l=l.map aD.d
 |[]=>rfl
 |x::l=>congrArg (x.d:: ·) (kn l)
theorem aD.rQ(x:aD):200<=x.w:=by cases x;show 200<=200+_+_+_+_;omega
theorem aqg(x:aD)(N:x.good)(w:x.w<=dr)(j:∀y,y∈x.l->wK y):wK x:=by
 obtain⟨k,o,B,vi,v,m,l⟩:=x;have xR:eb vi:=N.1;have V:(aD.mk k o B vi v m l).w=200+o.length+v.length+m.length+aD.ws l:=rfl;replace j:∀y,y∈l->wK y:=j;unfold wK;rw[V]at w⊢;unfold dr at w;show ∃s:ax,_/\bD _ _ _ [.d (.agg (j3.cs ⟨k,o,B,vi,v,m,aD.ds l⟩))] _ _ _;suffices h:∃r S,(∃s:ax,s.length+600<=8*(200+o.length+v.length+m.length+aD.ws l)/\r=.d (.str s)/\S=[])/\aL 224 [.d (.agg (j3.cs ⟨k,o,B,vi,v,m,aD.ds l⟩))] [] r S by
  grind
 by_cases h1:k=1
 .subst h1;generalize aD.ds l=L;refine qw.cn _ λf ae K g=> ?_;conv=>cbv
  repeat' ((first|refine dD ?_|refine dE ?_|simp -proj only[e6 ae]|(split<;>(rename_i h;try simp only[h])))<;>conv=>cbv)
  exact g _ _ ⟨o,az6,rfl,az5⟩
 by_cases P:k=2
 .subst P;obtain⟨s,F,u⟩:=AW B vi v az6 xR;generalize aD.ds l=L;unfold oE at u;refine qw.cn _ λf ae K g=> ?_;conv=>cbv
  repeat' ((first|refine dD ?_|refine dE ?_|simp -proj only[e6 ae]|(split<;>(rename_i h;try simp only[h])))<;>conv=>cbv)
  exact g _ _ ⟨s,az6,rfl,az5⟩
 by_cases Q:k=3
 .subst Q;match l,j,w with
  |[],_,_=>
   refine qw.cn _ λf ae K g=> ?_;conv=>cbv
   repeat' ((first|refine dD ?_|refine dE ?_|simp -proj only[e6 ae,yG ae]|(split<;>(rename_i h;try simp only[h])))<;>conv=>cbv)
   exact g _ _ ⟨[],az9,rfl,az5⟩
  |[a],j,w=>
   rw[show aD.ws [a]=a.w from by show a.w+0=_;omega]at w⊢;have E:=j a az7;obtain⟨s,F,u⟩:=HB E aAl 3;obtain⟨t,aK,G⟩:=aqf E aAl;rw[acA];generalize a.bQ=c at u G⊢;refine qw.cn _ λf ae K g=> ?_;have g1:f.fL [110,111,116,32] s=true:=aAj;have g2:f.fL m t=true:=by simp only[aH ae,aCA];omega
   conv=>cbv
   repeat' ((first|refine dD ?_|refine dE ?_|simp -proj only[e6 ae,yG ae,oJ ae]|(split<;>(rename_i h;try simp only[h])))<;>conv=>cbv)
   .exact g _ _ ⟨_,aAC,rfl,az5⟩
   exact g _ _ ⟨_,aAC,rfl,az5⟩
  |a::b::l,_,_=>
   have A:(aD.ds (a::b::l)).length=l.length+2:=by grind[aD.u2]
   generalize aD.ds (a::b::l)=L at A;refine qw.cn _ λf ae K g=> ?_;have g1:f.aB .eql (Int.ofNat (f.len L)) 1=false:=aAg;conv=>cbv
   repeat' ((first|refine dD ?_|refine dE ?_|simp -proj only[g1,e6 ae]|(split<;>(rename_i h;try simp only[h])))<;>conv=>cbv)
   exact g _ _ ⟨[],az9,rfl,az5⟩
 by_cases aZ:k=4
 .subst aZ;match l,j,w with
  |[],_,_=>
   refine qw.cn _ λf ae K g=> ?_;conv=>cbv
   repeat' ((first|refine dD ?_|refine dE ?_|simp -proj only[e6 ae,yG ae]|(split<;>(rename_i h;try simp only[h])))<;>conv=>cbv)
   exact g _ _ ⟨[],az9,rfl,az5⟩
  |[a],j,w=>
   generalize A:aD.ds [a]=L;have A:L.length=1:=by rw[<-A];rfl
   refine qw.cn _ λf ae K g=> ?_;have g1:f.aB .eql (Int.ofNat (f.len L)) 2=false:=aAa;conv=>cbv
   repeat' ((first|refine dD ?_|refine dE ?_|simp -proj only[g1,e6 ae]|(split<;>(rename_i h;try simp only[h])))<;>conv=>cbv)
   exact g _ _ ⟨[],az9,rfl,az5⟩
  |[a,b],j,w=>
   rw[show aD.ws [a,b]=a.w+b.w from by show a.w+(b.w+0)=_;omega]at w⊢;have E:=j a az7;have au:=j b az7;obtain⟨r,aA,H⟩:=adt ⟨4,o,B,vi,v,m,aD.ds [a,b]⟩;rw[iZ]at H⊢;refine qw.cn _ λf ae K g=> ?_;have J:∀n,∃s:ax,s.length+598<=8*a.w/\aL 264 [.d (.agg a.bQ.cs),.d (int n)] [] (.d (.str s)) []:=HB E aAl;obtain⟨s1,M,u⟩:=J (r:Int);obtain⟨s2,dZ,G⟩:=J (f.io .add .i64 (r:Int) 1);obtain⟨R,ar,aX⟩:=HB au aAl (f.io .add .i64 (r:Int) 1);generalize a.bQ=c at u G H J⊢;generalize b.bQ=c2 at aX H⊢;have X:∀s:ax,s.length+598<=8*a.w->f.fL s [32]=true/\f.fL (f.cV s [32]) m=true/\f.fL (f.cV (f.cV s [32]) m) [32]=true/\f.fL (f.cV (f.cV (f.cV s [32]) m) [32]) R=true/\(f.cV (f.cV (f.cV (f.cV s [32]) m) [32]) R).length+600<=8*(200+o.length+v.length+m.length+(a.w+b.w)):=by
    intro s F;simp only[aH ae,aCA,aCF,aCU,aDm];omega
   obtain⟨bp,a2,a3,a4,Y⟩:=X s1 M;obtain⟨bq,aT,b3,iH,tv⟩:=X s2 dZ;conv=>cbv
   repeat' ((first|refine dD ?_|refine dE ?_|simp -proj only[e6 ae,yG ae,oJ ae]|(split<;>(rename_i h;try simp only[h])))<;>conv=>cbv)
   .exact g _ _ ⟨_,tv,rfl,az5⟩
   .exact g _ _ ⟨_,Y,rfl,az5⟩
  |a::b::d::l,_,_=>
   have A:(aD.ds (a::b::d::l)).length=l.length+3:=by grind[aD.u2]
   generalize aD.ds (a::b::d::l)=L at A;refine qw.cn _ λf ae K g=> ?_;have g1:f.aB .eql (Int.ofNat (f.len L)) 2=false:=aAg;conv=>cbv
   repeat' ((first|refine dD ?_|refine dE ?_|simp -proj only[g1,e6 ae]|(split<;>(rename_i h;try simp only[h])))<;>conv=>cbv)
   exact g _ _ ⟨[],az9,rfl,az5⟩
 by_cases bN:k=5
 .subst bN;have U:∀i (h:i<l.length),(aD.ds l)[i]?=some (.agg l[i].bQ.cs):=by
   intro i h;rw[kn,aDC,aCB h];exact congrArg some (aD.nr _)
  have A:=aD.u2 l;clear V N;generalize aD.ds l=L at U A⊢;have sY:∀(l:List aD) i,aD.ws (l.take i)<=aD.ws l:=by
   intro l;induction l with
   |nil=>simp
   |cons x l j=>intro i;cases i with
    |zero=>exact aCu _
    |succ i=>have:=j i;show x.w+_<=x.w+_;omega
  refine qw.cn _ λf ae K g=> ?_;conv=>cbv
  repeat' ((first|refine dD ?_|refine dE ?_|simp -proj only[e6 ae]|(split<;>(rename_i h;try simp only[h])))<;>conv=>cbv)
  refine⟨bX (λz:Nat×List D=>lZ [(1,.dw 1 0),(5,.own 1 z.2),(101,.d (.list 7 L)),(102,.d (int (Int.ofNat (f.len L)))),(103,.d (int (Int.ofNat z.1)))] [(1,(j3.cs ⟨5,o,B,vi,v,m,L⟩).map .d)] []) (λz=>z.1<=l.length/\∃p:List ax,z.2=p.map .str/\p.length=z.1/\lens p<=8*aD.ws (l.take z.1)) λz=>l.length-z.1,_,⟨(0,[]),⟨aCu _,[],rfl,rfl,aCu _⟩,rfl,az5⟩,?_⟩;rintro _ _ ⟨⟨i,ai⟩,⟨hi,p,e9,Z,F⟩,rfl,rfl⟩;dsimp only at hi Z F e9⊢;have hm:=yF (l:=p);have oK:=tt p;have wL:=sY l i;by_cases C:i<l.length
  .obtain⟨s,M,u⟩:=j l[i] (aCC C);have g1:f.aB .lss (Int.ofNat i) (Int.ofNat (f.len L))=true:=aAa;have g2:=cH ae (U i C);have g3:=b9 ae (n:=i) az6;have lf:lens (p++[s])<=8*aD.ws (l.take (i+1)):=by
    rw[tu,aDg,aCB C,aD5,aD.yx];show lens p+(200+s.length+0)<=8*(aD.ws (l.take i)+(l[i].w+0));omega
   rw[<-e9]at hm;generalize l[i].bQ=c at u g2;conv=>cbv
   repeat' ((first|refine dD ?_|refine dE ?_|simp -proj only[g1,g2,g3]|(split<;>(rename_i h;try simp only[h])))<;>conv=>cbv)
   refine ea (i+1,f.app ai [.str s]) ⟨C,p++[s],aAm,az8,lf⟩ (show l.length-(i+1)<l.length-i by omega) az5
  .have e8:i=l.length:=by omega
   have g1:f.aB .lss (Int.ofNat i) (Int.ofNat (f.len L))=false:=aAa;obtain⟨t,aK,u⟩:=aqe p [44,32] az' az6;rw[<-e9]at u;have h1:f.fL o [40]=true:=aAj;have P:f.fL (f.cV o [40]) t=true:=aAh;have Q:f.fL (f.cV (f.cV o [40]) t) [41]=true:=aAh;conv=>cbv
   repeat' ((first|refine dD ?_|refine dE ?_|simp -proj only[g1]|(split<;>(rename_i h;try simp only[h])))<;>conv=>cbv)
   exact g _ _ ⟨_,aAC,rfl,az5⟩
 .generalize aD.ds l=L;refine qw.cn _ λf ae K g=> ?_;have g1:f.aB .eql k 1=false:=aAf;have g2:f.aB .eql k 2=false:=aAf;have g3:f.aB .eql k 3=false:=aAf;have g4:f.aB .eql k 4=false:=aAf;have g5:f.aB .eql k 5=false:=aAf;conv=>cbv
  repeat' ((first|refine dD ?_|refine dE ?_|simp -proj only[g1,g2,g3,g4,g5]|(split<;>(rename_i h;try simp only[h])))<;>conv=>cbv)
  exact g _ _ ⟨[],az9,rfl,az5⟩
theorem A9:∀{l:List aD} {y:aD},aD.nu l->y∈l->y.good
 |x::l,y,h,a=>by
  rcases aCJ.1 a with rfl|a
  .exact h.1
  .exact A9 h.2 a
theorem u':∀{l:List aD} {y:aD},y∈l->y.w<=aD.ws l
 |x::l,y,a=>by
  show y.w<=x.w+aD.ws l;rcases aCJ.1 a with rfl|a
  .omega
  .have:=u' a;omega
theorem adu:∀(n:Nat) (x:aD),x.w<=n->x.good->x.w<=dr->wK x:=by
 intro n;induction n with
 |zero=>grind[aD.rQ]
 |succ n ih=>
  intro x h a m;refine aqg x a m λy c=> ?_;have p:y.w+200<=x.w:=by
   obtain⟨k,f,j,o,d,g,l⟩:=x;have:=u' (l:=l) c;show _<=200+f.length+d.length+g.length+aD.ws l;omega
  exact ih y az6 (by obtain⟨k,f,j,o,d,g,l⟩:=x;exact A9 a.2 c) az6
theorem va{d:bd}(h:d=bd.bU)(a b:Int):∃c:Bool,d.aB .eql a b=c/\(c=true->a=b):=⟨_,aAn,λh=>of_decide_eq_true h⟩
theorem A'{d:bd}(h:d=bd.bU)(a b:ax):∃c:Bool,d.bm .eql a b=c/\(c=true->a=b):=⟨_,aAn,λh=>of_decide_eq_true h⟩
theorem adv{d:bd}(h:d=bd.bU)(a b:Int)(c:ax)(a' f:Int)(c':ax):∃r:Bool,d.lD [1,1,2] [int a,int b,.str c] [int a',int f,.str c']=some r/\(r=true->a=a'/\b=f/\c=c'):=by
 subst h;exact⟨_,rfl,λh=>az8⟩
theorem aqh{d:bd}(h:d=bd.bU)(a b c a' f c':Int):∃r:Bool,d.lD [1,1,1] [int a,int b,int c] [int a',int f,int c']=some r/\(r=true->a=a'/\b=f/\c=c'):=by
 subst h;exact⟨_,rfl,λh=>az8⟩
theorem aD.kn:∀l:List aD,aD.ds l=l.map λx=>.agg x.bQ.cs
 |[]=>rfl
 |x::l=>by show x.d::aD.ds l=_;rw[aD.nr,aD.kn l];rfl
theorem bj.kn:∀l:List bj,bj.ds l=l.map λx=>.agg x.bz.cs
 |[]=>rfl
 |x::l=>by show x.d::bj.ds l=_;rw[bj.nr,bj.kn l];rfl
def HC(x:aD):Prop:=∀y:aD,∃b:Bool,(b=true->x=y)/\aL 187 [.d (.agg x.bQ.cs),.d (.agg y.bQ.cs)] [] (.d (.bool b)) []
def aqi(L M:List D)(n i:Nat):ag:=cA [(1,.d (.list 7 M)),(2,.d (.fn 187)),(15,.d (.list 7 L)),(16,.d (int (Int.ofNat n))),(17,.d (int (Int.ofNat i)))] []
theorem adw(l m:List aD)(u:l.length<=1073741824)(s:∀x∈l,HC x):∃b:Bool,(b=true->l=m)/\aL 188 [.d (.list 7 (l.map λx=>.agg x.bQ.cs)),.d (.list 7 (m.map λx=>.agg x.bQ.cs)),.d (.fn 187)] [] (.d (.bool b)) []:=by
 refine eW ?_;have v:(l.map λx=>D.agg x.bQ.cs).length=l.length:=aCv _;have z:(m.map λx=>D.agg x.bQ.cs).length=m.length:=aCv _;have k:∀i (h:i<l.length),(l.map λx=>D.agg x.bQ.cs)[i]?=some (.agg l[i].bQ.cs):=λi h=>cY h;have t:∀i (h:i<m.length),(m.map λx=>D.agg x.bQ.cs)[i]?=some (.agg m[i].bQ.cs):=λi h=>cY h;generalize (l.map λx=>D.agg x.bQ.cs)=L at*;generalize (m.map λx=>D.agg x.bQ.cs)=M at*;refine Vm.cn _ λa ae K d=> ?_;by_cases w:l.length=m.length
 .have t1:a.aB .neq (Int.ofNat (a.len L)) (Int.ofNat (a.len M))=false:=by simp_all[aH]
  refine ak ?_;refine⟨bX (aqi L M (a.len L)) (λi=>i<=l.length/\l.take i=m.take i) λi=>l.length-i,_,⟨0,⟨aCu _,rfl⟩,rfl,az5⟩,?_⟩;rintro _ _ ⟨i,⟨r,f⟩,rfl,rfl⟩;dsimp only at r f⊢;by_cases c:i<l.length
  .have t2:a.aB .lss (Int.ofNat i) (Int.ofNat (a.len L))=true:=by simp_all[aH]
   have g:i<m.length:=az6;have t3:=cH ae (k i c);have t4:=cH ae (t i g);have t5:=b9 ae (n:=i) az6;obtain⟨b,j,aj⟩:=s l[i] (aCC c) m[i];have o:b=true->l.take (i+1)=m.take (i+1):=λh=>u6 c g f (j h);clear j;generalize l[i].bQ=x at*;generalize m[i].bQ=y at*;cases b with
   |true=>
    refine ak ?_;exact fixF (i+1) ⟨c,o rfl⟩
   |false=>
    refine ak ?_;exact d _ _ ⟨false,(λh=>aAb),rfl,az5⟩
  .have t2:a.aB .lss (Int.ofNat i) (Int.ofNat (a.len L))=false:=by simp_all[aH]
   have p:l=m:=u7 (i:=i) az6 az6 f;refine ak ?_;exact d _ _ ⟨true,λ_=>p,rfl,az5⟩
 .have t1:a.aB .neq (Int.ofNat (a.len L)) (Int.ofNat (a.len M))=true:=by simp only[aH ae,aCy,aCX,aCE];omega
  refine ak ?_;exact d _ _ ⟨false,(λh=>aAb),rfl,az5⟩
theorem aqj(x:aD)(F:x.w<=dr)(z:∀y∈x.l,HC y):HC x:=by
 obtain⟨k,m,j,o,a,n,l⟩:=x;intro y;obtain⟨r,t,c,d,f,u,g⟩:=y;have G:l.length<=1073741824:=by
  have h1:∀l:List aD,l.length<=aD.ws l:=by
   intro l;induction l with
   |nil=>simp
   |cons x l z=>grind[aD.ws,aD.rQ]
  have af:=h1 l;have av:200+m.length+a.length+n.length+aD.ws l<=dr:=F;grind[dr]
 obtain⟨A,M,aj⟩:=adw l g G z;rw[<-aD.kn,<-aD.kn]at aj;show ∃b:Bool,_/\bD _ _ _ [.d (.agg (j3.cs ⟨k,m,j,o,a,n,aD.ds l⟩)),.d (.agg (j3.cs ⟨r,t,c,d,f,u,aD.ds g⟩))] _ _ _;generalize aD.ds l=L at*;generalize aD.ds g=L' at*;refine eW ?_;refine Xo.cn _ λB ae K v=> ?_;obtain⟨bq,t1,h1⟩:=va ae k r;obtain⟨aT,t2,af⟩:=A' ae m t;obtain⟨b3,t3,av⟩:=adv ae j o a c d f;obtain⟨w,t4,H⟩:=A' ae n u;have KP:B.lD [1,1,2] (int j::List.take 2 [int o,.str a]) (int c::List.take 2 [int d,.str f])=some b3:=t3;have C:bq=true->aT=true->b3=true->w=true->A=true->aD.mk k m j o a n l=aD.mk r t c d f u g:=az8;have J:∃b:Bool,(b=true->aD.mk k m j o a n l=aD.mk r t c d f u g)/\D.bool false=.bool b:=⟨false,(λh=>aAb),rfl⟩;have p:∀s,s=[]->K (.d (.bool false)) s:=λs E=>v _ _ ⟨false,(λh=>aAb),rfl,E⟩;cases bq with
 |false=>
  refine ak ?_;exact p _ az5
 |true=>
 cases aT with
 |false=>
  refine ak ?_;exact p _ az5
 |true=>
 cases b3 with
 |false=>
  refine ak ?_;exact p _ az5
 |true=>
 cases w with
 |false=>
  refine ak ?_;exact p _ az5
 |true=>
  refine ak ?_;exact v _ _ ⟨A,C rfl rfl rfl rfl,rfl,az5⟩
theorem adx:∀(n:Nat) (x:aD),x.w<=n->x.w<=dr->HC x:=by
 intro n;induction n with
 |zero=>grind[aD.rQ]
 |succ n ih=>
  intro x h d;refine aqj x d λy a=> ?_;have j:y.w+200<=x.w:=by
   obtain⟨k,f,m,o,c,g,l⟩:=x;have:=u' (l:=l) a;show _<=200+f.length+c.length+g.length+aD.ws l;omega
  grind
def HD(x:bj):Prop:=∀y:bj,∃b:Bool,(b=true->x=y)/\aL 139 [.d (.agg x.bz.cs),.d (.agg y.bz.cs)] [] (.d (.bool b)) []
def aqk(L M:List D)(n i:Nat):ag:=cA [(1,.d (.list 16 M)),(2,.d (.fn 139)),(15,.d (.list 16 L)),(16,.d (int (Int.ofNat n))),(17,.d (int (Int.ofNat i)))] []
theorem aql(l m:List bj)(u:l.length<=1073741824)(s:∀x∈l,HD x):∃b:Bool,(b=true->l=m)/\aL 186 [.d (.list 16 (l.map λx=>.agg x.bz.cs)),.d (.list 16 (m.map λx=>.agg x.bz.cs)),.d (.fn 139)] [] (.d (.bool b)) []:=by
 refine eW ?_;have v:(l.map λx=>D.agg x.bz.cs).length=l.length:=aCv _;have z:(m.map λx=>D.agg x.bz.cs).length=m.length:=aCv _;have k:∀i (h:i<l.length),(l.map λx=>D.agg x.bz.cs)[i]?=some (.agg l[i].bz.cs):=λi h=>cY h;have t:∀i (h:i<m.length),(m.map λx=>D.agg x.bz.cs)[i]?=some (.agg m[i].bz.cs):=λi h=>cY h;generalize (l.map λx=>D.agg x.bz.cs)=L at*;generalize (m.map λx=>D.agg x.bz.cs)=M at*;refine aa9.cn _ λa ae K d=> ?_;by_cases w:l.length=m.length
 .have t1:a.aB .neq (Int.ofNat (a.len L)) (Int.ofNat (a.len M))=false:=by simp_all[aH]
  refine ak ?_;refine⟨bX (aqk L M (a.len L)) (λi=>i<=l.length/\l.take i=m.take i) λi=>l.length-i,_,⟨0,⟨aCu _,rfl⟩,rfl,az5⟩,?_⟩;rintro _ _ ⟨i,⟨r,f⟩,rfl,rfl⟩;dsimp only at r f⊢;by_cases c:i<l.length
  .have t2:a.aB .lss (Int.ofNat i) (Int.ofNat (a.len L))=true:=by simp_all[aH]
   have g:i<m.length:=az6;have t3:=cH ae (k i c);have t4:=cH ae (t i g);have t5:=b9 ae (n:=i) az6;obtain⟨b,j,aj⟩:=s l[i] (aCC c) m[i];have o:b=true->l.take (i+1)=m.take (i+1):=λh=>u6 c g f (j h);clear j;generalize l[i].bz=x at*;generalize m[i].bz=y at*;cases b with
   |true=>
    refine ak ?_;exact fixF (i+1) ⟨c,o rfl⟩
   |false=>
    refine ak ?_;exact d _ _ ⟨false,(λh=>aAb),rfl,az5⟩
  .have t2:a.aB .lss (Int.ofNat i) (Int.ofNat (a.len L))=false:=by simp_all[aH]
   have p:l=m:=u7 (i:=i) az6 az6 f;refine ak ?_;exact d _ _ ⟨true,λ_=>p,rfl,az5⟩
 .have t1:a.aB .neq (Int.ofNat (a.len L)) (Int.ofNat (a.len M))=true:=by simp only[aH ae,aCy,aCX,aCE];omega
  refine ak ?_;exact d _ _ ⟨false,(λh=>aAb),rfl,az5⟩
def ady(x:cC):Prop:=∀y:cC,∃b:Bool,(b=true->x=y)/\aL 99 [.d (.agg x.dX.cs),.d (.agg y.dX.cs)] [] (.d (.bool b)) []
def aqm(L M:List D)(n i:Nat):ag:=cA [(1,.d (.list 25 M)),(2,.d (.fn 99)),(15,.d (.list 25 L)),(16,.d (int (Int.ofNat n))),(17,.d (int (Int.ofNat i)))] []
theorem aqn(l m:List cC)(u:l.length<=1073741824)(s:∀x∈l,ady x):∃b:Bool,(b=true->l=m)/\aL 98 [.d (.list 25 (l.map λx=>.agg x.dX.cs)),.d (.list 25 (m.map λx=>.agg x.dX.cs)),.d (.fn 99)] [] (.d (.bool b)) []:=by
 refine eW ?_;have v:(l.map λx=>D.agg x.dX.cs).length=l.length:=aCv _;have z:(m.map λx=>D.agg x.dX.cs).length=m.length:=aCv _;have k:∀i (h:i<l.length),(l.map λx=>D.agg x.dX.cs)[i]?=some (.agg l[i].dX.cs):=λi h=>cY h;have t:∀i (h:i<m.length),(m.map λx=>D.agg x.dX.cs)[i]?=some (.agg m[i].dX.cs):=λi h=>cY h;generalize (l.map λx=>D.agg x.dX.cs)=L at*;generalize (m.map λx=>D.agg x.dX.cs)=M at*;refine aaF.cn _ λa ae K d=> ?_;by_cases w:l.length=m.length
 .have t1:a.aB .neq (Int.ofNat (a.len L)) (Int.ofNat (a.len M))=false:=by simp_all[aH]
  refine ak ?_;refine⟨bX (aqm L M (a.len L)) (λi=>i<=l.length/\l.take i=m.take i) λi=>l.length-i,_,⟨0,⟨aCu _,rfl⟩,rfl,az5⟩,?_⟩;rintro _ _ ⟨i,⟨r,f⟩,rfl,rfl⟩;dsimp only at r f⊢;by_cases c:i<l.length
  .have t2:a.aB .lss (Int.ofNat i) (Int.ofNat (a.len L))=true:=by simp_all[aH]
   have g:i<m.length:=az6;have t3:=cH ae (k i c);have t4:=cH ae (t i g);have t5:=b9 ae (n:=i) az6;obtain⟨b,j,aj⟩:=s l[i] (aCC c) m[i];have o:b=true->l.take (i+1)=m.take (i+1):=λh=>u6 c g f (j h);clear j;generalize l[i].dX=x at*;generalize m[i].dX=y at*;cases b with
   |true=>
    refine ak ?_;exact fixF (i+1) ⟨c,o rfl⟩
   |false=>
    refine ak ?_;exact d _ _ ⟨false,(λh=>aAb),rfl,az5⟩
  .have t2:a.aB .lss (Int.ofNat i) (Int.ofNat (a.len L))=false:=by simp_all[aH]
   have p:l=m:=u7 (i:=i) az6 az6 f;refine ak ?_;exact d _ _ ⟨true,λ_=>p,rfl,az5⟩
 .have t1:a.aB .neq (Int.ofNat (a.len L)) (Int.ofNat (a.len M))=true:=by simp only[aH ae,aCy,aCX,aCE];omega
  refine ak ?_;exact d _ _ ⟨false,(λh=>aAb),rfl,az5⟩
theorem aqo(l:List aD):l.length<=aD.ws l:=by
 induction l with
 |nil=>simp
 |cons x l ih=>grind[aD.ws,aD.rQ]
theorem bj.rQ(x:bj):500<=x.w:=by cases x;rw[bj.rP];omega
theorem aqp(l:List bj):l.length<=bj.ws l:=by
 induction l with
 |nil=>simp
 |cons x l ih=>grind[bj.ws,bj.rQ]
theorem ko{a:Type}(f:a->Nat)(l:List a):l.length<=fS f l:=by
 induction l with
 |nil=>simp
 |cons x l ih=>grind[fS]
theorem aD.eta(x:aD):x=.mk x.k x.n x.fY x.vi x.eB x.op x.l:=aAY
theorem aD.ayD{x y:aD}(h:x=y):x.bQ=y.bQ:=by rw[h]
theorem aqq(x:bj)(M:x.w<=dr)(ih:∀y∈x.l,HD y):HD x:=by
 obtain⟨k,v,l,c,ns,f,on,aw,ob,r⟩:=x;intro y;obtain⟨u,w,p,a,g,j,m,C,z,n⟩:=y;rw[bj.rP]at M;unfold dr at M;have q1:=aqp l;have bG:=aqo f;have cM:=ko (λx=>x.length) ns;have dB:=ko (λx:ax×ax=>x.1.length+x.2.length) on;have gE:=ko (λx:ax×ax×ax=>x.1.length+x.2.1.length+x.2.2.length) aw;have jW:=ko (λx:ax×Bool=>x.1.length) ob;have aB:fl ns=fS (λx=>x.length) ns:=rfl;have aN:j0 on=fS (λx:ax×ax=>x.1.length+x.2.length) on:=rfl;have aP:j1 aw=fS (λx:ax×ax×ax=>x.1.length+x.2.1.length+x.2.2.length) aw:=rfl;have aQ:j2 ob=fS (λx:ax×Bool=>x.1.length) ob:=rfl;have sC:∀x∈f,x.w<=dr:=λx E=>by have:=u' E;grind[dr]
 obtain⟨b3,av,aX⟩:=aql l p az6 ih;obtain⟨Q,U,bR⟩:=adx c.w c (aCw _) aAl a;obtain⟨R,V,cF⟩:=s8 ns g az6;obtain⟨F,Y,Z⟩:=adw f j az6 λx E=>adx x.w x (aCw _) (sC x E);obtain⟨S,hK,wN⟩:=ap5 on m az6;obtain⟨G,gL,qF⟩:=ap7 aw C az6;obtain⟨H,hX,yH⟩:=AE ob z az6;rw[<-bj.kn,<-bj.kn]at aX;rw[<-aD.kn,<-aD.kn]at Z;show ∃b:Bool,_/\bD _ _ _ [.d (.agg (dO.cs ⟨k,v,bj.ds l,c.bQ.k,c.bQ.n,c.bQ.fY,c.bQ.vi,c.bQ.eB,c.bQ.op,c.bQ.l,ns.map .str,aD.ds f,on.map fm,aw.map eK,ob.map fp,r⟩)),.d (.agg (dO.cs ⟨u,w,bj.ds p,a.bQ.k,a.bQ.n,a.bQ.fY,a.bQ.vi,a.bQ.eB,a.bQ.op,a.bQ.l,g.map .str,aD.ds j,m.map fm,C.map eK,z.map fp,n⟩))] _ _ _;have t:∀bq aT o:Bool,(bq=true->k=u)->(aT=true->v=w)->(o=true->r=n)->bq=true->aT=true->b3=true->Q=true->R=true->F=true->S=true->G=true->H=true->o=true->bj.mk k v l c ns f on aw ob r=bj.mk u w p a g j m C z n:=az8;generalize gj:bj.mk k v l c ns f on aw ob r=P at t;generalize aI:bj.mk u w p a g j m C z n=aM at t;generalize bj.ds l=L at*;generalize bj.ds p=L' at*;generalize aD.ds f=X at*;generalize aD.ds j=aR at*;generalize ns.map D.str=N at*;generalize g.map D.str=N' at*;generalize on.map fm=O at*;generalize m.map fm=aU at*;generalize aw.map eK=A at*;generalize C.map eK=bg at*;generalize ob.map fp=B at*;generalize z.map fp=Nt at*;generalize c.bQ=p6 at*;generalize a.bQ=bh at*;clear av U V Y hK gL hX;refine eW ?_;refine U2.cn _ λad ae K J=> ?_;obtain⟨bq,t1,f1⟩:=va ae k u;obtain⟨aT,t2,f2⟩:=A' ae v w;obtain⟨o,ay,ar⟩:=va ae r n;have t:=t bq aT o f1 f2 ar;have d:∀s,s=[]->K (.d (.bool false)) s:=λs hs=>J _ _ ⟨false,(λh=>aAb),rfl,hs⟩;cases bq with
 |false=>
  refine ak ?_;exact d _ az5
 |true=>
 cases aT with
 |false=>
  refine ak ?_;exact d _ az5
 |true=>
 cases b3 with
 |false=>
  refine ak ?_;exact d _ az5
 |true=>
 cases Q with
 |false=>
  refine ak ?_;exact d _ az5
 |true=>
 cases R with
 |false=>
  refine ak ?_;exact d _ az5
 |true=>
 cases F with
 |false=>
  refine ak ?_;exact d _ az5
 |true=>
 cases S with
 |false=>
  refine ak ?_;exact d _ az5
 |true=>
 cases G with
 |false=>
  refine ak ?_;exact d _ az5
 |true=>
 cases H with
 |false=>
  refine ak ?_;exact d _ az5
 |true=>
  conv=>cbv
  repeat' ((first|refine dD ?_|refine dE ?_|simp -proj only[t1,t2,ay]|(split<;>(rename_i h;try simp only[h])))<;>conv=>cbv)
  exact J _ _ ⟨o,t rfl rfl rfl rfl rfl rfl rfl rfl rfl,rfl,az5⟩
theorem adA:∀{l:List bj} {y:bj},y∈l->y.w<=bj.ws l
 |x::l,y,a=>by
  show y.w<=x.w+bj.ws l;rcases aCJ.1 a with rfl|a
  .omega
  .have:=adA a;omega
theorem bj.aqu{x y:bj}(a:y∈x.l):y.w+500<=x.w:=by
 obtain⟨k,f,l,c,g,n,m,aw,j,d⟩:=x;have:=adA (l:=l) a;rw[bj.rP];omega
theorem aqv:∀(n:Nat) (x:bj),x.w<=n->x.w<=dr->HD x:=by
 intro n;induction n with
 |zero=>grind[bj.rQ]
 |succ n ih=>exact λx h c=>aqq x c λy a=>by have:=bj.aqu a;grind
theorem aqw(l m:List (ax×Int))(a:l.length<=1073741824):∃b:Bool,(b=true->l=m)/\aL 137 [.d (.list 2 (l.map bF)),.d (.list 2 (m.map bF))] [] (.d (.bool b)) []:=by
 obtain⟨b,au,aj⟩:=adr l m a;refine⟨b,au,?_⟩;generalize l.map bF=L at*;generalize m.map bF=M at*;refine L7.ct λd ae Q c=> ?_;refine ak ?_
 (subst ae;exact bS c az7 az5)
theorem aqx(x:cC)(E:x.w<=dr):ady x:=by
 obtain⟨k,n,bm,l,o,p,bV,d,m,ms⟩:=x;intro y;obtain⟨A,B,r,f,g,j,t,u,v,w⟩:=y;have E:1000+n.length+j8 bm+jN bV+d.w+m.length+fl ms<=dr:=E;unfold dr at E;have q1:=ko (λx:ax×Int=>x.1.length) bm;have bG:=ko (λx:jo=>x.a.length+x.b.length) bV;have cM:=ko (λx=>x.length) ms;have ar:j8 bm=fS (λx:ax×Int=>x.1.length) bm:=rfl;have ay:jN bV=fS (λx:jo=>x.a.length+x.b.length) bV:=rfl;have Y:fl ms=fS (λx=>x.length) ms:=rfl;obtain⟨b3,av,aX⟩:=aqw bm r az6;obtain⟨J,M,cF⟩:=ap' bV t az6;obtain⟨F,Q,dR⟩:=aqv d.w d (aCw _) aAl u;obtain⟨G,V,qF⟩:=s8 ms w az6;show ∃b:Bool,_/\bD _ _ _ [.d (.agg (lH.cs ⟨k,n,bm.map bF,l,o,p,bV.map ef,d.bz,m,ms.map .str⟩)),.d (.agg (lH.cs ⟨A,B,r.map bF,f,g,j,t.map ef,u.bz,v,w.map .str⟩))] _ _ _;have z:∀bq aT iH C:Bool,(bq=true->k=A)->(aT=true->n=B)->(iH=true->l=f/\o=g/\p=j)->(C=true->m=v)->bq=true->aT=true->b3=true->iH=true->J=true->F=true->C=true->G=true->(⟨k,n,bm,l,o,p,bV,d,m,ms⟩:cC)=⟨A,B,r,f,g,j,t,u,v,w⟩:=az8;generalize gj:(⟨k,n,bm,l,o,p,bV,d,m,ms⟩:cC)=P at z;generalize Z:(⟨A,B,r,f,g,j,t,u,v,w⟩:cC)=ai at z;generalize bm.map bF=S at*;generalize r.map bF=aB at*;generalize bV.map ef=I at*;generalize t.map ef=aI at*;generalize ms.map D.str=N at*;generalize w.map D.str=N' at*;generalize d.bz=c at*;generalize u.bz=c' at*;clear av M Q V;refine eW ?_;refine aaH.cn _ λL ae K H=> ?_;obtain⟨bq,t1,f1⟩:=va ae k A;obtain⟨aT,t2,f2⟩:=A' ae n B;obtain⟨iH,t4,R⟩:=aqh ae l o p f g j;have ang:L.lD [1,1,1] (int l::List.take 2 [int o,int p]) (int f::List.take 2 [int g,int j])=some iH:=t4;obtain⟨C,t7,U⟩:=A' ae m v;have z:=z bq aT iH C f1 f2 R U;have a:∀s,s=[]->K (.d (.bool false)) s:=λs X=>H _ _ ⟨false,(λh=>aAb),rfl,X⟩;cases bq with
 |false=>
  refine ak ?_;exact a _ az5
 |true=>
 cases aT with
 |false=>
  refine ak ?_;exact a _ az5
 |true=>
 cases b3 with
 |false=>
  refine ak ?_;exact a _ az5
 |true=>
 cases iH with
 |false=>
  refine ak ?_;exact a _ az5
 |true=>
 cases J with
 |false=>
  refine ak ?_;exact a _ az5
 |true=>
 cases F with
 |false=>
  refine ak ?_;exact a _ az5
 |true=>
 cases C with
 |false=>
  refine ak ?_;exact a _ az5
 |true=>
  refine ak ?_;exact H _ _ ⟨G,z rfl rfl rfl rfl rfl rfl rfl,rfl,az5⟩
theorem aqy(l m:List cC)(c:hE l<=dr):∃b:Bool,(b=true->l=m)/\aL 98 [.d (.list 25 (l.map cC.d)),.d (.list 25 (m.map cC.d)),.d (.fn 99)] [] (.d (.bool b)) []:=by
 have h1:=ko cC.w l;have d:hE l=fS cC.w l:=rfl;have f:dr=1000000000:=rfl;have g:∀{l:List cC} {x:cC},x∈l->x.w<=hE l:=by
  intro l x a;induction l with
  |nil=>grind
  |cons y l ih=>
   show _<=200+y.w+hE l;grind
 exact aqn l m az6 λx a=>aqx x az9
theorem at1(y:Int):∃x:Bool,aL 318 [.d (int y)] [] (.d (.bool x)) []:=by
 refine hb ?_;refine abQ.cn _ λc ae K a=> ?_;refine ak ?_;repeat' (split<;>refine ak ?_)
 all_goals exact a _ _ ⟨_,rfl,az5⟩
theorem at2(y m:Int):∃x:Int,aL 293 [.d (int y),.d (int m)] [] (.d (int x)) []:=by
 refine hb ?_;obtain⟨l,aj⟩:=at1 y;by_cases h:m<1\/12<m
 .refine Mz.cn _ λd ae K f=> ?_;have t1:d.aB .lss m 1=true\/d.aB .gtr m 12=true:=by
   simp only[aH ae,aCA];exact h
  rcases t1 with t1|t1
  .refine ak ?_;exact f _ _ ⟨_,rfl,az5⟩
  .cases af:d.aB .lss m 1
   .refine ak ?_;exact f _ _ ⟨_,rfl,az5⟩
   .refine ak ?_;exact f _ _ ⟨_,rfl,az5⟩
 .have k:m=1\/m=2\/m=3\/m=4\/m=5\/m=6\/m=7\/m=8\/m=9\/m=10\/m=11\/m=12:=by omega
  have n:∀c:Int,(c=1\/c=2\/c=3\/c=4\/c=5\/c=6\/c=7\/c=8\/c=9\/c=10\/c=11\/c=12)->∃r g,(∃x:Int,r=.d (int x)/\g=[])/\aL 293 [.d (int y),.d (int c)] [] r g:=by
   intro c j;rcases j with rfl|rfl|rfl|rfl|rfl|rfl|rfl|rfl|rfl|rfl|rfl|rfl
   all_goals
    refine Mz.cn _ λd ae K f=> ?_;have t1:∀a b,d.aB .lss a b=decide (a<b):=λa b=>aBo;have t2:∀a b,d.aB .gtr a b=decide (b<a):=λa b=>aBo;refine ak ?_;repeat' (split<;>refine ak ?_)
    all_goals exact f _ _ ⟨_,rfl,az5⟩
  exact n m k
theorem at3(n:Int):∃x:Int,aL 317 [.d (int n)] [] (.d (int x)) []:=by
 refine hb ?_;refine V6.cn _ λc ae K a=> ?_;refine ak ?_;repeat' (split<;>refine ak ?_)
 all_goals exact a _ _ ⟨_,rfl,az5⟩
theorem at4(n:Int):∃x:Int,aL 292 [.d (int n)] [] (.d (int x)) []:=by
 refine hb ?_;obtain⟨bP,aj⟩:=at3 n;refine VW.cn _ λc ae K a=> ?_;refine ak ?_;exact a _ _ ⟨_,rfl,az5⟩
theorem at5(n:Int):∃x:Bool,aL 251 [.d (int n)] [] (.d (.bool x)) []:=by
 refine hb ?_;refine XT.cn _ λc ae K a=> ?_;refine ak ?_;repeat' (split<;>refine ak ?_)
 all_goals exact a _ _ ⟨_,rfl,az5⟩
def at6(n:Int)(y d:Int)(m:Nat):ag:=cA [(0,.d (int n)),(3,.d (int y)),(4,.d (int d)),(5,.d (int (Int.ofNat m)))] []
theorem at7(n:Int)(j:0<=n):∃x:Int,aL 250 [.d (int n)] [] (.d (int x)) []:=by
 refine hb ?_;refine VM.cn _ λa ae K c=> ?_;obtain⟨d,aj⟩:=at4 (a.io .quo .i64 n 12);refine ak ?_;refine⟨bX (λz:Int×Nat=>at6 n (a.io .quo .i64 n 12) z.1 z.2) (λz=>z.2<=12) (λz=>13-z.2),_,⟨(d,1),by show 1<=12;omega,rfl,az5⟩,?_⟩;rintro _ _ ⟨⟨d,m⟩,f,rfl,rfl⟩;dsimp only at f⊢;have g:n.tmod 12<12:=Int.tmod_lt_of_pos n az6;cases t1:a.aB .leq (Int.ofNat m) (a.io .rem .i64 n 12)with
 |true=>
  have t2:=t1;simp only[aH ae,aCx,aCA,aCE,aCX,aDB,aCy]at t2;have t3:=b9 ae (n:=m) az6;obtain⟨x,aC⟩:=at2 (a.io .add .i64 2000 (a.io .quo .i64 n 12)) (Int.ofNat m);refine ak ?_;exact ea (a.io .add .i64 d x,m+1) (by show m+1<=12;omega) (show 13-(m+1)<13-m by omega) az5
 |false=>
  refine ak ?_;exact c _ _ ⟨_,rfl,az5⟩
theorem aua(n:Int):∃x:Int,aL 206 [.d (int n)] [] (.d (int x)) []:=by
 refine hb ?_;refine abl.cn _ λa ae K c=> ?_;cases t1:a.aB .lss n 0 with
 |true=>
  refine ak ?_;exact c _ _ ⟨_,rfl,az5⟩
 |false=>
  have t2:=t1;simp only[aH ae,aCx,aCA,aCE,aCX,aDB,aCy]at t2;obtain⟨d,aj⟩:=at7 n az6;obtain⟨b,aC⟩:=at5 (a.io .mul .i64 d 1440);refine ak ?_;repeat' (split<;>refine ak ?_)
  all_goals exact c _ _ ⟨_,rfl,az5⟩
theorem aub(k a b i:Int):∃x:Int,aL 159 [.d (.agg [int k,int a,int b]),.d (int i)] [] (.d (int x)) []:=by
 refine hb ?_;obtain⟨bP,aj⟩:=aua i;refine YZ.cn _ λd ae K c=> ?_;refine ak ?_;repeat' (split<;>refine ak ?_)
 all_goals exact c _ _ ⟨_,rfl,az5⟩
def vq(a b:Int):Prop:=0<=a/\a<=b/\b-a<512/\b<=2147483648
theorem N5(k a b:Int):∃x:Int,(x=0->vq a b)/\aL 145 [.d (.agg [int k,int a,int b])] [] (.d (int x)) []:=by
 suffices h:∃r g,(∃x:Int,(x=0->vq a b)/\r=.d (int x)/\g=[])/\aL 145 [.d (.agg [int k,int a,int b])] [] r g by
  obtain⟨_,_,⟨x,h1,rfl,rfl⟩,h⟩:=h;exact⟨x,h1,h⟩
 refine aaX.cn _ λc ae K f=> ?_;obtain⟨d,aj⟩:=aub k a b (c.io .add .i64 b 1);by_cases H:vq a b
 .refine ak ?_;repeat' (split<;>refine ak ?_)
  all_goals exact f _ _ ⟨_,λ_=>H,rfl,az5⟩
 .have af:c.aB .lss a 0=false->c.aB .gtr a b=false->c.aB .geq (c.io .sub .i64 b a) 512=false->(c.aB .lss b 1048576=true\/c.aB .geq b 2147483648=false)->False:=λh1 af av j=>H (by
   have e:=DA ae (a:=b) (b:=a);simp only[aH ae,aCE,aCA]at h1 af j;have l:=e az6 az6;rw[l]at av;simp only[aH ae,aCE]at av;unfold vq;omega)
  clear H;refine ak ?_;repeat' (split<;>refine ak ?_)
  all_goals first
   |exact f _ _ ⟨_,(λh=>absurd h az'),rfl,az5⟩
   |exact absurd (af aAk aAk aAk (.inl aAk)) id
   |exact absurd (af aAk aAk aAk (.inr aAk)) id
theorem auc(k n:Int):∃x:Bool,aL 199 [.d (.agg [int k,int n])] [] (.d (.bool x)) []:=by
 refine hb ?_;refine Xu.cn _ λc ae K a=> ?_;refine ak ?_;repeat' (split<;>refine ak ?_)
 all_goals exact a _ _ ⟨_,rfl,az5⟩
theorem aud(k n k1 bp bq k2 a2 aT:Int):∃x:Int,aL 148 [.d (.agg [int k,int n]),.d (.agg [int k1,int bp,int bq]),.d (.agg [int k2,int a2,int aT])] [] (.d (int x)) []:=by
 refine hb ?_;obtain⟨bP,aj⟩:=auc k n;obtain⟨bZ,_,aC⟩:=N5 k1 bp bq;obtain⟨cx,_,aX⟩:=N5 k2 a2 aT;refine U'.cn _ λc ae K a=> ?_;refine ak ?_;repeat' (split<;>refine ak ?_)
 all_goals exact a _ _ ⟨_,rfl,az5⟩
end Go.Proofs.YthffhbakgmemaaaGreatDoor
