/- Part of ranges_said. -/
import Derived.Test.YthffhbakgmemaaaGreatDoorB5
set_option maxRecDepth 100000
set_option maxHeartbeats 8000000
set_option linter.unusedSimpArgs false
set_option linter.unusedVariables false
namespace Go.Proofs.YthffhbakgmemaaaGreatDoor
open Go Go.aH
attribute [local irreducible] bG
def hE(x:bk):Prop:=∀(src:List (aw×List (aw×Int))),src.length<=1073741824->∀d:Int,∃(bq:List (aw×Int)) (e:Int),(e=0->bq.length<=16)/\aM 158 [.d (.agg x.bB.cs),.d (.list 3 (src.map jV)),.d (int d)] [] (.tuple [.d (.list 2 (bq.map bD)),.d (int e)]) []
def dC(l:List (aw×Int)):D:=.list 2 (l.map bD)
def vW(c:ef)(S:List D)(d:Int)(H:List D)(n i:Nat):ag:=pV [(1,.d (.list 3 S)),(2,.d (int d)),(3,.dT 3 0),(10,.own 1 H),(59,.d (.list 16 c.a)),(60,.d (int (Int.ofNat n))),(61,.d (int (Int.ofNat i)))] [(3,c.v)] []
def arity(k:Int):Nat:=if k=1 then 0 else if k=4\/k=5\/k=7 then 2 else 1
theorem MC{α:Type}:∀{l:List α},l.length=2->∃a b,l=[a,b]
 |[a,b],_=>⟨a,b,rfl⟩
theorem bk.acB(x:bk):500<=x.w:=by cases x;show 500<=500+_+_+_+_+_+_+_+_;omega
theorem bk.MD:∀l:List bk,l.length<=bk.ws l
 |[]=>aAd _
 |x::l=>by have:=x.acB;have:=bk.MD l;show l.length+1<=x.w+bk.ws l;omega
theorem bk.acC:∀{l:List bk} {x:bk},x∈l->x.w<=bk.ws l
 |y::l,x,h=>by
  show _<=y.w+bk.ws l;rcases aAs.1 h with rfl|h
  .omega
  .have:=bk.acC h;omega
theorem bk.acD(x:bk):500+bk.ws x.l<=x.w:=by cases x;show 500+bk.ws _<=500+_+_+_+_+_+_+_+_;grind[bk.l]
theorem aqm(x:bk)(hw:x.w<=dJ)(ih:∀y∈x.l,hE y):hE x:=by
 intro src hs d;have gN:=aql x hw;have ak:x.bB.a=x.l.map λx=>.agg x.bB.cs:=by rw[<-bk.ld];cases x;rfl
 have acE:x.bB.k=x.k:=ayL;have aI:x.l.length<=1073741824:=by
  grind[bk.MD,dJ,bk.acD]
 have bE:(x.l.map λx=>D.agg x.bB.cs).length=x.l.length:=aAb _;have bY:∀i (h:i<x.l.length),(x.l.map λx=>D.agg x.bB.cs)[i]?=some (.agg x.l[i].bB.cs):=λi h=>c7 h;rw[<-ak]at bE bY;rw[<-acE]at gN;clear hw ak acE;generalize x.l=l at*;generalize x.bB=c at*;have hQ:∀i (h:i<l.length),∃(bq:List (aw×Int)) (e:Int),(e=0->bq.length<=16)/\aM 158 [.d (.agg l[i].bB.cs),.d (.list 3 (src.map jV)),.d (int (IntKind.i64.wrap (d+1)))] [] (.tuple [.d (.list 2 (bq.map bD)),.d (int e)]) []:=λi h=>ih l[i] (aAl h) src hs _;clear ih;obtain⟨yb,aqn,aj⟩:=ap4 src c.n hs;obtain⟨bN,h1,aF⟩:=ap1 yb;have aZ:yb.length<=16->aM 50 [.d (.list 2 (yb.map bD))] [] (.d (.list 2 (yb.map bD))) []:=λh=>apR (yb.map bD) axZ;refine K7 ?_;generalize src.map jV=S at*;obtain⟨c1,c2,L,c4,c5,eI,bQ,e0,c9,fj,e9,c12,eN,eR,eS,bB⟩:=c;dsimp only at bE bY gN aj⊢;refine ZG.cu _ λad ae K ao=> ?_;have nY:∀a b,IntKind.i64.wrap (a+b)=ad.io .add .i64 a b:=λa b=>ax1;rw[nY]at hQ;cases t0:ad.aD .gtr d 16 with
 |true=>
  refine af ?_;exact ao _ _ ⟨[],_,(λ_=>ax0),rfl,axV⟩
 |false=>
 by_cases aq:c1<1\/9<c1
 .have t1:ad.aD .lss c1 1=true\/(ad.aD .lss c1 1=false/\ad.aD .gtr c1 9=true):=by
   simp only[aJ ae,aAi,aAp];omega
  rcases t1 with t1|⟨t1,t2⟩
  .refine af ?_;exact ao _ _ ⟨[],_,(λ_=>ax0),rfl,axV⟩
  .refine af ?_;exact ao _ _ ⟨[],_,(λ_=>ax0),rfl,axV⟩
 .have aqo:c1=1\/c1=2\/c1=3\/c1=4\/c1=5\/c1=6\/c1=7\/c1=8\/c1=9:=by omega
  clear aq;rcases aqo with rfl|rfl|rfl|rfl|rfl|rfl|rfl|rfl|rfl
  .have AN:ad.aD .lss 1 1=false:=by simp only[aJ ae];decide
   have eb:ad.aD .gtr 1 9=false:=ax4;have k7:ad.aD .eql 1 1=true:=ax4;cases i':ad.aD .neq (Int.ofNat (ad.len L)) 0 with
   |true=>
    refine af ?_;exact ao _ _ ⟨[],_,(λ_=>ax0),rfl,axV⟩
   |false=>
   cases aqn with
   |false=>
    refine af ?_;exact ao _ _ ⟨[],_,(λ_=>ax0),rfl,axV⟩
   |true=>
   cases i7:ad.aD .neq bN 0 with
   |true=>
    refine af ?_;repeat' (split<;>refine af ?_)
    all_goals exact ao _ _ ⟨[],_,(λ_=>ax0),rfl,axV⟩
   |false=>
    have he:bN=0:=by simp only[aJ ae,aBf,aAi]at i7;omega
    have BG:=h1 he;have aZ:=aZ BG;generalize b7:yb.map bD=M at*;refine af ?_;exact ao _ _ ⟨yb,_,(λ_=>BG),aye,axV⟩
  .have AN:ad.aD .lss 2 1=false:=by simp only[aJ ae];decide
   have eb:ad.aD .gtr 2 9=false:=ax4;have k7:ad.aD .eql 2 1=false:=ax4;cases i':ad.aD .neq (Int.ofNat (ad.len L)) 1 with
   |true=>
    refine af ?_;exact ao _ _ ⟨[],_,(λ_=>ax0),rfl,axV⟩
   |false=>
   have ot:l.length=1:=ayt;refine af ?_;refine⟨bX (λz:List (List (aw×Int))×Nat=>vW ⟨2,c2,L,c4,c5,eI,bQ,e0,c9,fj,e9,c12,eN,eR,eS,bB⟩ S d (z.1.map dC) (ad.len L) z.2) (λz=>z.2<=l.length/\z.1.length=z.2/\∀s∈z.1,s.length<=16) λz=>l.length-z.2,_,⟨([],0),⟨aAa _,rfl,λs h=>ax2⟩,rfl,axV⟩,?_⟩;rintro _ _ ⟨⟨H,i⟩,⟨hi,eW,fL⟩,rfl,rfl⟩;dsimp only at hi eW fL⊢;by_cases aA:i<l.length
   .have t2:ad.aD .lss (Int.ofNat i) (Int.ofNat (ad.len L))=true:=by simp only[aJ ae,aAh,aAi];omega
    have t3:=cz ae (bY i aA);have t5:=cd ae (n:=i) axW;obtain⟨bq,e,he,bP⟩:=hQ i aA;have t8:ad.app (H.map dC) [.list 2 (bq.map bD)]=(H++[bq]).map dC:=ayi;have jx:=re (a:=bq) eW;have nL:e=0->∀s∈H++[bq],s.length<=16:=λh s hs=>axZ;have hm:(H.map dC).length=i:=axZ;clear hQ gN aj aF aZ he fL;generalize aO:(H++[bq])=gh at*;generalize gw:gh.map dC=qe at*;generalize H.map dC=H1 at*;generalize bq.map bD=M at*;generalize l[i].bB=y at*;cases i7:ad.aD .neq e 0 with
    |true=>
     refine af ?_;exact ao _ _ ⟨[],_,(λ_=>ax0),rfl,axV⟩
    |false=>
     have he:e=0:=ax1;have nM:=nL he;refine af ?_
     (subst gw;exact fixF (gh,i+1) ⟨aA,jx,nM⟩)
   have t2:ad.aD .lss (Int.ofNat i) (Int.ofNat (ad.len L))=false:=ayb;have nN:∃a,H=[a]:=aB7.1 axW;obtain⟨a,rfl⟩:=nN;have bp:=fL a aAX;obtain⟨hF,b5,cK⟩:=gN a [] bp (λh=>axW);change bG _ _ _ [_,.d (.list 1 ([a].map dC))] _ _ _ at cK;obtain⟨dq,av,dO⟩:=rb hF;clear hQ gN aj aF aZ fL;generalize (List.map dC _)=H1 at*;generalize b7:hF.map bD=M at*;cases i7:ad.aD .eql b5 0 with
   |true=>
    cases kI:ad.aD .neq dq 0 with
    |true=>
     refine af ?_;exact ao _ _ ⟨[],_,(λ_=>ax0),rfl,axV⟩
    |false=>
     have he:dq=0:=ax1;have lf:=av he;refine af ?_;exact ao _ _ ⟨hF,_,(λ_=>lf),aye,axV⟩
   |false=>
    have kI:ad.aD .neq b5 0=true:=ax1;refine af ?_;exact ao _ _ ⟨[],_,(λ_=>ax0),rfl,axV⟩
  .have AN:ad.aD .lss 3 1=false:=by simp only[aJ ae];decide
   have eb:ad.aD .gtr 3 9=false:=ax4;have k7:ad.aD .eql 3 1=false:=ax4;cases i':ad.aD .neq (Int.ofNat (ad.len L)) 1 with
   |true=>
    refine af ?_;exact ao _ _ ⟨[],_,(λ_=>ax0),rfl,axV⟩
   |false=>
   have ot:l.length=1:=ayt;refine af ?_;refine⟨bX (λz:List (List (aw×Int))×Nat=>vW ⟨3,c2,L,c4,c5,eI,bQ,e0,c9,fj,e9,c12,eN,eR,eS,bB⟩ S d (z.1.map dC) (ad.len L) z.2) (λz=>z.2<=l.length/\z.1.length=z.2/\∀s∈z.1,s.length<=16) λz=>l.length-z.2,_,⟨([],0),⟨aAa _,rfl,λs h=>ax2⟩,rfl,axV⟩,?_⟩;rintro _ _ ⟨⟨H,i⟩,⟨hi,eW,fL⟩,rfl,rfl⟩;dsimp only at hi eW fL⊢;by_cases aA:i<l.length
   .have t2:ad.aD .lss (Int.ofNat i) (Int.ofNat (ad.len L))=true:=by simp only[aJ ae,aAh,aAi];omega
    have t3:=cz ae (bY i aA);have t5:=cd ae (n:=i) axW;obtain⟨bq,e,he,bP⟩:=hQ i aA;have t8:ad.app (H.map dC) [.list 2 (bq.map bD)]=(H++[bq]).map dC:=ayi;have jx:=re (a:=bq) eW;have nL:e=0->∀s∈H++[bq],s.length<=16:=λh s hs=>axZ;have hm:(H.map dC).length=i:=axZ;clear hQ gN aj aF aZ he fL;generalize aO:(H++[bq])=gh at*;generalize gw:gh.map dC=qe at*;generalize H.map dC=H1 at*;generalize bq.map bD=M at*;generalize l[i].bB=y at*;cases i7:ad.aD .neq e 0 with
    |true=>
     refine af ?_;exact ao _ _ ⟨[],_,(λ_=>ax0),rfl,axV⟩
    |false=>
     have he:e=0:=ax1;have nM:=nL he;refine af ?_
     (subst gw;exact fixF (gh,i+1) ⟨aA,jx,nM⟩)
   have t2:ad.aD .lss (Int.ofNat i) (Int.ofNat (ad.len L))=false:=ayb;have nN:∃a,H=[a]:=aB7.1 axW;obtain⟨a,rfl⟩:=nN;have bp:=fL a aAX;obtain⟨hF,b5,cK⟩:=gN a [] bp (λh=>axW);change bG _ _ _ [_,.d (.list 1 ([a].map dC))] _ _ _ at cK;obtain⟨dq,av,dO⟩:=rb hF;clear hQ gN aj aF aZ fL;generalize (List.map dC _)=H1 at*;generalize b7:hF.map bD=M at*;cases i7:ad.aD .eql b5 0 with
   |true=>
    cases kI:ad.aD .neq dq 0 with
    |true=>
     refine af ?_;exact ao _ _ ⟨[],_,(λ_=>ax0),rfl,axV⟩
    |false=>
     have he:dq=0:=ax1;have lf:=av he;refine af ?_;exact ao _ _ ⟨hF,_,(λ_=>lf),aye,axV⟩
   |false=>
    have kI:ad.aD .neq b5 0=true:=ax1;refine af ?_;exact ao _ _ ⟨[],_,(λ_=>ax0),rfl,axV⟩
  .have AN:ad.aD .lss 4 1=false:=by simp only[aJ ae];decide
   have eb:ad.aD .gtr 4 9=false:=ax4;have k7:ad.aD .eql 4 1=false:=ax4;cases i':ad.aD .neq (Int.ofNat (ad.len L)) 2 with
   |true=>
    refine af ?_;exact ao _ _ ⟨[],_,(λ_=>ax0),rfl,axV⟩
   |false=>
   have ot:l.length=2:=ayt;refine af ?_;refine⟨bX (λz:List (List (aw×Int))×Nat=>vW ⟨4,c2,L,c4,c5,eI,bQ,e0,c9,fj,e9,c12,eN,eR,eS,bB⟩ S d (z.1.map dC) (ad.len L) z.2) (λz=>z.2<=l.length/\z.1.length=z.2/\∀s∈z.1,s.length<=16) λz=>l.length-z.2,_,⟨([],0),⟨aAa _,rfl,λs h=>ax2⟩,rfl,axV⟩,?_⟩;rintro _ _ ⟨⟨H,i⟩,⟨hi,eW,fL⟩,rfl,rfl⟩;dsimp only at hi eW fL⊢;by_cases aA:i<l.length
   .have t2:ad.aD .lss (Int.ofNat i) (Int.ofNat (ad.len L))=true:=by simp only[aJ ae,aAh,aAi];omega
    have t3:=cz ae (bY i aA);have t5:=cd ae (n:=i) axW;obtain⟨bq,e,he,bP⟩:=hQ i aA;have t8:ad.app (H.map dC) [.list 2 (bq.map bD)]=(H++[bq]).map dC:=ayi;have jx:=re (a:=bq) eW;have nL:e=0->∀s∈H++[bq],s.length<=16:=λh s hs=>axZ;have hm:(H.map dC).length=i:=axZ;clear hQ gN aj aF aZ he fL;generalize aO:(H++[bq])=gh at*;generalize gw:gh.map dC=qe at*;generalize H.map dC=H1 at*;generalize bq.map bD=M at*;generalize l[i].bB=y at*;cases i7:ad.aD .neq e 0 with
    |true=>
     refine af ?_;exact ao _ _ ⟨[],_,(λ_=>ax0),rfl,axV⟩
    |false=>
     have he:e=0:=ax1;have nM:=nL he;refine af ?_
     (subst gw;exact fixF (gh,i+1) ⟨aA,jx,nM⟩)
   have t2:ad.aD .lss (Int.ofNat i) (Int.ofNat (ad.len L))=false:=ayb;have nN:∃a b,H=[a,b]:=MC axW;obtain⟨a,b,rfl⟩:=nN;have bp:=fL a aAX;have au:=fL b (aBe _ aAX);obtain⟨hF,b5,cK⟩:=gN a [dC b] bp (λ_=>⟨b,au,rfl⟩);change bG _ _ _ [_,.d (.list 1 ([a,b].map dC))] _ _ _ at cK;obtain⟨dq,av,dO⟩:=rb hF;clear hQ gN aj aF aZ fL;generalize (List.map dC _)=H1 at*;generalize b7:hF.map bD=M at*;cases i7:ad.aD .eql b5 0 with
   |true=>
    cases kI:ad.aD .neq dq 0 with
    |true=>
     refine af ?_;exact ao _ _ ⟨[],_,(λ_=>ax0),rfl,axV⟩
    |false=>
     have he:dq=0:=ax1;have lf:=av he;refine af ?_;exact ao _ _ ⟨hF,_,(λ_=>lf),aye,axV⟩
   |false=>
    have kI:ad.aD .neq b5 0=true:=ax1;refine af ?_;exact ao _ _ ⟨[],_,(λ_=>ax0),rfl,axV⟩
  .have AN:ad.aD .lss 5 1=false:=by simp only[aJ ae];decide
   have eb:ad.aD .gtr 5 9=false:=ax4;have k7:ad.aD .eql 5 1=false:=ax4;cases i':ad.aD .neq (Int.ofNat (ad.len L)) 2 with
   |true=>
    refine af ?_;exact ao _ _ ⟨[],_,(λ_=>ax0),rfl,axV⟩
   |false=>
   have ot:l.length=2:=ayt;refine af ?_;refine⟨bX (λz:List (List (aw×Int))×Nat=>vW ⟨5,c2,L,c4,c5,eI,bQ,e0,c9,fj,e9,c12,eN,eR,eS,bB⟩ S d (z.1.map dC) (ad.len L) z.2) (λz=>z.2<=l.length/\z.1.length=z.2/\∀s∈z.1,s.length<=16) λz=>l.length-z.2,_,⟨([],0),⟨aAa _,rfl,λs h=>ax2⟩,rfl,axV⟩,?_⟩;rintro _ _ ⟨⟨H,i⟩,⟨hi,eW,fL⟩,rfl,rfl⟩;dsimp only at hi eW fL⊢;by_cases aA:i<l.length
   .have t2:ad.aD .lss (Int.ofNat i) (Int.ofNat (ad.len L))=true:=by simp only[aJ ae,aAh,aAi];omega
    have t3:=cz ae (bY i aA);have t5:=cd ae (n:=i) axW;obtain⟨bq,e,he,bP⟩:=hQ i aA;have t8:ad.app (H.map dC) [.list 2 (bq.map bD)]=(H++[bq]).map dC:=ayi;have jx:=re (a:=bq) eW;have nL:e=0->∀s∈H++[bq],s.length<=16:=λh s hs=>axZ;have hm:(H.map dC).length=i:=axZ;clear hQ gN aj aF aZ he fL;generalize aO:(H++[bq])=gh at*;generalize gw:gh.map dC=qe at*;generalize H.map dC=H1 at*;generalize bq.map bD=M at*;generalize l[i].bB=y at*;cases i7:ad.aD .neq e 0 with
    |true=>
     refine af ?_;exact ao _ _ ⟨[],_,(λ_=>ax0),rfl,axV⟩
    |false=>
     have he:e=0:=ax1;have nM:=nL he;refine af ?_
     (subst gw;exact fixF (gh,i+1) ⟨aA,jx,nM⟩)
   have t2:ad.aD .lss (Int.ofNat i) (Int.ofNat (ad.len L))=false:=ayb;have nN:∃a b,H=[a,b]:=MC axW;obtain⟨a,b,rfl⟩:=nN;have bp:=fL a aAX;have au:=fL b (aBe _ aAX);obtain⟨hF,b5,cK⟩:=gN a [dC b] bp (λ_=>⟨b,au,rfl⟩);change bG _ _ _ [_,.d (.list 1 ([a,b].map dC))] _ _ _ at cK;obtain⟨dq,av,dO⟩:=rb hF;clear hQ gN aj aF aZ fL;generalize (List.map dC _)=H1 at*;generalize b7:hF.map bD=M at*;cases i7:ad.aD .eql b5 0 with
   |true=>
    cases kI:ad.aD .neq dq 0 with
    |true=>
     refine af ?_;exact ao _ _ ⟨[],_,(λ_=>ax0),rfl,axV⟩
    |false=>
     have he:dq=0:=ax1;have lf:=av he;refine af ?_;exact ao _ _ ⟨hF,_,(λ_=>lf),aye,axV⟩
   |false=>
    have kI:ad.aD .neq b5 0=true:=ax1;refine af ?_;exact ao _ _ ⟨[],_,(λ_=>ax0),rfl,axV⟩
  .have AN:ad.aD .lss 6 1=false:=by simp only[aJ ae];decide
   have eb:ad.aD .gtr 6 9=false:=ax4;have k7:ad.aD .eql 6 1=false:=ax4;cases i':ad.aD .neq (Int.ofNat (ad.len L)) 1 with
   |true=>
    refine af ?_;exact ao _ _ ⟨[],_,(λ_=>ax0),rfl,axV⟩
   |false=>
   have ot:l.length=1:=ayt;refine af ?_;refine⟨bX (λz:List (List (aw×Int))×Nat=>vW ⟨6,c2,L,c4,c5,eI,bQ,e0,c9,fj,e9,c12,eN,eR,eS,bB⟩ S d (z.1.map dC) (ad.len L) z.2) (λz=>z.2<=l.length/\z.1.length=z.2/\∀s∈z.1,s.length<=16) λz=>l.length-z.2,_,⟨([],0),⟨aAa _,rfl,λs h=>ax2⟩,rfl,axV⟩,?_⟩;rintro _ _ ⟨⟨H,i⟩,⟨hi,eW,fL⟩,rfl,rfl⟩;dsimp only at hi eW fL⊢;by_cases aA:i<l.length
   .have t2:ad.aD .lss (Int.ofNat i) (Int.ofNat (ad.len L))=true:=by simp only[aJ ae,aAh,aAi];omega
    have t3:=cz ae (bY i aA);have t5:=cd ae (n:=i) axW;obtain⟨bq,e,he,bP⟩:=hQ i aA;have t8:ad.app (H.map dC) [.list 2 (bq.map bD)]=(H++[bq]).map dC:=ayi;have jx:=re (a:=bq) eW;have nL:e=0->∀s∈H++[bq],s.length<=16:=λh s hs=>axZ;have hm:(H.map dC).length=i:=axZ;clear hQ gN aj aF aZ he fL;generalize aO:(H++[bq])=gh at*;generalize gw:gh.map dC=qe at*;generalize H.map dC=H1 at*;generalize bq.map bD=M at*;generalize l[i].bB=y at*;cases i7:ad.aD .neq e 0 with
    |true=>
     refine af ?_;exact ao _ _ ⟨[],_,(λ_=>ax0),rfl,axV⟩
    |false=>
     have he:e=0:=ax1;have nM:=nL he;refine af ?_
     (subst gw;exact fixF (gh,i+1) ⟨aA,jx,nM⟩)
   have t2:ad.aD .lss (Int.ofNat i) (Int.ofNat (ad.len L))=false:=ayb;have nN:∃a,H=[a]:=aB7.1 axW;obtain⟨a,rfl⟩:=nN;have bp:=fL a aAX;obtain⟨hF,b5,cK⟩:=gN a [] bp (λh=>axW);change bG _ _ _ [_,.d (.list 1 ([a].map dC))] _ _ _ at cK;obtain⟨dq,av,dO⟩:=rb hF;clear hQ gN aj aF aZ fL;generalize (List.map dC _)=H1 at*;generalize b7:hF.map bD=M at*;cases i7:ad.aD .eql b5 0 with
   |true=>
    cases kI:ad.aD .neq dq 0 with
    |true=>
     refine af ?_;exact ao _ _ ⟨[],_,(λ_=>ax0),rfl,axV⟩
    |false=>
     have he:dq=0:=ax1;have lf:=av he;refine af ?_;exact ao _ _ ⟨hF,_,(λ_=>lf),aye,axV⟩
   |false=>
    have kI:ad.aD .neq b5 0=true:=ax1;refine af ?_;exact ao _ _ ⟨[],_,(λ_=>ax0),rfl,axV⟩
  .have AN:ad.aD .lss 7 1=false:=by simp only[aJ ae];decide
   have eb:ad.aD .gtr 7 9=false:=ax4;have k7:ad.aD .eql 7 1=false:=ax4;cases i':ad.aD .neq (Int.ofNat (ad.len L)) 2 with
   |true=>
    refine af ?_;exact ao _ _ ⟨[],_,(λ_=>ax0),rfl,axV⟩
   |false=>
   have ot:l.length=2:=ayt;refine af ?_;refine⟨bX (λz:List (List (aw×Int))×Nat=>vW ⟨7,c2,L,c4,c5,eI,bQ,e0,c9,fj,e9,c12,eN,eR,eS,bB⟩ S d (z.1.map dC) (ad.len L) z.2) (λz=>z.2<=l.length/\z.1.length=z.2/\∀s∈z.1,s.length<=16) λz=>l.length-z.2,_,⟨([],0),⟨aAa _,rfl,λs h=>ax2⟩,rfl,axV⟩,?_⟩;rintro _ _ ⟨⟨H,i⟩,⟨hi,eW,fL⟩,rfl,rfl⟩;dsimp only at hi eW fL⊢;by_cases aA:i<l.length
   .have t2:ad.aD .lss (Int.ofNat i) (Int.ofNat (ad.len L))=true:=by simp only[aJ ae,aAh,aAi];omega
    have t3:=cz ae (bY i aA);have t5:=cd ae (n:=i) axW;obtain⟨bq,e,he,bP⟩:=hQ i aA;have t8:ad.app (H.map dC) [.list 2 (bq.map bD)]=(H++[bq]).map dC:=ayi;have jx:=re (a:=bq) eW;have nL:e=0->∀s∈H++[bq],s.length<=16:=λh s hs=>axZ;have hm:(H.map dC).length=i:=axZ;clear hQ gN aj aF aZ he fL;generalize aO:(H++[bq])=gh at*;generalize gw:gh.map dC=qe at*;generalize H.map dC=H1 at*;generalize bq.map bD=M at*;generalize l[i].bB=y at*;cases i7:ad.aD .neq e 0 with
    |true=>
     refine af ?_;exact ao _ _ ⟨[],_,(λ_=>ax0),rfl,axV⟩
    |false=>
     have he:e=0:=ax1;have nM:=nL he;refine af ?_
     (subst gw;exact fixF (gh,i+1) ⟨aA,jx,nM⟩)
   have t2:ad.aD .lss (Int.ofNat i) (Int.ofNat (ad.len L))=false:=ayb;have nN:∃a b,H=[a,b]:=MC axW;obtain⟨a,b,rfl⟩:=nN;have bp:=fL a aAX;have au:=fL b (aBe _ aAX);obtain⟨hF,b5,cK⟩:=gN a [dC b] bp (λ_=>⟨b,au,rfl⟩);change bG _ _ _ [_,.d (.list 1 ([a,b].map dC))] _ _ _ at cK;obtain⟨dq,av,dO⟩:=rb hF;clear hQ gN aj aF aZ fL;generalize (List.map dC _)=H1 at*;generalize b7:hF.map bD=M at*;cases i7:ad.aD .eql b5 0 with
   |true=>
    cases kI:ad.aD .neq dq 0 with
    |true=>
     refine af ?_;exact ao _ _ ⟨[],_,(λ_=>ax0),rfl,axV⟩
    |false=>
     have he:dq=0:=ax1;have lf:=av he;refine af ?_;exact ao _ _ ⟨hF,_,(λ_=>lf),aye,axV⟩
   |false=>
    have kI:ad.aD .neq b5 0=true:=ax1;refine af ?_;exact ao _ _ ⟨[],_,(λ_=>ax0),rfl,axV⟩
  .have AN:ad.aD .lss 8 1=false:=by simp only[aJ ae];decide
   have eb:ad.aD .gtr 8 9=false:=ax4;have k7:ad.aD .eql 8 1=false:=ax4;cases i':ad.aD .neq (Int.ofNat (ad.len L)) 1 with
   |true=>
    refine af ?_;exact ao _ _ ⟨[],_,(λ_=>ax0),rfl,axV⟩
   |false=>
   have ot:l.length=1:=ayt;refine af ?_;refine⟨bX (λz:List (List (aw×Int))×Nat=>vW ⟨8,c2,L,c4,c5,eI,bQ,e0,c9,fj,e9,c12,eN,eR,eS,bB⟩ S d (z.1.map dC) (ad.len L) z.2) (λz=>z.2<=l.length/\z.1.length=z.2/\∀s∈z.1,s.length<=16) λz=>l.length-z.2,_,⟨([],0),⟨aAa _,rfl,λs h=>ax2⟩,rfl,axV⟩,?_⟩;rintro _ _ ⟨⟨H,i⟩,⟨hi,eW,fL⟩,rfl,rfl⟩;dsimp only at hi eW fL⊢;by_cases aA:i<l.length
   .have t2:ad.aD .lss (Int.ofNat i) (Int.ofNat (ad.len L))=true:=by simp only[aJ ae,aAh,aAi];omega
    have t3:=cz ae (bY i aA);have t5:=cd ae (n:=i) axW;obtain⟨bq,e,he,bP⟩:=hQ i aA;have t8:ad.app (H.map dC) [.list 2 (bq.map bD)]=(H++[bq]).map dC:=ayi;have jx:=re (a:=bq) eW;have nL:e=0->∀s∈H++[bq],s.length<=16:=λh s hs=>axZ;have hm:(H.map dC).length=i:=axZ;clear hQ gN aj aF aZ he fL;generalize aO:(H++[bq])=gh at*;generalize gw:gh.map dC=qe at*;generalize H.map dC=H1 at*;generalize bq.map bD=M at*;generalize l[i].bB=y at*;cases i7:ad.aD .neq e 0 with
    |true=>
     refine af ?_;exact ao _ _ ⟨[],_,(λ_=>ax0),rfl,axV⟩
    |false=>
     have he:e=0:=ax1;have nM:=nL he;refine af ?_
     (subst gw;exact fixF (gh,i+1) ⟨aA,jx,nM⟩)
   have t2:ad.aD .lss (Int.ofNat i) (Int.ofNat (ad.len L))=false:=ayb;have nN:∃a,H=[a]:=aB7.1 axW;obtain⟨a,rfl⟩:=nN;have bp:=fL a aAX;obtain⟨hF,b5,cK⟩:=gN a [] bp (λh=>axW);change bG _ _ _ [_,.d (.list 1 ([a].map dC))] _ _ _ at cK;obtain⟨dq,av,dO⟩:=rb hF;clear hQ gN aj aF aZ fL;generalize (List.map dC _)=H1 at*;generalize b7:hF.map bD=M at*;cases i7:ad.aD .eql b5 0 with
   |true=>
    cases kI:ad.aD .neq dq 0 with
    |true=>
     refine af ?_;exact ao _ _ ⟨[],_,(λ_=>ax0),rfl,axV⟩
    |false=>
     have he:dq=0:=ax1;have lf:=av he;refine af ?_;exact ao _ _ ⟨hF,_,(λ_=>lf),aye,axV⟩
   |false=>
    have kI:ad.aD .neq b5 0=true:=ax1;refine af ?_;exact ao _ _ ⟨[],_,(λ_=>ax0),rfl,axV⟩
  .have AN:ad.aD .lss 9 1=false:=by simp only[aJ ae];decide
   have eb:ad.aD .gtr 9 9=false:=ax4;have k7:ad.aD .eql 9 1=false:=ax4;cases i':ad.aD .neq (Int.ofNat (ad.len L)) 1 with
   |true=>
    refine af ?_;exact ao _ _ ⟨[],_,(λ_=>ax0),rfl,axV⟩
   |false=>
   have ot:l.length=1:=ayt;refine af ?_;refine⟨bX (λz:List (List (aw×Int))×Nat=>vW ⟨9,c2,L,c4,c5,eI,bQ,e0,c9,fj,e9,c12,eN,eR,eS,bB⟩ S d (z.1.map dC) (ad.len L) z.2) (λz=>z.2<=l.length/\z.1.length=z.2/\∀s∈z.1,s.length<=16) λz=>l.length-z.2,_,⟨([],0),⟨aAa _,rfl,λs h=>ax2⟩,rfl,axV⟩,?_⟩;rintro _ _ ⟨⟨H,i⟩,⟨hi,eW,fL⟩,rfl,rfl⟩;dsimp only at hi eW fL⊢;by_cases aA:i<l.length
   .have t2:ad.aD .lss (Int.ofNat i) (Int.ofNat (ad.len L))=true:=by simp only[aJ ae,aAh,aAi];omega
    have t3:=cz ae (bY i aA);have t5:=cd ae (n:=i) axW;obtain⟨bq,e,he,bP⟩:=hQ i aA;have t8:ad.app (H.map dC) [.list 2 (bq.map bD)]=(H++[bq]).map dC:=ayi;have jx:=re (a:=bq) eW;have nL:e=0->∀s∈H++[bq],s.length<=16:=λh s hs=>axZ;have hm:(H.map dC).length=i:=axZ;clear hQ gN aj aF aZ he fL;generalize aO:(H++[bq])=gh at*;generalize gw:gh.map dC=qe at*;generalize H.map dC=H1 at*;generalize bq.map bD=M at*;generalize l[i].bB=y at*;cases i7:ad.aD .neq e 0 with
    |true=>
     refine af ?_;exact ao _ _ ⟨[],_,(λ_=>ax0),rfl,axV⟩
    |false=>
     have he:e=0:=ax1;have nM:=nL he;refine af ?_
     (subst gw;exact fixF (gh,i+1) ⟨aA,jx,nM⟩)
   have t2:ad.aD .lss (Int.ofNat i) (Int.ofNat (ad.len L))=false:=ayb;have nN:∃a,H=[a]:=aB7.1 axW;obtain⟨a,rfl⟩:=nN;have bp:=fL a aAX;obtain⟨hF,b5,cK⟩:=gN a [] bp (λh=>axW);change bG _ _ _ [_,.d (.list 1 ([a].map dC))] _ _ _ at cK;obtain⟨dq,av,dO⟩:=rb hF;clear hQ gN aj aF aZ fL;generalize (List.map dC _)=H1 at*;generalize b7:hF.map bD=M at*;cases i7:ad.aD .eql b5 0 with
   |true=>
    cases kI:ad.aD .neq dq 0 with
    |true=>
     refine af ?_;exact ao _ _ ⟨[],_,(λ_=>ax0),rfl,axV⟩
    |false=>
     have he:dq=0:=ax1;have lf:=av he;refine af ?_;exact ao _ _ ⟨hF,_,(λ_=>lf),aye,axV⟩
   |false=>
    have kI:ad.aD .neq b5 0=true:=ax1;refine af ?_;exact ao _ _ ⟨[],_,(λ_=>ax0),rfl,axV⟩
theorem aqp:∀(n:Nat) (x:bk),x.w<=n->x.w<=dJ->hE x/\Dp x:=by
 intro n;induction n with
 |zero=>grind[bk.acB]
 |succ n ih=>
  intro x h hw;have wb:=x.acD;have h1:=bk.MD x.l;have av:dJ=1000000000:=rfl;have sh:∀y∈x.l,hE y/\Dp y:=λy wa=>by
   have:=bk.acC wa;grind
  exact⟨aqm x hw λy wa=>(sh y wa).1,apC x axW λy wa=>(sh y wa).2⟩
theorem aqq(x:bk)(hw:x.w<=dJ)(src:List (aw×List (aw×Int)))(hs:src.length<=1073741824):∃(bq:List (aw×Int)) (e:Int),(e=0->bq.length<=16)/\aM 105 [.d (.agg x.bB.cs),.d (.list 3 (src.map jV))] [] (.tuple [.d (.list 2 (bq.map bD)),.d (int e)]) []:=by
 refine K7 ?_;obtain⟨g',n,aj⟩:=aqp x.w x (aAd _) hw;obtain⟨bq,e,he,aF⟩:=g' src hs 1;generalize x.bB=c at*;generalize src.map jV=S at*;generalize b7:bq.map bD=M at*;refine Zi.cu _ λad ae K ao=> ?_;refine af ?_;repeat' (split<;>refine af ?_)
 all_goals first|exact ao _ _ ⟨[],_,λ_=>aAa _,rfl,axV⟩|exact ao _ _ ⟨bq,e,he,aye,axV⟩
def CE(x:aB):Prop:=aM 73 [.d (.agg x.bQ.cs)] [] (.d (.agg x.bQ.cs)) []
def aGn(c:mj)(H:List D)(n i:Nat):ag:=pV [(1,.dT 1 0),(2,.dT 2 0),(9,.d (.list 7 c.l)),(10,.d (int (Int.ofNat n))),(11,.d (int (Int.ofNat i)))]
 [(1,[.d (int c.k),.d (.str c.n),.d (int c.gy),.d (int c.vi),.d (.str c.eL),.d (.str c.op),.own 7 H]),(2,[.d (int 0),.d (.str []),.d (int 0),.d (int 0),.d (.str []),.d (.str []),.own 7 []])] []
theorem aGo(x:aB)(aI:x.l.length<=1073741824)(ih:∀y∈x.l,CE y):CE x:=by
 have ak:x.bQ.l=x.l.map λx=>.agg x.bQ.cs:=by rw[<-aB.ld];cases x;rfl
 generalize x.l=l at*;have bE:(l.map λx=>D.agg x.bQ.cs).length=l.length:=aAb _;have bY:∀i (h:i<l.length),(l.map λx=>D.agg x.bQ.cs)[i]?=some (.agg l[i].bQ.cs):=λi h=>c7 h;rw[<-ak]at bE bY;clear ak;unfold CE;generalize x.bQ=c at*;obtain⟨c1,c2,c3,c4,c5,eI,L⟩:=c;dsimp only at bE bY⊢;refine La.cn λad ae Q aV=> ?_;refine af ?_;refine⟨bX (λi=>aGn ⟨c1,c2,c3,c4,c5,eI,L⟩ (L.take i) (ad.len L) i) (λi=>i<=l.length) (λi=>l.length-i),_,⟨0,aAa _,rfl,axV⟩,?_⟩;rintro _ _ ⟨i,hi,rfl,rfl⟩;dsimp only at hi⊢;by_cases aA:i<l.length
 .have t2:ad.aD .lss (Int.ofNat i) (Int.ofNat (ad.len L))=true:=by simp only[aJ ae,aAh,aAi];omega
  have t3:=cz ae (bY i aA);have t5:=cd ae (n:=i) axW;have aj:aM 73 [.d (.agg l[i].bQ.cs)] [] (.d (.agg l[i].bQ.cs)) []:=ih l[i] (aAl aA);have t8:ad.app (L.take i) [.agg l[i].bQ.cs]=L.take (i+1):=by
   simp only[aJ ae];rw[aA9,bY i aA];rfl
  have hm:(L.take i).length=i:=azr;clear ih;generalize l[i].bQ=y at*;obtain⟨de,dp,dF,lz,sd,zn,Fi⟩:=y;dsimp only[mj.cs]at t8;generalize aO:L.take (i+1)=gh at*;generalize L.take i=H1 at*;refine af ?_;exact ec (i+1) aA (show l.length-(i+1)<l.length-i by omega) (by subst aO;kernel_rfl)
 .have t2:ad.aD .lss (Int.ofNat i) (Int.ofNat (ad.len L))=false:=by simp only[aJ ae,aAh,aAp];omega
  have aO:L.take i=L:=aBa axW;rw[aO];refine af ?_;all_goals (subst ae;exact bZ aV axV axV)
theorem aFT:∀(n:Nat) (x:aB),x.w<=n->x.w<=dJ->CE x:=by
 intro n;induction n with
 |zero=>intro x h;have:=x.sP;omega
 |succ n ih=>
  intro x h hw;have h1:x.l.length<=1073741824:=by
   obtain⟨k,nm,gy,vi,eL,op,l⟩:=x;have sh:=MA l;have av:200+nm.length+eL.length+op.length+aB.ws l<=dJ:=hw;unfold dJ at av;show l.length<=_;omega
  refine aGo x h1 λy wa=> ?_;have aA:y.w+200<=x.w:=by
   obtain⟨k,nm,gy,vi,eL,op,l⟩:=x;have:=x8 (l:=l) wa;show _<=200+nm.length+eL.length+op.length+aB.ws l;omega
  exact ih y axW axW
def aFU(x:bk):Prop:=aM 52 [.d (.agg x.bB.cs)] [] (.d (.agg x.bB.cs)) []
def aFV:List ah:=[.d (int 0),.d (.str []),.own 16 [],.d (int 0),.d (.str []),.d (int 0),.d (int 0),.d (.str []),.d (.str []),.own 7 [],.own 1 [],.own 7 [],.own 2 [],.own 3 [],.own 2 [],.d (int 0)]
def aFW(c:ef)(H X:List D):List ah:=[.d (int c.k),.d (.str c.n),.own 16 H,.d (int c.cH),.d (.str c.k3),.d (int c.mW),.d (int c.mX),.d (.str c.mY),.d (.str c.mZ),.d (.list 7 c.dH),.d (.list 1 c.ns),.own 7 X,.d (.list 2 c.on),.d (.list 3 c.ai),.d (.list 2 c.ob),.d (int c.cD)]
def aGp(c:ef)(H:List D)(n i:Nat):ag:=pV [(1,.dT 1 0),(2,.dT 2 0),(4,.d (.list 7 c.xs)),(15,.d (.list 16 c.a)),(16,.d (int (Int.ofNat n))),(17,.d (int (Int.ofNat i)))] [(1,aFW c H []),(2,aFV)] []
def aGq(c:ef)(X:List D)(n i:Nat):ag:=pV [(1,.dT 1 0),(2,.dT 2 0),(29,.d (.list 7 c.xs)),(30,.d (int (Int.ofNat n))),(31,.d (int (Int.ofNat i)))] [(1,aFW c c.a X),(2,aFV)] []
theorem aGr(c:ef)(l:List ef)(xs:List mj)(bp:c.a=l.map λx=>.agg x.cs)(ak:c.xs=xs.map λx=>.agg x.cs)(aI:l.length<=1073741824)(qO:xs.length<=1073741824)
  (h1:c.ns.length<=1073741824) (sh:c.on.length<=1073741824) (av:c.ai.length<=1073741824) (aW:c.ob.length<=1073741824)
  (b2:aM 73 [.d (.agg (mj.cs ⟨c.cH,c.k3,c.mW,c.mX,c.mY,c.mZ,c.dH⟩))] [] (.d (.agg (mj.cs ⟨c.cH,c.k3,c.mW,c.mX,c.mY,c.mZ,c.dH⟩))) [])
  (ih:∀y∈l,aM 52 [.d (.agg y.cs)] [] (.d (.agg y.cs)) [])
  (tM:∀y∈xs,aM 73 [.d (.agg y.cs)] [] (.d (.agg y.cs)) []):
  aM 52 [.d (.agg c.cs)] [] (.d (.agg c.cs)) []:=by
 have bE:(l.map λx=>D.agg x.cs).length=l.length:=aAb _;have bY:∀i (h:i<l.length),(l.map λx=>D.agg x.cs)[i]?=some (.agg l[i].cs):=λi h=>c7 h;have aGs:(xs.map λx=>D.agg x.cs).length=xs.length:=aAb _;have aDJ:∀i (h:i<xs.length),(xs.map λx=>D.agg x.cs)[i]?=some (.agg xs[i].cs):=λi h=>c7 h;rw[<-bp]at bE bY;rw[<-ak]at aGs aDJ;clear bp ak;obtain⟨c1,c2,L,c4,c5,eI,bQ,e0,c9,fj,e9,X,eN,eR,eS,bB⟩:=c;dsimp only at*;have f1:=awK e9 h1;have f2:=awL eN sh;have f3:=awM eR av;have f4:=awN eS aW;refine Ls.cn λad ae Q aV=> ?_;refine af ?_;refine⟨bX (λi=>aGp ⟨c1,c2,L,c4,c5,eI,bQ,e0,c9,fj,e9,X,eN,eR,eS,bB⟩ (L.take i) (ad.len L) i) (λi=>i<=l.length) (λi=>l.length-i),_,⟨0,aAa _,rfl,axV⟩,?_⟩;rintro _ _ ⟨i,hi,rfl,rfl⟩;dsimp only at hi⊢;by_cases aA:i<l.length
 .have t2:ad.aD .lss (Int.ofNat i) (Int.ofNat (ad.len L))=true:=by simp only[aJ ae,aAh,aAi];omega
  have t3:=cz ae (bY i aA);have t5:=cd ae (n:=i) axW;have aj:=ih l[i] (aAl aA);have t8:ad.app (L.take i) [.agg l[i].cs]=L.take (i+1):=by
   simp only[aJ ae];rw[aA9,bY i aA];rfl
  have hm:(L.take i).length=i:=azr;clear ih tM;generalize l[i]=y at*;obtain⟨de,dp,dF,lz,sd,zn,Fi,B8,Fj,JW,aqM,aqN,aqO,aqP,aqQ,aqR⟩:=y;dsimp only[ef.cs]at t8;generalize aO:L.take (i+1)=gh at*;generalize L.take i=H1 at*;refine af ?_;exact ec (i+1) aA (show l.length-(i+1)<l.length-i by omega) (by subst aO;kernel_rfl)
 have t2:ad.aD .lss (Int.ofNat i) (Int.ofNat (ad.len L))=false:=ayb;have aO:L.take i=L:=aBa axW;rw[aO];clear aO ih bY;refine af ?_;refine⟨bX (λi=>aGq ⟨c1,c2,L,c4,c5,eI,bQ,e0,c9,fj,e9,X,eN,eR,eS,bB⟩ (X.take i) (ad.len X) i) (λi=>i<=xs.length) (λi=>xs.length-i),_,⟨0,aAa _,rfl,axV⟩,?_⟩;clear hi aA t2 i;rintro _ _ ⟨i,hi,rfl,rfl⟩;dsimp only at hi⊢;by_cases aA:i<xs.length
 .have t2:ad.aD .lss (Int.ofNat i) (Int.ofNat (ad.len X))=true:=by simp only[aJ ae,aAh,aAi];omega
  have t3:=cz ae (aDJ i aA);have t5:=cd ae (n:=i) axW;have aj:=tM xs[i] (aAl aA);have t8:ad.app (X.take i) [.agg xs[i].cs]=X.take (i+1):=by
   simp only[aJ ae];rw[aA9,aDJ i aA];rfl
  have hm:(X.take i).length=i:=azr;clear tM;generalize xs[i]=y at*;obtain⟨de,dp,dF,lz,sd,zn,Fi⟩:=y;dsimp only[mj.cs]at t8;generalize aO:X.take (i+1)=gh at*;generalize X.take i=H1 at*;refine af ?_;exact ec (i+1) aA (show xs.length-(i+1)<xs.length-i by omega) (by subst aO;kernel_rfl)
 have t2:ad.aD .lss (Int.ofNat i) (Int.ofNat (ad.len X))=false:=ayb;have aO:X.take i=X:=aBa axW;rw[aO];refine af ?_;all_goals (subst ae;exact bZ aV axV axV)
theorem aGt:∀(n:Nat) (x:bk),x.w<=n->x.w<=dJ->aFU x:=by
 intro n;induction n with
 |zero=>intro x h;have:=x.acB;omega
 |succ n ih=>
  intro x h hw;have wb:=x.acD;have dw:∀y∈x.l,aFU y:=λy wa=>by
   have:=bk.acC wa;exact ih y axW axW
  clear wb;obtain⟨k,n,l,⟨cH,k3,mW,mX,mY,mZ,dH⟩,ns,xs,on,ai,ob,cD⟩:=x;have jN:500+n.length+bk.ws l+(aB.mk cH k3 mW mX mY mZ dH).w+fw ns+aB.ws xs+kg on+kh ai+ki ob<=dJ:=hw;have w1:ns.length<=fw ns:=lJ _ _;have bW:on.length<=kg on:=lJ _ _;have fb:ai.length<=kh ai:=lJ _ _;have jP:ob.length<=ki ob:=lJ _ _;have oc:=MA xs;have awZ:=bk.MD l;have B9:dJ=1000000000:=rfl;refine aGr _ (l.map bk.bB) (xs.map aB.bQ) ?_ ?_ ?_ ?_ ?_ ?_ ?_ ?_ ?_ ?_ ?_
  .show bk.ds l=_;rw[bk.ld,aBE];rfl
  .show aB.ds xs=_;rw[aB.ld,aBE];rfl
  .rw[aAb];omega
  .rw[aAb];omega
  .show(ns.map D.str).length<=_;rw[aAb];omega
  .show(on.map fx).length<=_;rw[aAb];omega
  .show(ai.map eM).length<=_;rw[aAb];omega
  .show(ob.map fy).length<=_;rw[aAb];omega
  .exact aFT (aB.mk cH k3 mW mX mY mZ dH).w (aB.mk cH k3 mW mX mY mZ dH) (aAd _) axW
  .intro y wa;obtain⟨z,aO,rfl⟩:=aAR.1 wa;exact dw z aO
  .intro y wa;obtain⟨z,aO,rfl⟩:=aAR.1 wa;have:=x8 aO;exact aFT z.w z (aAd _) axW
structure yc where
 n:aw
 s:Bool
 bq:List D
 k:Int
 a:Int
 b:Int
 bM:List D
 pl:ef
 code:aw
def yc.cs(x:yc):List D:=[.str x.n,.bool x.s,.list 2 x.bq,int x.k,int x.a,int x.b,.list 4 x.bM,int x.pl.k,.str x.pl.n,.list 16 x.pl.a,int x.pl.cH,.str x.pl.k3,int x.pl.mW,int x.pl.mX,.str x.pl.mY,.str x.pl.mZ,.list 7 x.pl.dH,.list 1 x.pl.ns,.list 7 x.pl.xs,.list 2 x.pl.on,.list 3 x.pl.ai,.list 2 x.pl.ob,int x.pl.cD,.str x.code]
theorem aGu(x:yc)(h1:x.bq.length<=1073741824)(sh:x.bM.length<=1073741824)(aZ:aM 52 [.d (.agg x.pl.cs)] [] (.d (.agg x.pl.cs)) []):aM 26 [.d (.agg x.cs)] [] (.d (.agg x.cs)) []:=by
 have aj:=apR x.bq h1;have aF:=awJ x.bM sh;obtain⟨n,s,bq,k,a,b,bM,⟨c1,c2,L,c4,c5,eI,bQ,e0,c9,fj,e9,X,eN,eR,eS,bB⟩,code⟩:=x;dsimp only at aj aF aZ;refine CU.cn λad ae Q aV=> ?_;refine af ?_;all_goals (subst ae;exact bZ aV axV axV)
def o7(l:List b8):Nat:=(l.filter λd=>decide (d.k=3)).length
theorem acF(l:List b8):o7 l<=l.length:=aBu _ _
theorem aqr(l:List b8)(d:b8):o7 (l++[d])=o7 l+(if d.k=3 then 1 else 0):=by
 unfold o7;rw[aBC,aAA];by_cases h:d.k=3
 .simp[h]
 .simp[h]
def aqs(L:List D)(s n i:Nat):ag:=cx [(0,.d (.list 25 L)),(3,.d (int (Int.ofNat s))),(6,.d (.list 25 L)),(7,.d (int (Int.ofNat n))),(8,.d (int (Int.ofNat i)))] []
theorem aqt(l:List b8)(aI:l.length<=1073741824):∃b:Bool,(b=false->o7 l<=32/\l.length-o7 l<=32)/\aM 64 [.d (.list 25 (l.map b8.d))] [] (.d (.bool b)) []:=by
 refine fK ?_;have bE:(l.map b8.d).length=l.length:=aAb _;have bY:∀i (h:i<l.length),(l.map b8.d)[i]?=some (.agg l[i].cU.cs):=λi h=>c7 h;generalize l.map b8.d=L at*;refine Y5.cu _ λad ae K ao=> ?_;refine af ?_;refine⟨bX (λz:Nat×Nat=>aqs L z.1 (ad.len L) z.2) (λz=>z.2<=l.length/\z.1=o7 (l.take z.2)) λz=>l.length-z.2,_,⟨(0,0),⟨aAa _,rfl⟩,rfl,axV⟩,?_⟩;rintro _ _ ⟨⟨s,i⟩,⟨hi,hs⟩,rfl,rfl⟩;dsimp only at hi hs⊢;have kz:s<=i:=by have:=acF (l.take i);rw[aBq]at this;omega
 by_cases aA:i<l.length
 .have t2:ad.aD .lss (Int.ofNat i) (Int.ofNat (ad.len L))=true:=by simp only[aJ ae,aAh,aAi];omega
  have t3:=cz ae (bY i aA);have t5:=cd ae (n:=i) axW;have t6:=cd ae (n:=s) axW;have ay:o7 (l.take (i+1))=s+(if l[i].k=3 then 1 else 0):=by
   rw[aA9,aAj aA,hs];exact aqr _ _
  have aq:l[i].k=l[i].cU.k:=rfl;rw[aq]at ay;clear aq;generalize l[i].cU=y at*;obtain⟨k,de,dp,dF,lz,sd,zn,Fi,B8,Fj⟩:=y;dsimp only at ay;by_cases aq:k=3
  .have AN:ad.aD .eql k 3=true:=by simp only[aJ ae,aAi];exact aq
   rw[aAD aq]at ay;refine af ?_;repeat' (split<;>refine af ?_)
   exact fixF (s+1,i+1) ⟨aA,ay.symm⟩
  .have AN:ad.aD .eql k 3=false:=by simp only[aJ ae,aAp];exact aq
   rw[aAG aq]at ay;refine af ?_;repeat' (split<;>refine af ?_)
   exact fixF (s,i+1) ⟨aA,ay.symm⟩
 .have t2:ad.aD .lss (Int.ofNat i) (Int.ofNat (ad.len L))=false:=by simp only[aJ ae,aAh,aAp];omega
  have dR:s=o7 l:=by rw[hs,aBa axW]
  have hle:=acF l;have t7:ad.io .sub .i64 (Int.ofNat (ad.len L)) (Int.ofNat s)=Int.ofNat (l.length-s):=by
   have h1:ad.len L=l.length:=by simp only[aJ ae];exact bE
   rw[h1,Mq ae ayu ayu];simp only[aAh];omega
  obtain⟨m,hm⟩:∃m,m=l.length-s:=⟨_,rfl⟩;rw[<-hm]at t7;cases AN:ad.aD .gtr (Int.ofNat s) 32 with
  |true=>
   refine af ?_;repeat' (split<;>refine af ?_)
   all_goals exact ao _ _ ⟨true,(λh=>ax2),rfl,axV⟩
  |false=>
  cases eb:ad.aD .gtr (Int.ofNat m) 32 with
  |true=>
   refine af ?_;repeat' (split<;>refine af ?_)
   all_goals exact ao _ _ ⟨true,(λh=>ax2),rfl,axV⟩
  |false=>
   simp only[aJ ae,aAp,aAh]at AN eb;have bh:o7 l<=32/\l.length-o7 l<=32:=axW;have q1:ad.aD .gtr (Int.ofNat s) 32=false:=by simp only[aJ ae,aAp,aAh];exact AN
   have bF:ad.aD .gtr (Int.ofNat m) 32=false:=by simp only[aJ ae,aAp,aAh];exact eb
   refine af ?_;repeat' (split<;>refine af ?_)
   all_goals exact ao _ _ ⟨false,(λ_=>bh),rfl,axV⟩
end Go.Proofs.YthffhbakgmemaaaGreatDoor
