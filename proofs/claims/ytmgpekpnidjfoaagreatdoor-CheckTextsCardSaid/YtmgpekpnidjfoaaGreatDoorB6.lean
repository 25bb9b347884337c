/- Part of texts_said. -/
import Derived.Test.YtmgpekpnidjfoaaGreatDoorB5
set_option maxRecDepth 100000
set_option maxHeartbeats 8000000
set_option linter.unusedSimpArgs false
set_option linter.unusedVariables false
namespace Go.Proofs.YtmgpekpnidjfoaaGreatDoor
open Go Go.aJ
attribute [local irreducible] bM
def ht(x:bk):Prop:=∀(src:List (ax×List (ax×Int))),src.length<=1073741824->∀d:Int,∃(bw:List (ax×Int)) (e:Int),(e=0->bw.length<=16)/\aM 146 [.d (.agg x.bB.cs),.d (.list 3 (src.map jN)),.d (int d)] [] (.tuple [.d (.list 2 (bw.map bD)),.d (int e)]) []
def dE(l:List (ax×Int)):D:=.list 2 (l.map bD)
def vk(c:ef)(S:List D)(d:Int)(H:List D)(n i:Nat):af:=pD [(1,.d (.list 3 S)),(2,.d (int d)),(3,.dT 3 0),(10,.own 1 H),(59,.d (.list 16 c.a)),(60,.d (int (Int.ofNat n))),(61,.d (int (Int.ofNat i)))] [(3,c.v)] []
def arity(k:Int):Nat:=if k=1 then 0 else if k=4\/k=5\/k=7 then 2 else 1
theorem LX{α:Type}:∀{l:List α},l.length=2->∃a b,l=[a,b]
 |[a,b],_=>⟨a,b,rfl⟩
theorem bk.abN(x:bk):500<=x.w:=by cases x;show 500<=500+_+_+_+_+_+_+_+_;omega
theorem bk.LY:∀l:List bk,l.length<=bk.ws l
 |[]=>azI _
 |x::l=>by have:=x.abN;have:=bk.LY l;show l.length+1<=x.w+bk.ws l;omega
theorem bk.abO:∀{l:List bk} {x:bk},x∈l->x.w<=bk.ws l
 |y::l,x,h=>by
  show _<=y.w+bk.ws l;rcases azY.1 h with rfl|h
  .omega
  .have:=bk.abO h;omega
theorem bk.abP(x:bk):500+bk.ws x.l<=x.w:=by cases x;show 500+bk.ws _<=500+_+_+_+_+_+_+_+_;grind[bk.l]
theorem apw(x:bk)(hw:x.w<=dS)(ih:∀y∈x.l,ht y):ht x:=by
 intro src hs d;have gH:=apv x hw;have ak:x.bB.a=x.l.map λx=>.agg x.bB.cs:=by rw[<-bk.k0];cases x;rfl
 have abQ:x.bB.k=x.k:=ayi;have aH:x.l.length<=1073741824:=by
  grind[bk.LY,dS,bk.abP]
 have bF:(x.l.map λx=>D.agg x.bB.cs).length=x.l.length:=azG _;have cl:∀i (h:i<x.l.length),(x.l.map λx=>D.agg x.bB.cs)[i]?=some (.agg x.l[i].bB.cs):=λi h=>dv h;rw[<-ak]at bF cl;rw[<-abQ]at gH;clear hw ak abQ;generalize x.l=l at*;generalize x.bB=c at*;have hK:∀i (h:i<l.length),∃(bw:List (ax×Int)) (e:Int),(e=0->bw.length<=16)/\aM 146 [.d (.agg l[i].bB.cs),.d (.list 3 (src.map jN)),.d (int (IntKind.i64.wrap (d+1)))] [] (.tuple [.d (.list 2 (bw.map bD)),.d (int e)]) []:=λi h=>ih l[i] (azT h) src hs _;clear ih;obtain⟨xy,apx,aj⟩:=apb src c.n hs;obtain⟨bU,h1,aD⟩:=ao9 xy;have aW:xy.length<=16->aM 78 [.d (.list 2 (xy.map bD))] [] (.d (.list 2 (xy.map bD))) []:=λh=>aoZ (xy.map bD) axv;refine Ky ?_;generalize src.map jN=S at*;obtain⟨c1,c2,L,c4,c5,eN,bT,e1,c9,fr,fa,c12,eP,eT,eU,bB⟩:=c;dsimp only at bF cl gH aj⊢;refine YU.cr _ λad ae K ao=> ?_;have pq:∀a b,IntKind.i64.wrap (a+b)=ad.io .add .i64 a b:=λa b=>axx;rw[pq]at hK;cases t0:ad.aF .gtr d 16 with
 |true=>
  refine ai ?_;repeat' (split<;>refine ai ?_)
  all_goals exact ao _ _ ⟨[],_,(λ_=>axw),rfl,axr⟩
 |false=>
 by_cases au:c1<1\/9<c1
 .have t1:ad.aF .lss c1 1=true\/(ad.aF .lss c1 1=false/\ad.aF .gtr c1 9=true):=by
   simp only[aI ae,azN,az2];omega
  rcases t1 with t1|⟨t1,t2⟩
  .refine ai ?_;repeat' (split<;>refine ai ?_)
   all_goals exact ao _ _ ⟨[],_,(λ_=>axw),rfl,axr⟩
  .refine ai ?_;repeat' (split<;>refine ai ?_)
   all_goals exact ao _ _ ⟨[],_,(λ_=>axw),rfl,axr⟩
 .have apy:c1=1\/c1=2\/c1=3\/c1=4\/c1=5\/c1=6\/c1=7\/c1=8\/c1=9:=by omega
  clear au;rcases apy with rfl|rfl|rfl|rfl|rfl|rfl|rfl|rfl|rfl
  .have p1:ad.aF .lss 1 1=false:=by simp only[aI ae];decide
   have ey:ad.aF .gtr 1 9=false:=axA;have lr:ad.aF .eql 1 1=true:=axA;cases i':ad.aF .neq (Int.ofNat (ad.len L)) 0 with
   |true=>
    refine ai ?_;repeat' (split<;>refine ai ?_)
    all_goals exact ao _ _ ⟨[],_,(λ_=>axw),rfl,axr⟩
   |false=>
   cases apx with
   |false=>
    refine ai ?_;repeat' (split<;>refine ai ?_)
    all_goals exact ao _ _ ⟨[],_,(λ_=>axw),rfl,axr⟩
   |true=>
   cases iT:ad.aF .neq bU 0 with
   |true=>
    refine ai ?_;repeat' (split<;>refine ai ?_)
    all_goals exact ao _ _ ⟨[],_,(λ_=>axw),rfl,axr⟩
   |false=>
    have he:bU=0:=by simp only[aI ae,aAF,azN]at iT;omega
    have A4:=h1 he;have aW:=aW A4;generalize cd:xy.map bD=M at*;refine ai ?_;repeat' (split<;>refine ai ?_)
    all_goals exact ao _ _ ⟨xy,_,(λ_=>A4),axL,axr⟩
  .have p1:ad.aF .lss 2 1=false:=by simp only[aI ae];decide
   have ey:ad.aF .gtr 2 9=false:=axA;have lr:ad.aF .eql 2 1=false:=axA;cases i':ad.aF .neq (Int.ofNat (ad.len L)) 1 with
   |true=>
    refine ai ?_;repeat' (split<;>refine ai ?_)
    all_goals exact ao _ _ ⟨[],_,(λ_=>axw),rfl,axr⟩
   |false=>
   have nZ:l.length=1:=ax2;refine ai ?_;refine⟨b6 (λz:List (List (ax×Int))×Nat=>vk ⟨2,c2,L,c4,c5,eN,bT,e1,c9,fr,fa,c12,eP,eT,eU,bB⟩ S d (z.1.map dE) (ad.len L) z.2) (λz=>z.2<=l.length/\z.1.length=z.2/\∀s∈z.1,s.length<=16) λz=>l.length-z.2,_,⟨([],0),⟨azF _,rfl,λs h=>axy⟩,rfl,axr⟩,?_⟩;rintro _ _ ⟨⟨H,i⟩,⟨hi,eR,fI⟩,rfl,rfl⟩;dsimp only at hi eR fI⊢;by_cases aB:i<l.length
   .have t2:ad.aF .lss (Int.ofNat i) (Int.ofNat (ad.len L))=true:=by simp only[aI ae,azM,azN];omega
    have t3:=cV ae (cl i aB);have t5:=cv ae (n:=i) axs;obtain⟨bw,e,he,bQ⟩:=hK i aB;have t8:ad.app (H.map dE) [.list 2 (bw.map bD)]=(H++[bw]).map dE:=axR;have jn:=qP (a:=bw) eR;have nq:e=0->∀s∈H++[bw],s.length<=16:=λh s hs=>axv;have hm:(H.map dE).length=i:=axv;clear hK gH aj aD aW he fI;generalize aQ:(H++[bw])=gf at*;generalize gu:gf.map dE=pU at*;generalize H.map dE=H1 at*;generalize bw.map bD=M at*;generalize l[i].bB=y at*;cases iT:ad.aF .neq e 0 with
    |true=>
     refine ai ?_;repeat' (split<;>refine ai ?_)
     all_goals exact ao _ _ ⟨[],_,(λ_=>axw),rfl,axr⟩
    |false=>
     have he:e=0:=axx;have nr:=nq he;refine ai ?_;repeat' (split<;>refine ai ?_)
     all_goals (subst gu;exact fixF (gf,i+1) ⟨aB,jn,nr⟩)
   have t2:ad.aF .lss (Int.ofNat i) (Int.ofNat (ad.len L))=false:=axI;have nu:∃a,H=[a]:=aBu.1 axs;obtain⟨a,rfl⟩:=nu;have br:=fI a aAr;obtain⟨hx,b4,cK⟩:=gH a [] br (λh=>axs);change bM _ _ _ [_,.d (.list 1 ([a].map dE))] _ _ _ at cK;obtain⟨dm,av,dQ⟩:=qO hx;clear hK gH aj aD aW fI;generalize (List.map dE _)=H1 at*;generalize cd:hx.map bD=M at*;cases iT:ad.aF .eql b4 0 with
   |true=>
    cases kA:ad.aF .neq dm 0 with
    |true=>
     refine ai ?_;repeat' (split<;>refine ai ?_)
     all_goals exact ao _ _ ⟨[],_,(λ_=>axw),rfl,axr⟩
    |false=>
     have he:dm=0:=axx;have k1:=av he;refine ai ?_;repeat' (split<;>refine ai ?_)
     all_goals exact ao _ _ ⟨hx,_,(λ_=>k1),axL,axr⟩
   |false=>
    have kA:ad.aF .neq b4 0=true:=axx;refine ai ?_;repeat' (split<;>refine ai ?_)
    all_goals exact ao _ _ ⟨[],_,(λ_=>axw),rfl,axr⟩
  .have p1:ad.aF .lss 3 1=false:=by simp only[aI ae];decide
   have ey:ad.aF .gtr 3 9=false:=axA;have lr:ad.aF .eql 3 1=false:=axA;cases i':ad.aF .neq (Int.ofNat (ad.len L)) 1 with
   |true=>
    refine ai ?_;repeat' (split<;>refine ai ?_)
    all_goals exact ao _ _ ⟨[],_,(λ_=>axw),rfl,axr⟩
   |false=>
   have nZ:l.length=1:=ax2;refine ai ?_;refine⟨b6 (λz:List (List (ax×Int))×Nat=>vk ⟨3,c2,L,c4,c5,eN,bT,e1,c9,fr,fa,c12,eP,eT,eU,bB⟩ S d (z.1.map dE) (ad.len L) z.2) (λz=>z.2<=l.length/\z.1.length=z.2/\∀s∈z.1,s.length<=16) λz=>l.length-z.2,_,⟨([],0),⟨azF _,rfl,λs h=>axy⟩,rfl,axr⟩,?_⟩;rintro _ _ ⟨⟨H,i⟩,⟨hi,eR,fI⟩,rfl,rfl⟩;dsimp only at hi eR fI⊢;by_cases aB:i<l.length
   .have t2:ad.aF .lss (Int.ofNat i) (Int.ofNat (ad.len L))=true:=by simp only[aI ae,azM,azN];omega
    have t3:=cV ae (cl i aB);have t5:=cv ae (n:=i) axs;obtain⟨bw,e,he,bQ⟩:=hK i aB;have t8:ad.app (H.map dE) [.list 2 (bw.map bD)]=(H++[bw]).map dE:=axR;have jn:=qP (a:=bw) eR;have nq:e=0->∀s∈H++[bw],s.length<=16:=λh s hs=>axv;have hm:(H.map dE).length=i:=axv;clear hK gH aj aD aW he fI;generalize aQ:(H++[bw])=gf at*;generalize gu:gf.map dE=pU at*;generalize H.map dE=H1 at*;generalize bw.map bD=M at*;generalize l[i].bB=y at*;cases iT:ad.aF .neq e 0 with
    |true=>
     refine ai ?_;repeat' (split<;>refine ai ?_)
     all_goals exact ao _ _ ⟨[],_,(λ_=>axw),rfl,axr⟩
    |false=>
     have he:e=0:=axx;have nr:=nq he;refine ai ?_;repeat' (split<;>refine ai ?_)
     all_goals (subst gu;exact fixF (gf,i+1) ⟨aB,jn,nr⟩)
   have t2:ad.aF .lss (Int.ofNat i) (Int.ofNat (ad.len L))=false:=axI;have nu:∃a,H=[a]:=aBu.1 axs;obtain⟨a,rfl⟩:=nu;have br:=fI a aAr;obtain⟨hx,b4,cK⟩:=gH a [] br (λh=>axs);change bM _ _ _ [_,.d (.list 1 ([a].map dE))] _ _ _ at cK;obtain⟨dm,av,dQ⟩:=qO hx;clear hK gH aj aD aW fI;generalize (List.map dE _)=H1 at*;generalize cd:hx.map bD=M at*;cases iT:ad.aF .eql b4 0 with
   |true=>
    cases kA:ad.aF .neq dm 0 with
    |true=>
     refine ai ?_;repeat' (split<;>refine ai ?_)
     all_goals exact ao _ _ ⟨[],_,(λ_=>axw),rfl,axr⟩
    |false=>
     have he:dm=0:=axx;have k1:=av he;refine ai ?_;repeat' (split<;>refine ai ?_)
     all_goals exact ao _ _ ⟨hx,_,(λ_=>k1),axL,axr⟩
   |false=>
    have kA:ad.aF .neq b4 0=true:=axx;refine ai ?_;repeat' (split<;>refine ai ?_)
    all_goals exact ao _ _ ⟨[],_,(λ_=>axw),rfl,axr⟩
  .have p1:ad.aF .lss 4 1=false:=by simp only[aI ae];decide
   have ey:ad.aF .gtr 4 9=false:=axA;have lr:ad.aF .eql 4 1=false:=axA;cases i':ad.aF .neq (Int.ofNat (ad.len L)) 2 with
   |true=>
    refine ai ?_;repeat' (split<;>refine ai ?_)
    all_goals exact ao _ _ ⟨[],_,(λ_=>axw),rfl,axr⟩
   |false=>
   have nZ:l.length=2:=ax2;refine ai ?_;refine⟨b6 (λz:List (List (ax×Int))×Nat=>vk ⟨4,c2,L,c4,c5,eN,bT,e1,c9,fr,fa,c12,eP,eT,eU,bB⟩ S d (z.1.map dE) (ad.len L) z.2) (λz=>z.2<=l.length/\z.1.length=z.2/\∀s∈z.1,s.length<=16) λz=>l.length-z.2,_,⟨([],0),⟨azF _,rfl,λs h=>axy⟩,rfl,axr⟩,?_⟩;rintro _ _ ⟨⟨H,i⟩,⟨hi,eR,fI⟩,rfl,rfl⟩;dsimp only at hi eR fI⊢;by_cases aB:i<l.length
   .have t2:ad.aF .lss (Int.ofNat i) (Int.ofNat (ad.len L))=true:=by simp only[aI ae,azM,azN];omega
    have t3:=cV ae (cl i aB);have t5:=cv ae (n:=i) axs;obtain⟨bw,e,he,bQ⟩:=hK i aB;have t8:ad.app (H.map dE) [.list 2 (bw.map bD)]=(H++[bw]).map dE:=axR;have jn:=qP (a:=bw) eR;have nq:e=0->∀s∈H++[bw],s.length<=16:=λh s hs=>axv;have hm:(H.map dE).length=i:=axv;clear hK gH aj aD aW he fI;generalize aQ:(H++[bw])=gf at*;generalize gu:gf.map dE=pU at*;generalize H.map dE=H1 at*;generalize bw.map bD=M at*;generalize l[i].bB=y at*;cases iT:ad.aF .neq e 0 with
    |true=>
     refine ai ?_;repeat' (split<;>refine ai ?_)
     all_goals exact ao _ _ ⟨[],_,(λ_=>axw),rfl,axr⟩
    |false=>
     have he:e=0:=axx;have nr:=nq he;refine ai ?_;repeat' (split<;>refine ai ?_)
     all_goals (subst gu;exact fixF (gf,i+1) ⟨aB,jn,nr⟩)
   have t2:ad.aF .lss (Int.ofNat i) (Int.ofNat (ad.len L))=false:=axI;have nu:∃a b,H=[a,b]:=LX axs;obtain⟨a,b,rfl⟩:=nu;have br:=fI a aAr;have aq:=fI b (aAG _ aAr);obtain⟨hx,b4,cK⟩:=gH a [dE b] br (λ_=>⟨b,aq,rfl⟩);change bM _ _ _ [_,.d (.list 1 ([a,b].map dE))] _ _ _ at cK;obtain⟨dm,av,dQ⟩:=qO hx;clear hK gH aj aD aW fI;generalize (List.map dE _)=H1 at*;generalize cd:hx.map bD=M at*;cases iT:ad.aF .eql b4 0 with
   |true=>
    cases kA:ad.aF .neq dm 0 with
    |true=>
     refine ai ?_;repeat' (split<;>refine ai ?_)
     all_goals exact ao _ _ ⟨[],_,(λ_=>axw),rfl,axr⟩
    |false=>
     have he:dm=0:=axx;have k1:=av he;refine ai ?_;repeat' (split<;>refine ai ?_)
     all_goals exact ao _ _ ⟨hx,_,(λ_=>k1),axL,axr⟩
   |false=>
    have kA:ad.aF .neq b4 0=true:=axx;refine ai ?_;repeat' (split<;>refine ai ?_)
    all_goals exact ao _ _ ⟨[],_,(λ_=>axw),rfl,axr⟩
  .have p1:ad.aF .lss 5 1=false:=by simp only[aI ae];decide
   have ey:ad.aF .gtr 5 9=false:=axA;have lr:ad.aF .eql 5 1=false:=axA;cases i':ad.aF .neq (Int.ofNat (ad.len L)) 2 with
   |true=>
    refine ai ?_;repeat' (split<;>refine ai ?_)
    all_goals exact ao _ _ ⟨[],_,(λ_=>axw),rfl,axr⟩
   |false=>
   have nZ:l.length=2:=ax2;refine ai ?_;refine⟨b6 (λz:List (List (ax×Int))×Nat=>vk ⟨5,c2,L,c4,c5,eN,bT,e1,c9,fr,fa,c12,eP,eT,eU,bB⟩ S d (z.1.map dE) (ad.len L) z.2) (λz=>z.2<=l.length/\z.1.length=z.2/\∀s∈z.1,s.length<=16) λz=>l.length-z.2,_,⟨([],0),⟨azF _,rfl,λs h=>axy⟩,rfl,axr⟩,?_⟩;rintro _ _ ⟨⟨H,i⟩,⟨hi,eR,fI⟩,rfl,rfl⟩;dsimp only at hi eR fI⊢;by_cases aB:i<l.length
   .have t2:ad.aF .lss (Int.ofNat i) (Int.ofNat (ad.len L))=true:=by simp only[aI ae,azM,azN];omega
    have t3:=cV ae (cl i aB);have t5:=cv ae (n:=i) axs;obtain⟨bw,e,he,bQ⟩:=hK i aB;have t8:ad.app (H.map dE) [.list 2 (bw.map bD)]=(H++[bw]).map dE:=axR;have jn:=qP (a:=bw) eR;have nq:e=0->∀s∈H++[bw],s.length<=16:=λh s hs=>axv;have hm:(H.map dE).length=i:=axv;clear hK gH aj aD aW he fI;generalize aQ:(H++[bw])=gf at*;generalize gu:gf.map dE=pU at*;generalize H.map dE=H1 at*;generalize bw.map bD=M at*;generalize l[i].bB=y at*;cases iT:ad.aF .neq e 0 with
    |true=>
     refine ai ?_;repeat' (split<;>refine ai ?_)
     all_goals exact ao _ _ ⟨[],_,(λ_=>axw),rfl,axr⟩
    |false=>
     have he:e=0:=axx;have nr:=nq he;refine ai ?_;repeat' (split<;>refine ai ?_)
     all_goals (subst gu;exact fixF (gf,i+1) ⟨aB,jn,nr⟩)
   have t2:ad.aF .lss (Int.ofNat i) (Int.ofNat (ad.len L))=false:=axI;have nu:∃a b,H=[a,b]:=LX axs;obtain⟨a,b,rfl⟩:=nu;have br:=fI a aAr;have aq:=fI b (aAG _ aAr);obtain⟨hx,b4,cK⟩:=gH a [dE b] br (λ_=>⟨b,aq,rfl⟩);change bM _ _ _ [_,.d (.list 1 ([a,b].map dE))] _ _ _ at cK;obtain⟨dm,av,dQ⟩:=qO hx;clear hK gH aj aD aW fI;generalize (List.map dE _)=H1 at*;generalize cd:hx.map bD=M at*;cases iT:ad.aF .eql b4 0 with
   |true=>
    cases kA:ad.aF .neq dm 0 with
    |true=>
     refine ai ?_;repeat' (split<;>refine ai ?_)
     all_goals exact ao _ _ ⟨[],_,(λ_=>axw),rfl,axr⟩
    |false=>
     have he:dm=0:=axx;have k1:=av he;refine ai ?_;repeat' (split<;>refine ai ?_)
     all_goals exact ao _ _ ⟨hx,_,(λ_=>k1),axL,axr⟩
   |false=>
    have kA:ad.aF .neq b4 0=true:=axx;refine ai ?_;repeat' (split<;>refine ai ?_)
    all_goals exact ao _ _ ⟨[],_,(λ_=>axw),rfl,axr⟩
  .have p1:ad.aF .lss 6 1=false:=by simp only[aI ae];decide
   have ey:ad.aF .gtr 6 9=false:=axA;have lr:ad.aF .eql 6 1=false:=axA;cases i':ad.aF .neq (Int.ofNat (ad.len L)) 1 with
   |true=>
    refine ai ?_;repeat' (split<;>refine ai ?_)
    all_goals exact ao _ _ ⟨[],_,(λ_=>axw),rfl,axr⟩
   |false=>
   have nZ:l.length=1:=ax2;refine ai ?_;refine⟨b6 (λz:List (List (ax×Int))×Nat=>vk ⟨6,c2,L,c4,c5,eN,bT,e1,c9,fr,fa,c12,eP,eT,eU,bB⟩ S d (z.1.map dE) (ad.len L) z.2) (λz=>z.2<=l.length/\z.1.length=z.2/\∀s∈z.1,s.length<=16) λz=>l.length-z.2,_,⟨([],0),⟨azF _,rfl,λs h=>axy⟩,rfl,axr⟩,?_⟩;rintro _ _ ⟨⟨H,i⟩,⟨hi,eR,fI⟩,rfl,rfl⟩;dsimp only at hi eR fI⊢;by_cases aB:i<l.length
   .have t2:ad.aF .lss (Int.ofNat i) (Int.ofNat (ad.len L))=true:=by simp only[aI ae,azM,azN];omega
    have t3:=cV ae (cl i aB);have t5:=cv ae (n:=i) axs;obtain⟨bw,e,he,bQ⟩:=hK i aB;have t8:ad.app (H.map dE) [.list 2 (bw.map bD)]=(H++[bw]).map dE:=axR;have jn:=qP (a:=bw) eR;have nq:e=0->∀s∈H++[bw],s.length<=16:=λh s hs=>axv;have hm:(H.map dE).length=i:=axv;clear hK gH aj aD aW he fI;generalize aQ:(H++[bw])=gf at*;generalize gu:gf.map dE=pU at*;generalize H.map dE=H1 at*;generalize bw.map bD=M at*;generalize l[i].bB=y at*;cases iT:ad.aF .neq e 0 with
    |true=>
     refine ai ?_;repeat' (split<;>refine ai ?_)
     all_goals exact ao _ _ ⟨[],_,(λ_=>axw),rfl,axr⟩
    |false=>
     have he:e=0:=axx;have nr:=nq he;refine ai ?_;repeat' (split<;>refine ai ?_)
     all_goals (subst gu;exact fixF (gf,i+1) ⟨aB,jn,nr⟩)
   have t2:ad.aF .lss (Int.ofNat i) (Int.ofNat (ad.len L))=false:=axI;have nu:∃a,H=[a]:=aBu.1 axs;obtain⟨a,rfl⟩:=nu;have br:=fI a aAr;obtain⟨hx,b4,cK⟩:=gH a [] br (λh=>axs);change bM _ _ _ [_,.d (.list 1 ([a].map dE))] _ _ _ at cK;obtain⟨dm,av,dQ⟩:=qO hx;clear hK gH aj aD aW fI;generalize (List.map dE _)=H1 at*;generalize cd:hx.map bD=M at*;cases iT:ad.aF .eql b4 0 with
   |true=>
    cases kA:ad.aF .neq dm 0 with
    |true=>
     refine ai ?_;repeat' (split<;>refine ai ?_)
     all_goals exact ao _ _ ⟨[],_,(λ_=>axw),rfl,axr⟩
    |false=>
     have he:dm=0:=axx;have k1:=av he;refine ai ?_;repeat' (split<;>refine ai ?_)
     all_goals exact ao _ _ ⟨hx,_,(λ_=>k1),axL,axr⟩
   |false=>
    have kA:ad.aF .neq b4 0=true:=axx;refine ai ?_;repeat' (split<;>refine ai ?_)
    all_goals exact ao _ _ ⟨[],_,(λ_=>axw),rfl,axr⟩
  .have p1:ad.aF .lss 7 1=false:=by simp only[aI ae];decide
   have ey:ad.aF .gtr 7 9=false:=axA;have lr:ad.aF .eql 7 1=false:=axA;cases i':ad.aF .neq (Int.ofNat (ad.len L)) 2 with
   |true=>
    refine ai ?_;repeat' (split<;>refine ai ?_)
    all_goals exact ao _ _ ⟨[],_,(λ_=>axw),rfl,axr⟩
   |false=>
   have nZ:l.length=2:=ax2;refine ai ?_;refine⟨b6 (λz:List (List (ax×Int))×Nat=>vk ⟨7,c2,L,c4,c5,eN,bT,e1,c9,fr,fa,c12,eP,eT,eU,bB⟩ S d (z.1.map dE) (ad.len L) z.2) (λz=>z.2<=l.length/\z.1.length=z.2/\∀s∈z.1,s.length<=16) λz=>l.length-z.2,_,⟨([],0),⟨azF _,rfl,λs h=>axy⟩,rfl,axr⟩,?_⟩;rintro _ _ ⟨⟨H,i⟩,⟨hi,eR,fI⟩,rfl,rfl⟩;dsimp only at hi eR fI⊢;by_cases aB:i<l.length
   .have t2:ad.aF .lss (Int.ofNat i) (Int.ofNat (ad.len L))=true:=by simp only[aI ae,azM,azN];omega
    have t3:=cV ae (cl i aB);have t5:=cv ae (n:=i) axs;obtain⟨bw,e,he,bQ⟩:=hK i aB;have t8:ad.app (H.map dE) [.list 2 (bw.map bD)]=(H++[bw]).map dE:=axR;have jn:=qP (a:=bw) eR;have nq:e=0->∀s∈H++[bw],s.length<=16:=λh s hs=>axv;have hm:(H.map dE).length=i:=axv;clear hK gH aj aD aW he fI;generalize aQ:(H++[bw])=gf at*;generalize gu:gf.map dE=pU at*;generalize H.map dE=H1 at*;generalize bw.map bD=M at*;generalize l[i].bB=y at*;cases iT:ad.aF .neq e 0 with
    |true=>
     refine ai ?_;repeat' (split<;>refine ai ?_)
     all_goals exact ao _ _ ⟨[],_,(λ_=>axw),rfl,axr⟩
    |false=>
     have he:e=0:=axx;have nr:=nq he;refine ai ?_;repeat' (split<;>refine ai ?_)
     all_goals (subst gu;exact fixF (gf,i+1) ⟨aB,jn,nr⟩)
   have t2:ad.aF .lss (Int.ofNat i) (Int.ofNat (ad.len L))=false:=axI;have nu:∃a b,H=[a,b]:=LX axs;obtain⟨a,b,rfl⟩:=nu;have br:=fI a aAr;have aq:=fI b (aAG _ aAr);obtain⟨hx,b4,cK⟩:=gH a [dE b] br (λ_=>⟨b,aq,rfl⟩);change bM _ _ _ [_,.d (.list 1 ([a,b].map dE))] _ _ _ at cK;obtain⟨dm,av,dQ⟩:=qO hx;clear hK gH aj aD aW fI;generalize (List.map dE _)=H1 at*;generalize cd:hx.map bD=M at*;cases iT:ad.aF .eql b4 0 with
   |true=>
    cases kA:ad.aF .neq dm 0 with
    |true=>
     refine ai ?_;repeat' (split<;>refine ai ?_)
     all_goals exact ao _ _ ⟨[],_,(λ_=>axw),rfl,axr⟩
    |false=>
     have he:dm=0:=axx;have k1:=av he;refine ai ?_;repeat' (split<;>refine ai ?_)
     all_goals exact ao _ _ ⟨hx,_,(λ_=>k1),axL,axr⟩
   |false=>
    have kA:ad.aF .neq b4 0=true:=axx;refine ai ?_;repeat' (split<;>refine ai ?_)
    all_goals exact ao _ _ ⟨[],_,(λ_=>axw),rfl,axr⟩
  .have p1:ad.aF .lss 8 1=false:=by simp only[aI ae];decide
   have ey:ad.aF .gtr 8 9=false:=axA;have lr:ad.aF .eql 8 1=false:=axA;cases i':ad.aF .neq (Int.ofNat (ad.len L)) 1 with
   |true=>
    refine ai ?_;repeat' (split<;>refine ai ?_)
    all_goals exact ao _ _ ⟨[],_,(λ_=>axw),rfl,axr⟩
   |false=>
   have nZ:l.length=1:=ax2;refine ai ?_;refine⟨b6 (λz:List (List (ax×Int))×Nat=>vk ⟨8,c2,L,c4,c5,eN,bT,e1,c9,fr,fa,c12,eP,eT,eU,bB⟩ S d (z.1.map dE) (ad.len L) z.2) (λz=>z.2<=l.length/\z.1.length=z.2/\∀s∈z.1,s.length<=16) λz=>l.length-z.2,_,⟨([],0),⟨azF _,rfl,λs h=>axy⟩,rfl,axr⟩,?_⟩;rintro _ _ ⟨⟨H,i⟩,⟨hi,eR,fI⟩,rfl,rfl⟩;dsimp only at hi eR fI⊢;by_cases aB:i<l.length
   .have t2:ad.aF .lss (Int.ofNat i) (Int.ofNat (ad.len L))=true:=by simp only[aI ae,azM,azN];omega
    have t3:=cV ae (cl i aB);have t5:=cv ae (n:=i) axs;obtain⟨bw,e,he,bQ⟩:=hK i aB;have t8:ad.app (H.map dE) [.list 2 (bw.map bD)]=(H++[bw]).map dE:=axR;have jn:=qP (a:=bw) eR;have nq:e=0->∀s∈H++[bw],s.length<=16:=λh s hs=>axv;have hm:(H.map dE).length=i:=axv;clear hK gH aj aD aW he fI;generalize aQ:(H++[bw])=gf at*;generalize gu:gf.map dE=pU at*;generalize H.map dE=H1 at*;generalize bw.map bD=M at*;generalize l[i].bB=y at*;cases iT:ad.aF .neq e 0 with
    |true=>
     refine ai ?_;repeat' (split<;>refine ai ?_)
     all_goals exact ao _ _ ⟨[],_,(λ_=>axw),rfl,axr⟩
    |false=>
     have he:e=0:=axx;have nr:=nq he;refine ai ?_;repeat' (split<;>refine ai ?_)
     all_goals (subst gu;exact fixF (gf,i+1) ⟨aB,jn,nr⟩)
   have t2:ad.aF .lss (Int.ofNat i) (Int.ofNat (ad.len L))=false:=axI;have nu:∃a,H=[a]:=aBu.1 axs;obtain⟨a,rfl⟩:=nu;have br:=fI a aAr;obtain⟨hx,b4,cK⟩:=gH a [] br (λh=>axs);change bM _ _ _ [_,.d (.list 1 ([a].map dE))] _ _ _ at cK;obtain⟨dm,av,dQ⟩:=qO hx;clear hK gH aj aD aW fI;generalize (List.map dE _)=H1 at*;generalize cd:hx.map bD=M at*;cases iT:ad.aF .eql b4 0 with
   |true=>
    cases kA:ad.aF .neq dm 0 with
    |true=>
     refine ai ?_;repeat' (split<;>refine ai ?_)
     all_goals exact ao _ _ ⟨[],_,(λ_=>axw),rfl,axr⟩
    |false=>
     have he:dm=0:=axx;have k1:=av he;refine ai ?_;repeat' (split<;>refine ai ?_)
     all_goals exact ao _ _ ⟨hx,_,(λ_=>k1),axL,axr⟩
   |false=>
    have kA:ad.aF .neq b4 0=true:=axx;refine ai ?_;repeat' (split<;>refine ai ?_)
    all_goals exact ao _ _ ⟨[],_,(λ_=>axw),rfl,axr⟩
  .have p1:ad.aF .lss 9 1=false:=by simp only[aI ae];decide
   have ey:ad.aF .gtr 9 9=false:=axA;have lr:ad.aF .eql 9 1=false:=axA;cases i':ad.aF .neq (Int.ofNat (ad.len L)) 1 with
   |true=>
    refine ai ?_;repeat' (split<;>refine ai ?_)
    all_goals exact ao _ _ ⟨[],_,(λ_=>axw),rfl,axr⟩
   |false=>
   have nZ:l.length=1:=ax2;refine ai ?_;refine⟨b6 (λz:List (List (ax×Int))×Nat=>vk ⟨9,c2,L,c4,c5,eN,bT,e1,c9,fr,fa,c12,eP,eT,eU,bB⟩ S d (z.1.map dE) (ad.len L) z.2) (λz=>z.2<=l.length/\z.1.length=z.2/\∀s∈z.1,s.length<=16) λz=>l.length-z.2,_,⟨([],0),⟨azF _,rfl,λs h=>axy⟩,rfl,axr⟩,?_⟩;rintro _ _ ⟨⟨H,i⟩,⟨hi,eR,fI⟩,rfl,rfl⟩;dsimp only at hi eR fI⊢;by_cases aB:i<l.length
   .have t2:ad.aF .lss (Int.ofNat i) (Int.ofNat (ad.len L))=true:=by simp only[aI ae,azM,azN];omega
    have t3:=cV ae (cl i aB);have t5:=cv ae (n:=i) axs;obtain⟨bw,e,he,bQ⟩:=hK i aB;have t8:ad.app (H.map dE) [.list 2 (bw.map bD)]=(H++[bw]).map dE:=axR;have jn:=qP (a:=bw) eR;have nq:e=0->∀s∈H++[bw],s.length<=16:=λh s hs=>axv;have hm:(H.map dE).length=i:=axv;clear hK gH aj aD aW he fI;generalize aQ:(H++[bw])=gf at*;generalize gu:gf.map dE=pU at*;generalize H.map dE=H1 at*;generalize bw.map bD=M at*;generalize l[i].bB=y at*;cases iT:ad.aF .neq e 0 with
    |true=>
     refine ai ?_;repeat' (split<;>refine ai ?_)
     all_goals exact ao _ _ ⟨[],_,(λ_=>axw),rfl,axr⟩
    |false=>
     have he:e=0:=axx;have nr:=nq he;refine ai ?_;repeat' (split<;>refine ai ?_)
     all_goals (subst gu;exact fixF (gf,i+1) ⟨aB,jn,nr⟩)
   have t2:ad.aF .lss (Int.ofNat i) (Int.ofNat (ad.len L))=false:=axI;have nu:∃a,H=[a]:=aBu.1 axs;obtain⟨a,rfl⟩:=nu;have br:=fI a aAr;obtain⟨hx,b4,cK⟩:=gH a [] br (λh=>axs);change bM _ _ _ [_,.d (.list 1 ([a].map dE))] _ _ _ at cK;obtain⟨dm,av,dQ⟩:=qO hx;clear hK gH aj aD aW fI;generalize (List.map dE _)=H1 at*;generalize cd:hx.map bD=M at*;cases iT:ad.aF .eql b4 0 with
   |true=>
    cases kA:ad.aF .neq dm 0 with
    |true=>
     refine ai ?_;repeat' (split<;>refine ai ?_)
     all_goals exact ao _ _ ⟨[],_,(λ_=>axw),rfl,axr⟩
    |false=>
     have he:dm=0:=axx;have k1:=av he;refine ai ?_;repeat' (split<;>refine ai ?_)
     all_goals exact ao _ _ ⟨hx,_,(λ_=>k1),axL,axr⟩
   |false=>
    have kA:ad.aF .neq b4 0=true:=axx;refine ai ?_;repeat' (split<;>refine ai ?_)
    all_goals exact ao _ _ ⟨[],_,(λ_=>axw),rfl,axr⟩
theorem apz:∀(n:Nat) (x:bk),x.w<=n->x.w<=dS->ht x/\CU x:=by
 intro n;induction n with
 |zero=>grind[bk.abN]
 |succ n ih=>
  intro x h hw;have h0:=x.abP;have h1:=bk.LY x.l;have av:dS=1000000000:=rfl;have h2:∀y∈x.l,ht y/\CU y:=λy hy=>by
   have:=bk.abO hy;grind
  exact⟨apw x hw λy hy=>(h2 y hy).1,aoK x axs λy hy=>(h2 y hy).2⟩
theorem apA(x:bk)(hw:x.w<=dS)(src:List (ax×List (ax×Int)))(hs:src.length<=1073741824):∃(bw:List (ax×Int)) (e:Int),aM 89 [.d (.agg x.bB.cs),.d (.list 3 (src.map jN))] [] (.tuple [.d (.list 2 (bw.map bD)),.d (int e)]) []:=by
 refine tI ?_;obtain⟨gX,n,aj⟩:=apz x.w x (azI _) hw;obtain⟨bw,e,-,aD⟩:=gX src hs 1;generalize x.bB=c at*;generalize src.map jN=S at*;generalize cd:bw.map bD=M at*;refine WB.cr _ λad ae K ao=> ?_;refine ai ?_;repeat' (split<;>refine ai ?_)
 all_goals first|exact ao _ _ ⟨bw,_,axL,axr⟩|exact ao _ _ ⟨[],_,rfl,axr⟩
structure Gq where
 n:ax
 s:Bool
 bw:List D
 k:Int
 a:Int
 b:Int
 b1:List D
 pl:ef
 code:ax
def Gq.cs(x:Gq):List D:=[.str x.n,.bool x.s,.list 2 x.bw,int x.k,int x.a,int x.b,.list 4 x.b1,int x.pl.k,.str x.pl.n,.list 16 x.pl.a,int x.pl.cN,.str x.pl.lk,int x.pl.ni,int x.pl.nj,.str x.pl.nk,.str x.pl.nn,.list 7 x.pl.dH,.list 1 x.pl.ns,.list 7 x.pl.xs,.list 2 x.pl.on,.list 3 x.pl.ah,.list 2 x.pl.ob,int x.pl.cC,.str x.code]
def atg(l:List cQ):Nat:=(l.filter λd=>decide (d.k=3)).length
theorem ZC(l:List cQ):atg l<=l.length:=aCh _ _
theorem ZD(l:List cQ)(d:cQ):atg (l++[d])=atg l+(if d.k=3 then 1 else 0):=by
 unfold atg;rw[aCJ,az6];by_cases h:d.k=3
 .simp[h]
 .simp[h]
def ZE(L:List D)(s n i:Nat):af:=cA [(0,.d (.list 25 L)),(3,.d (int (Int.ofNat s))),(6,.d (.list 25 L)),(7,.d (int (Int.ofNat n))),(8,.d (int (Int.ofNat i)))] []
theorem axh(l:List cQ)(aH:l.length<=1073741824):∃b:Bool,(b=false->atg l<=32/\l.length-atg l<=32)/\aM 47 [.d (.list 25 (l.map cQ.d))] [] (.d (.bool b)) []:=by
 refine fL ?_;have bF:(l.map cQ.d).length=l.length:=azG _;have cl:∀i (h:i<l.length),(l.map cQ.d)[i]?=some (.agg l[i].d'.cs):=λi h=>dv h;generalize l.map cQ.d=L at*;refine akS.cr _ λad ae K ao=> ?_;refine ai ?_;refine⟨b6 (λz:Nat×Nat=>ZE L z.1 (ad.len L) z.2) (λz=>z.2<=l.length/\z.1=atg (l.take z.2)) λz=>l.length-z.2,_,⟨(0,0),⟨azF _,rfl⟩,rfl,axr⟩,?_⟩;rintro _ _ ⟨⟨s,i⟩,⟨hi,hs⟩,rfl,rfl⟩;dsimp only at hi hs⊢;have km:s<=i:=by have:=ZC (l.take i);rw[aAT]at this;omega
 by_cases aB:i<l.length
 .have t2:ad.aF .lss (Int.ofNat i) (Int.ofNat (ad.len L))=true:=by simp only[aI ae,azM,azN];omega
  have t3:=cV ae (cl i aB);have t5:=cv ae (n:=i) axs;have t6:=cv ae (n:=s) axs;have az:atg (l.take (i+1))=s+(if l[i].k=3 then 1 else 0):=by
   rw[aAS,azQ aB,hs];exact ZD _ _
  have au:l[i].k=l[i].d'.k:=rfl;rw[au]at az;clear au;generalize l[i].d'=y at*;obtain⟨k,cT,c8,du,iZ,s7,Bf,Jm,EJ,Jn⟩:=y;dsimp only at az;by_cases au:k=3
  .have p1:ad.aF .eql k 3=true:=by simp only[aI ae,azN];exact au
   rw[aAa au]at az;refine ai ?_;repeat' (split<;>refine ai ?_)
   exact fixF (s+1,i+1) ⟨aB,az.symm⟩
  .have p1:ad.aF .eql k 3=false:=by simp only[aI ae,az2];exact au
   rw[aAc au]at az;refine ai ?_;repeat' (split<;>refine ai ?_)
   exact fixF (s,i+1) ⟨aB,az.symm⟩
 .have t2:ad.aF .lss (Int.ofNat i) (Int.ofNat (ad.len L))=false:=by simp only[aI ae,azM,az2];omega
  have dW:s=atg l:=by rw[hs,aAP axs]
  have hle:=ZC l;have t7:ad.io .sub .i64 (Int.ofNat (ad.len L)) (Int.ofNat s)=Int.ofNat (l.length-s):=by
   have h1:ad.len L=l.length:=by simp only[aI ae];exact bF
   rw[h1,abb ae ayj ayj];simp only[azM];omega
  obtain⟨m,hm⟩:∃m,m=l.length-s:=⟨_,rfl⟩;rw[<-hm]at t7;cases p1:ad.aF .gtr (Int.ofNat s) 32 with
  |true=>
   refine ai ?_;repeat' (split<;>refine ai ?_)
   all_goals exact ao _ _ ⟨true,(λh=>axy),rfl,axr⟩
  |false=>
  cases ey:ad.aF .gtr (Int.ofNat m) 32 with
  |true=>
   refine ai ?_;repeat' (split<;>refine ai ?_)
   all_goals exact ao _ _ ⟨true,(λh=>axy),rfl,axr⟩
  |false=>
   simp only[aI ae,az2,azM]at p1 ey;have bm:atg l<=32/\l.length-atg l<=32:=axs;have q1:ad.aF .gtr (Int.ofNat s) 32=false:=by simp only[aI ae,az2,azM];exact p1
   have bK:ad.aF .gtr (Int.ofNat m) 32=false:=by simp only[aI ae,az2,azM];exact ey
   refine ai ?_;repeat' (split<;>refine ai ?_)
   all_goals exact ao _ _ ⟨false,(λ_=>bm),rfl,axr⟩
end Go.Proofs.YtmgpekpnidjfoaaGreatDoor
