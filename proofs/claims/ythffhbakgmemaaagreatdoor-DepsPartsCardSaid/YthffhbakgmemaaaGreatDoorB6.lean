/- Part of parts_said. -/
import Derived.Test.YthffhbakgmemaaaGreatDoorB5
set_option maxRecDepth 100000
set_option maxHeartbeats 8000000
set_option linter.unusedSimpArgs false
set_option linter.unusedVariables false
namespace Go.Proofs.YthffhbakgmemaaaGreatDoor
open Go Go.aG
attribute [local irreducible] bD
def hQ(x:bj):Prop:=∀(c:List (ax×List (ax×Int))),c.length<=1073741824->∀d:Int,∃(a:List (ax×Int)) (e:Int),(e=0->a.length<=16)/\aL 158 [.d (.agg x.bz.cs),.d (.list 3 (c.map kp)),.d (int d)] [] (.tuple [.d (.list 2 (a.map bF)),.d (int e)]) []
def dL(l:List (ax×Int)):D:=.list 2 (l.map bF)
def wP(c:dO)(S:List D)(d:Int)(H:List D)(n i:Nat):ag:=lZ [(1,.d (.list 3 S)),(2,.d (int d)),(3,.dw 3 0),(10,.own 1 H),(59,.d (.list 16 c.a)),(60,.d (int (Int.ofNat n))),(61,.d (int (Int.ofNat i)))] [(3,c.v)] []
def arity(k:Int):Nat:=if k=1 then 0 else if k=4\/k=5\/k=7 then 2 else 1
theorem Nx{c:Type}:∀{l:List c},l.length=2->∃a b,l=[a,b]
 |[a,b],_=>⟨a,b,rfl⟩
theorem bj.Ny(x:bj):500<=x.w:=by cases x;show 500<=500+_+_+_+_+_+_+_+_;omega
theorem bj.HJ:∀l:List bj,l.length<=bj.ws l
 |[]=>aCw _
 |x::l=>by have:=x.Ny;have:=bj.HJ l;show l.length+1<=x.w+bj.ws l;omega
theorem bj.Nz:∀{l:List bj} {x:bj},x∈l->x.w<=bj.ws l
 |y::l,x,h=>by
  show _<=y.w+bj.ws l;rcases aCJ.1 h with rfl|h
  .omega
  .have:=bj.Nz h;omega
theorem bj.NA(x:bj):500+bj.ws x.l<=x.w:=by cases x;show 500+bj.ws _<=500+_+_+_+_+_+_+_+_;grind[bj.l]
theorem arB(x:bj)(hw:x.w<=dr)(ih:∀y∈x.l,hQ y):hQ x:=by
 intro ar P d;have r:=arA x hw;have ai:x.bz.a=x.l.map λx=>.agg x.bz.cs:=by rw[<-bj.kn];cases x;rfl
 have aB:x.bz.k=x.k:=aAY;have aE:x.l.length<=1073741824:=by
  grind[bj.HJ,dr,bj.NA]
 have bx:(x.l.map λx=>D.agg x.bz.cs).length=x.l.length:=aCv _;have N:∀i (h:i<x.l.length),(x.l.map λx=>D.agg x.bz.cs)[i]?=some (.agg x.l[i].bz.cs):=λi h=>cY h;rw[<-ai]at bx N;rw[<-aB]at r;clear hw ai aB;generalize x.l=l at*;generalize x.bz=c at*;have t:∀i (h:i<l.length),∃(g:List (ax×Int)) (e:Int),(e=0->g.length<=16)/\aL 158 [.d (.agg l[i].bz.cs),.d (.list 3 (ar.map kp)),.d (int (IntKind.i64.wrap (d+1)))] [] (.tuple [.d (.list 2 (g.map bF)),.d (int e)]) []:=λi h=>ih l[i] (aCC h) ar P _;clear ih;obtain⟨yL,aI,aj⟩:=arf ar c.n P;obtain⟨b7,h1,aC⟩:=arb yL;have aX:yL.length<=16->aL 50 [.d (.list 2 (yL.map bF))] [] (.d (.list 2 (yL.map bF))) []:=λh=>adG (yL.map bF) az9;refine Dp ?_;generalize ar.map kp=S at*;obtain⟨c1,c2,L,V,X,eA,Q,eQ,Y,Z,eR,U,eD,eE,eF,R⟩:=c;dsimp only at bx N r aj⊢;refine YX.cn _ λf ae aP k=> ?_;have mX:∀a b,IntKind.i64.wrap (a+b)=f.io .add .i64 a b:=λa b=>aAa;rw[mX]at t;cases t0:f.aB .gtr d 16 with
 |true=>
  refine ak ?_;exact k _ _ ⟨[],_,(λ_=>az'),rfl,az5⟩
 |false=>
 by_cases hk:c1<1\/9<c1
 .have t1:f.aB .lss c1 1=true\/(f.aB .lss c1 1=false/\f.aB .gtr c1 9=true):=by
   simp only[aH ae,aCA,aCE];omega
  rcases t1 with t1|⟨t1,t2⟩
  .refine ak ?_;exact k _ _ ⟨[],_,(λ_=>az'),rfl,az5⟩
  .refine ak ?_;exact k _ _ ⟨[],_,(λ_=>az'),rfl,az5⟩
 .have aN:c1=1\/c1=2\/c1=3\/c1=4\/c1=5\/c1=6\/c1=7\/c1=8\/c1=9:=by omega
  clear hk;rcases aN with rfl|rfl|rfl|rfl|rfl|rfl|rfl|rfl|rfl
  .have cI:f.aB .lss 1 1=false:=by simp only[aH ae];decide
   have d':f.aB .gtr 1 9=false:=aAd;have l4:f.aB .eql 1 1=true:=aAd;cases jz:f.aB .neq (Int.ofNat (f.len L)) 0 with
   |true=>
    refine ak ?_;exact k _ _ ⟨[],_,(λ_=>az'),rfl,az5⟩
   |false=>
   cases aI with
   |false=>
    refine ak ?_;exact k _ _ ⟨[],_,(λ_=>az'),rfl,az5⟩
   |true=>
   cases jn:f.aB .neq b7 0 with
   |true=>
    refine ak ?_;repeat' (split<;>refine ak ?_)
    all_goals exact k _ _ ⟨[],_,(λ_=>az'),rfl,az5⟩
   |false=>
    have j:b7=0:=by simp only[aH ae,aDB,aCA]at jn;omega
    have Ci:=h1 j;have aX:=aX Ci;generalize ck:yL.map bF=M at*;refine ak ?_;exact k _ _ ⟨yL,_,(λ_=>Ci),aAp,az5⟩
  .have cI:f.aB .lss 2 1=false:=by simp only[aH ae];decide
   have d':f.aB .gtr 2 9=false:=aAd;have l4:f.aB .eql 2 1=false:=aAd;cases jz:f.aB .neq (Int.ofNat (f.len L)) 1 with
   |true=>
    refine ak ?_;exact k _ _ ⟨[],_,(λ_=>az'),rfl,az5⟩
   |false=>
   have oK:l.length=1:=aAD;refine ak ?_;refine⟨bX (λz:List (List (ax×Int))×Nat=>wP ⟨2,c2,L,V,X,eA,Q,eQ,Y,Z,eR,U,eD,eE,eF,R⟩ S d (z.1.map dL) (f.len L) z.2) (λz=>z.2<=l.length/\z.1.length=z.2/\∀s∈z.1,s.length<=16) λz=>l.length-z.2,_,⟨([],0),⟨aCu _,rfl,λs h=>aAb⟩,rfl,az5⟩,?_⟩;rintro _ _ ⟨⟨H,i⟩,⟨C,v,m⟩,rfl,rfl⟩;dsimp only at C v m⊢;by_cases o:i<l.length
   .have t2:f.aB .lss (Int.ofNat i) (Int.ofNat (f.len L))=true:=by simp only[aH ae,aCy,aCA];omega
    have t3:=cH ae (N i o);have t5:=b9 ae (n:=i) az6;obtain⟨g,e,j,bR⟩:=t i o;have t8:f.app (H.map dL) [.list 2 (g.map bF)]=(H++[g]).map dL:=aAt;have E:=rS (a:=g) v;have G:e=0->∀s∈H++[g],s.length<=16:=λh s P=>az9;have hm:(H.map dL).length=i:=az9;clear t r aj aC aX j m;generalize aM:(H++[g])=u at*;generalize B:u.map dL=qG at*;generalize H.map dL=H1 at*;generalize g.map bF=M at*;generalize l[i].bz=y at*;cases jn:f.aB .neq e 0 with
    |true=>
     refine ak ?_;exact k _ _ ⟨[],_,(λ_=>az'),rfl,az5⟩
    |false=>
     have j:e=0:=aAa;have J:=G j;refine ak ?_
     (subst B;exact fixF (u,i+1) ⟨o,E,J⟩)
   have t2:f.aB .lss (Int.ofNat i) (Int.ofNat (f.len L))=false:=aAg;have K:∃a,H=[a]:=aEM.1 az6;obtain⟨a,rfl⟩:=K;have w:=m a aDa;obtain⟨p,cq,A⟩:=r a [] w (λh=>az6);change bD _ _ _ [_,.d (.list 1 ([a].map dL))] _ _ _ at A;obtain⟨dG,av,dR⟩:=rR p;clear t r aj aC aX m;generalize (List.map dL _)=H1 at*;generalize ck:p.map bF=M at*;cases jn:f.aB .eql cq 0 with
   |true=>
    cases jL:f.aB .neq dG 0 with
    |true=>
     refine ak ?_;exact k _ _ ⟨[],_,(λ_=>az'),rfl,az5⟩
    |false=>
     have j:dG=0:=aAa;have F:=av j;refine ak ?_;exact k _ _ ⟨p,_,(λ_=>F),aAp,az5⟩
   |false=>
    have jL:f.aB .neq cq 0=true:=aAa;refine ak ?_;exact k _ _ ⟨[],_,(λ_=>az'),rfl,az5⟩
  .have cI:f.aB .lss 3 1=false:=by simp only[aH ae];decide
   have d':f.aB .gtr 3 9=false:=aAd;have l4:f.aB .eql 3 1=false:=aAd;cases jz:f.aB .neq (Int.ofNat (f.len L)) 1 with
   |true=>
    refine ak ?_;exact k _ _ ⟨[],_,(λ_=>az'),rfl,az5⟩
   |false=>
   have oK:l.length=1:=aAD;refine ak ?_;refine⟨bX (λz:List (List (ax×Int))×Nat=>wP ⟨3,c2,L,V,X,eA,Q,eQ,Y,Z,eR,U,eD,eE,eF,R⟩ S d (z.1.map dL) (f.len L) z.2) (λz=>z.2<=l.length/\z.1.length=z.2/\∀s∈z.1,s.length<=16) λz=>l.length-z.2,_,⟨([],0),⟨aCu _,rfl,λs h=>aAb⟩,rfl,az5⟩,?_⟩;rintro _ _ ⟨⟨H,i⟩,⟨C,v,m⟩,rfl,rfl⟩;dsimp only at C v m⊢;by_cases o:i<l.length
   .have t2:f.aB .lss (Int.ofNat i) (Int.ofNat (f.len L))=true:=by simp only[aH ae,aCy,aCA];omega
    have t3:=cH ae (N i o);have t5:=b9 ae (n:=i) az6;obtain⟨g,e,j,bR⟩:=t i o;have t8:f.app (H.map dL) [.list 2 (g.map bF)]=(H++[g]).map dL:=aAt;have E:=rS (a:=g) v;have G:e=0->∀s∈H++[g],s.length<=16:=λh s P=>az9;have hm:(H.map dL).length=i:=az9;clear t r aj aC aX j m;generalize aM:(H++[g])=u at*;generalize B:u.map dL=qG at*;generalize H.map dL=H1 at*;generalize g.map bF=M at*;generalize l[i].bz=y at*;cases jn:f.aB .neq e 0 with
    |true=>
     refine ak ?_;exact k _ _ ⟨[],_,(λ_=>az'),rfl,az5⟩
    |false=>
     have j:e=0:=aAa;have J:=G j;refine ak ?_
     (subst B;exact fixF (u,i+1) ⟨o,E,J⟩)
   have t2:f.aB .lss (Int.ofNat i) (Int.ofNat (f.len L))=false:=aAg;have K:∃a,H=[a]:=aEM.1 az6;obtain⟨a,rfl⟩:=K;have w:=m a aDa;obtain⟨p,cq,A⟩:=r a [] w (λh=>az6);change bD _ _ _ [_,.d (.list 1 ([a].map dL))] _ _ _ at A;obtain⟨dG,av,dR⟩:=rR p;clear t r aj aC aX m;generalize (List.map dL _)=H1 at*;generalize ck:p.map bF=M at*;cases jn:f.aB .eql cq 0 with
   |true=>
    cases jL:f.aB .neq dG 0 with
    |true=>
     refine ak ?_;exact k _ _ ⟨[],_,(λ_=>az'),rfl,az5⟩
    |false=>
     have j:dG=0:=aAa;have F:=av j;refine ak ?_;exact k _ _ ⟨p,_,(λ_=>F),aAp,az5⟩
   |false=>
    have jL:f.aB .neq cq 0=true:=aAa;refine ak ?_;exact k _ _ ⟨[],_,(λ_=>az'),rfl,az5⟩
  .have cI:f.aB .lss 4 1=false:=by simp only[aH ae];decide
   have d':f.aB .gtr 4 9=false:=aAd;have l4:f.aB .eql 4 1=false:=aAd;cases jz:f.aB .neq (Int.ofNat (f.len L)) 2 with
   |true=>
    refine ak ?_;exact k _ _ ⟨[],_,(λ_=>az'),rfl,az5⟩
   |false=>
   have oK:l.length=2:=aAD;refine ak ?_;refine⟨bX (λz:List (List (ax×Int))×Nat=>wP ⟨4,c2,L,V,X,eA,Q,eQ,Y,Z,eR,U,eD,eE,eF,R⟩ S d (z.1.map dL) (f.len L) z.2) (λz=>z.2<=l.length/\z.1.length=z.2/\∀s∈z.1,s.length<=16) λz=>l.length-z.2,_,⟨([],0),⟨aCu _,rfl,λs h=>aAb⟩,rfl,az5⟩,?_⟩;rintro _ _ ⟨⟨H,i⟩,⟨C,v,m⟩,rfl,rfl⟩;dsimp only at C v m⊢;by_cases o:i<l.length
   .have t2:f.aB .lss (Int.ofNat i) (Int.ofNat (f.len L))=true:=by simp only[aH ae,aCy,aCA];omega
    have t3:=cH ae (N i o);have t5:=b9 ae (n:=i) az6;obtain⟨g,e,j,bR⟩:=t i o;have t8:f.app (H.map dL) [.list 2 (g.map bF)]=(H++[g]).map dL:=aAt;have E:=rS (a:=g) v;have G:e=0->∀s∈H++[g],s.length<=16:=λh s P=>az9;have hm:(H.map dL).length=i:=az9;clear t r aj aC aX j m;generalize aM:(H++[g])=u at*;generalize B:u.map dL=qG at*;generalize H.map dL=H1 at*;generalize g.map bF=M at*;generalize l[i].bz=y at*;cases jn:f.aB .neq e 0 with
    |true=>
     refine ak ?_;exact k _ _ ⟨[],_,(λ_=>az'),rfl,az5⟩
    |false=>
     have j:e=0:=aAa;have J:=G j;refine ak ?_
     (subst B;exact fixF (u,i+1) ⟨o,E,J⟩)
   have t2:f.aB .lss (Int.ofNat i) (Int.ofNat (f.len L))=false:=aAg;have K:∃a b,H=[a,b]:=Nx az6;obtain⟨a,b,rfl⟩:=K;have w:=m a aDa;have au:=m b (aDu _ aDa);obtain⟨p,cq,A⟩:=r a [dL b] w (λ_=>⟨b,au,rfl⟩);change bD _ _ _ [_,.d (.list 1 ([a,b].map dL))] _ _ _ at A;obtain⟨dG,av,dR⟩:=rR p;clear t r aj aC aX m;generalize (List.map dL _)=H1 at*;generalize ck:p.map bF=M at*;cases jn:f.aB .eql cq 0 with
   |true=>
    cases jL:f.aB .neq dG 0 with
    |true=>
     refine ak ?_;exact k _ _ ⟨[],_,(λ_=>az'),rfl,az5⟩
    |false=>
     have j:dG=0:=aAa;have F:=av j;refine ak ?_;exact k _ _ ⟨p,_,(λ_=>F),aAp,az5⟩
   |false=>
    have jL:f.aB .neq cq 0=true:=aAa;refine ak ?_;exact k _ _ ⟨[],_,(λ_=>az'),rfl,az5⟩
  .have cI:f.aB .lss 5 1=false:=by simp only[aH ae];decide
   have d':f.aB .gtr 5 9=false:=aAd;have l4:f.aB .eql 5 1=false:=aAd;cases jz:f.aB .neq (Int.ofNat (f.len L)) 2 with
   |true=>
    refine ak ?_;exact k _ _ ⟨[],_,(λ_=>az'),rfl,az5⟩
   |false=>
   have oK:l.length=2:=aAD;refine ak ?_;refine⟨bX (λz:List (List (ax×Int))×Nat=>wP ⟨5,c2,L,V,X,eA,Q,eQ,Y,Z,eR,U,eD,eE,eF,R⟩ S d (z.1.map dL) (f.len L) z.2) (λz=>z.2<=l.length/\z.1.length=z.2/\∀s∈z.1,s.length<=16) λz=>l.length-z.2,_,⟨([],0),⟨aCu _,rfl,λs h=>aAb⟩,rfl,az5⟩,?_⟩;rintro _ _ ⟨⟨H,i⟩,⟨C,v,m⟩,rfl,rfl⟩;dsimp only at C v m⊢;by_cases o:i<l.length
   .have t2:f.aB .lss (Int.ofNat i) (Int.ofNat (f.len L))=true:=by simp only[aH ae,aCy,aCA];omega
    have t3:=cH ae (N i o);have t5:=b9 ae (n:=i) az6;obtain⟨g,e,j,bR⟩:=t i o;have t8:f.app (H.map dL) [.list 2 (g.map bF)]=(H++[g]).map dL:=aAt;have E:=rS (a:=g) v;have G:e=0->∀s∈H++[g],s.length<=16:=λh s P=>az9;have hm:(H.map dL).length=i:=az9;clear t r aj aC aX j m;generalize aM:(H++[g])=u at*;generalize B:u.map dL=qG at*;generalize H.map dL=H1 at*;generalize g.map bF=M at*;generalize l[i].bz=y at*;cases jn:f.aB .neq e 0 with
    |true=>
     refine ak ?_;exact k _ _ ⟨[],_,(λ_=>az'),rfl,az5⟩
    |false=>
     have j:e=0:=aAa;have J:=G j;refine ak ?_
     (subst B;exact fixF (u,i+1) ⟨o,E,J⟩)
   have t2:f.aB .lss (Int.ofNat i) (Int.ofNat (f.len L))=false:=aAg;have K:∃a b,H=[a,b]:=Nx az6;obtain⟨a,b,rfl⟩:=K;have w:=m a aDa;have au:=m b (aDu _ aDa);obtain⟨p,cq,A⟩:=r a [dL b] w (λ_=>⟨b,au,rfl⟩);change bD _ _ _ [_,.d (.list 1 ([a,b].map dL))] _ _ _ at A;obtain⟨dG,av,dR⟩:=rR p;clear t r aj aC aX m;generalize (List.map dL _)=H1 at*;generalize ck:p.map bF=M at*;cases jn:f.aB .eql cq 0 with
   |true=>
    cases jL:f.aB .neq dG 0 with
    |true=>
     refine ak ?_;exact k _ _ ⟨[],_,(λ_=>az'),rfl,az5⟩
    |false=>
     have j:dG=0:=aAa;have F:=av j;refine ak ?_;exact k _ _ ⟨p,_,(λ_=>F),aAp,az5⟩
   |false=>
    have jL:f.aB .neq cq 0=true:=aAa;refine ak ?_;exact k _ _ ⟨[],_,(λ_=>az'),rfl,az5⟩
  .have cI:f.aB .lss 6 1=false:=by simp only[aH ae];decide
   have d':f.aB .gtr 6 9=false:=aAd;have l4:f.aB .eql 6 1=false:=aAd;cases jz:f.aB .neq (Int.ofNat (f.len L)) 1 with
   |true=>
    refine ak ?_;exact k _ _ ⟨[],_,(λ_=>az'),rfl,az5⟩
   |false=>
   have oK:l.length=1:=aAD;refine ak ?_;refine⟨bX (λz:List (List (ax×Int))×Nat=>wP ⟨6,c2,L,V,X,eA,Q,eQ,Y,Z,eR,U,eD,eE,eF,R⟩ S d (z.1.map dL) (f.len L) z.2) (λz=>z.2<=l.length/\z.1.length=z.2/\∀s∈z.1,s.length<=16) λz=>l.length-z.2,_,⟨([],0),⟨aCu _,rfl,λs h=>aAb⟩,rfl,az5⟩,?_⟩;rintro _ _ ⟨⟨H,i⟩,⟨C,v,m⟩,rfl,rfl⟩;dsimp only at C v m⊢;by_cases o:i<l.length
   .have t2:f.aB .lss (Int.ofNat i) (Int.ofNat (f.len L))=true:=by simp only[aH ae,aCy,aCA];omega
    have t3:=cH ae (N i o);have t5:=b9 ae (n:=i) az6;obtain⟨g,e,j,bR⟩:=t i o;have t8:f.app (H.map dL) [.list 2 (g.map bF)]=(H++[g]).map dL:=aAt;have E:=rS (a:=g) v;have G:e=0->∀s∈H++[g],s.length<=16:=λh s P=>az9;have hm:(H.map dL).length=i:=az9;clear t r aj aC aX j m;generalize aM:(H++[g])=u at*;generalize B:u.map dL=qG at*;generalize H.map dL=H1 at*;generalize g.map bF=M at*;generalize l[i].bz=y at*;cases jn:f.aB .neq e 0 with
    |true=>
     refine ak ?_;exact k _ _ ⟨[],_,(λ_=>az'),rfl,az5⟩
    |false=>
     have j:e=0:=aAa;have J:=G j;refine ak ?_
     (subst B;exact fixF (u,i+1) ⟨o,E,J⟩)
   have t2:f.aB .lss (Int.ofNat i) (Int.ofNat (f.len L))=false:=aAg;have K:∃a,H=[a]:=aEM.1 az6;obtain⟨a,rfl⟩:=K;have w:=m a aDa;obtain⟨p,cq,A⟩:=r a [] w (λh=>az6);change bD _ _ _ [_,.d (.list 1 ([a].map dL))] _ _ _ at A;obtain⟨dG,av,dR⟩:=rR p;clear t r aj aC aX m;generalize (List.map dL _)=H1 at*;generalize ck:p.map bF=M at*;cases jn:f.aB .eql cq 0 with
   |true=>
    cases jL:f.aB .neq dG 0 with
    |true=>
     refine ak ?_;exact k _ _ ⟨[],_,(λ_=>az'),rfl,az5⟩
    |false=>
     have j:dG=0:=aAa;have F:=av j;refine ak ?_;exact k _ _ ⟨p,_,(λ_=>F),aAp,az5⟩
   |false=>
    have jL:f.aB .neq cq 0=true:=aAa;refine ak ?_;exact k _ _ ⟨[],_,(λ_=>az'),rfl,az5⟩
  .have cI:f.aB .lss 7 1=false:=by simp only[aH ae];decide
   have d':f.aB .gtr 7 9=false:=aAd;have l4:f.aB .eql 7 1=false:=aAd;cases jz:f.aB .neq (Int.ofNat (f.len L)) 2 with
   |true=>
    refine ak ?_;exact k _ _ ⟨[],_,(λ_=>az'),rfl,az5⟩
   |false=>
   have oK:l.length=2:=aAD;refine ak ?_;refine⟨bX (λz:List (List (ax×Int))×Nat=>wP ⟨7,c2,L,V,X,eA,Q,eQ,Y,Z,eR,U,eD,eE,eF,R⟩ S d (z.1.map dL) (f.len L) z.2) (λz=>z.2<=l.length/\z.1.length=z.2/\∀s∈z.1,s.length<=16) λz=>l.length-z.2,_,⟨([],0),⟨aCu _,rfl,λs h=>aAb⟩,rfl,az5⟩,?_⟩;rintro _ _ ⟨⟨H,i⟩,⟨C,v,m⟩,rfl,rfl⟩;dsimp only at C v m⊢;by_cases o:i<l.length
   .have t2:f.aB .lss (Int.ofNat i) (Int.ofNat (f.len L))=true:=by simp only[aH ae,aCy,aCA];omega
    have t3:=cH ae (N i o);have t5:=b9 ae (n:=i) az6;obtain⟨g,e,j,bR⟩:=t i o;have t8:f.app (H.map dL) [.list 2 (g.map bF)]=(H++[g]).map dL:=aAt;have E:=rS (a:=g) v;have G:e=0->∀s∈H++[g],s.length<=16:=λh s P=>az9;have hm:(H.map dL).length=i:=az9;clear t r aj aC aX j m;generalize aM:(H++[g])=u at*;generalize B:u.map dL=qG at*;generalize H.map dL=H1 at*;generalize g.map bF=M at*;generalize l[i].bz=y at*;cases jn:f.aB .neq e 0 with
    |true=>
     refine ak ?_;exact k _ _ ⟨[],_,(λ_=>az'),rfl,az5⟩
    |false=>
     have j:e=0:=aAa;have J:=G j;refine ak ?_
     (subst B;exact fixF (u,i+1) ⟨o,E,J⟩)
   have t2:f.aB .lss (Int.ofNat i) (Int.ofNat (f.len L))=false:=aAg;have K:∃a b,H=[a,b]:=Nx az6;obtain⟨a,b,rfl⟩:=K;have w:=m a aDa;have au:=m b (aDu _ aDa);obtain⟨p,cq,A⟩:=r a [dL b] w (λ_=>⟨b,au,rfl⟩);change bD _ _ _ [_,.d (.list 1 ([a,b].map dL))] _ _ _ at A;obtain⟨dG,av,dR⟩:=rR p;clear t r aj aC aX m;generalize (List.map dL _)=H1 at*;generalize ck:p.map bF=M at*;cases jn:f.aB .eql cq 0 with
   |true=>
    cases jL:f.aB .neq dG 0 with
    |true=>
     refine ak ?_;exact k _ _ ⟨[],_,(λ_=>az'),rfl,az5⟩
    |false=>
     have j:dG=0:=aAa;have F:=av j;refine ak ?_;exact k _ _ ⟨p,_,(λ_=>F),aAp,az5⟩
   |false=>
    have jL:f.aB .neq cq 0=true:=aAa;refine ak ?_;exact k _ _ ⟨[],_,(λ_=>az'),rfl,az5⟩
  .have cI:f.aB .lss 8 1=false:=by simp only[aH ae];decide
   have d':f.aB .gtr 8 9=false:=aAd;have l4:f.aB .eql 8 1=false:=aAd;cases jz:f.aB .neq (Int.ofNat (f.len L)) 1 with
   |true=>
    refine ak ?_;exact k _ _ ⟨[],_,(λ_=>az'),rfl,az5⟩
   |false=>
   have oK:l.length=1:=aAD;refine ak ?_;refine⟨bX (λz:List (List (ax×Int))×Nat=>wP ⟨8,c2,L,V,X,eA,Q,eQ,Y,Z,eR,U,eD,eE,eF,R⟩ S d (z.1.map dL) (f.len L) z.2) (λz=>z.2<=l.length/\z.1.length=z.2/\∀s∈z.1,s.length<=16) λz=>l.length-z.2,_,⟨([],0),⟨aCu _,rfl,λs h=>aAb⟩,rfl,az5⟩,?_⟩;rintro _ _ ⟨⟨H,i⟩,⟨C,v,m⟩,rfl,rfl⟩;dsimp only at C v m⊢;by_cases o:i<l.length
   .have t2:f.aB .lss (Int.ofNat i) (Int.ofNat (f.len L))=true:=by simp only[aH ae,aCy,aCA];omega
    have t3:=cH ae (N i o);have t5:=b9 ae (n:=i) az6;obtain⟨g,e,j,bR⟩:=t i o;have t8:f.app (H.map dL) [.list 2 (g.map bF)]=(H++[g]).map dL:=aAt;have E:=rS (a:=g) v;have G:e=0->∀s∈H++[g],s.length<=16:=λh s P=>az9;have hm:(H.map dL).length=i:=az9;clear t r aj aC aX j m;generalize aM:(H++[g])=u at*;generalize B:u.map dL=qG at*;generalize H.map dL=H1 at*;generalize g.map bF=M at*;generalize l[i].bz=y at*;cases jn:f.aB .neq e 0 with
    |true=>
     refine ak ?_;exact k _ _ ⟨[],_,(λ_=>az'),rfl,az5⟩
    |false=>
     have j:e=0:=aAa;have J:=G j;refine ak ?_
     (subst B;exact fixF (u,i+1) ⟨o,E,J⟩)
   have t2:f.aB .lss (Int.ofNat i) (Int.ofNat (f.len L))=false:=aAg;have K:∃a,H=[a]:=aEM.1 az6;obtain⟨a,rfl⟩:=K;have w:=m a aDa;obtain⟨p,cq,A⟩:=r a [] w (λh=>az6);change bD _ _ _ [_,.d (.list 1 ([a].map dL))] _ _ _ at A;obtain⟨dG,av,dR⟩:=rR p;clear t r aj aC aX m;generalize (List.map dL _)=H1 at*;generalize ck:p.map bF=M at*;cases jn:f.aB .eql cq 0 with
   |true=>
    cases jL:f.aB .neq dG 0 with
    |true=>
     refine ak ?_;exact k _ _ ⟨[],_,(λ_=>az'),rfl,az5⟩
    |false=>
     have j:dG=0:=aAa;have F:=av j;refine ak ?_;exact k _ _ ⟨p,_,(λ_=>F),aAp,az5⟩
   |false=>
    have jL:f.aB .neq cq 0=true:=aAa;refine ak ?_;exact k _ _ ⟨[],_,(λ_=>az'),rfl,az5⟩
  .have cI:f.aB .lss 9 1=false:=by simp only[aH ae];decide
   have d':f.aB .gtr 9 9=false:=aAd;have l4:f.aB .eql 9 1=false:=aAd;cases jz:f.aB .neq (Int.ofNat (f.len L)) 1 with
   |true=>
    refine ak ?_;exact k _ _ ⟨[],_,(λ_=>az'),rfl,az5⟩
   |false=>
   have oK:l.length=1:=aAD;refine ak ?_;refine⟨bX (λz:List (List (ax×Int))×Nat=>wP ⟨9,c2,L,V,X,eA,Q,eQ,Y,Z,eR,U,eD,eE,eF,R⟩ S d (z.1.map dL) (f.len L) z.2) (λz=>z.2<=l.length/\z.1.length=z.2/\∀s∈z.1,s.length<=16) λz=>l.length-z.2,_,⟨([],0),⟨aCu _,rfl,λs h=>aAb⟩,rfl,az5⟩,?_⟩;rintro _ _ ⟨⟨H,i⟩,⟨C,v,m⟩,rfl,rfl⟩;dsimp only at C v m⊢;by_cases o:i<l.length
   .have t2:f.aB .lss (Int.ofNat i) (Int.ofNat (f.len L))=true:=by simp only[aH ae,aCy,aCA];omega
    have t3:=cH ae (N i o);have t5:=b9 ae (n:=i) az6;obtain⟨g,e,j,bR⟩:=t i o;have t8:f.app (H.map dL) [.list 2 (g.map bF)]=(H++[g]).map dL:=aAt;have E:=rS (a:=g) v;have G:e=0->∀s∈H++[g],s.length<=16:=λh s P=>az9;have hm:(H.map dL).length=i:=az9;clear t r aj aC aX j m;generalize aM:(H++[g])=u at*;generalize B:u.map dL=qG at*;generalize H.map dL=H1 at*;generalize g.map bF=M at*;generalize l[i].bz=y at*;cases jn:f.aB .neq e 0 with
    |true=>
     refine ak ?_;exact k _ _ ⟨[],_,(λ_=>az'),rfl,az5⟩
    |false=>
     have j:e=0:=aAa;have J:=G j;refine ak ?_
     (subst B;exact fixF (u,i+1) ⟨o,E,J⟩)
   have t2:f.aB .lss (Int.ofNat i) (Int.ofNat (f.len L))=false:=aAg;have K:∃a,H=[a]:=aEM.1 az6;obtain⟨a,rfl⟩:=K;have w:=m a aDa;obtain⟨p,cq,A⟩:=r a [] w (λh=>az6);change bD _ _ _ [_,.d (.list 1 ([a].map dL))] _ _ _ at A;obtain⟨dG,av,dR⟩:=rR p;clear t r aj aC aX m;generalize (List.map dL _)=H1 at*;generalize ck:p.map bF=M at*;cases jn:f.aB .eql cq 0 with
   |true=>
    cases jL:f.aB .neq dG 0 with
    |true=>
     refine ak ?_;exact k _ _ ⟨[],_,(λ_=>az'),rfl,az5⟩
    |false=>
     have j:dG=0:=aAa;have F:=av j;refine ak ?_;exact k _ _ ⟨p,_,(λ_=>F),aAp,az5⟩
   |false=>
    have jL:f.aB .neq cq 0=true:=aAa;refine ak ?_;exact k _ _ ⟨[],_,(λ_=>az'),rfl,az5⟩
theorem arE:∀(n:Nat) (x:bj),x.w<=n->x.w<=dr->hQ x/\D1 x:=by
 intro n;induction n with
 |zero=>grind[bj.Ny]
 |succ n ih=>
  intro x h d;have bB:=x.NA;have h1:=bj.HJ x.l;have f:dr=1000000000:=rfl;have c:∀y∈x.l,hQ y/\D1 y:=λy a=>by
   have:=bj.Nz a;grind
  exact⟨arB x d λy a=>(c y a).1,aqJ x az6 λy a=>(c y a).2⟩
theorem arF(x:bj)(l:x.w<=dr)(d:List (ax×List (ax×Int)))(k:d.length<=1073741824):∃(a:List (ax×Int)) (e:Int),(e=0->a.length<=16)/\aL 105 [.d (.agg x.bz.cs),.d (.list 3 (d.map kp))] [] (.tuple [.d (.list 2 (a.map bF)),.d (int e)]) []:=by
 refine Dp ?_;obtain⟨g,n,aj⟩:=arE x.w x (aCw _) l;obtain⟨a,e,j,aC⟩:=g d k 1;generalize x.bz=c at*;generalize d.map kp=S at*;generalize ck:a.map bF=M at*;refine WN.cn _ λm ae K f=> ?_;refine ak ?_;repeat' (split<;>refine ak ?_)
 all_goals first|exact f _ _ ⟨[],_,λ_=>aCu _,rfl,az5⟩|exact f _ _ ⟨a,e,j,aAp,az5⟩
def CE(x:aD):Prop:=aL 73 [.d (.agg x.bQ.cs)] [] (.d (.agg x.bQ.cs)) []
def arG(c:j3)(H:List D)(n i:Nat):ag:=lZ [(1,.dw 1 0),(2,.dw 2 0),(9,.d (.list 7 c.l)),(10,.d (int (Int.ofNat n))),(11,.d (int (Int.ofNat i)))]
 [(1,[.d (int c.k),.d (.str c.n),.d (int c.fY),.d (int c.vi),.d (.str c.eB),.d (.str c.op),.own 7 H]),(2,[.d (int 0),.d (.str []),.d (int 0),.d (int 0),.d (.str []),.d (.str []),.own 7 []])] []
theorem arH(x:aD)(u:x.l.length<=1073741824)(m:∀y∈x.l,CE y):CE x:=by
 have j:x.bQ.l=x.l.map λx=>.agg x.bQ.cs:=aBO;generalize x.l=l at*;have k:(l.map λx=>D.agg x.bQ.cs).length=l.length:=aCv _;have f:∀i (h:i<l.length),(l.map λx=>D.agg x.bQ.cs)[i]?=some (.agg l[i].bQ.cs):=λi h=>cY h;rw[<-j]at k f;clear j;unfold CE;generalize x.bQ=c at*;obtain⟨c1,c2,c3,p,r,s,L⟩:=c;dsimp only at k f⊢;refine aaA.ct λa ae Q o=> ?_;refine ak ?_;refine⟨bX (λi=>arG ⟨c1,c2,c3,p,r,s,L⟩ (L.take i) (a.len L) i) (λi=>i<=l.length) (λi=>l.length-i),_,⟨0,aCu _,rfl,az5⟩,?_⟩;rintro _ _ ⟨i,t,rfl,rfl⟩;dsimp only at t⊢;by_cases d:i<l.length
 .have t2:a.aB .lss (Int.ofNat i) (Int.ofNat (a.len L))=true:=by simp only[aH ae,aCy,aCA];omega
  have t3:=cH ae (f i d);have t5:=b9 ae (n:=i) az6;have aj:aL 73 [.d (.agg l[i].bQ.cs)] [] (.d (.agg l[i].bQ.cs)) []:=m l[i] (aCC d);have t8:a.app (L.take i) [.agg l[i].bQ.cs]=L.take (i+1):=by
   simp only[aH ae];rw[aDg,f i d];rfl
  have w:(L.take i).length=i:=aAG;clear m;generalize l[i].bQ=y at*;obtain⟨cb,cp,cy,kG,pc,z,A⟩:=y;dsimp only[j3.cs]at t8;generalize g:L.take (i+1)=v at*;generalize L.take i=H1 at*;refine ak ?_;exact ea (i+1) d (show l.length-(i+1)<l.length-i by omega) (by subst g;kernel_rfl)
 .have t2:a.aB .lss (Int.ofNat i) (Int.ofNat (a.len L))=false:=by simp only[aH ae,aCy,aCE];omega
  have g:L.take i=L:=aDd az6;rw[g];refine ak ?_;all_goals (subst ae;exact bS o az5 az5)
theorem adM:∀(n:Nat) (x:aD),x.w<=n->x.w<=dr->CE x:=by
 intro n;induction n with
 |zero=>intro x h;have:=x.rQ;omega
 |succ n ih=>
  intro x h m;have h1:x.l.length<=1073741824:=by
   obtain⟨k,c,j,o,a,d,l⟩:=x;have p:=D2 l;have g:200+c.length+a.length+d.length+aD.ws l<=dr:=m;unfold dr at g;show l.length<=_;omega
  refine arH x h1 λy f=> ?_;have r:y.w+200<=x.w:=by
   obtain⟨k,c,j,o,a,d,l⟩:=x;have:=u' (l:=l) f;show _<=200+c.length+a.length+d.length+aD.ws l;omega
  exact ih y az6 az6
def adN(x:bj):Prop:=aL 52 [.d (.agg x.bz.cs)] [] (.d (.agg x.bz.cs)) []
def adO:List ah:=[.d (int 0),.d (.str []),.own 16 [],.d (int 0),.d (.str []),.d (int 0),.d (int 0),.d (.str []),.d (.str []),.own 7 [],.own 1 [],.own 7 [],.own 2 [],.own 3 [],.own 2 [],.d (int 0)]
def adP(c:dO)(H X:List D):List ah:=[.d (int c.k),.d (.str c.n),.own 16 H,.d (int c.ch),.d (.str c.iG),.d (int c.j4),.d (int c.j5),.d (.str c.j6),.d (.str c.j7),.d (.list 7 c.cl),.d (.list 1 c.ns),.own 7 X,.d (.list 2 c.on),.d (.list 3 c.aw),.d (.list 2 c.ob),.d (int c.cJ)]
def arI(c:dO)(H:List D)(n i:Nat):ag:=lZ [(1,.dw 1 0),(2,.dw 2 0),(4,.d (.list 7 c.xs)),(15,.d (.list 16 c.a)),(16,.d (int (Int.ofNat n))),(17,.d (int (Int.ofNat i)))] [(1,adP c H []),(2,adO)] []
def arJ(c:dO)(X:List D)(n i:Nat):ag:=lZ [(1,.dw 1 0),(2,.dw 2 0),(29,.d (.list 7 c.xs)),(30,.d (int (Int.ofNat n))),(31,.d (int (Int.ofNat i)))] [(1,adP c c.a X),(2,adO)] []
theorem arK(c:dO)(l:List dO)(xs:List j3)(w:c.a=l.map λx=>.agg x.cs)(u:c.xs=xs.map λx=>.agg x.cs)(Z:l.length<=1073741824)(p8:xs.length<=1073741824)
  (h1:c.ns.length<=1073741824) (af:c.on.length<=1073741824) (av:c.aw.length<=1073741824) (J:c.ob.length<=1073741824)
  (bT:aL 73 [.d (.agg (j3.cs ⟨c.ch,c.iG,c.j4,c.j5,c.j6,c.j7,c.cl⟩))] [] (.d (.agg (j3.cs ⟨c.ch,c.iG,c.j4,c.j5,c.j6,c.j7,c.cl⟩))) [])
  (s:∀y∈l,aL 52 [.d (.agg y.cs)] [] (.d (.agg y.cs)) [])
  (t:∀y∈xs,aL 73 [.d (.agg y.cs)] [] (.d (.agg y.cs)) []):
  aL 52 [.d (.agg c.cs)] [] (.d (.agg c.cs)) []:=by
 have M:(l.map λx=>D.agg x.cs).length=l.length:=aCv _;have g:∀i (h:i<l.length),(l.map λx=>D.agg x.cs)[i]?=some (.agg l[i].cs):=λi h=>cY h;have K:(xs.map λx=>D.agg x.cs).length=xs.length:=aCv _;have k:∀i (h:i<xs.length),(xs.map λx=>D.agg x.cs)[i]?=some (.agg xs[i].cs):=λi h=>cY h;rw[<-w]at M g;rw[<-u]at K k;clear w u;obtain⟨c1,c2,L,A,B,F,v,G,C,E,r,X,m,o,p,z⟩:=c;dsimp only at*;have f1:=aqZ r h1;have f2:=aq0 m af;have f3:=aq1 o av;have f4:=aq2 p J;refine aaj.ct λa ae Q H=> ?_;refine ak ?_;refine⟨bX (λi=>arI ⟨c1,c2,L,A,B,F,v,G,C,E,r,X,m,o,p,z⟩ (L.take i) (a.len L) i) (λi=>i<=l.length) (λi=>l.length-i),_,⟨0,aCu _,rfl,az5⟩,?_⟩;rintro _ _ ⟨i,j,rfl,rfl⟩;dsimp only at j⊢;by_cases d:i<l.length
 .have t2:a.aB .lss (Int.ofNat i) (Int.ofNat (a.len L))=true:=by simp only[aH ae,aCy,aCA];omega
  have t3:=cH ae (g i d);have t5:=b9 ae (n:=i) az6;have aj:=s l[i] (aCC d);have t8:a.app (L.take i) [.agg l[i].cs]=L.take (i+1):=by
   simp only[aH ae];rw[aDg,g i d];rfl
  have P:(L.take i).length=i:=aAG;clear s t;generalize l[i]=y at*;obtain⟨cb,cp,cy,kG,pc,R,S,U,V,Y,ao,ar,aB,aI,aP,aQ⟩:=y;dsimp only[dO.cs]at t8;generalize f:L.take (i+1)=N at*;generalize L.take i=H1 at*;refine ak ?_;exact ea (i+1) d (show l.length-(i+1)<l.length-i by omega) (by subst f;kernel_rfl)
 have t2:a.aB .lss (Int.ofNat i) (Int.ofNat (a.len L))=false:=aAg;have f:L.take i=L:=aDd az6;rw[f];clear f s g;refine ak ?_;refine⟨bX (λi=>arJ ⟨c1,c2,L,A,B,F,v,G,C,E,r,X,m,o,p,z⟩ (X.take i) (a.len X) i) (λi=>i<=xs.length) (λi=>xs.length-i),_,⟨0,aCu _,rfl,az5⟩,?_⟩;clear j d t2 i;rintro _ _ ⟨i,j,rfl,rfl⟩;dsimp only at j⊢;by_cases d:i<xs.length
 .have t2:a.aB .lss (Int.ofNat i) (Int.ofNat (a.len X))=true:=by simp only[aH ae,aCy,aCA];omega
  have t3:=cH ae (k i d);have t5:=b9 ae (n:=i) az6;have aj:=t xs[i] (aCC d);have t8:a.app (X.take i) [.agg xs[i].cs]=X.take (i+1):=by
   simp only[aH ae];rw[aDg,k i d];rfl
  have P:(X.take i).length=i:=aAG;clear t;generalize xs[i]=y at*;obtain⟨cb,cp,cy,kG,pc,R,S⟩:=y;dsimp only[j3.cs]at t8;generalize f:X.take (i+1)=N at*;generalize X.take i=H1 at*;refine ak ?_;exact ea (i+1) d (show xs.length-(i+1)<xs.length-i by omega) (by subst f;kernel_rfl)
 have t2:a.aB .lss (Int.ofNat i) (Int.ofNat (a.len X))=false:=aAg;have f:X.take i=X:=aDd az6;rw[f];refine ak ?_;all_goals (subst ae;exact bS H az5 az5)
theorem arM:∀(n:Nat) (x:bj),x.w<=n->x.w<=dr->adN x:=by
 intro n;induction n with
 |zero=>intro x h;have:=x.Ny;omega
 |succ n ih=>
  intro x h r;have bB:=x.NA;have p:∀y∈x.l,adN y:=λy a=>by
   have:=bj.Nz a;exact ih y az6 az6
  clear bB;obtain⟨k,n,l,⟨ch,f,g,j,m,o,cl⟩,ns,c,on,aw,ob,t⟩:=x;have v:500+n.length+bj.ws l+(aD.mk ch f g j m o cl).w+fl ns+aD.ws c+j0 on+j1 aw+j2 ob<=dr:=r;have B:ns.length<=fl ns:=ko _ _;have b5:on.length<=j0 on:=ko _ _;have u:aw.length<=j1 aw:=ko _ _;have w:ob.length<=j2 ob:=ko _ _;have A:=D2 c;have s:=bj.HJ l;have C:dr=1000000000:=rfl;refine arK _ (l.map bj.bz) (c.map aD.bQ) ?_ ?_ ?_ ?_ ?_ ?_ ?_ ?_ ?_ ?_ ?_
  .show bj.ds l=_;rw[bj.kn,aDF];rfl
  .show aD.ds c=_;rw[aD.kn,aDF];rfl
  .rw[aCv];omega
  .rw[aCv];omega
  .show(ns.map D.str).length<=_;rw[aCv];omega
  .show(on.map fm).length<=_;rw[aCv];omega
  .show(aw.map eK).length<=_;rw[aCv];omega
  .show(ob.map fp).length<=_;rw[aCv];omega
  .exact adM (aD.mk ch f g j m o cl).w (aD.mk ch f g j m o cl) (aCw _) az6
  .intro y a;obtain⟨z,d,rfl⟩:=aCY.1 a;exact p z d
  .intro y a;obtain⟨z,d,rfl⟩:=aCY.1 a;have:=u' d;exact adM z.w z (aCw _) az6
structure wQ where
 n:ax
 s:Bool
 bm:List D
 k:Int
 a:Int
 b:Int
 bV:List D
 pl:dO
 code:ax
def wQ.cs(x:wQ):List D:=[.str x.n,.bool x.s,.list 2 x.bm,int x.k,int x.a,int x.b,.list 4 x.bV,int x.pl.k,.str x.pl.n,.list 16 x.pl.a,int x.pl.ch,.str x.pl.iG,int x.pl.j4,int x.pl.j5,.str x.pl.j6,.str x.pl.j7,.list 7 x.pl.cl,.list 1 x.pl.ns,.list 7 x.pl.xs,.list 2 x.pl.on,.list 3 x.pl.aw,.list 2 x.pl.ob,int x.pl.cJ,.str x.code]
theorem arO(x:wQ)(h1:x.bm.length<=1073741824)(af:x.bV.length<=1073741824)(aX:aL 52 [.d (.agg x.pl.cs)] [] (.d (.agg x.pl.cs)) []):aL 26 [.d (.agg x.cs)] [] (.d (.agg x.cs)) []:=by
 have aj:=adG x.bm h1;have aC:=aqY x.bV af;obtain⟨n,s,j,k,a,b,g,⟨c1,c2,L,m,o,u,f,A,p,t,B,X,v,w,z,l⟩,r⟩:=x;dsimp only at aj aC aX;refine Ut.ct λd ae Q c=> ?_;refine ak ?_;all_goals (subst ae;exact bS c az5 az5)
def pA(l:List cC):Nat:=(l.filter λd=>decide (d.k=3)).length
theorem adW(l:List cC):pA l<=l.length:=aEE _ _
theorem arP(l:List cC)(d:cC):pA (l++[d])=pA l+(if d.k=3 then 1 else 0):=by
 unfold pA;rw[aE1,aCF];by_cases h:d.k=3
 .simp[h]
 .simp[h]
def arQ(L:List D)(s n i:Nat):ag:=cA [(0,.d (.list 25 L)),(3,.d (int (Int.ofNat s))),(6,.d (.list 25 L)),(7,.d (int (Int.ofNat n))),(8,.d (int (Int.ofNat i)))] []
theorem arR(l:List cC)(A:l.length<=1073741824):∃b:Bool,(b=false->pA l<=32/\l.length-pA l<=32)/\aL 64 [.d (.list 25 (l.map cC.d))] [] (.d (.bool b)) []:=by
 refine eW ?_;have r:(l.map cC.d).length=l.length:=aCv _;have o:∀i (h:i<l.length),(l.map cC.d)[i]?=some (.agg l[i].dX.cs):=λi h=>cY h;generalize l.map cC.d=L at*;refine UD.cn _ λa ae K g=> ?_;refine ak ?_;refine⟨bX (λz:Nat×Nat=>arQ L z.1 (a.len L) z.2) (λz=>z.2<=l.length/\z.1=pA (l.take z.2)) λz=>l.length-z.2,_,⟨(0,0),⟨aCu _,rfl⟩,rfl,az5⟩,?_⟩;rintro _ _ ⟨⟨s,i⟩,⟨t,j⟩,rfl,rfl⟩;dsimp only at t j⊢;have E:s<=i:=by have:=adW (l.take i);rw[aDk]at this;omega
 by_cases f:i<l.length
 .have t2:a.aB .lss (Int.ofNat i) (Int.ofNat (a.len L))=true:=by simp only[aH ae,aCy,aCA];omega
  have t3:=cH ae (o i f);have t5:=b9 ae (n:=i) az6;have t6:=b9 ae (n:=s) az6;have d:pA (l.take (i+1))=s+(if l[i].k=3 then 1 else 0):=by
   rw[aDg,aCB f,j];exact arP _ _
  have c:l[i].k=l[i].dX.k:=rfl;rw[c]at d;clear c;generalize l[i].dX=y at*;obtain⟨k,cb,cp,cy,kG,pc,F,G,v,w⟩:=y;dsimp only at d;by_cases c:k=3
  .have cI:a.aB .eql k 3=true:=by simp only[aH ae,aCA];exact c
   rw[aCT c]at d;refine ak ?_;repeat' (split<;>refine ak ?_)
   exact fixF (s+1,i+1) ⟨f,d.symm⟩
  .have cI:a.aB .eql k 3=false:=by simp only[aH ae,aCE];exact c
   rw[aCV c]at d;refine ak ?_;repeat' (split<;>refine ak ?_)
   exact fixF (s,i+1) ⟨f,d.symm⟩
 .have t2:a.aB .lss (Int.ofNat i) (Int.ofNat (a.len L))=false:=by simp only[aH ae,aCy,aCE];omega
  have B:s=pA l:=by rw[j,aDd az6]
  have C:=adW l;have t7:a.io .sub .i64 (Int.ofNat (a.len L)) (Int.ofNat s)=Int.ofNat (l.length-s):=by
   have h1:a.len L=l.length:=by simp only[aH ae];exact r
   rw[h1,DA ae aAo aAo];simp only[aCy];omega
  obtain⟨m,u⟩:∃m,m=l.length-s:=⟨_,rfl⟩;rw[<-u]at t7;cases cI:a.aB .gtr (Int.ofNat s) 32 with
  |true=>
   refine ak ?_;repeat' (split<;>refine ak ?_)
   all_goals exact g _ _ ⟨true,(λh=>aAb),rfl,az5⟩
  |false=>
  cases d':a.aB .gtr (Int.ofNat m) 32 with
  |true=>
   refine ak ?_;repeat' (split<;>refine ak ?_)
   all_goals exact g _ _ ⟨true,(λh=>aAb),rfl,az5⟩
  |false=>
   simp only[aH ae,aCE,aCy]at cI d';have p:pA l<=32/\l.length-pA l<=32:=az6;have q1:a.aB .gtr (Int.ofNat s) 32=false:=by simp only[aH ae,aCE,aCy];exact cI
   have bG:a.aB .gtr (Int.ofNat m) 32=false:=by simp only[aH ae,aCE,aCy];exact d'
   refine ak ?_;repeat' (split<;>refine ak ?_)
   all_goals exact g _ _ ⟨false,(λ_=>p),rfl,az5⟩
end Go.Proofs.YthffhbakgmemaaaGreatDoor
