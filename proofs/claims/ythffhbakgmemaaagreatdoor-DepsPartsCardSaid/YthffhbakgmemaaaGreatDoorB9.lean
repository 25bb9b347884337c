/- Part of parts_said. -/
import Derived.Test.YthffhbakgmemaaaGreatDoorB8
set_option maxRecDepth 100000
set_option maxHeartbeats 8000000
set_option linter.unusedSimpArgs false
set_option linter.unusedVariables false
namespace Go.Proofs.YthffhbakgmemaaaGreatDoor
open Go Go.aG
attribute [local irreducible] bD
theorem NK(s:ax)(c:UInt8):aL 193 [.d (.str s),.d (.str [c])] [] (.func 267 [] [.ptr 1 0,.ptr 0 0,.ptr 2 0]) [.box [.d (.str s)],.box [.d (.str [c])],.box [.d (int 0)]]:=by
 have aj:aL 230 [.d (.str s),.d (.str [c]),.d (int 0)] [] (.func 267 [] [.ptr 1 0,.ptr 0 0,.ptr 2 0]) [.box [.d (.str s)],.box [.d (.str [c])],.box [.d (int 0)]]:=by
  refine XE.ct λd ae Q a=> ?_;refine ak ?_
  (subst ae;exact bS a az5 az5)
 refine Y5.ct λd ae Q a=> ?_;refine ak ?_
 (subst ae;exact bS a az5 az5)
structure mL where
 a0:Int
 bp:Int
 a2:Int
 a3:Int
 a4:Int
 mA:Bool
 bq:Bool
 aT:Bool
 b3:Bool
 iH:Bool
def mL.cs(c:mL):List D:=[.int .u64 c.a0,.int .u64 c.bp,.int .u64 c.a2,.int .u64 c.a3,.int .u64 c.a4,.bool c.mA,.bool c.bq,.bool c.aT,.bool c.b3,.bool c.iH]
def mM:mL:=⟨0,0,0,0,0,false,false,false,false,false⟩
def Bj(s:aY):mL:=match s.getD 7 .dead with
 |.box [.d (.int _ a0),.d (.int _ bp),.d (.int _ a2),.d (.int _ a3),.d (.int _ a4),.d (.bool mA),.d (.bool bq),.d (.bool aT),.d (.bool b3),.d (.bool iH)]=>⟨a0,bp,a2,a3,a4,mA,bq,aT,b3,iH⟩
 |_=>mM
def asB(x:ax)(P:List D):ag:=cA [(0,.f' 6),(1,.ptr 4 0),(2,.ptr 3 0),(3,.ptr 5 0)] [.box (mM.cs.map .d),.box [.d (int 0)],.box [.own 1 P],.box [.d (.str x)],.box [.d (.str [32])],.box [.d (int 0)],.dead]
def ad9(x:ax)(P:List D)(n i:Nat)(c:mL):ag:=cA [(2,.ptr 0 0),(3,.ptr 1 0),(6,.ptr 7 0),(33,.d (.list 1 P)),(34,.d (int (Int.ofNat n))),(35,.d (int (Int.ofNat i)))] [.box (mM.cs.map .d),.box [.d (int 0)],.box [.own 1 P],.box [.d (.str x)],.box [.d (.str [32])],.box [.d (int 0)],.dead,.box (c.cs.map .d)]
def ad'(x:ax)(P:List D)(k:Int)(y:ax)(c:mL):ag:=cA [(0,.f' 12),(1,.ptr 10 0),(2,.ptr 9 0),(3,.ptr 11 0)] [.box (mM.cs.map .d),.box [.d (int 0)],.box [.own 1 P],.box [.d (.str x)],.box [.d (.str [32])],.box [.d (int 0)],.dead,.box (c.cs.map .d),.box [.d (int k)],.box [.d (.str y)],.box [.d (.str [44])],.box [.d (int 0)],.dead]
def NL(k:Int):Prop:=∀a:ax,a.length<=1073741824->∃(r e:Int),aL 196 [.d (int k),.d (.str a)] [] (.tuple [.d (.int .u64 r),.d (int e)]) []
def keyOf{k:Int}(a:NL k):Int:=k
theorem asC(s:ax)(hs:s.length<=1073741824):∃(c:mL) (e:Int),aL 143 [.d (.str s)] [] (.tuple [.d (.agg c.cs),.d (int e)]) []:=by
 suffices h:∃r s',(∃(c:mL) (e:Int),r=.tuple [.d (.agg c.cs),.d (int e)]/\s'=[])/\aL 143 [.d (.str s)] [] r s' by
  obtain⟨_,_,⟨c,e,rfl,rfl⟩,h⟩:=h;exact⟨c,e,h⟩
 have aj:=NK s 32;obtain⟨bq,aC⟩:=asx s 32;obtain⟨aT,aX⟩:=asy s 32 hs;refine U8.cn _ λa ae aB l=> ?_;have u8:a.dK [32]=1:=aAK;have lC:a.dK [44]=1:=aAK;have eI:∀x,a.dK x=x.length:=λx=>aBo;have fH:a.aB .eql (Int.ofNat 1) 0=false:=by rw[e6 ae];rfl
 have q1:a.aB .lss (-1) 0=true:=aAZ;refine ak ?_;refine⟨Ds,Hb,?_⟩;refine ak ?_;refine⟨bX (λz:ax×List D=>asB z.1 z.2) (λz=>∃o:List ax,z.2=o.map .str/\(∀p∈o,p.length<=1073741824)/\o.length+z.1.length<=s.length) (λz=>z.1.length),_,⟨(s,[]),⟨[],rfl,λ_ h=>(aC5 h).elim,by show 0+s.length<=_;omega⟩,rfl,az5⟩,?_⟩;clear aj;rintro _ _ ⟨⟨x,P⟩,⟨o,v,E,Y⟩,rfl,rfl⟩;dsimp only at v Y⊢;have ar:P.length=o.length:=by rw[v,aCv]
 obtain⟨r,F,M⟩:=NJ x 32;rcases F with rfl|⟨k,hk,rfl⟩
 .cases tg:a.bm .neq x []with
  |true=>
  obtain⟨d,hD⟩:∃d,a.app P [.str x]=d:=⟨_,rfl⟩
  obtain⟨j,A,L⟩:∃j:List ax,d=j.map .str/\∀p∈j,p.length<=1073741824:=⟨o++[x],by rw[<-hD,ae,v,aCR];rfl,λp hp=>by
    rcases aC9.1 hp with hp|hp
    .exact E p hp
    .rw[aCS.1 hp];omega⟩
  clear E;by_cases G:d.length=5
  .have t5:a.aB .neq (Int.ofNat (a.len d)) 5=false:=by simp only[aH ae,aCy,aDB,aCA];omega
   cases bq with
   |true=>
    refine ak ?_;exact l _ _ ⟨mM,20,rfl,az5⟩
   |false=>
   cases aT with
   |true=>
    refine ak ?_;exact l _ _ ⟨mM,20,rfl,az5⟩
   |false=>
   refine ak ?_;refine⟨bX (λz:Nat×mL=>ad9 x d (a.len d) z.1 z.2) (λz=>z.1<=5) (λz=>5-z.1),_,⟨(0,mM),aCu _,rfl,az5⟩,?_⟩;clear aC aX M tg hD t5 v ar Y;rintro _ _ ⟨⟨i,c⟩,J,rfl,rfl⟩;dsimp only at J⊢;by_cases U:i<5
   .have g1:a.aB .lss (Int.ofNat i) (Int.ofNat (a.len d))=true:=by simp only[aH ae,aCy,aCA];omega
    have g3:=b9 ae (n:=i) az6;have w:i<j.length:=by rw[A,aCv]at G;omega
    have g2:a.get d (Int.ofNat i)=.str j[i]:=cH ae (by rw[A];exact cY w);have iC:=L _ (aCC w);have C:(Int.ofNat i:Int)=0\/(Int.ofNat i:Int)=1\/(Int.ofNat i:Int)=2\/(Int.ofNat i:Int)=3\/(Int.ofNat i:Int)=4:=aAo;obtain⟨gA,lF⟩:=ad5 (Int.ofNat i) C;have B:NL (Int.ofNat i):=λai h=>ad8 _ C ai h;have aF:a.dS 1 1 (Int.ofNat i) (a.len d)=true:=aCi;clear C;generalize j[i]=p at*;have V:=NK p 44;obtain⟨Q,bp,a2,a3,R,Z,m1,m2,m3,m4⟩:=c;obtain⟨g,mX⟩:∃m,m=i+1:=⟨_,rfl⟩;rw[<-mX]at g3;have N:i=0\/i=1\/i=2\/i=3\/i=4:=az6;clear J w U G A L;rcases N with rfl|rfl|rfl|rfl|rfl
    all_goals
     cases pv:a.bm .eql p [42]with
     |true=>
      refine ak ?_;exact vb (λu=>(g,Bj u.s)) (show g<=5 by omega) (show 5-g<_ by show _<5-_;omega) az5
     |false=>
      refine ak ?_;refine⟨Ds,Hb,?_⟩;refine ak ?_;refine⟨bX (λz:ax×mL=>ad' x d (keyOf B) z.1 z.2) (λz=>z.1.length<=p.length) (λz=>z.1.length),_,⟨(p,⟨Q,bp,a2,a3,R,Z,m1,m2,m3,m4⟩),aCw _,rfl,az5⟩,?_⟩;clear V;rintro _ _ ⟨⟨y,c⟩,S,rfl,rfl⟩;dsimp only at S⊢;obtain⟨c0,c1,c2,c3,c4,n0,hy,jG,sS,n4⟩:=c;obtain⟨r,F,M⟩:=NJ y 44;rcases F with rfl|⟨k,hk,rfl⟩
      .obtain⟨cq,t,X⟩:=B y az6;cases qu:a.aB .neq t 0 with
       |true=>
        refine ak ?_;exact l _ _ ⟨mM,t,rfl,az5⟩
       |false=>
        refine ak ?_;exact vb (λu=>(g,Bj u.s)) (show g<=5 by omega) (show 5-g<_ by show _<5-_;omega) az5
      .have t1:a.aB .lss (Int.ofNat k) 0=false:=by simp only[aH ae,aCE,aCy];omega
       have t2:a.io .add .i64 (Int.ofNat k) 0=Int.ofNat k:=aBP;have t3:a.io .add .i64 (Int.ofNat k) (Int.ofNat 1)=Int.ofNat (k+1):=b9 ae (n:=k) az6;have t4:a.nn 0 (Int.ofNat k) (a.dK y)=true:=aA0;have t5:a.nn (Int.ofNat (k+1)) (Int.ofNat (a.dK y)) (a.dK y)=true:=aA0;have l1:(a.gN y 0 (Int.ofNat k)).length<=1073741824:=aBQ;have K:(a.gN y (Int.ofNat (k+1)) (Int.ofNat (a.dK y))).length+k+1<=y.length:=aBR;obtain⟨f,H⟩:∃m,m=k+1:=⟨_,rfl⟩;rw[<-H]at t3 t5 K;obtain⟨cq,t,X⟩:=B (a.gN y 0 (Int.ofNat k)) l1;cases qu:a.aB .neq t 0 with
       |true=>
        refine ak ?_;exact l _ _ ⟨mM,t,rfl,az5⟩
       |false=>
        refine ak ?_;exact vb (λu=>(a.gN y (Int.ofNat f) (Int.ofNat (a.dK y)),Bj u.s)) (show(a.gN y (Int.ofNat f) (Int.ofNat (a.dK y))).length<=p.length by omega) (show(a.gN y (Int.ofNat f) (Int.ofNat (a.dK y))).length<y.length by omega) az5
   .have g1:a.aB .lss (Int.ofNat i) (Int.ofNat (a.len d))=false:=by simp only[aH ae,aCy,aCE];omega
    refine ak ?_;exact l _ _ ⟨c,0,rfl,az5⟩
  .have t5:a.aB .neq (Int.ofNat (a.len d)) 5=true:=by simp only[aH ae,aCy,aCX,aCE];omega
   refine ak ?_;exact l _ _ ⟨mM,20,rfl,az5⟩
  |false=>
  obtain⟨d,hD⟩:∃d,P=d:=⟨_,rfl⟩;obtain⟨j,A,L⟩:∃j:List ax,d=j.map .str/\∀p∈j,p.length<=1073741824:=⟨o,by rw[<-hD,v],E⟩;clear E;by_cases G:d.length=5
  .have t5:a.aB .neq (Int.ofNat (a.len d)) 5=false:=by simp only[aH ae,aCy,aDB,aCA];omega
   cases bq with
   |true=>
    refine ak ?_;exact l _ _ ⟨mM,20,rfl,az5⟩
   |false=>
   cases aT with
   |true=>
    refine ak ?_;exact l _ _ ⟨mM,20,rfl,az5⟩
   |false=>
   refine ak ?_;refine⟨bX (λz:Nat×mL=>ad9 x d (a.len d) z.1 z.2) (λz=>z.1<=5) (λz=>5-z.1),_,⟨(0,mM),aCu _,rfl,az5⟩,?_⟩;clear aC aX M tg hD t5 v ar Y;rintro _ _ ⟨⟨i,c⟩,J,rfl,rfl⟩;dsimp only at J⊢;by_cases U:i<5
   .have g1:a.aB .lss (Int.ofNat i) (Int.ofNat (a.len d))=true:=by simp only[aH ae,aCy,aCA];omega
    have g3:=b9 ae (n:=i) az6;have w:i<j.length:=by rw[A,aCv]at G;omega
    have g2:a.get d (Int.ofNat i)=.str j[i]:=cH ae (by rw[A];exact cY w);have iC:=L _ (aCC w);have C:(Int.ofNat i:Int)=0\/(Int.ofNat i:Int)=1\/(Int.ofNat i:Int)=2\/(Int.ofNat i:Int)=3\/(Int.ofNat i:Int)=4:=aAo;obtain⟨gA,lF⟩:=ad5 (Int.ofNat i) C;have B:NL (Int.ofNat i):=λai h=>ad8 _ C ai h;have aF:a.dS 1 1 (Int.ofNat i) (a.len d)=true:=aCi;clear C;generalize j[i]=p at*;have V:=NK p 44;obtain⟨Q,bp,a2,a3,R,Z,m1,m2,m3,m4⟩:=c;obtain⟨g,mX⟩:∃m,m=i+1:=⟨_,rfl⟩;rw[<-mX]at g3;have N:i=0\/i=1\/i=2\/i=3\/i=4:=az6;clear J w U G A L;rcases N with rfl|rfl|rfl|rfl|rfl
    all_goals
     cases pv:a.bm .eql p [42]with
     |true=>
      refine ak ?_;exact vb (λu=>(g,Bj u.s)) (show g<=5 by omega) (show 5-g<_ by show _<5-_;omega) az5
     |false=>
      refine ak ?_;refine⟨Ds,Hb,?_⟩;refine ak ?_;refine⟨bX (λz:ax×mL=>ad' x d (keyOf B) z.1 z.2) (λz=>z.1.length<=p.length) (λz=>z.1.length),_,⟨(p,⟨Q,bp,a2,a3,R,Z,m1,m2,m3,m4⟩),aCw _,rfl,az5⟩,?_⟩;clear V;rintro _ _ ⟨⟨y,c⟩,S,rfl,rfl⟩;dsimp only at S⊢;obtain⟨c0,c1,c2,c3,c4,n0,hy,jG,sS,n4⟩:=c;obtain⟨r,F,M⟩:=NJ y 44;rcases F with rfl|⟨k,hk,rfl⟩
      .obtain⟨cq,t,X⟩:=B y az6;cases qu:a.aB .neq t 0 with
       |true=>
        refine ak ?_;exact l _ _ ⟨mM,t,rfl,az5⟩
       |false=>
        refine ak ?_;exact vb (λu=>(g,Bj u.s)) (show g<=5 by omega) (show 5-g<_ by show _<5-_;omega) az5
      .have t1:a.aB .lss (Int.ofNat k) 0=false:=by simp only[aH ae,aCE,aCy];omega
       have t2:a.io .add .i64 (Int.ofNat k) 0=Int.ofNat k:=aBP;have t3:a.io .add .i64 (Int.ofNat k) (Int.ofNat 1)=Int.ofNat (k+1):=b9 ae (n:=k) az6;have t4:a.nn 0 (Int.ofNat k) (a.dK y)=true:=aA0;have t5:a.nn (Int.ofNat (k+1)) (Int.ofNat (a.dK y)) (a.dK y)=true:=aA0;have l1:(a.gN y 0 (Int.ofNat k)).length<=1073741824:=aBQ;have K:(a.gN y (Int.ofNat (k+1)) (Int.ofNat (a.dK y))).length+k+1<=y.length:=aBR;obtain⟨f,H⟩:∃m,m=k+1:=⟨_,rfl⟩;rw[<-H]at t3 t5 K;obtain⟨cq,t,X⟩:=B (a.gN y 0 (Int.ofNat k)) l1;cases qu:a.aB .neq t 0 with
       |true=>
        refine ak ?_;exact l _ _ ⟨mM,t,rfl,az5⟩
       |false=>
        refine ak ?_;exact vb (λu=>(a.gN y (Int.ofNat f) (Int.ofNat (a.dK y)),Bj u.s)) (show(a.gN y (Int.ofNat f) (Int.ofNat (a.dK y))).length<=p.length by omega) (show(a.gN y (Int.ofNat f) (Int.ofNat (a.dK y))).length<y.length by omega) az5
   .have g1:a.aB .lss (Int.ofNat i) (Int.ofNat (a.len d))=false:=by simp only[aH ae,aCy,aCE];omega
    refine ak ?_;exact l _ _ ⟨c,0,rfl,az5⟩
  .have t5:a.aB .neq (Int.ofNat (a.len d)) 5=true:=by simp only[aH ae,aCy,aCX,aCE];omega
   refine ak ?_;exact l _ _ ⟨mM,20,rfl,az5⟩
 .have t1:a.aB .lss (Int.ofNat k) 0=false:=by simp only[aH ae,aCE,aCy];omega
  have t2:a.io .add .i64 (Int.ofNat k) 0=Int.ofNat k:=aBP;have t3:a.io .add .i64 (Int.ofNat k) (Int.ofNat 1)=Int.ofNat (k+1):=b9 ae (n:=k) az6;have t4:a.nn 0 (Int.ofNat k) (a.dK x)=true:=aA0;have t5:a.nn (Int.ofNat (k+1)) (Int.ofNat (a.dK x)) (a.dK x)=true:=aA0;have l1:(a.gN x 0 (Int.ofNat k)).length<=1073741824:=aBQ;have K:(a.gN x (Int.ofNat (k+1)) (Int.ofNat (a.dK x))).length+k+1<=x.length:=aBR;obtain⟨f,H⟩:∃m,m=k+1:=⟨_,rfl⟩;rw[<-H]at t3 t5 K;refine ak ?_;repeat' (split<;>refine ak ?_)
  .exact ea (a.gN x (Int.ofNat f) (Int.ofNat (a.dK x)),a.app P [.str (a.gN x 0 (Int.ofNat k))]) ⟨o++[a.gN x 0 (Int.ofNat k)],by rw[ae,v,aCR];rfl,λp hp=>by
    rcases aC9.1 hp with hp|hp
    .exact E p hp
    .rw[aCS.1 hp];exact l1,by show(o++[_]).length+(a.gN x (Int.ofNat f) (Int.ofNat (a.dK x))).length<=_;rw[aCF];show o.length+1+_<=_;omega⟩ (show(a.gN x (Int.ofNat f) (Int.ofNat (a.dK x))).length<x.length by omega) az5
  .exact ea (a.gN x (Int.ofNat f) (Int.ofNat (a.dK x)),P) ⟨o,v,E,by show o.length+(a.gN x (Int.ofNat f) (Int.ofNat (a.dK x))).length<=_;omega⟩ (show(a.gN x (Int.ofNat f) (Int.ofNat (a.dK x))).length<x.length by omega) az5
end Go.Proofs.YthffhbakgmemaaaGreatDoor
