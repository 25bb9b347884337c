/- Part of ranges_said. -/
import Derived.Test.YthffhbakgmemaaaGreatDoorB8
set_option maxRecDepth 100000
set_option maxHeartbeats 8000000
set_option linter.unusedSimpArgs false
set_option linter.unusedVariables false
namespace Go.Proofs.YthffhbakgmemaaaGreatDoor
open Go Go.aH
attribute [local irreducible] bG
theorem ML(s:aw)(c:UInt8):aM 193 [.d (.str s),.d (.str [c])] [] (.func 267 [] [.ptr 1 0,.ptr 0 0,.ptr 2 0]) [.box [.d (.str s)],.box [.d (.str [c])],.box [.d (int 0)]]:=by
 have aj:aM 230 [.d (.str s),.d (.str [c]),.d (int 0)] [] (.func 267 [] [.ptr 1 0,.ptr 0 0,.ptr 2 0]) [.box [.d (.str s)],.box [.d (.str [c])],.box [.d (int 0)]]:=by
  refine aED.cn λad ae Q aV=> ?_;refine af ?_
  (subst ae;exact bZ aV axV axV)
 refine CV.cn λad ae Q aV=> ?_;refine af ?_
 (subst ae;exact bZ aV axV axV)
structure lK where
 a0:Int
 bw:Int
 a2:Int
 a3:Int
 a4:Int
 l7:Bool
 bJ:Bool
 a6:Bool
 cq:Bool
 im:Bool
def lK.cs(c:lK):List D:=[.int .u64 c.a0,.int .u64 c.bw,.int .u64 c.a2,.int .u64 c.a3,.int .u64 c.a4,.bool c.l7,.bool c.bJ,.bool c.a6,.bool c.cq,.bool c.im]
def mq:lK:=⟨0,0,0,0,0,false,false,false,false,false⟩
def AF(s:aU):lK:=match s.getD 7 .dead with
 |.box [.d (.int _ a0),.d (.int _ bw),.d (.int _ a2),.d (.int _ a3),.d (.int _ a4),.d (.bool l7),.d (.bool bJ),.d (.bool a6),.d (.bool cq),.d (.bool im)]=>⟨a0,bw,a2,a3,a4,l7,bJ,a6,cq,im⟩
 |_=>mq
def arl(x:aw)(P:List D):ag:=cx [(0,.fY 6),(1,.ptr 4 0),(2,.ptr 3 0),(3,.ptr 5 0)] [.box (mq.cs.map .d),.box [.d (int 0)],.box [.own 1 P],.box [.d (.str x)],.box [.d (.str [32])],.box [.d (int 0)],.dead]
def acS(x:aw)(P:List D)(n i:Nat)(c:lK):ag:=cx [(2,.ptr 0 0),(3,.ptr 1 0),(6,.ptr 7 0),(33,.d (.list 1 P)),(34,.d (int (Int.ofNat n))),(35,.d (int (Int.ofNat i)))] [.box (mq.cs.map .d),.box [.d (int 0)],.box [.own 1 P],.box [.d (.str x)],.box [.d (.str [32])],.box [.d (int 0)],.dead,.box (c.cs.map .d)]
def acT(x:aw)(P:List D)(k:Int)(y:aw)(c:lK):ag:=cx [(0,.fY 12),(1,.ptr 10 0),(2,.ptr 9 0),(3,.ptr 11 0)] [.box (mq.cs.map .d),.box [.d (int 0)],.box [.own 1 P],.box [.d (.str x)],.box [.d (.str [32])],.box [.d (int 0)],.dead,.box (c.cs.map .d),.box [.d (int k)],.box [.d (.str y)],.box [.d (.str [44])],.box [.d (int 0)],.dead]
def MN(k:Int):Prop:=∀one:aw,one.length<=1073741824->∃(r e:Int),aM 196 [.d (int k),.d (.str one)] [] (.tuple [.d (.int .u64 r),.d (int e)]) []
def keyOf{k:Int}(OY:MN k):Int:=k
theorem arn(s:aw)(hs:s.length<=1073741824):∃(c:lK) (e:Int),aM 143 [.d (.str s)] [] (.tuple [.d (.agg c.cs),.d (int e)]) []:=by
 suffices h:∃r s',(∃(c:lK) (e:Int),r=.tuple [.d (.agg c.cs),.d (int e)]/\s'=[])/\aM 143 [.d (.str s)] [] r s' by
  obtain⟨_,_,⟨c,e,rfl,rfl⟩,h⟩:=h;exact⟨c,e,h⟩
 have aj:=ML s 32;obtain⟨bJ,aF⟩:=arh s 32;obtain⟨a6,aZ⟩:=ari s 32 hs;refine Lx.cu _ λad ae K ao=> ?_;have u8:ad.ev [32]=1:=ayz;have nF:ad.ev [44]=1:=ayz;have ey:∀x,ad.ev x=x.length:=λx=>ay9;have fG:ad.aD .eql (Int.ofNat 1) 0=false:=by rw[e8 ae];rfl
 have q1:ad.aD .lss (-1) 0=true:=ayX;refine af ?_;refine⟨aDu,aDA,?_⟩;refine af ?_;refine⟨bX (λz:aw×List D=>arl z.1 z.2) (λz=>∃ps:List aw,z.2=ps.map .str/\(∀p∈ps,p.length<=1073741824)/\ps.length+z.1.length<=s.length) (λz=>z.1.length),_,⟨(s,[]),⟨[],rfl,λ_ h=>(aAO h).elim,by show 0+s.length<=_;omega⟩,rfl,axV⟩,?_⟩;clear aj;rintro _ _ ⟨⟨x,P⟩,⟨ps,jF,jQ,hle⟩,rfl,rfl⟩;dsimp only at jF hle⊢;have acU:P.length=ps.length:=by rw[jF,aAb]
 obtain⟨r,ax,bP⟩:=MK x 32;rcases ax with rfl|⟨k,aq,rfl⟩
 .cases xS:ad.bq .neq x []with
  |true=>
  obtain⟨iO,jH⟩:∃iO,ad.app P [.str x]=iO:=⟨_,rfl⟩
  obtain⟨o8,wg,vC⟩:∃o8:List aw,iO=o8.map .str/\∀p∈o8,p.length<=1073741824:=⟨ps++[x],by rw[<-jH,ae,jF,aAy];rfl,λp hp=>by
    rcases aAT.1 hp with hp|hp
    .exact jQ p hp
    .rw[aAF.1 hp];omega⟩
  clear jQ;by_cases bL:iO.length=5
  .have t5:ad.aD .neq (Int.ofNat (ad.len iO)) 5=false:=by simp only[aJ ae,aAh,aBf,aAi];omega
   cases bJ with
   |true=>
    refine af ?_;exact ao _ _ ⟨mq,20,rfl,axV⟩
   |false=>
   cases a6 with
   |true=>
    refine af ?_;exact ao _ _ ⟨mq,20,rfl,axV⟩
   |false=>
   refine af ?_;refine⟨bX (λz:Nat×lK=>acS x iO (ad.len iO) z.1 z.2) (λz=>z.1<=5) (λz=>5-z.1),_,⟨(0,mq),aAa _,rfl,axV⟩,?_⟩;clear aF aZ bP xS jH t5 jF acU hle;rintro _ _ ⟨⟨i,c⟩,hi,rfl,rfl⟩;dsimp only at hi⊢;by_cases aA:i<5
   .have g1:ad.aD .lss (Int.ofNat i) (Int.ofNat (ad.len iO))=true:=by simp only[aJ ae,aAh,aAi];omega
    have g3:=cd ae (n:=i) axW;have k4:i<o8.length:=by rw[wg,aAb]at bL;omega
    have g2:ad.get iO (Int.ofNat i)=.str o8[i]:=cz ae (by rw[wg];exact c7 k4);have lY:=vC _ (aAl k4);have ri:(Int.ofNat i:Int)=0\/(Int.ofNat i:Int)=1\/(Int.ofNat i:Int)=2\/(Int.ofNat i:Int)=3\/(Int.ofNat i:Int)=4:=ayu;obtain⟨aro,o9⟩:=acO (Int.ofNat i) ri;have p9:MN (Int.ofNat i):=λone h=>acR _ ri one h;have aC:ad.er 1 1 (Int.ofNat i) (ad.len iO)=true:=azW;clear ri;generalize o8[i]=p at*;have cK:=ML p 44;obtain⟨a0,bw,a2,a3,a4,m0,m1,m2,m3,m4⟩:=c;obtain⟨i1,nY⟩:∃m,m=i+1:=⟨_,rfl⟩;rw[<-nY]at g3;have MO:i=0\/i=1\/i=2\/i=3\/i=4:=axW;clear hi k4 aA bL wg vC;rcases MO with rfl|rfl|rfl|rfl|rfl
    all_goals
     cases vK:ad.bq .eql p [42]with
     |true=>
      refine af ?_;exact uA (λst=>(i1,AF st.s)) (show i1<=5 by omega) (show 5-i1<_ by show _<5-_;omega) axV
     |false=>
      refine af ?_;refine⟨aDu,aDA,?_⟩;refine af ?_;refine⟨bX (λz:aw×lK=>acT x iO (keyOf p9) z.1 z.2) (λz=>z.1.length<=p.length) (λz=>z.1.length),_,⟨(p,⟨a0,bw,a2,a3,a4,m0,m1,m2,m3,m4⟩),aAd _,rfl,axV⟩,?_⟩;clear cK;rintro _ _ ⟨⟨y,c⟩,wa,rfl,rfl⟩;dsimp only at wa⊢;obtain⟨c0,c1,c2,c3,c4,n0,gG,ic,vd,n4⟩:=c;obtain⟨r,ax,bP⟩:=MK y 44;rcases ax with rfl|⟨k,aq,rfl⟩
      .obtain⟨b5,rj,dO⟩:=p9 y axW;cases uj:ad.aD .neq rj 0 with
       |true=>
        refine af ?_;exact ao _ _ ⟨mq,rj,rfl,axV⟩
       |false=>
        refine af ?_;exact uA (λst=>(i1,AF st.s)) (show i1<=5 by omega) (show 5-i1<_ by show _<5-_;omega) axV
      .have t1:ad.aD .lss (Int.ofNat k) 0=false:=by simp only[aJ ae,aAp,aAh];omega
       have t2:ad.io .add .i64 (Int.ofNat k) 0=Int.ofNat k:=azx;have t3:ad.io .add .i64 (Int.ofNat k) (Int.ofNat 1)=Int.ofNat (k+1):=cd ae (n:=k) axW;have t4:ad.oY 0 (Int.ofNat k) (ad.ev y)=true:=ayM;have t5:ad.oY (Int.ofNat (k+1)) (Int.ofNat (ad.ev y)) (ad.ev y)=true:=ayM;have l1:(ad.iK y 0 (Int.ofNat k)).length<=1073741824:=azy;have l2:(ad.iK y (Int.ofNat (k+1)) (Int.ofNat (ad.ev y))).length+k+1<=y.length:=azz;obtain⟨k1,fQ⟩:∃m,m=k+1:=⟨_,rfl⟩;rw[<-fQ]at t3 t5 l2;obtain⟨b5,rj,dO⟩:=p9 (ad.iK y 0 (Int.ofNat k)) l1;cases uj:ad.aD .neq rj 0 with
       |true=>
        refine af ?_;exact ao _ _ ⟨mq,rj,rfl,axV⟩
       |false=>
        refine af ?_;exact uA (λst=>(ad.iK y (Int.ofNat k1) (Int.ofNat (ad.ev y)),AF st.s)) (show(ad.iK y (Int.ofNat k1) (Int.ofNat (ad.ev y))).length<=p.length by omega) (show(ad.iK y (Int.ofNat k1) (Int.ofNat (ad.ev y))).length<y.length by omega) axV
   .have g1:ad.aD .lss (Int.ofNat i) (Int.ofNat (ad.len iO))=false:=by simp only[aJ ae,aAh,aAp];omega
    refine af ?_;exact ao _ _ ⟨c,0,rfl,axV⟩
  .have t5:ad.aD .neq (Int.ofNat (ad.len iO)) 5=true:=by simp only[aJ ae,aAh,aAE,aAp];omega
   refine af ?_;exact ao _ _ ⟨mq,20,rfl,axV⟩
  |false=>
  obtain⟨iO,jH⟩:∃iO,P=iO:=⟨_,rfl⟩;obtain⟨o8,wg,vC⟩:∃o8:List aw,iO=o8.map .str/\∀p∈o8,p.length<=1073741824:=⟨ps,by rw[<-jH,jF],jQ⟩;clear jQ;by_cases bL:iO.length=5
  .have t5:ad.aD .neq (Int.ofNat (ad.len iO)) 5=false:=by simp only[aJ ae,aAh,aBf,aAi];omega
   cases bJ with
   |true=>
    refine af ?_;exact ao _ _ ⟨mq,20,rfl,axV⟩
   |false=>
   cases a6 with
   |true=>
    refine af ?_;exact ao _ _ ⟨mq,20,rfl,axV⟩
   |false=>
   refine af ?_;refine⟨bX (λz:Nat×lK=>acS x iO (ad.len iO) z.1 z.2) (λz=>z.1<=5) (λz=>5-z.1),_,⟨(0,mq),aAa _,rfl,axV⟩,?_⟩;clear aF aZ bP xS jH t5 jF acU hle;rintro _ _ ⟨⟨i,c⟩,hi,rfl,rfl⟩;dsimp only at hi⊢;by_cases aA:i<5
   .have g1:ad.aD .lss (Int.ofNat i) (Int.ofNat (ad.len iO))=true:=by simp only[aJ ae,aAh,aAi];omega
    have g3:=cd ae (n:=i) axW;have k4:i<o8.length:=by rw[wg,aAb]at bL;omega
    have g2:ad.get iO (Int.ofNat i)=.str o8[i]:=cz ae (by rw[wg];exact c7 k4);have lY:=vC _ (aAl k4);have ri:(Int.ofNat i:Int)=0\/(Int.ofNat i:Int)=1\/(Int.ofNat i:Int)=2\/(Int.ofNat i:Int)=3\/(Int.ofNat i:Int)=4:=ayu;obtain⟨aro,o9⟩:=acO (Int.ofNat i) ri;have p9:MN (Int.ofNat i):=λone h=>acR _ ri one h;have aC:ad.er 1 1 (Int.ofNat i) (ad.len iO)=true:=azW;clear ri;generalize o8[i]=p at*;have cK:=ML p 44;obtain⟨a0,bw,a2,a3,a4,m0,m1,m2,m3,m4⟩:=c;obtain⟨i1,nY⟩:∃m,m=i+1:=⟨_,rfl⟩;rw[<-nY]at g3;have MO:i=0\/i=1\/i=2\/i=3\/i=4:=axW;clear hi k4 aA bL wg vC;rcases MO with rfl|rfl|rfl|rfl|rfl
    all_goals
     cases vK:ad.bq .eql p [42]with
     |true=>
      refine af ?_;exact uA (λst=>(i1,AF st.s)) (show i1<=5 by omega) (show 5-i1<_ by show _<5-_;omega) axV
     |false=>
      refine af ?_;refine⟨aDu,aDA,?_⟩;refine af ?_;refine⟨bX (λz:aw×lK=>acT x iO (keyOf p9) z.1 z.2) (λz=>z.1.length<=p.length) (λz=>z.1.length),_,⟨(p,⟨a0,bw,a2,a3,a4,m0,m1,m2,m3,m4⟩),aAd _,rfl,axV⟩,?_⟩;clear cK;rintro _ _ ⟨⟨y,c⟩,wa,rfl,rfl⟩;dsimp only at wa⊢;obtain⟨c0,c1,c2,c3,c4,n0,gG,ic,vd,n4⟩:=c;obtain⟨r,ax,bP⟩:=MK y 44;rcases ax with rfl|⟨k,aq,rfl⟩
      .obtain⟨b5,rj,dO⟩:=p9 y axW;cases uj:ad.aD .neq rj 0 with
       |true=>
        refine af ?_;exact ao _ _ ⟨mq,rj,rfl,axV⟩
       |false=>
        refine af ?_;exact uA (λst=>(i1,AF st.s)) (show i1<=5 by omega) (show 5-i1<_ by show _<5-_;omega) axV
      .have t1:ad.aD .lss (Int.ofNat k) 0=false:=by simp only[aJ ae,aAp,aAh];omega
       have t2:ad.io .add .i64 (Int.ofNat k) 0=Int.ofNat k:=azx;have t3:ad.io .add .i64 (Int.ofNat k) (Int.ofNat 1)=Int.ofNat (k+1):=cd ae (n:=k) axW;have t4:ad.oY 0 (Int.ofNat k) (ad.ev y)=true:=ayM;have t5:ad.oY (Int.ofNat (k+1)) (Int.ofNat (ad.ev y)) (ad.ev y)=true:=ayM;have l1:(ad.iK y 0 (Int.ofNat k)).length<=1073741824:=azy;have l2:(ad.iK y (Int.ofNat (k+1)) (Int.ofNat (ad.ev y))).length+k+1<=y.length:=azz;obtain⟨k1,fQ⟩:∃m,m=k+1:=⟨_,rfl⟩;rw[<-fQ]at t3 t5 l2;obtain⟨b5,rj,dO⟩:=p9 (ad.iK y 0 (Int.ofNat k)) l1;cases uj:ad.aD .neq rj 0 with
       |true=>
        refine af ?_;exact ao _ _ ⟨mq,rj,rfl,axV⟩
       |false=>
        refine af ?_;exact uA (λst=>(ad.iK y (Int.ofNat k1) (Int.ofNat (ad.ev y)),AF st.s)) (show(ad.iK y (Int.ofNat k1) (Int.ofNat (ad.ev y))).length<=p.length by omega) (show(ad.iK y (Int.ofNat k1) (Int.ofNat (ad.ev y))).length<y.length by omega) axV
   .have g1:ad.aD .lss (Int.ofNat i) (Int.ofNat (ad.len iO))=false:=by simp only[aJ ae,aAh,aAp];omega
    refine af ?_;exact ao _ _ ⟨c,0,rfl,axV⟩
  .have t5:ad.aD .neq (Int.ofNat (ad.len iO)) 5=true:=by simp only[aJ ae,aAh,aAE,aAp];omega
   refine af ?_;exact ao _ _ ⟨mq,20,rfl,axV⟩
 .have t1:ad.aD .lss (Int.ofNat k) 0=false:=by simp only[aJ ae,aAp,aAh];omega
  have t2:ad.io .add .i64 (Int.ofNat k) 0=Int.ofNat k:=azx;have t3:ad.io .add .i64 (Int.ofNat k) (Int.ofNat 1)=Int.ofNat (k+1):=cd ae (n:=k) axW;have t4:ad.oY 0 (Int.ofNat k) (ad.ev x)=true:=ayM;have t5:ad.oY (Int.ofNat (k+1)) (Int.ofNat (ad.ev x)) (ad.ev x)=true:=ayM;have l1:(ad.iK x 0 (Int.ofNat k)).length<=1073741824:=azy;have l2:(ad.iK x (Int.ofNat (k+1)) (Int.ofNat (ad.ev x))).length+k+1<=x.length:=azz;obtain⟨k1,fQ⟩:∃m,m=k+1:=⟨_,rfl⟩;rw[<-fQ]at t3 t5 l2;refine af ?_;repeat' (split<;>refine af ?_)
  .exact ec (ad.iK x (Int.ofNat k1) (Int.ofNat (ad.ev x)),ad.app P [.str (ad.iK x 0 (Int.ofNat k))]) ⟨ps++[ad.iK x 0 (Int.ofNat k)],by rw[ae,jF,aAy];rfl,λp hp=>by
    rcases aAT.1 hp with hp|hp
    .exact jQ p hp
    .rw[aAF.1 hp];exact l1,by show(ps++[_]).length+(ad.iK x (Int.ofNat k1) (Int.ofNat (ad.ev x))).length<=_;rw[aAA];show ps.length+1+_<=_;omega⟩ (show(ad.iK x (Int.ofNat k1) (Int.ofNat (ad.ev x))).length<x.length by omega) axV
  .exact ec (ad.iK x (Int.ofNat k1) (Int.ofNat (ad.ev x)),P) ⟨ps,jF,jQ,by show ps.length+(ad.iK x (Int.ofNat k1) (Int.ofNat (ad.ev x))).length<=_;omega⟩ (show(ad.iK x (Int.ofNat k1) (Int.ofNat (ad.ev x))).length<x.length by omega) axV
end Go.Proofs.YthffhbakgmemaaaGreatDoor
