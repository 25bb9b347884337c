/- Part of ranges_said. -/
import Derived.Test.YthffhbakgmemaaaGreatDoorB7
import Derived.Test.YthffhbakgmemaaaGreatDoorB6
set_option maxRecDepth 100000
set_option maxHeartbeats 8000000
set_option linter.unusedSimpArgs false
set_option linter.unusedVariables false
namespace Go.Proofs.YthffhbakgmemaaaGreatDoor
open Go Go.aH
attribute [local irreducible] bG
theorem MJ(s:aw):∃r:Int,aM 234 [.d (.str s)] [] (.d (int r)) []:=by
 refine gZ ?_;refine al5.cu _ λad ae K ao=> ?_;have kz:ad.ev s=s.length:=ax1;by_cases h1:s.length<1
 .have AN:ad.aD .lss (Int.ofNat (ad.ev s)) 1=true:=by rw[kz,(eF ae).2.1];simp_all
  refine af ?_;exact ao _ _ ⟨_,rfl,axV⟩
 have AN:ad.aD .lss (Int.ofNat (ad.ev s)) 1=false:=by rw[kz,(eF ae).2.1];grind
 by_cases sh:2<s.length
 .have eb:ad.aD .gtr (Int.ofNat (ad.ev s)) 2=true:=by rw[kz,(eF ae).2.2.2];grind
  refine af ?_;exact ao _ _ ⟨_,rfl,axV⟩
 have eb:ad.aD .gtr (Int.ofNat (ad.ev s)) 2=false:=by rw[kz,(eF ae).2.2.2];grind
 have eJ:ad.h' s=s.map gk:=ax1;have bE:(ad.h' s).length=s.length:=axY;have bY:∀i (h:i<s.length),(ad.h' s)[i]?=some (gk s[i]):=λi h=>axY;clear eJ;refine af ?_;generalize ad.h' s=B at*;refine⟨bX (λz:Int×Nat=>cx [(3,.d (int z.1)),(15,.d (.list 1 B)),(16,.d (int (Int.ofNat (ad.len B)))),(17,.d (int (Int.ofNat z.2)))] []) (λz=>z.2<=s.length) λz=>s.length-z.2,_,⟨(0,0),aAa _,rfl,axV⟩,?_⟩;rintro _ _ ⟨⟨r,i⟩,hi,rfl,rfl⟩;dsimp only at hi⊢;by_cases aA:i<s.length
 .have g1:ad.aD .lss (Int.ofNat i) (Int.ofNat (ad.len B))=true:=by simp_all[aJ]
  have g2:=cz ae (bY i aA);have g3:=cd ae (n:=i) axW;unfold gk at g2;generalize ((s[i].toNat:Nat):Int)=x at*;refine af ?_;repeat' (split<;>refine af ?_)
  all_goals first|exact ao _ _ ⟨_,rfl,axV⟩|exact uA (λst=>(Mz st 3,i+1)) aA (show s.length-(i+1)<s.length-i by omega) axV
 .have g1:ad.aD .lss (Int.ofNat i) (Int.ofNat (ad.len B))=false:=by simp_all[aJ]
  refine af ?_;exact ao _ _ ⟨_,rfl,axV⟩
theorem ara(a b c:Nat)(bp:a<=100)(au:b<=100)(az:1<=c)(zl:c<=100):∃r:Int,aM 232 [.d (int (Int.ofNat a)),.d (int (Int.ofNat b)),.d (int (Int.ofNat c))] [] (.d (.int .u64 r)) []:=by
 refine gZ ?_;refine aE4.cu _ λad ae K ao=> ?_;refine af ?_;refine⟨bX (λz:Int×Nat=>cx [(1,.d (int (Int.ofNat b))),(2,.d (int (Int.ofNat c))),(7,.d (.int .u64 z.1)),(8,.d (int (Int.ofNat z.2)))] []) (λz=>z.2<=200) λz=>b+1-z.2,_,⟨(0,a),axW,rfl,axV⟩,?_⟩;rintro _ _ ⟨⟨r,i⟩,hi,rfl,rfl⟩;dsimp only at hi⊢;by_cases aA:i<=b
 .have g1:ad.aD .leq (Int.ofNat i) (Int.ofNat b)=true:=by simp_all[aJ]
  have g2:ad.aD .geq (Int.ofNat i) 0=true:=ax1;have g3:ad.io .add .i64 (Int.ofNat i) (Int.ofNat c)=Int.ofNat (i+c):=o6 ae axZ axZ;obtain⟨m,hm⟩:∃m,m=i+c:=⟨_,rfl⟩;rw[<-hm]at g3;refine af ?_;exact uA (λst=>(Mz st 7,m)) (show m<=200 by omega) (show b+1-m<b+1-i by omega) axV
 .have g1:ad.aD .leq (Int.ofNat i) (Int.ofNat b)=false:=by simp_all[aJ]
  refine af ?_;exact ao _ _ ⟨_,rfl,axV⟩
theorem AE(a b c:Int)(bp:0<=a/\a<=100)(au:0<=b/\b<=100)(az:1<=c/\c<=100):∃r:Int,aM 232 [.d (int a),.d (int b),.d (int c)] [] (.d (.int .u64 r)) []:=by
 obtain⟨r,h⟩:=ara a.toNat b.toNat c.toNat axW axW axW axW;grind
theorem acO(f:Int)(bh:f=0\/f=1\/f=2\/f=3\/f=4):∃r:Int,aM 195 [.d (int f)] [] (.d (.int .u64 r)) []:=by
 refine gZ ?_;obtain⟨r0,b2⟩:=AE 0 59 1 ax0 ax0 ax0;obtain⟨bN,aj⟩:=AE 0 23 1 ax0 ax0 ax0;obtain⟨b5,aF⟩:=AE 1 31 1 ax0 ax0 ax0;obtain⟨dq,aZ⟩:=AE 1 12 1 ax0 ax0 ax0;obtain⟨n7,bP⟩:=AE 0 6 1 ax0 ax0 ax0;refine aEW.cu _ λad ae K ao=> ?_;rcases bh with rfl|rfl|rfl|rfl|rfl
 all_goals
  refine af ?_;exact ao _ _ ⟨_,rfl,axV⟩
theorem arb(s:aw)(c:UInt8):∃r:Int,(r= -1\/∃k:Nat,k<s.length/\r=Int.ofNat k)/\aM 327 [.d (.str s),.d (.int .u8 (Int.ofNat c.toNat))] [] (.d (int r)) []:=
 ⟨_,Tn s _,alH amJ amI⟩
theorem acP(s:aw)(c:UInt8):∃r:Int,(r= -1\/∃k:Nat,k<s.length/\r=Int.ofNat k)/\aM 304 [.d (.str s),.d (.str [c])] [] (.d (int r)) []:=by
 refine fK ?_;obtain⟨r,ax,aj⟩:=arb s c;refine Yz.cu _ λad ae K ao=> ?_;have h1:ad.ev [c]=1:=ax1;have sh:ad.aD .eql (Int.ofNat 1) 0=false:=ax6;have av:ad.aD .eql (Int.ofNat 1) 1=true:=ax6;have aW:ad.FT 0 1=true:=ax1;have bL:ad.CD [c] 0=c:=ax1;by_cases hs:[c]=s
 .have cW:ad.bq .eql [c] s=true:=by grind[Mx]
  refine af ?_;exact ao _ _ ⟨0,.inr ⟨0,axZ,rfl⟩,rfl,axV⟩
 .have cW:ad.bq .eql [c] s=false:=by grind[Mx]
  conv=>cbv
  repeat' ((first|refine cZ ?_|refine c6 ?_|simp -proj only[h1,sh,av,aW,bL,cW]|(split<;>(rename_i h;try simp only[h])))<;>conv=>cbv)
  exact ao _ _ ⟨r,ax,rfl,axV⟩
theorem MK(s:aw)(c:UInt8):∃r:Int,(r= -1\/∃k:Nat,k<s.length/\r=Int.ofNat k)/\aM 269 [.d (.str s),.d (.str [c])] [] (.d (int r)) []:=by
 obtain⟨r,ax,aj⟩:=acP s c;refine⟨r,ax,?_⟩;refine Yp.cn λad ae Q aV=> ?_;refine af ?_
 (subst ae;exact bZ aV axX axV)
theorem arc(s:aw)(c:UInt8)(hs:s.length<=1073741824):∃(a b:aw) (f:Bool),(a.length<=s.length/\b.length<=s.length)/\aM 270 [.d (.str s),.d (.str [c])] [] (.tuple [.d (.str a),.d (.str b),.d (.bool f)]) []:=by
 refine K8 ?_;obtain⟨r,ax,aj⟩:=acP s c;refine Ld.cu _ λad ae K ao=> ?_;have h1:ad.ev [c]=1:=ax1;have wb:ad.ev s=s.length:=ax1;rcases ax with rfl|⟨k,aq,rfl⟩
 .have AN:ad.aD .geq (-1) 0=false:=by rw[(eF ae).2.2.1];rfl
  refine af ?_;exact ao _ _ ⟨s,[],false,⟨aAd _,aAa _⟩,rfl,axV⟩
 .have AN:ad.aD .geq (Int.ofNat k) 0=true:=by rw[(eF ae).2.2.1];simp
  have eb:ad.io .add .i64 (Int.ofNat k) (Int.ofNat 1)=Int.ofNat (k+1):=cd ae (n:=k) axW;have k7:ad.oY 0 (Int.ofNat k) s.length=true:=azV;have i':ad.oY (Int.ofNat (k+1)) (Int.ofNat s.length) s.length=true:=azV;have q1:(ad.iK s 0 (Int.ofNat k)).length<=s.length:=ax1;have bF:(ad.iK s (Int.ofNat (k+1)) (Int.ofNat s.length)).length<=s.length:=ax1;obtain⟨m,hm⟩:∃m,m=k+1:=⟨_,rfl⟩;obtain⟨n,ay⟩:∃n,n=s.length:=⟨_,rfl⟩;rw[<-hm]at eb i' bF;rw[<-ay]at k7 i' q1 bF wb;conv=>cbv
  repeat' ((first|refine cZ ?_|refine c6 ?_|simp -proj only[AN,eb,k7,i',wb,h1]|(split<;>(rename_i h;try simp only[h])))<;>conv=>cbv)
  exact ao _ _ ⟨_,_,true,⟨aAZ q1 (aB9 ay),aAZ bF (aB9 ay)⟩,rfl,axV⟩
theorem acQ(s:aw)(c:UInt8)(hs:s.length<=1073741824):∃(a b:aw) (f:Bool),(a.length<=s.length/\b.length<=s.length)/\aM 233 [.d (.str s),.d (.str [c])] [] (.tuple [.d (.str a),.d (.str b),.d (.bool f)]) []:=by
 obtain⟨a,b,f,h,aj⟩:=arc s c hs;refine⟨a,b,f,h,?_⟩;refine aDX.cn λad ae Q aV=> ?_;refine af ?_
 (subst ae;exact bZ aV axX axV)
theorem ard(s:aw)(c:UInt8):∃b:Bool,aM 213 [.d (.str s),.d (.str [c])] [] (.d (.bool b)) []:=by
 refine gZ ?_;refine UI.cu _ λad ae K ao=> ?_;have h1:ad.ev [c]=1:=ax1;have wb:ad.ev s=s.length:=ax1;by_cases hs:1<=s.length
 .have AN:ad.aD .geq (Int.ofNat (ad.ev s)) (Int.ofNat 1)=true:=by rw[wb,(eF ae).2.2.1];grind
  have k7:ad.oY 0 (Int.ofNat 1) (ad.ev s)=true:=ax1;refine af ?_;exact ao _ _ ⟨_,rfl,axV⟩
 .have AN:ad.aD .geq (Int.ofNat (ad.ev s)) (Int.ofNat 1)=false:=by rw[wb,(eF ae).2.2.1];simp_all
  refine af ?_;exact ao _ _ ⟨_,rfl,axV⟩
theorem arf(s:aw)(c:UInt8)(dR:s.length<=1073741824):∃b:Bool,aM 231 [.d (.str s),.d (.str [c])] [] (.d (.bool b)) []:=by
 refine gZ ?_;refine aFy.cu _ λad ae K ao=> ?_;have h1:ad.ev [c]=1:=ax1;have wb:ad.ev s=s.length:=ax1;by_cases hs:1<=s.length
 .have AN:ad.aD .geq (Int.ofNat (ad.ev s)) (Int.ofNat 1)=true:=by rw[wb,(eF ae).2.2.1];grind
  obtain⟨m,hm⟩:∃m,s.length=m+1:=⟨s.length-1,axW⟩;have eb:ad.io .sub .i64 (Int.ofNat (ad.ev s)) (Int.ofNat 1)=Int.ofNat m:=by grind[uq]
  have k7:ad.oY (Int.ofNat m) (Int.ofNat (ad.ev s)) (ad.ev s)=true:=by rw[wb];simp only[aJ ae,aAc,aAi,aAh];omega
  refine af ?_;exact ao _ _ ⟨_,rfl,axV⟩
 .have AN:ad.aD .geq (Int.ofNat (ad.ev s)) (Int.ofNat 1)=false:=by rw[wb,(eF ae).2.2.1];simp_all
  refine af ?_;exact ao _ _ ⟨_,rfl,axV⟩
theorem arh(s:aw)(c:UInt8):∃b:Bool,aM 171 [.d (.str s),.d (.str [c])] [] (.d (.bool b)) []:=by
 obtain⟨b,aj⟩:=ard s c;refine⟨b,?_⟩;refine ZM.cn λad ae Q aV=> ?_;refine af ?_
 (subst ae;exact bZ aV axX axV)
theorem ari(s:aw)(c:UInt8)(dR:s.length<=1073741824):∃b:Bool,aM 194 [.d (.str s),.d (.str [c])] [] (.d (.bool b)) []:=by
 obtain⟨b,aj⟩:=arf s c dR;refine⟨b,?_⟩;refine Lr.cn λad ae Q aV=> ?_;refine af ?_
 (subst ae;exact bZ aV axX axV)
theorem arj{a b c:Int}{K:ah->aU->Prop}(h:(0<=a/\a<=100)/\(0<=b/\b<=100)/\1<=c/\c<=100)(aq:∀r:Int,K (.d (.int .u64 r)) []):∃r s2,aM 232 [.d (int a),.d (int b),.d (int c)] [] r s2/\K r s2:=by
 obtain⟨r,e⟩:=AE a b c h.1 h.2.1 h.2.2;exact⟨_,_,e,aq r⟩
def yf(k:IntKind):ah->Bool
 |.d (.int j _)=>decide (j=k)
 |_=>false
theorem Dt{k:IntKind}{v:ah}(h:yf k v=true):∃n,v=.d (.int k n):=by
 unfold yf at h;split at h
 .simp only[aAi]at h;subst h;exact⟨_,rfl⟩
 .simp at h
def pX(lo hi:Int)(x:Go.aH.aB)(st:ag):Prop:=st.bH=(λ_=>none)/\st.s=[]/\match x with
 |.ret=>yf .u64 (st.aR 4)=true/\yf .i64 (st.aR 5)=true
 |.normal=>yf .i64 (st.aR 11)=true/\yf .i64 (st.aR 12)=true/\yf .i64 (st.aR 13)=true/\st.aR 6=.d (int lo)/\st.aR 7=.d (int hi)
 |_=>False
set_option maxHeartbeats 40000000 in
theorem acR(f:Int)(bh:f=0\/f=1\/f=2\/f=3\/f=4)(s:aw)(hs:s.length<=1073741824):∃(r e:Int),aM 196 [.d (int f),.d (.str s)] [] (.tuple [.d (.int .u64 r),.d (int e)]) []:=by
 refine uk ?_;obtain⟨a,b,st,⟨bp,au⟩,aj⟩:=acQ s 47 hs;obtain⟨dq,aF⟩:=MJ b;obtain⟨a2,a6,rg,⟨pF,dY⟩,aZ⟩:=acQ a 45 axW;obtain⟨bN,bP⟩:=MJ a2;obtain⟨b5,cK⟩:=MJ a6;refine Wi.cu _ λad ae K ao=> ?_;clear bp au pF dY hs;obtain⟨lo,hi,qf,ark,u'⟩:∃lo hi:Int,0<=lo/\hi<=100/\((f=0/\lo=0/\hi=59)\/(f=1/\lo=0/\hi=23)\/(f=2/\lo=1/\hi=31)\/(f=3/\lo=1/\hi=12)\/(f=4/\lo=0/\hi=6)):=by
  rcases bh with rfl|rfl|rfl|rfl|rfl
  .exact⟨0,59,ax0,ax0,.inl ⟨rfl,rfl,rfl⟩⟩
  .exact⟨0,23,ax0,ax0,.inr (.inl ⟨rfl,rfl,rfl⟩)⟩
  .exact⟨1,31,ax0,ax0,.inr (.inr (.inl ⟨rfl,rfl,rfl⟩))⟩
  .exact⟨1,12,ax0,ax0,.inr (.inr (.inr (.inl ⟨rfl,rfl,rfl⟩)))⟩
  .exact⟨0,6,ax0,ax0,.inr (.inr (.inr (.inr ⟨rfl,rfl,rfl⟩)))⟩
 clear bh;refine xR ae [_,_,_,_,_,_,_] (pX lo hi) ?_ ?_
 .clear ao qf ark;rcases u' with⟨rfl,rfl,rfl⟩|⟨rfl,rfl,rfl⟩|⟨rfl,rfl,rfl⟩|⟨rfl,rfl,rfl⟩|⟨rfl,rfl,rfl⟩
  all_goals cases st
  all_goals cases rg
  all_goals
   refine af ?_;repeat' (split<;>refine af ?_)
   all_goals first
    |trivial
    |exact⟨axV,axV,axV,axV⟩
    |(repeat' (first|exact trivial|apply And.intro|kernel_rfl))
    |exact⟨axV,axV,axV,axV,axV,axV,axV⟩
 .clear u' aj aF aZ bP cK;intro x s1 ak;obtain⟨aR,bH,fq⟩:=s1;obtain⟨h1,sh,av⟩:=ak;dsimp only at h1 sh av;subst h1;subst sh;cases x with
  |exit i=>exact av.elim
  |ret=>
   obtain⟨n,ay⟩:=Dt av.1;obtain⟨m,hm⟩:=Dt av.2;clear av;conv=>cbv
   repeat' ((first|refine cZ ?_|refine c6 ?_|simp -proj only[ay,hm]|(split<;>(rename_i h;try simp only[h])))<;>conv=>cbv)
   exact ao _ _ ⟨_,_,rfl,axV⟩
  |normal=>
   obtain⟨c,az⟩:=Dt av.1;obtain⟨a,bp⟩:=Dt av.2.1;obtain⟨b,au⟩:=Dt av.2.2.1;obtain⟨cW,hx⟩:=av.2.2.2;clear av
   have iX:CO aR [(11,.d (int c)),(12,.d (int a)),(13,.d (int b)),(6,.d (int lo)),(7,.d (int hi))]=aR:=K0 (by
    intro p hp;simp only[aAs,aAO,aBo]at hp;rcases hp with rfl|rfl|rfl|rfl|rfl
    .exact az
    .exact bp
    .exact au
    .exact cW
    .exact hx)
   rw[<-iX];clear iX az bp au cW hx;refine af ?_;repeat' (split<;>refine af ?_)
   all_goals first
    |exact ao _ _ ⟨_,_,rfl,axV⟩
    |(refine arj (by simp only[aJ ae,aAp]at*;omega) λr=> ?_
      conv=>cbv
      exact ao _ _ ⟨_,_,rfl,axV⟩)
end Go.Proofs.YthffhbakgmemaaaGreatDoor
