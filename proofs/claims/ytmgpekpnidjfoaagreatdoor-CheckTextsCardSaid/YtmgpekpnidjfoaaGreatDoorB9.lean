/- Part of texts_said. -/
import Derived.Test.YtmgpekpnidjfoaaGreatDoorB8
set_option maxRecDepth 100000
set_option maxHeartbeats 8000000
set_option linter.unusedSimpArgs false
set_option linter.unusedVariables false
namespace Go.Proofs.YtmgpekpnidjfoaaGreatDoor
open Go Go.aJ
attribute [local irreducible] bM
theorem L7(s:ax)(c:UInt8):aM 38 [.d (.str s),.d (.str [c])] [] (.func 119 [] [.ptr 1 0,.ptr 0 0,.ptr 2 0]) [.box [.d (.str s)],.box [.d (.str [c])],.box [.d (int 0)]]:=by
 have aj:aM 72 [.d (.str s),.d (.str [c]),.d (int 0)] [] (.func 119 [] [.ptr 1 0,.ptr 0 0,.ptr 2 0]) [.box [.d (.str s)],.box [.d (.str [c])],.box [.d (int 0)]]:=by
  refine S8.cw λad ae Q a8=> ?_;conv=>cbv
  repeat ((first|refine bG ?_|refine bH ?_);conv=>cbv)
  try trivial
  all_goals (subst ae;exact b5 a8 axr axr)
 refine Ya.cw λad ae Q a8=> ?_;conv=>cbv
 repeat ((first|refine bG ?_|refine bH ?_);conv=>cbv)
 try trivial
 all_goals (subst ae;exact b5 a8 axr axr)
structure l6 where
 a0:Int
 bh:Int
 a2:Int
 a3:Int
 a4:Int
 lT:Bool
 bq:Bool
 aR:Bool
 bO:Bool
 ia:Bool
def l6.cs(c:l6):List D:=[.int .u64 c.a0,.int .u64 c.bh,.int .u64 c.a2,.int .u64 c.a3,.int .u64 c.a4,.bool c.lT,.bool c.bq,.bool c.aR,.bool c.bO,.bool c.ia]
def l7:l6:=⟨0,0,0,0,0,false,false,false,false,false⟩
def zX(s:aV):l6:=match s.getD 7 .dead with
 |.box [.d (.int _ a0),.d (.int _ bh),.d (.int _ a2),.d (.int _ a3),.d (.int _ a4),.d (.bool lT),.d (.bool bq),.d (.bool aR),.d (.bool bO),.d (.bool ia)]=>⟨a0,bh,a2,a3,a4,lT,bq,aR,bO,ia⟩
 |_=>l7
def aqp(x:ax)(P:List D):af:=cA [(0,.fT 6),(1,.ptr 4 0),(2,.ptr 3 0),(3,.ptr 5 0)] [.box (l7.cs.map .d),.box [.d (int 0)],.box [.own 1 P],.box [.d (.str x)],.box [.d (.str [32])],.box [.d (int 0)],.dead]
def ab3(x:ax)(P:List D)(n i:Nat)(c:l6):af:=cA [(2,.ptr 0 0),(3,.ptr 1 0),(6,.ptr 7 0),(33,.d (.list 1 P)),(34,.d (int (Int.ofNat n))),(35,.d (int (Int.ofNat i)))] [.box (l7.cs.map .d),.box [.d (int 0)],.box [.own 1 P],.box [.d (.str x)],.box [.d (.str [32])],.box [.d (int 0)],.dead,.box (c.cs.map .d)]
def ab4(x:ax)(P:List D)(k:Int)(y:ax)(c:l6):af:=cA [(0,.fT 12),(1,.ptr 10 0),(2,.ptr 9 0),(3,.ptr 11 0)] [.box (l7.cs.map .d),.box [.d (int 0)],.box [.own 1 P],.box [.d (.str x)],.box [.d (.str [32])],.box [.d (int 0)],.dead,.box (c.cs.map .d),.box [.d (int k)],.box [.d (.str y)],.box [.d (.str [44])],.box [.d (int 0)],.dead]
def L8(k:Int):Prop:=∀one:ax,one.length<=1073741824->∃(r e:Int),aM 42 [.d (int k),.d (.str one)] [] (.tuple [.d (.int .u64 r),.d (int e)]) []
def keyOf{k:Int}(N7:L8 k):Int:=k
theorem aqq(s:ax)(hs:s.length<=1073741824):∃(c:l6) (e:Int),aM 20 [.d (.str s)] [] (.tuple [.d (.agg c.cs),.d (int e)]) []:=by
 suffices h:∃r s',(∃(c:l6) (e:Int),r=.tuple [.d (.agg c.cs),.d (int e)]/\s'=[])/\aM 20 [.d (.str s)] [] r s' by
  obtain⟨_,_,⟨c,e,rfl,rfl⟩,h⟩:=h;exact⟨c,e,h⟩
 have aj:=L7 s 32;obtain⟨bq,aD⟩:=aqm s 32;obtain⟨aR,aW⟩:=aqn s 32 hs;refine Wb.cr _ λad ae K ao=> ?_;have km:ad.eu [32]=1:=ax8;have vu:ad.eu [44]=1:=ax8;have eM:∀x,ad.eu x=x.length:=λx=>ayH;have e9:ad.aF .eql (Int.ofNat 1) 0=false:=by rw[e4 ae];rfl
 have q1:ad.aF .lss (-1) 0=true:=ayv;conv=>cbv
 repeat ((first|refine bG ?_|refine bH ?_);conv=>cbv)
 try trivial
 refine⟨Cp,FG,?_⟩;conv=>cbv
 repeat ((first|refine bG ?_|refine bH ?_|simp -proj only[km,e9]);conv=>cbv)
 try trivial
 refine⟨b6 (λz:ax×List D=>aqp z.1 z.2) (λz=>∃ps:List ax,z.2=ps.map .str/\(∀p∈ps,p.length<=1073741824)/\ps.length+z.1.length<=s.length) (λz=>z.1.length),_,⟨(s,[]),⟨[],rfl,λ_ h=>(aAi h).elim,by show 0+s.length<=_;omega⟩,rfl,axr⟩,?_⟩;clear aj;rintro _ _ ⟨⟨x,P⟩,⟨ps,kU,jJ,hle⟩,rfl,rfl⟩;dsimp only at kU hle⊢;have ab5:P.length=ps.length:=by rw[kU,azG]
 obtain⟨r,aw,bQ⟩:=L6 x 32;rcases aw with rfl|⟨k,au,rfl⟩
 .cases ak:ad.bw .neq x []with
  |true=>
  obtain⟨iF,mN⟩:∃iF,ad.app P [.str x]=iF:=⟨_,rfl⟩;obtain⟨oP,vt,uY⟩:∃oP:List ax,iF=oP.map .str/\∀p∈oP,p.length<=1073741824:=⟨ps++[x],by rw[<-mN,ae,kU,az5];rfl,λp hp=>by
    rcases aAu.1 hp with hp|hp
    .exact jJ p hp
    .rw[az9.1 hp];omega⟩
  clear jJ;by_cases bW:iF.length=5
  .have t5:ad.aF .neq (Int.ofNat (ad.len iF)) 5=false:=by simp only[aI ae,azM,aAF,azN];omega
   cases bq with
   |true=>
    conv=>cbv
    repeat' ((first|refine bG ?_|refine bH ?_|simp -proj only[q1,ak,mN,t5]|(split<;>(rename_i h;try simp only[h])))<;>conv=>cbv)
    all_goals exact ao _ _ ⟨l7,20,rfl,axr⟩
   |false=>
   cases aR with
   |true=>
    conv=>cbv
    repeat' ((first|refine bG ?_|refine bH ?_|simp -proj only[q1,ak,mN,t5]|(split<;>(rename_i h;try simp only[h])))<;>conv=>cbv)
    all_goals exact ao _ _ ⟨l7,20,rfl,axr⟩
   |false=>
   conv=>cbv
   repeat' ((first|refine bG ?_|refine bH ?_|simp -proj only[q1,ak,mN,t5]|(split<;>(rename_i h;try simp only[h])))<;>conv=>cbv)
   refine⟨b6 (λz:Nat×l6=>ab3 x iF (ad.len iF) z.1 z.2) (λz=>z.1<=5) (λz=>5-z.1),_,⟨(0,l7),azF _,rfl,axr⟩,?_⟩;clear aD aW bQ ak mN t5 kU ab5 hle;rintro _ _ ⟨⟨i,c⟩,hi,rfl,rfl⟩;dsimp only at hi⊢;by_cases aB:i<5
   .have g1:ad.aF .lss (Int.ofNat i) (Int.ofNat (ad.len iF))=true:=by simp only[aI ae,azM,azN];omega
    have g3:=cv ae (n:=i) axs;have kT:i<oP.length:=by rw[vt,azG]at bW;omega
    have g2:ad.get iF (Int.ofNat i)=.str oP[i]:=cV ae (by rw[vt];exact dv kT);have lM:=uY _ (azT kT);have qR:(Int.ofNat i:Int)=0\/(Int.ofNat i:Int)=1\/(Int.ofNat i:Int)=2\/(Int.ofNat i:Int)=3\/(Int.ofNat i:Int)=4:=ayj;obtain⟨aqr,oQ⟩:=abZ (Int.ofNat i) qR;have pP:L8 (Int.ofNat i):=λone h=>ab2 _ qR one h;have aE:ad.ez 1 1 (Int.ofNat i) (ad.len iF)=true:=azs;clear qR;generalize oP[i]=p at*;have cK:=L7 p 44;obtain⟨a0,bh,a2,a3,a4,m0,m1,m2,m3,m4⟩:=c;obtain⟨hF,pq⟩:∃m,m=i+1:=⟨_,rfl⟩;rw[<-pq]at g3;have L9:i=0\/i=1\/i=2\/i=3\/i=4:=axs;clear hi kT aB bW vt uY;rcases L9 with rfl|rfl|rfl|rfl|rfl
    all_goals
     cases CZ:ad.bw .eql p [42]with
     |true=>
      conv=>cbv
      repeat' ((first|refine bG ?_|refine bH ?_|simp -proj only[g1,g2,g3,CZ]|(split<;>(rename_i h;try simp only[h])))<;>conv=>cbv)
      exact tS (λst=>(hF,zX st.s)) (show hF<=5 by omega) (show 5-hF<_ by show _<5-_;omega) axr
     |false=>
      conv=>cbv
      repeat' ((first|refine bG ?_|refine bH ?_|simp -proj only[g1,g2,g3,CZ]|(split<;>(rename_i h;try simp only[h])))<;>conv=>cbv)
      refine⟨Cp,FG,?_⟩;conv=>cbv
      repeat ((first|refine bG ?_|refine bH ?_|simp -proj only[vu,e9]);conv=>cbv)
      try trivial
      refine⟨b6 (λz:ax×l6=>ab4 x iF (keyOf pP) z.1 z.2) (λz=>z.1.length<=p.length) (λz=>z.1.length),_,⟨(p,⟨a0,bh,a2,a3,a4,m0,m1,m2,m3,m4⟩),azI _,rfl,axr⟩,?_⟩;clear cK;rintro _ _ ⟨⟨y,c⟩,hy,rfl,rfl⟩;dsimp only at hy⊢;obtain⟨c0,c1,c2,c3,c4,n0,kq,jF,uH,n4⟩:=c;obtain⟨r,aw,bQ⟩:=L6 y 44;rcases aw with rfl|⟨k,au,rfl⟩
      .obtain⟨b4,qS,dQ⟩:=pP y axs;cases te:ad.aF .neq qS 0 with
       |true=>
        conv=>cbv
        repeat' ((first|refine bG ?_|refine bH ?_|simp -proj only[q1,te]|(split<;>(rename_i h;try simp only[h])))<;>conv=>cbv)
        all_goals exact ao _ _ ⟨l7,qS,rfl,axr⟩
       |false=>
        conv=>cbv
        repeat' ((first|refine bG ?_|refine bH ?_|simp -proj only[q1,te,g3]|(split<;>(rename_i h;try simp only[h])))<;>conv=>cbv)
        exact tS (λst=>(hF,zX st.s)) (show hF<=5 by omega) (show 5-hF<_ by show _<5-_;omega) axr
      .have t1:ad.aF .lss (Int.ofNat k) 0=false:=by simp only[aI ae,az2,azM];omega
       have t2:ad.io .add .i64 (Int.ofNat k) 0=Int.ofNat k:=ay5;have t3:ad.io .add .i64 (Int.ofNat k) (Int.ofNat 1)=Int.ofNat (k+1):=cv ae (n:=k) axs;have t4:ad.oE 0 (Int.ofNat k) (ad.eu y)=true:=ayk;have t5:ad.oE (Int.ofNat (k+1)) (Int.ofNat (ad.eu y)) (ad.eu y)=true:=ayk;have l1:(ad.iB y 0 (Int.ofNat k)).length<=1073741824:=ay6;have l2:(ad.iB y (Int.ofNat (k+1)) (Int.ofNat (ad.eu y))).length+k+1<=y.length:=ay7;obtain⟨bN,fe⟩:∃m,m=k+1:=⟨_,rfl⟩;rw[<-fe]at t3 t5 l2;obtain⟨b4,qS,dQ⟩:=pP (ad.iB y 0 (Int.ofNat k)) l1;cases te:ad.aF .neq qS 0 with
       |true=>
        conv=>cbv
        repeat' ((first|refine bG ?_|refine bH ?_|simp -proj only[vu,t1,t2,t3,t4,t5,te]|(split<;>(rename_i h;try simp only[h])))<;>conv=>cbv)
        all_goals exact ao _ _ ⟨l7,qS,rfl,axr⟩
       |false=>
        conv=>cbv
        repeat' ((first|refine bG ?_|refine bH ?_|simp -proj only[vu,t1,t2,t3,t4,t5,te]|(split<;>(rename_i h;try simp only[h])))<;>conv=>cbv)
        exact tS (λst=>(ad.iB y (Int.ofNat bN) (Int.ofNat (ad.eu y)),zX st.s)) (show(ad.iB y (Int.ofNat bN) (Int.ofNat (ad.eu y))).length<=p.length by omega) (show(ad.iB y (Int.ofNat bN) (Int.ofNat (ad.eu y))).length<y.length by omega) axr
   .have g1:ad.aF .lss (Int.ofNat i) (Int.ofNat (ad.len iF))=false:=by simp only[aI ae,azM,az2];omega
    conv=>cbv
    repeat' ((first|refine bG ?_|refine bH ?_|simp -proj only[g1]|(split<;>(rename_i h;try simp only[h])))<;>conv=>cbv)
    all_goals exact ao _ _ ⟨c,0,rfl,axr⟩
  .have t5:ad.aF .neq (Int.ofNat (ad.len iF)) 5=true:=by simp only[aI ae,azM,az8,az2];omega
   conv=>cbv
   repeat' ((first|refine bG ?_|refine bH ?_|simp -proj only[q1,ak,mN,t5]|(split<;>(rename_i h;try simp only[h])))<;>conv=>cbv)
   all_goals exact ao _ _ ⟨l7,20,rfl,axr⟩
  |false=>
  obtain⟨iF,mN⟩:∃iF,P=iF:=⟨_,rfl⟩;obtain⟨oP,vt,uY⟩:∃oP:List ax,iF=oP.map .str/\∀p∈oP,p.length<=1073741824:=⟨ps,by rw[<-mN,kU],jJ⟩;clear jJ;by_cases bW:iF.length=5
  .have t5:ad.aF .neq (Int.ofNat (ad.len iF)) 5=false:=by simp only[aI ae,azM,aAF,azN];omega
   cases bq with
   |true=>
    conv=>cbv
    repeat' ((first|refine bG ?_|refine bH ?_|simp -proj only[q1,ak,mN,t5]|(split<;>(rename_i h;try simp only[h])))<;>conv=>cbv)
    all_goals exact ao _ _ ⟨l7,20,rfl,axr⟩
   |false=>
   cases aR with
   |true=>
    conv=>cbv
    repeat' ((first|refine bG ?_|refine bH ?_|simp -proj only[q1,ak,mN,t5]|(split<;>(rename_i h;try simp only[h])))<;>conv=>cbv)
    all_goals exact ao _ _ ⟨l7,20,rfl,axr⟩
   |false=>
   conv=>cbv
   repeat' ((first|refine bG ?_|refine bH ?_|simp -proj only[q1,ak,mN,t5]|(split<;>(rename_i h;try simp only[h])))<;>conv=>cbv)
   refine⟨b6 (λz:Nat×l6=>ab3 x iF (ad.len iF) z.1 z.2) (λz=>z.1<=5) (λz=>5-z.1),_,⟨(0,l7),azF _,rfl,axr⟩,?_⟩;clear aD aW bQ ak mN t5 kU ab5 hle;rintro _ _ ⟨⟨i,c⟩,hi,rfl,rfl⟩;dsimp only at hi⊢;by_cases aB:i<5
   .have g1:ad.aF .lss (Int.ofNat i) (Int.ofNat (ad.len iF))=true:=by simp only[aI ae,azM,azN];omega
    have g3:=cv ae (n:=i) axs;have kT:i<oP.length:=by rw[vt,azG]at bW;omega
    have g2:ad.get iF (Int.ofNat i)=.str oP[i]:=cV ae (by rw[vt];exact dv kT);have lM:=uY _ (azT kT);have qR:(Int.ofNat i:Int)=0\/(Int.ofNat i:Int)=1\/(Int.ofNat i:Int)=2\/(Int.ofNat i:Int)=3\/(Int.ofNat i:Int)=4:=ayj;obtain⟨aqr,oQ⟩:=abZ (Int.ofNat i) qR;have pP:L8 (Int.ofNat i):=λone h=>ab2 _ qR one h;have aE:ad.ez 1 1 (Int.ofNat i) (ad.len iF)=true:=azs;clear qR;generalize oP[i]=p at*;have cK:=L7 p 44;obtain⟨a0,bh,a2,a3,a4,m0,m1,m2,m3,m4⟩:=c;obtain⟨hF,pq⟩:∃m,m=i+1:=⟨_,rfl⟩;rw[<-pq]at g3;have L9:i=0\/i=1\/i=2\/i=3\/i=4:=axs;clear hi kT aB bW vt uY;rcases L9 with rfl|rfl|rfl|rfl|rfl
    all_goals
     cases CZ:ad.bw .eql p [42]with
     |true=>
      conv=>cbv
      repeat' ((first|refine bG ?_|refine bH ?_|simp -proj only[g1,g2,g3,CZ]|(split<;>(rename_i h;try simp only[h])))<;>conv=>cbv)
      exact tS (λst=>(hF,zX st.s)) (show hF<=5 by omega) (show 5-hF<_ by show _<5-_;omega) axr
     |false=>
      conv=>cbv
      repeat' ((first|refine bG ?_|refine bH ?_|simp -proj only[g1,g2,g3,CZ]|(split<;>(rename_i h;try simp only[h])))<;>conv=>cbv)
      refine⟨Cp,FG,?_⟩;conv=>cbv
      repeat ((first|refine bG ?_|refine bH ?_|simp -proj only[vu,e9]);conv=>cbv)
      try trivial
      refine⟨b6 (λz:ax×l6=>ab4 x iF (keyOf pP) z.1 z.2) (λz=>z.1.length<=p.length) (λz=>z.1.length),_,⟨(p,⟨a0,bh,a2,a3,a4,m0,m1,m2,m3,m4⟩),azI _,rfl,axr⟩,?_⟩;clear cK;rintro _ _ ⟨⟨y,c⟩,hy,rfl,rfl⟩;dsimp only at hy⊢;obtain⟨c0,c1,c2,c3,c4,n0,kq,jF,uH,n4⟩:=c;obtain⟨r,aw,bQ⟩:=L6 y 44;rcases aw with rfl|⟨k,au,rfl⟩
      .obtain⟨b4,qS,dQ⟩:=pP y axs;cases te:ad.aF .neq qS 0 with
       |true=>
        conv=>cbv
        repeat' ((first|refine bG ?_|refine bH ?_|simp -proj only[q1,te]|(split<;>(rename_i h;try simp only[h])))<;>conv=>cbv)
        all_goals exact ao _ _ ⟨l7,qS,rfl,axr⟩
       |false=>
        conv=>cbv
        repeat' ((first|refine bG ?_|refine bH ?_|simp -proj only[q1,te,g3]|(split<;>(rename_i h;try simp only[h])))<;>conv=>cbv)
        exact tS (λst=>(hF,zX st.s)) (show hF<=5 by omega) (show 5-hF<_ by show _<5-_;omega) axr
      .have t1:ad.aF .lss (Int.ofNat k) 0=false:=by simp only[aI ae,az2,azM];omega
       have t2:ad.io .add .i64 (Int.ofNat k) 0=Int.ofNat k:=ay5;have t3:ad.io .add .i64 (Int.ofNat k) (Int.ofNat 1)=Int.ofNat (k+1):=cv ae (n:=k) axs;have t4:ad.oE 0 (Int.ofNat k) (ad.eu y)=true:=ayk;have t5:ad.oE (Int.ofNat (k+1)) (Int.ofNat (ad.eu y)) (ad.eu y)=true:=ayk;have l1:(ad.iB y 0 (Int.ofNat k)).length<=1073741824:=ay6;have l2:(ad.iB y (Int.ofNat (k+1)) (Int.ofNat (ad.eu y))).length+k+1<=y.length:=ay7;obtain⟨bN,fe⟩:∃m,m=k+1:=⟨_,rfl⟩;rw[<-fe]at t3 t5 l2;obtain⟨b4,qS,dQ⟩:=pP (ad.iB y 0 (Int.ofNat k)) l1;cases te:ad.aF .neq qS 0 with
       |true=>
        conv=>cbv
        repeat' ((first|refine bG ?_|refine bH ?_|simp -proj only[vu,t1,t2,t3,t4,t5,te]|(split<;>(rename_i h;try simp only[h])))<;>conv=>cbv)
        all_goals exact ao _ _ ⟨l7,qS,rfl,axr⟩
       |false=>
        conv=>cbv
        repeat' ((first|refine bG ?_|refine bH ?_|simp -proj only[vu,t1,t2,t3,t4,t5,te]|(split<;>(rename_i h;try simp only[h])))<;>conv=>cbv)
        exact tS (λst=>(ad.iB y (Int.ofNat bN) (Int.ofNat (ad.eu y)),zX st.s)) (show(ad.iB y (Int.ofNat bN) (Int.ofNat (ad.eu y))).length<=p.length by omega) (show(ad.iB y (Int.ofNat bN) (Int.ofNat (ad.eu y))).length<y.length by omega) axr
   .have g1:ad.aF .lss (Int.ofNat i) (Int.ofNat (ad.len iF))=false:=by simp only[aI ae,azM,az2];omega
    conv=>cbv
    repeat' ((first|refine bG ?_|refine bH ?_|simp -proj only[g1]|(split<;>(rename_i h;try simp only[h])))<;>conv=>cbv)
    all_goals exact ao _ _ ⟨c,0,rfl,axr⟩
  .have t5:ad.aF .neq (Int.ofNat (ad.len iF)) 5=true:=by simp only[aI ae,azM,az8,az2];omega
   conv=>cbv
   repeat' ((first|refine bG ?_|refine bH ?_|simp -proj only[q1,ak,mN,t5]|(split<;>(rename_i h;try simp only[h])))<;>conv=>cbv)
   all_goals exact ao _ _ ⟨l7,20,rfl,axr⟩
 .have t1:ad.aF .lss (Int.ofNat k) 0=false:=by simp only[aI ae,az2,azM];omega
  have t2:ad.io .add .i64 (Int.ofNat k) 0=Int.ofNat k:=ay5;have t3:ad.io .add .i64 (Int.ofNat k) (Int.ofNat 1)=Int.ofNat (k+1):=cv ae (n:=k) axs;have t4:ad.oE 0 (Int.ofNat k) (ad.eu x)=true:=ayk;have t5:ad.oE (Int.ofNat (k+1)) (Int.ofNat (ad.eu x)) (ad.eu x)=true:=ayk;have l1:(ad.iB x 0 (Int.ofNat k)).length<=1073741824:=ay6;have l2:(ad.iB x (Int.ofNat (k+1)) (Int.ofNat (ad.eu x))).length+k+1<=x.length:=ay7;obtain⟨bN,fe⟩:∃m,m=k+1:=⟨_,rfl⟩;rw[<-fe]at t3 t5 l2;conv=>cbv
  repeat' ((first|refine bG ?_|refine bH ?_|simp -proj only[km,e9,t1,t2,t3,t4,t5]|(split<;>(rename_i h;try simp only[h])))<;>conv=>cbv)
  .exact eb (ad.iB x (Int.ofNat bN) (Int.ofNat (ad.eu x)),ad.app P [.str (ad.iB x 0 (Int.ofNat k))]) ⟨ps++[ad.iB x 0 (Int.ofNat k)],by rw[ae,kU,az5];rfl,λp hp=>by
    rcases aAu.1 hp with hp|hp
    .exact jJ p hp
    .rw[az9.1 hp];exact l1,by show(ps++[_]).length+(ad.iB x (Int.ofNat bN) (Int.ofNat (ad.eu x))).length<=_;rw[az6];show ps.length+1+_<=_;omega⟩ (show(ad.iB x (Int.ofNat bN) (Int.ofNat (ad.eu x))).length<x.length by omega) axr
  .exact eb (ad.iB x (Int.ofNat bN) (Int.ofNat (ad.eu x)),P) ⟨ps,kU,jJ,by show ps.length+(ad.iB x (Int.ofNat bN) (Int.ofNat (ad.eu x))).length<=_;omega⟩ (show(ad.iB x (Int.ofNat bN) (Int.ofNat (ad.eu x))).length<x.length by omega) axr
end Go.Proofs.YtmgpekpnidjfoaaGreatDoor
