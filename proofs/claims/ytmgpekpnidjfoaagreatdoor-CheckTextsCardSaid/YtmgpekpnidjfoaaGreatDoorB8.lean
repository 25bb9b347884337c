/- Part of texts_said. -/
import Derived.Test.YtmgpekpnidjfoaaGreatDoorB7
import Derived.Test.YtmgpekpnidjfoaaGreatDoorB6
set_option maxRecDepth 100000
set_option maxHeartbeats 8000000
set_option linter.unusedSimpArgs false
set_option linter.unusedVariables false
namespace Go.Proofs.YtmgpekpnidjfoaaGreatDoor
open Go Go.aJ
attribute [local irreducible] bM
theorem L5(s:ax):∃r:Int,aM 77 [.d (.str s)] [] (.d (int r)) []:=by
 refine gV ?_;refine Yp.cr _ λad ae K ao=> ?_;have km:ad.eu s=s.length:=axx;by_cases h1:s.length<1
 .have p1:ad.aF .lss (Int.ofNat (ad.eu s)) 1=true:=by rw[km,(eX ae).2.1];simp_all
  refine ai ?_;repeat' (split<;>refine ai ?_)
  all_goals exact ao _ _ ⟨_,rfl,axr⟩
 have p1:ad.aF .lss (Int.ofNat (ad.eu s)) 1=false:=by rw[km,(eX ae).2.1];grind
 by_cases h2:2<s.length
 .have ey:ad.aF .gtr (Int.ofNat (ad.eu s)) 2=true:=by rw[km,(eX ae).2.2.2];grind
  refine ai ?_;repeat' (split<;>refine ai ?_)
  all_goals exact ao _ _ ⟨_,rfl,axr⟩
 have ey:ad.aF .gtr (Int.ofNat (ad.eu s)) 2=false:=by rw[km,(eX ae).2.2.2];grind
 have eD:ad.h3 s=s.map gj:=axx;have bF:(ad.h3 s).length=s.length:=axu;have cl:∀i (h:i<s.length),(ad.h3 s)[i]?=some (gj s[i]):=λi h=>axu;clear eD;refine ai ?_;repeat' (split<;>refine ai ?_)
 generalize ad.h3 s=B at*;refine⟨b6 (λz:Int×Nat=>cA [(3,.d (int z.1)),(15,.d (.list 1 B)),(16,.d (int (Int.ofNat (ad.len B)))),(17,.d (int (Int.ofNat z.2)))] []) (λz=>z.2<=s.length) λz=>s.length-z.2,_,⟨(0,0),azF _,rfl,axr⟩,?_⟩;rintro _ _ ⟨⟨r,i⟩,hi,rfl,rfl⟩;dsimp only at hi⊢;by_cases aB:i<s.length
 .have g1:ad.aF .lss (Int.ofNat i) (Int.ofNat (ad.len B))=true:=by simp_all[aI]
  have g2:=cV ae (cl i aB);have g3:=cv ae (n:=i) axs;unfold gj at g2;generalize ((s[i].toNat:Nat):Int)=x at*;refine ai ?_;repeat' (split<;>refine ai ?_)
  all_goals first|exact ao _ _ ⟨_,rfl,axr⟩|exact tS (λst=>(LU st 3,i+1)) aB (show s.length-(i+1)<s.length-i by omega) axr
 .have g1:ad.aF .lss (Int.ofNat i) (Int.ofNat (ad.len B))=false:=by simp_all[aI]
  refine ai ?_;repeat' (split<;>refine ai ?_)
  all_goals exact ao _ _ ⟨_,rfl,axr⟩
theorem aqh(a b c:Nat)(br:a<=100)(aq:b<=100)(ay:1<=c)(yH:c<=100):∃r:Int,aM 75 [.d (int (Int.ofNat a)),.d (int (Int.ofNat b)),.d (int (Int.ofNat c))] [] (.d (.int .u64 r)) []:=by
 refine gV ?_;refine UY.cr _ λad ae K ao=> ?_;refine ai ?_;refine⟨b6 (λz:Int×Nat=>cA [(1,.d (int (Int.ofNat b))),(2,.d (int (Int.ofNat c))),(7,.d (.int .u64 z.1)),(8,.d (int (Int.ofNat z.2)))] []) (λz=>z.2<=200) λz=>b+1-z.2,_,⟨(0,a),axs,rfl,axr⟩,?_⟩;rintro _ _ ⟨⟨r,i⟩,hi,rfl,rfl⟩;dsimp only at hi⊢;by_cases aB:i<=b
 .have g1:ad.aF .leq (Int.ofNat i) (Int.ofNat b)=true:=by simp_all[aI]
  have g2:ad.aF .geq (Int.ofNat i) 0=true:=axx;have g3:ad.io .add .i64 (Int.ofNat i) (Int.ofNat c)=Int.ofNat (i+c):=oN ae axv axv;obtain⟨m,hm⟩:∃m,m=i+c:=⟨_,rfl⟩;rw[<-hm]at g3;refine ai ?_;repeat' (split<;>refine ai ?_)
  all_goals exact tS (λst=>(LU st 7,m)) (show m<=200 by omega) (show b+1-m<b+1-i by omega) axr
 .have g1:ad.aF .leq (Int.ofNat i) (Int.ofNat b)=false:=by simp_all[aI]
  refine ai ?_;repeat' (split<;>refine ai ?_)
  all_goals exact ao _ _ ⟨_,rfl,axr⟩
theorem zW(a b c:Int)(br:0<=a/\a<=100)(aq:0<=b/\b<=100)(ay:1<=c/\c<=100):∃r:Int,aM 75 [.d (int a),.d (int b),.d (int c)] [] (.d (.int .u64 r)) []:=by
 obtain⟨r,h⟩:=aqh a.toNat b.toNat c.toNat axs axs axs axs;grind
theorem abZ(f:Int)(bm:f=0\/f=1\/f=2\/f=3\/f=4):∃r:Int,aM 41 [.d (int f)] [] (.d (.int .u64 r)) []:=by
 refine gV ?_;obtain⟨r0,ch⟩:=zW 0 59 1 axw axw axw;obtain⟨bU,aj⟩:=zW 0 23 1 axw axw axw;obtain⟨b4,aD⟩:=zW 1 31 1 axw axw axw;obtain⟨dm,aW⟩:=zW 1 12 1 axw axw axw;obtain⟨pj,bQ⟩:=zW 0 6 1 axw axw axw;refine Wf.cr _ λad ae K ao=> ?_;rcases bm with rfl|rfl|rfl|rfl|rfl
 all_goals
  refine ai ?_;repeat' (split<;>refine ai ?_)
  exact ao _ _ ⟨_,rfl,axr⟩
theorem aqi(s:ax)(c:UInt8):∃r:Int,(r= -1\/∃k:Nat,k<s.length/\r=Int.ofNat k)/\aM 200 [.d (.str s),.d (.int .u8 (Int.ofNat c.toNat))] [] (.d (int r)) []:=
 ⟨_,SI s _,akt alV alU⟩
theorem ab0(s:ax)(c:UInt8):∃r:Int,(r= -1\/∃k:Nat,k<s.length/\r=Int.ofNat k)/\aM 171 [.d (.str s),.d (.str [c])] [] (.d (int r)) []:=by
 refine fL ?_;obtain⟨r,aw,aj⟩:=aqi s c;refine W5.cr _ λad ae K ao=> ?_;have h1:ad.eu [c]=1:=axx;have h2:ad.aF .eql (Int.ofNat 1) 0=false:=axC;have av:ad.aF .eql (Int.ofNat 1) 1=true:=axC;have aZ:ad.Fg 0 1=true:=axx;have bW:ad.B8 [c] 0=c:=axx;by_cases hs:[c]=s
 .have dh:ad.bw .eql [c] s=true:=by grind[F8]
  refine ai ?_;repeat' (split<;>refine ai ?_)
  all_goals exact ao _ _ ⟨0,.inr ⟨0,axv,rfl⟩,rfl,axr⟩
 .have dh:ad.bw .eql [c] s=false:=by grind[F8]
  conv=>cbv
  repeat' ((first|refine bG ?_|refine bH ?_|simp -proj only[h1,h2,av,aZ,bW,dh]|(split<;>(rename_i h;try simp only[h])))<;>conv=>cbv)
  all_goals exact ao _ _ ⟨r,aw,rfl,axr⟩
theorem L6(s:ax)(c:UInt8):∃r:Int,(r= -1\/∃k:Nat,k<s.length/\r=Int.ofNat k)/\aM 121 [.d (.str s),.d (.str [c])] [] (.d (int r)) []:=by
 obtain⟨r,aw,aj⟩:=ab0 s c;refine⟨r,aw,?_⟩;refine Vg.cw λad ae Q a8=> ?_;refine ai ?_;all_goals (subst ae;exact b5 a8 axt axr)
theorem aqj(s:ax)(c:UInt8)(hs:s.length<=1073741824):∃(a b:ax) (f:Bool),(a.length<=s.length/\b.length<=s.length)/\aM 122 [.d (.str s),.d (.str [c])] [] (.tuple [.d (.str a),.d (.str b),.d (.bool f)]) []:=by
 refine Kz ?_;obtain⟨r,aw,aj⟩:=ab0 s c;refine YF.cr _ λad ae K ao=> ?_;have h1:ad.eu [c]=1:=axx;have h0:ad.eu s=s.length:=axx;rcases aw with rfl|⟨k,au,rfl⟩
 .have p1:ad.aF .geq (-1) 0=false:=by rw[(eX ae).2.2.1];rfl
  refine ai ?_;repeat' (split<;>refine ai ?_)
  all_goals exact ao _ _ ⟨s,[],false,⟨azI _,azF _⟩,rfl,axr⟩
 .have p1:ad.aF .geq (Int.ofNat k) 0=true:=by rw[(eX ae).2.2.1];simp
  have ey:ad.io .add .i64 (Int.ofNat k) (Int.ofNat 1)=Int.ofNat (k+1):=cv ae (n:=k) axs;have lr:ad.oE 0 (Int.ofNat k) s.length=true:=azr;have i':ad.oE (Int.ofNat (k+1)) (Int.ofNat s.length) s.length=true:=azr;have q1:(ad.iB s 0 (Int.ofNat k)).length<=s.length:=axx;have bK:(ad.iB s (Int.ofNat (k+1)) (Int.ofNat s.length)).length<=s.length:=axx;obtain⟨m,hm⟩:∃m,m=k+1:=⟨_,rfl⟩;obtain⟨n,az⟩:∃n,n=s.length:=⟨_,rfl⟩;rw[<-hm]at ey i' bK;rw[<-az]at lr i' q1 bK h0;conv=>cbv
  repeat' ((first|refine bG ?_|refine bH ?_|simp -proj only[p1,ey,lr,i',h0,h1]|(split<;>(rename_i h;try simp only[h])))<;>conv=>cbv)
  all_goals exact ao _ _ ⟨_,_,true,⟨aAs q1 (aBw az),aAs bK (aBw az)⟩,rfl,axr⟩
theorem ab1(s:ax)(c:UInt8)(hs:s.length<=1073741824):∃(a b:ax) (f:Bool),(a.length<=s.length/\b.length<=s.length)/\aM 76 [.d (.str s),.d (.str [c])] [] (.tuple [.d (.str a),.d (.str b),.d (.bool f)]) []:=by
 obtain⟨a,b,f,h,aj⟩:=aqj s c hs;refine⟨a,b,f,h,?_⟩;refine S'.cw λad ae Q a8=> ?_;refine ai ?_;all_goals (subst ae;exact b5 a8 axt axr)
theorem aqk(s:ax)(c:UInt8):∃b:Bool,aM 73 [.d (.str s),.d (.str [c])] [] (.d (.bool b)) []:=by
 refine gV ?_;refine KI.cr _ λad ae K ao=> ?_;have h1:ad.eu [c]=1:=axx;have h0:ad.eu s=s.length:=axx;by_cases hs:1<=s.length
 .have p1:ad.aF .geq (Int.ofNat (ad.eu s)) (Int.ofNat 1)=true:=by rw[h0,(eX ae).2.2.1];grind
  have lr:ad.oE 0 (Int.ofNat 1) (ad.eu s)=true:=axx;refine ai ?_;repeat' (split<;>refine ai ?_)
  all_goals exact ao _ _ ⟨_,rfl,axr⟩
 .have p1:ad.aF .geq (Int.ofNat (ad.eu s)) (Int.ofNat 1)=false:=by rw[h0,(eX ae).2.2.1];simp_all
  refine ai ?_;repeat' (split<;>refine ai ?_)
  all_goals exact ao _ _ ⟨_,rfl,axr⟩
theorem aql(s:ax)(c:UInt8)(dW:s.length<=1073741824):∃b:Bool,aM 74 [.d (.str s),.d (.str [c])] [] (.d (.bool b)) []:=by
 refine gV ?_;refine Yn.cr _ λad ae K ao=> ?_;have h1:ad.eu [c]=1:=axx;have h0:ad.eu s=s.length:=axx;by_cases hs:1<=s.length
 .have p1:ad.aF .geq (Int.ofNat (ad.eu s)) (Int.ofNat 1)=true:=by rw[h0,(eX ae).2.2.1];grind
  obtain⟨m,hm⟩:∃m,s.length=m+1:=⟨s.length-1,axs⟩;have ey:ad.io .sub .i64 (Int.ofNat (ad.eu s)) (Int.ofNat 1)=Int.ofNat m:=by grind[tL]
  have lr:ad.oE (Int.ofNat m) (Int.ofNat (ad.eu s)) (ad.eu s)=true:=by rw[h0];simp only[aI ae,azH,azN,azM];omega
  refine ai ?_;repeat' (split<;>refine ai ?_)
  all_goals exact ao _ _ ⟨_,rfl,axr⟩
 .have p1:ad.aF .geq (Int.ofNat (ad.eu s)) (Int.ofNat 1)=false:=by rw[h0,(eX ae).2.2.1];simp_all
  refine ai ?_;repeat' (split<;>refine ai ?_)
  all_goals exact ao _ _ ⟨_,rfl,axr⟩
theorem aqm(s:ax)(c:UInt8):∃b:Bool,aM 39 [.d (.str s),.d (.str [c])] [] (.d (.bool b)) []:=by
 obtain⟨b,aj⟩:=aqk s c;refine⟨b,?_⟩;refine KA.cw λad ae Q a8=> ?_;refine ai ?_;all_goals (subst ae;exact b5 a8 axt axr)
theorem aqn(s:ax)(c:UInt8)(dW:s.length<=1073741824):∃b:Bool,aM 40 [.d (.str s),.d (.str [c])] [] (.d (.bool b)) []:=by
 obtain⟨b,aj⟩:=aql s c dW;refine⟨b,?_⟩;refine Yc.cw λad ae Q a8=> ?_;refine ai ?_;all_goals (subst ae;exact b5 a8 axt axr)
theorem aqo{a b c:Int}{K:ag->aV->Prop}(h:(0<=a/\a<=100)/\(0<=b/\b<=100)/\1<=c/\c<=100)(au:∀r:Int,K (.d (.int .u64 r)) []):∃r s2,aM 75 [.d (int a),.d (int b),.d (int c)] [] r s2/\K r s2:=by
 obtain⟨r,e⟩:=zW a b c h.1 h.2.1 h.2.2;exact⟨_,_,e,au r⟩
def xD(k:IntKind):ag->Bool
 |.d (.int j _)=>decide (j=k)
 |_=>false
theorem CY{k:IntKind}{v:ag}(h:xD k v=true):∃n,v=.d (.int k n):=by
 unfold xD at h;split at h
 .simp only[azN]at h;subst h;exact⟨_,rfl⟩
 .simp at h
def pG(lo hi:Int)(x:Go.aJ.aA)(st:af):Prop:=st.bI=(λ_=>none)/\st.s=[]/\match x with
 |.ret=>xD .u64 (st.aP 4)=true/\xD .i64 (st.aP 5)=true
 |.normal=>xD .i64 (st.aP 11)=true/\xD .i64 (st.aP 12)=true/\xD .i64 (st.aP 13)=true/\st.aP 6=.d (int lo)/\st.aP 7=.d (int hi)
 |_=>False
set_option maxHeartbeats 40000000 in
theorem ab2(f:Int)(bm:f=0\/f=1\/f=2\/f=3\/f=4)(s:ax)(hs:s.length<=1073741824):∃(r e:Int),aM 42 [.d (int f),.d (.str s)] [] (.tuple [.d (.int .u64 r),.d (int e)]) []:=by
 refine tI ?_;obtain⟨a,b,st,⟨br,aq⟩,aj⟩:=ab1 s 47 hs;obtain⟨dm,aD⟩:=L5 b;obtain⟨a2,aR,rg,⟨pd,dP⟩,aW⟩:=ab1 a 45 axs;obtain⟨bU,bQ⟩:=L5 a2;obtain⟨b4,cK⟩:=L5 aR;refine UH.cr _ λad ae K ao=> ?_;clear br aq pd dP hs;obtain⟨lo,hi,nM,Ih,uE⟩:∃lo hi:Int,0<=lo/\hi<=100/\((f=0/\lo=0/\hi=59)\/(f=1/\lo=0/\hi=23)\/(f=2/\lo=1/\hi=31)\/(f=3/\lo=1/\hi=12)\/(f=4/\lo=0/\hi=6)):=by
  rcases bm with rfl|rfl|rfl|rfl|rfl
  .exact⟨0,59,axw,axw,.inl ⟨rfl,rfl,rfl⟩⟩
  .exact⟨0,23,axw,axw,.inr (.inl ⟨rfl,rfl,rfl⟩)⟩
  .exact⟨1,31,axw,axw,.inr (.inr (.inl ⟨rfl,rfl,rfl⟩))⟩
  .exact⟨1,12,axw,axw,.inr (.inr (.inr (.inl ⟨rfl,rfl,rfl⟩)))⟩
  .exact⟨0,6,axw,axw,.inr (.inr (.inr (.inr ⟨rfl,rfl,rfl⟩)))⟩
 clear bm;refine xb ae [_,_,_,_,_,_,_] (pG lo hi) ?_ ?_
 .clear ao nM Ih;rcases uE with⟨rfl,rfl,rfl⟩|⟨rfl,rfl,rfl⟩|⟨rfl,rfl,rfl⟩|⟨rfl,rfl,rfl⟩|⟨rfl,rfl,rfl⟩
  all_goals cases st
  all_goals cases rg
  all_goals
   refine ai ?_;repeat' (split<;>refine ai ?_)
   all_goals first
    |trivial
    |exact⟨axr,axr,axr,axr⟩
    |(repeat' (first|exact trivial|apply And.intro|kernel_rfl))
    |exact⟨axr,axr,axr,axr,axr,axr,axr⟩
 .clear uE aj aD aW bQ cK;intro x s1 ak;obtain⟨aP,bI,fv⟩:=s1;obtain⟨h1,h2,av⟩:=ak;dsimp only at h1 h2 av;subst h1;subst h2;cases x with
  |exit i=>exact av.elim
  |ret=>
   obtain⟨n,az⟩:=CY av.1;obtain⟨m,hm⟩:=CY av.2;clear av;conv=>cbv
   repeat' ((first|refine bG ?_|refine bH ?_|simp -proj only[az,hm]|(split<;>(rename_i h;try simp only[h])))<;>conv=>cbv)
   exact ao _ _ ⟨_,_,rfl,axr⟩
  |normal=>
   obtain⟨c,ay⟩:=CY av.1;obtain⟨a,br⟩:=CY av.2.1;obtain⟨b,aq⟩:=CY av.2.2.1;obtain⟨dh,h6⟩:=av.2.2.2;clear av;have iM:Ch aP [(11,.d (int c)),(12,.d (int a)),(13,.d (int b)),(6,.d (int lo)),(7,.d (int hi))]=aP:=Ks (by
    intro p hp;simp only[azY,aAi,aAR]at hp;rcases hp with rfl|rfl|rfl|rfl|rfl
    .exact ay
    .exact br
    .exact aq
    .exact dh
    .exact h6)
   rw[<-iM];clear iM ay br aq dh h6;refine ai ?_;repeat' (split<;>refine ai ?_)
   all_goals first
    |exact ao _ _ ⟨_,_,rfl,axr⟩
    |(refine aqo (by simp only[aI ae,az2]at*;omega) λr=> ?_
      conv=>cbv
      exact ao _ _ ⟨_,_,rfl,axr⟩)
end Go.Proofs.YtmgpekpnidjfoaaGreatDoor
