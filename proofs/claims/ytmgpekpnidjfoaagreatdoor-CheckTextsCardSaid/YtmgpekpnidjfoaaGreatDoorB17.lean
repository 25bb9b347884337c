/- Part of texts_said. -/
import Derived.Test.YtmgpekpnidjfoaaGreatDoorB16
set_option maxRecDepth 100000
set_option maxHeartbeats 8000000
set_option linter.unusedSimpArgs false
set_option linter.unusedVariables false
namespace Go.Proofs.YtmgpekpnidjfoaaGreatDoor
open Go Go.aJ
attribute [local irreducible] bM
theorem atk(s:ax)(L:List Go.aJ.D)(a e:Int)(he:e≠0)(aj:aM 7 [.d (.str s)] [] (.tuple [.d (.list 25 L),.d (int a),.d (int e)]) []):
  aM 6 [.d (.str s)] [] (.tuple [.d .dO,.d (int a),.d (int e)]) []:=by
 refine FF.cw λad ae Q a8=> ?_;have t1:ad.aF .neq e 0=true:=ayR;conv=>cbv
 repeat ((first|refine bG ?_|refine bH ?_|simp -proj only[t1]);conv=>cbv)
 try trivial
 all_goals (subst ae;exact b5 a8 axr axr)
theorem atl(s:ax)(L:List Go.aJ.D)(a b e:Int)(he:e≠0)(aj:aM 7 [.d (.str s)] [] (.tuple [.d (.list 25 L),.d (int a),.d (int 0)]) [])
  (aD:aM 24 [.d (.list 25 L)] [] (.tuple [.d .dO,.d (int b),.d (int e)]) []):
  aM 6 [.d (.str s)] [] (.tuple [.d .dO,.d (int b),.d (int e)]) []:=by
 refine FF.cw λad ae Q a8=> ?_;have t0:ad.aF .neq 0 0=false:=axz;have t1:ad.aF .neq e 0=true:=ayR;conv=>cbv
 repeat ((first|refine bG ?_|refine bH ?_|simp -proj only[t0,t1]);conv=>cbv)
 try trivial
 all_goals (subst ae;exact b5 a8 axr axr)
theorem adb(s:ax)(L:List Go.aJ.D)(a b:Int)(m:cP)(hm:m.Ok)(az hs:Bool)(aj:aM 7 [.d (.str s)] [] (.tuple [.d (.list 25 L),.d (int a),.d (int 0)]) [])
  (aD:aM 24 [.d (.list 25 L)] [] (.tuple [.ptr 0 0,.d (int b),.d (int 0)]) (m.bw az hs true)):
  aM 6 [.d (.str s)] [] (.tuple [.ptr 0 0,.d (int 0),.d (int 0)]) (m.bw az hs true):=by
 obtain⟨M7,t,bL,N,ps,ns,S,gn,ct,cu,cp,P⟩:=m;refine FF.lq (MX az hs) λad ae Q a8=> ?_;have t0:ad.aF .neq 0 0=false:=axz;obtain⟨bh,a2,a3⟩:=bA.of ae hm.N;obtain⟨bq,aR,bO⟩:=bA.of ae hm.S;obtain⟨c1,c2,c3⟩:=bA.of ae hm.ct;obtain⟨d1,d2,d3⟩:=bA.of ae hm.cu;obtain⟨b0,b7,c7⟩:=bA.of ae hm.cp;obtain⟨cT,c8,du⟩:=lD.of ae hm.P;dsimp only at bh a2 a3 bq aR bO c1 c2 c3 d1 d2 d3 b0 b7 c7 cT c8 du;cases az<;>cases hs;all_goals
  dsimp only[cP.bw,MX,eh,c6,sw]at aD a8⊢;conv=>cbv
  repeat' ((first|refine bG ?_|refine bH ?_|simp -proj only[t0,bh,a2,a3,bq,aR,bO,c1,c2,c3,d1,d2,d3,b0,b7,c7,cT,c8,du]|(split<;>(rename_i h;try simp only[h])))<;>conv=>cbv)
 all_goals (subst ae;exact b5 a8 axr axr)
theorem atm(m:cP)(hm:m.Ok)(az hs:Bool):aM 9 [.ptr 0 0] (m.st az hs true) (.d (.str m.t)) (m.st az hs true):=by
 obtain⟨M7,t,bL,N,ps,ns,S,gn,ct,cu,cp,P⟩:=m;refine Ux.lq (jB az hs true) λad ae Q a8=> ?_;obtain⟨bh,a2,a3⟩:=bA.of ae hm.N;obtain⟨bq,aR,bO⟩:=bA.of ae hm.S;obtain⟨c1,c2,c3⟩:=bA.of ae hm.ct;obtain⟨d1,d2,d3⟩:=bA.of ae hm.cu;obtain⟨b0,b7,c7⟩:=bA.of ae hm.cp;obtain⟨cT,c8,du⟩:=lD.of ae hm.P;dsimp only at bh a2 a3 bq aR bO c1 c2 c3 d1 d2 d3 b0 b7 c7 cT c8 du;cases az<;>cases hs;all_goals
  dsimp only[cP.st,jB,eh,c6]at a8⊢;conv=>cbv
  repeat' ((first|refine bG ?_|refine bH ?_|simp -proj only[bh,a2,a3,bq,aR,bO,c1,c2,c3,d1,d2,d3,b0,b7,c7,cT,c8,du]|(split<;>(rename_i h;try simp only[h])))<;>conv=>cbv)
 all_goals (subst ae;exact b5 a8 axr axr)
def cP.two(m:cP):Bool->Bool->aV
 |true,true=>[eh m.L m.t m.ps (.aS 2 0 m.bL m.bL 24) (.aS 3 0 m.ns m.ns 12) (.ptr 4 0) (.map 5),eh m.L m.t m.ps (.aS 6 0 m.bL m.bL 24) (.aS 7 0 m.ns m.ns 12) (.ptr 8 0) (.map 9),.box m.N,.box m.S,.box (c6 10 11 12 m.gn),.map m.P,.box m.N,.box m.S,.box (c6 13 14 15 m.gn),.map m.P,.box m.ct,.box m.cu,.box m.cp,.box m.ct,.box m.cu,.box m.cp]
 |true,false=>[eh m.L m.t m.ps (.aS 2 0 m.bL m.bL 24) (.own 12 []) (.ptr 3 0) (.map 4),eh m.L m.t m.ps (.aS 5 0 m.bL m.bL 24) (.own 12 []) (.ptr 6 0) (.map 7),.box m.N,.box (c6 8 9 10 m.gn),.map m.P,.box m.N,.box (c6 11 12 13 m.gn),.map m.P,.box m.ct,.box m.cu,.box m.cp,.box m.ct,.box m.cu,.box m.cp]
 |false,true=>[eh m.L m.t m.ps (.own 24 []) (.aS 2 0 m.ns m.ns 12) (.ptr 3 0) (.map 4),eh m.L m.t m.ps (.own 24 []) (.aS 5 0 m.ns m.ns 12) (.ptr 6 0) (.map 7),.box m.S,.box (c6 8 9 10 m.gn),.map m.P,.box m.S,.box (c6 11 12 13 m.gn),.map m.P,.box m.ct,.box m.cu,.box m.cp,.box m.ct,.box m.cu,.box m.cp]
 |false,false=>[eh m.L m.t m.ps (.own 24 []) (.own 12 []) (.ptr 2 0) (.map 3),eh m.L m.t m.ps (.own 24 []) (.own 12 []) (.ptr 4 0) (.map 5),.box (c6 6 7 8 m.gn),.map m.P,.box (c6 9 10 11 m.gn),.map m.P,.box m.ct,.box m.cu,.box m.cp,.box m.ct,.box m.cu,.box m.cp]
def ade:Bool->Bool->List Nat
 |true,true=>[2,3,5,6,7,9,10,11,12,13,14,15]
 |true,false=>[2,4,5,7,8,9,10,11,12,13]
 |false,true=>[2,4,5,7,8,9,10,11,12,13]
 |false,false=>[3,5,6,7,8,9,10,11]
theorem atn(m:cP)(hm:m.Ok)(az hs:Bool):aM 10 [.ptr 0 0,.ptr 1 0] (m.two az hs) (.d (.bool true)) (m.two az hs):=by
 obtain⟨M7,t,bL,N,ps,ns,S,gn,ct,cu,cp,P⟩:=m;refine SL.lq (ade az hs) λad ae Q a8=> ?_;have t0:ad.bw .eql t t=true:=by rw[F8 ae];exact azO rfl
 obtain⟨bh,a2,a3⟩:=bA.of ae hm.N;obtain⟨bq,aR,bO⟩:=bA.of ae hm.S;obtain⟨c1,c2,c3⟩:=bA.of ae hm.ct;obtain⟨d1,d2,d3⟩:=bA.of ae hm.cu;obtain⟨b0,b7,c7⟩:=bA.of ae hm.cp;obtain⟨cT,c8,du⟩:=lD.of ae hm.P;dsimp only at bh a2 a3 bq aR bO c1 c2 c3 d1 d2 d3 b0 b7 c7 cT c8 du;cases az<;>cases hs;all_goals
  dsimp only[cP.two,ade,eh,c6]at a8⊢;conv=>cbv
  repeat' ((first|refine bG ?_|refine bH ?_|simp -proj only[t0,bh,a2,a3,bq,aR,bO,c1,c2,c3,d1,d2,d3,b0,b7,c7,cT,c8,du]|(split<;>(rename_i h;try simp only[h])))<;>conv=>cbv)
 all_goals (subst ae;exact b5 a8 axr axr)
def adf:Bool->Bool->List Nat
 |true,true=>[1,2,4,5,6,9,11,12,14,15,16,19]
 |true,false=>[1,3,4,5,8,10,12,13,14,17]
 |false,true=>[1,3,4,5,8,10,12,13,14,17]
 |false,false=>[2,3,4,7,10,11,12,15]
theorem aml(axq:aM 5 [] [] (.d (.bool true)) [])(s:ax):aM 3 [.d (.str s)] [] (.d (.bool true)) []:=by
 obtain⟨ds,a,e,⟨lh,hw,yt,_⟩,aj⟩:=abo s;by_cases he:e=0
 .subst he;obtain⟨t,es,wA,aD⟩:=abY ds lh hw;obtain⟨r,st,aw,aW⟩:=atc ds lh hw yt t es aD λh=>(wA h).2;generalize ds.map cQ.d=L at*;rcases aw with⟨b,e,he,rfl,rfl⟩|⟨rfl,m,az,hs,b,⟨hm,rfl⟩,rfl,rfl⟩
  .have bQ:=atl s L a b e he aj aW;refine FC.cw λad ae Q a8=> ?_;have t1:ad.aF .neq e 0=true:=ayR;obtain⟨B,eD⟩:∃b,ad.aF .gtr (Int.ofNat (ad.eu s)) 2500=b:=⟨_,rfl⟩;clear aj aD aW;cases B;all_goals
    conv=>cbv
    repeat' ((first|refine bG ?_|refine bH ?_|simp -proj only[t1,eD]|(split<;>(rename_i h;try simp only[h])))<;>conv=>cbv)
   all_goals (subst ae;exact b5 a8 axr axr)
  .obtain⟨_,a2,cK⟩:=wA rfl;have bQ:=adb s L a b m hm az hs aj aW;have dQ:=adb m.t L a2 b m hm az hs cK aW;have xu:=atm m hm az hs;have si:=atn m hm az hs;obtain⟨M7,t,bL,N,ps,ns,S,gn,ct,cu,cp,P⟩:=m;dsimp only at aD dQ xu;clear aW cK wA;refine FC.lq (adf az hs) λad ae Q a8=> ?_;have t1:ad.aF .neq 0 0=false:=axz;have t2:ad.aF .eql 0 0=true:=axz;have t3:ad.bw .eql t t=true:=by rw[F8 ae];exact azO rfl
   obtain⟨B,eD⟩:∃b,ad.aF .gtr (Int.ofNat (ad.eu s)) 2500=b:=⟨_,rfl⟩;obtain⟨bh,a2,a3⟩:=bA.of ae hm.N;obtain⟨bq,aR,bO⟩:=bA.of ae hm.S;obtain⟨c1,c2,c3⟩:=bA.of ae hm.ct;obtain⟨d1,d2,d3⟩:=bA.of ae hm.cu;obtain⟨b0,b7,c7⟩:=bA.of ae hm.cp;obtain⟨cT,c8,du⟩:=lD.of ae hm.P;dsimp only at bh a2 a3 bq aR bO c1 c2 c3 d1 d2 d3 b0 b7 c7 cT c8 du;cases az<;>cases hs<;>cases B;all_goals
    dsimp only[cP.bw,cP.st,cP.two,adf,eh,c6,sw]at bQ dQ xu si⊢;conv=>cbv
    repeat' ((first|refine bG ?_|refine bH ?_|simp -proj only[t1,t2,t3,eD,bh,a2,a3,bq,aR,bO,c1,c2,c3,d1,d2,d3,b0,b7,c7,cT,c8,du]|(split<;>(rename_i h;try simp only[h])))<;>conv=>cbv)
   all_goals (subst ae;exact b5 a8 axr axr)
 .have bQ:=atk s _ a e he aj;clear aj;refine FC.cw λad ae Q a8=> ?_;have t1:ad.aF .neq e 0=true:=ayR;obtain⟨B,eD⟩:∃b,ad.aF .gtr (Int.ofNat (ad.eu s)) 2500=b:=⟨_,rfl⟩;cases B;all_goals
   conv=>cbv
   repeat' ((first|refine bG ?_|refine bH ?_|simp -proj only[t1,eD]|(split<;>(rename_i h;try simp only[h])))<;>conv=>cbv)
  all_goals (subst ae;exact b5 a8 axr axr)
end Go.Proofs.YtmgpekpnidjfoaaGreatDoor
