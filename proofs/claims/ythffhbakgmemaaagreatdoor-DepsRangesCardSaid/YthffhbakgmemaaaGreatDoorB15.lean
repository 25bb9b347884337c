/- Part of ranges_said. -/
import Derived.Test.YthffhbakgmemaaaGreatDoorB14
set_option maxRecDepth 100000
set_option maxHeartbeats 8000000
set_option linter.unusedSimpArgs false
set_option linter.unusedVariables false
namespace Go.Proofs.YthffhbakgmemaaaGreatDoor
open Go Go.aH
attribute [local irreducible] bG
theorem atI{ad:bm}(h:ad=bm.bU){l:List cX}{i:Nat}(hi:i<l.length)(bq:List (aw×Int)):ad.mR true (i*24+2) 1 (ha l) true=true/\ad.lC (ha l) (i*24+2) [.d (.list 2 (bq.map bD))]=some (ha (l.set i {l[i]with bq:=bq})):=by
 have k4:i<(wm l).length:=azE;refine⟨K1 h (yt l) k4 ax0,?_⟩;unfold ha;rw[K2 h (yt l) k4 (by show 2+1<=24;omega),Dz];unfold wm;rw[aCQ];rfl
theorem atJ{ad:bm}(h:ad=bm.bU){l:List cX}{i:Nat}(hi:i<l.length):ad.oZ (ha l) (i*24+7) 16=.d (.agg l[i].pl.bB.cs):=by
 unfold ha;rw[Tl h (yt l) azE ax0,Dz];rfl
def cX.key(x:cX):cX:={x with bq:=[]}
abbrev aDk(l bC:List cX):Prop:=bC.map cX.key=l.map cX.key/\∀y∈bC,y.bq.length<=1073741824
def atK(m:cy)(ay hs:Bool)(Z:List Go.aH.D)(q k:Nat):ag:=cx [(0,.ptr 0 0),(18,.d (.list 1 Z)),(19,.d (int (Int.ofNat q))),(20,.d (int (Int.ofNat k)))] (m.st ay hs true)
def atL(m:cy)(ay hs:Bool)(Z:List Go.aH.D)(q k i aD:Nat)(R IF:List Go.aH.D)(bF j:Nat):ag:=cx [(0,.ptr 0 0),(5,.d (int (Int.ofNat i))),(6,.ptr 1 aD),(7,.own 3 R),(18,.d (.list 1 Z)),(19,.d (int (Int.ofNat q))),(20,.d (int (Int.ofNat k))),(37,.d (.list 4 IF)),(38,.d (int (Int.ofNat bF))),(39,.d (int (Int.ofNat j)))] (m.st ay hs true)
theorem atM(m:cy)(hm:m.Ok)(ay hs:Bool)(l:List cX)(b3:m.N=ha l)(aI:l.length=m.bn)(au:m.bn<=32)(wb:ay=false->l=[])(lk:List Int)(jQ:m.ps=lk.map int)(lY:lk.length=m.bn)(dV:∀y∈l,y.bM.length<=33554432)(hw:∀y∈l,y.pl.w<=dJ)(aGw:∀y∈l,y.bq.length<=1073741824)(jf:s0 m.bn m):
  ∃(a e:Int) (bC:List cX),aDk l bC/\aM 69 [.ptr 0 0] (m.st ay hs true) (.tuple [.d (int a),.d (int e)]) (({m with N:=ha bC}:cy).st ay hs true):=by
 suffices h:∃r s',(∃(a e:Int) (bC:List cX),aDk l bC/\r=.tuple [.d (int a),.d (int e)]/\s'=({m with N:=ha bC}:cy).st ay hs true)/\aM 69 [.ptr 0 0] (m.st ay hs true) r s' by
  obtain⟨_,_,⟨a,e,bC,h1,rfl,rfl⟩,h⟩:=h;exact⟨a,e,bC,h1,h⟩
 obtain⟨L,t,bn,N,ps,ns,S,gn,b0,b6,b4,P⟩:=m;obtain⟨g1,g2,g3,⟨ds,wx,g4⟩,g5⟩:=jf;dsimp only at b3 aI au jQ lY g1 g2 g3 wx g4 g5;subst g1;refine Y'.jt (iP ay hs true) _ λad ae K ao=> ?_;replace ao:∀(a e:Int) (bC:List cX) (s':aU),aDk l bC->s'=(⟨L,t,gn,ha bC,ps,ns,S,gn,b0,b6,b4,P⟩:cy).st ay hs true->K (.tuple [.d (int a),.d (int e)]) s':=λa e y s' h1 sh=>ao _ _ ⟨a,e,y,h1,rfl,sh⟩;obtain⟨bw,a2,a3⟩:=br.of ae hm.N;obtain⟨bJ,a6,cq⟩:=br.of ae hm.S;obtain⟨c1,c2,c3⟩:=br.of ae hm.b0;obtain⟨d1,d2,d3⟩:=br.of ae hm.b6;obtain⟨b',cr,dE⟩:=br.of ae hm.b4;obtain⟨de,dp,dF⟩:=lh.of ae hm.P;dsimp only at bw a2 a3 bJ a6 cq c1 c2 c3 d1 d2 d3 b' cr dE de dp dF;obtain⟨zs,nu,ry⟩:=ac7 ds gn wx axW g2.flat g3.flat;have rv:(zs.map int).length=zs.length:=aAb _;have ow:∀i (h:i<zs.length),(zs.map int)[i]?=some (int zs[i]):=λi h=>c7 h;rw[<-g4]at ry;unfold cR at ry;generalize zs.map int=wz at*;have pJ:ad.len wz=gn:=by subst ae;exact rv.trans nu.len
 have adV:ay=false->gn=0:=λh=>by rw[<-aI,wb h];rfl
 have Ny:ad.len ps=gn:=az7;have Nz:∀i (h:i<gn),ad.get ps (Int.ofNat i)=int (lk[i]'(by rw[lY];exact h)):=λi h=>cz ae az8;have atN:∀bC:List cX,aDk l bC->bC.length=gn/\(ay=false->bC=[])/\(∀y∈bC,y.bM.length<=33554432/\y.pl.w<=dJ):=λbC h=>by
  replace h:=h.1;have h1:bC.length=l.length:=by have:=congrArg List.length h;rwa [aAb,aAb]at this
  refine⟨h1.trans aI,λh=>aCO.1 (by rw[h1,wb h];rfl),λy wa=> ?_⟩;have:y.key∈l.map cX.key:=h▸aC3 wa;obtain⟨z,aO,he⟩:=aAR.1 this;have aj:z.bM=y.bM:=show z.key.bM=y.key.bM from congrArg cX.bM he
  have aF:z.pl=y.pl:=show z.key.pl=y.key.pl from congrArg cX.pl he
  rw[<-aj,<-aF];exact⟨dV z aO,hw z aO⟩
 have iX:∀(bC:List cX) (i:Nat) (h:i<bC.length) (bq:List (aw×Int)),aDk l bC->bq.length<=1073741824->aDk l (bC.set i {bC[i]with bq:=bq}):=λbC i h bq he acu=>by
  refine⟨?_,λy wa=>(aB3 wa).elim (he.2 y) λh=>h▸acu⟩;rw[aCQ,<-he.1];show(bC.map cX.key).set i (cX.key bC[i])=_;have:cX.key bC[i]=(bC.map cX.key)[i]'(by rw[aAb];exact h):=(aCv _).symm;rw[this,aDe]
 have aC:lM ay:=trivial;have fH:lM hs:=trivial;have kW:=hm;cases ay<;>cases hs;all_goals
  dsimp only[cy.st,iP,eD]at ao⊢;conv=>cbv
  repeat' ((first|refine cZ ?_|refine c6 ?_|simp -proj only[pJ,bw,a2,a3,bJ,a6,cq,c1,c2,c3,d1,d2,d3,b',cr,dE,de,dp,dF]|(split<;>(rename_i h;try simp only[h])))<;>conv=>cbv)
  refine⟨bX (λz:Nat×List ah=>atK ⟨L,t,gn,z.2,ps,ns,S,gn,b0,b6,b4,P⟩ (cS aC) (cS fH) wz gn z.1) (λz=>z.1<=gn/\∃bC,z.2=ha bC/\aDk l bC) (λz=>gn-z.1),_,⟨(0,N),⟨aAa _,l,b3,rfl,aGw⟩,rfl,axV⟩,?_⟩;clear ry bw a2 a3;rintro _ _ ⟨⟨k,N⟩,⟨aq,bC,my,uQ⟩,rfl,rfl⟩;dsimp only at aq my uQ⊢;obtain⟨BG,jm,lf⟩:=atN bC uQ;have wA:Flat N:=by rw[my];exact DA _
  obtain⟨bw,a2,a3⟩:=br.of ae wA;by_cases aA:k<gn
  .have ep:k<bC.length:=by omega
   first
   |exact absurd (jm rfl▸ep) (aBh _)
   |skip
   all_goals
    have qM:=nu.len;have bN:=eT ae aA;have b5:ad.er 1 1 (Int.ofNat k) gn=true:=fT ae aA;have dq:=cz ae (ow k axW);have gf:=cd ae (n:=k) axW;obtain⟨i,dw,n2⟩:=wh (nu.all _ (aAl (show k<zs.length by omega)));rw[n2]at dq;have q0:i<bC.length:=axW;obtain⟨ri,atO⟩:=lf _ (aAl q0);have w1:ad.er 24 24 (Int.ofNat i) gn=true:=fT ae dw;have bW:=pZ ae i 24;have fb:ad.lD (i*24) 1=i*24+1:=p2 ae _ _;have jP:ad.hL (i*24+1) 1 N true=true:=azG;have oc:ad.jS N (i*24+1)=.d (.bool bC[i].s):=by rw[my];exact DB ae q0 ax0 rfl
    have gE:ad.lD (i*24) 6=i*24+6:=p2 ae _ _;have gW:ad.hL (i*24+6) 1 N true=true:=azG;have gd:ad.jS N (i*24+6)=.d (.list 4 (bC[i].bM.map dW)):=by rw[my];exact DB ae q0 ax0 rfl
    have hK:ad.lD (i*24) 7=i*24+7:=p2 ae _ _;have gY:ad.hL (i*24+7) 16 N true=true:=azG;have kJ:ad.oZ N (i*24+7) 16=.d (.agg bC[i].pl.bB.cs):=by rw[my];exact atJ ae q0
    have v1:ad.lD (i*24) 2=i*24+2:=p2 ae _ _;have qF:=λbq=>atI ae q0 bq;have NC:=λbq=>iX bC i q0 bq uQ;have atP:(bC[i].bM.map dW).length=bC[i].bM.length:=aAb _;have DC:∀j (h:j<bC[i].bM.length),(bC[i].bM.map dW)[j]?=some (dW bC[i].bM[j]):=λj h=>c7 h;have ND:=λsrc hs=>aqq bC[i].pl atO src hs;have gN:∀j (h:j<bC.length),ad.er 24 24 (Int.ofNat j) gn=true/\ad.hL (j*24+2) 1 N true=true/\ad.jS N (j*24+2)=.d (.list 2 (bC[j].bq.map bD)):=λj aK=>⟨fT ae axW,by rw[my];exact sX ae aK ax0,by rw[my];exact DB ae aK ax0 rfl⟩;have sY:=λv=>G6 ⟨L,t,gn,N,ps,ns,S,gn,b0,b6,b4,P⟩ ⟨wA,kW.S,kW.b0,kW.b6,kW.b4,kW.P⟩ (cS aC) (cS fH) true bC my BG (show gn<=1073741824 by omega) jm v;dsimp only[cy.st,eD,cS]at sY;have atQ:=Nz i dw;have atS:ad.er 1 1 (Int.ofNat i) gn=true:=fT ae dw;generalize (lk[i]'(by rw[lY];exact dw))=aDl at*;clear n2;rw[<-my]at qF;generalize bC[i].pl.bB.cs=axC at*;generalize bC[i].bM=bM at*;generalize bM.map dW=IF at*;generalize bC[i].s=h' at*;generalize i*24=aD at*;generalize aD+1=axD at*;generalize aD+6=axE at*;generalize aD+7=axF at*;generalize aD+2=axG at*;obtain⟨q,aS⟩:∃q,q=bM.length:=⟨_,rfl⟩;have r0:ad.len IF=q:=by subst ae;exact atP.trans aS.symm
    cases h' with
    |true=>
     conv=>cbv
     repeat' ((first|refine cZ ?_|refine c6 ?_|simp -proj only[bN,b5,dq,gf,w1,bW,fb,jP,oc,bw,a2,a3,bJ,a6,cq,c1,c2,c3,d1,d2,d3,b',cr,dE,de,dp,dF]|(split<;>(rename_i h;try simp only[h])))<;>conv=>cbv)
     exact ec (k+1,N) ⟨aA,bC,my,uQ⟩ (by show gn-(k+1)<gn-k;omega) axV
    |false=>
     conv=>cbv
     repeat' ((first|refine cZ ?_|refine c6 ?_|simp -proj only[r0,bN,b5,dq,w1,bW,fb,jP,oc,gE,gW,gd,bw,a2,a3,bJ,a6,cq,c1,c2,c3,d1,d2,d3,b',cr,dE,de,dp,dF]|(split<;>(rename_i h;try simp only[h])))<;>conv=>cbv)
     refine⟨bX (λz:Nat×List Go.aH.D=>atL ⟨L,t,gn,N,ps,ns,S,gn,b0,b6,b4,P⟩ (cS aC) (cS fH) wz gn k i aD z.2 IF q z.1) (λz=>z.1<=q/\∃src:List (aw×List (aw×Int)),z.2=src.map jV/\src.length=z.1) (λz=>q-z.1),_,⟨(0,[]),⟨aAa _,[],rfl,rfl⟩,rfl,axV⟩,?_⟩;clear bN b5 dq w1 bW fb jP oc gE gW gd;rintro _ _ ⟨⟨j,R⟩,⟨aK,src,ch,kz⟩,rfl,rfl⟩;dsimp only at aK ch kz⊢;by_cases qh:j<q
     .have bN:=eT ae qh;have b5:=cz ae (DC j axW);have dq:ad.er 4 4 (Int.ofNat j) q=true:=fT ae qh;have gf:=cd ae (n:=j) axW;obtain⟨f,ok,gx,o9⟩:=sY (bM[j]' axW).a;have wV:f<bC.length:=by
       rcases gx with⟨_,h,_⟩|⟨_,h,_⟩
       .exact h
       .omega
      obtain⟨fO,z3,z4⟩:=gN f wV;have z2:=pZ ae f 24;have z5:ad.lD (f*24) 2=f*24+2:=p2 ae _ _;have ng:ad.app R [.agg [.str (bM[j]' axW).b,.list 2 (bC[f].bq.map bD),.list 1 []]]=(src++[((bM[j]' axW).b,bC[f].bq)]).map jV:=by subst ae;rw[ch,aAy];rfl
      have atT:(src++[((bM[j]' axW).b,bC[f].bq)]).length=j+1:=by rw[aAA,kz];rfl
      have sW:R.length<=33554432:=by rw[ch,aAb];omega
      generalize src++[((bM[j]' axW).b,bC[f].bq)]=atU at*;generalize bC[f].bq.map bD=rr at*;clear sY gN gx ND qF NC;generalize (bM[j]' axW)=y at*;obtain⟨atc,atb,adY,adw⟩:=y;unfold dW at*;dsimp only at*;generalize f*24=atV at*;generalize atV+2=axH at*;conv=>cbv
      repeat' ((first|refine cZ ?_|refine c6 ?_|simp -proj only[r0,bN,b5,dq,gf,fO,z2,z3,z4,z5,bw,a2,a3,bJ,a6,cq,c1,c2,c3,d1,d2,d3,b',cr,dE,de,dp,dF]|(split<;>(rename_i h;try simp only[h])))<;>conv=>cbv)
      exact ec (j+1,ad.app R [.agg [.str adw,.list 2 rr,.list 1 []]]) ⟨qh,atU,ng,atT⟩ (by show q-(j+1)<q-j;omega) axV
     .have bN:=eY ae qh;obtain⟨bq,e,aGx,nV⟩:=ND src axW;rw[<-ch]at nV;obtain⟨AN,eb⟩:=qF bq;have AU:=NC bq;obtain⟨l2,adZ⟩:∃l2,l2=bC.set i {bC[i]with bq:=bq}:=⟨_,rfl⟩;rw[<-adZ]at eb AU;obtain⟨lO,mv⟩:∃lO,lO=ha l2:=⟨_,rfl⟩;rw[<-mv]at eb;have atW:Flat lO:=by rw[mv];exact DA _
      obtain⟨fO,z2,z3⟩:=br.of ae atW;generalize bq.map bD=rr at*;clear sY gN ND qF NC adZ;obtain⟨B,eJ⟩:∃b,ad.aD .neq e 0=b:=⟨_,rfl⟩;cases B with
      |true=>
       conv=>cbv
       repeat' ((first|refine cZ ?_|refine c6 ?_|simp -proj only[bN,hK,gY,kJ,eJ,Ny,atQ,atS,bw,a2,a3,bJ,a6,cq,c1,c2,c3,d1,d2,d3,b',cr,dE,de,dp,dF]|(split<;>(rename_i h;try simp only[h])))<;>conv=>cbv)
       exact ao _ _ bC _ uQ (by(try rw[<-my]);try kernel_rfl)
      |false=>
       conv=>cbv
       repeat' ((first|refine cZ ?_|refine c6 ?_|simp -proj only[bN,gf,hK,gY,kJ,v1,AN,eb,eJ,bw,a2,a3,bJ,a6,cq,c1,c2,c3,d1,d2,d3,b',cr,dE,de,dp,dF,fO,z2,z3]|(split<;>(rename_i h;try simp only[h])))<;>conv=>cbv)
       exact ec (k+1,lO) ⟨aA,l2,mv,AU (by have:=aGx (by subst ae;have h:(!decide (e=0))=false:=eJ;simpa using h);omega)⟩ (by show gn-(k+1)<gn-k;omega) axV
  .have bN:=eY ae aA;conv=>cbv
   repeat' ((first|refine cZ ?_|refine c6 ?_|simp -proj only[bN,bw,a2,a3,bJ,a6,cq,c1,c2,c3,d1,d2,d3,b',cr,dE,de,dp,dF]|(split<;>(rename_i h;try simp only[h])))<;>conv=>cbv)
   exact ao 0 0 bC _ uQ (by(try rw[<-my]);try kernel_rfl)
theorem Ht{α:Type}{f:α->Nat}{x:α}:∀{l:List α},x∈l->fS f [x]<=fS f l
 |y::l,h=>by
  show 200+f x+0<=200+f y+fS f l;rcases aAs.1 h with rfl|h
  .omega
  .have:200+f x+0<=fS f l:=Ht h;omega
theorem DH{α:Type}(f:α->Nat):∀l:List α,l.length*200<=fS f l
 |[]=>aAa _
 |x::l=>by
  have:=DH f l;show(l.length+1)*200<=200+f x+fS f l;omega
theorem atX(x:b8)(aC:x.Good)(hw:hn [x]<=dJ):∃(t:aw) (e:Int),aM 66 [.d (.agg x.cU.cs)] [] (.tuple [.d (.str t),.d (int e)]) []:=by
 obtain⟨t,e,_,aj⟩:=acN [x] (λy wa=>by rw[aAF.1 wa];exact aC) hw;refine⟨t,e,?_⟩;have aj:aM 65 [.d (.list 25 [.agg x.cU.cs])] [] (.tuple [.d (.str t),.d (int e)]) []:=aj;generalize x.cU=w at*;obtain⟨cn,wn,uO,uP,na,qb,AR,⟨c1,c2,qj,c4,c5,eI,bQ,e0,c9,fj,e9,X,eN,eR,eS,bB⟩,wq,yB⟩:=w;refine Lm.cn λad ae Q aV=> ?_;refine af ?_
 (subst ae;exact bZ aV axV axV)
def yD(x:yc):List fc:=x.cs.map .d
def rz(l:List cX):List fc:=(l.map λx=>yD x.c24).flatten
theorem atY(l:List cX):jB (rz l)=ha l:=by
 unfold jB rz ha wm;rw[List.map_flatten,aBE];congr 1
theorem atZ(l:List cX)(x:cX):rz (l++[x])=rz l++yD x.c24:=by
 unfold rz;rw[aAy,List.flatten_append];simp
def wB(n:aw):gB:=⟨n,mq,[]⟩
def Hu(n:aw):List fc:=[.d (.str n),.d (.int .u64 0),.d (.int .u64 0),.d (.int .u64 0),.d (.int .u64 0),.d (.int .u64 0),.d (.bool false),.d (.bool false),.d (.bool false),.d (.bool false),.d (.bool false),.nil 1]
def rA(l:List aw):List fc:=(l.map Hu).flatten
theorem at0(l:List aw):jB (rA l)=fU (l.map wB):=by
 unfold jB rA fU qi;rw[List.map_flatten,aBE,aBE];congr 1
theorem at1(l:List aw)(x:aw):rA (l++[x])=rA l++Hu x:=by
 unfold rA;rw[aAy,List.flatten_append];simp
def ad0(z:Nat):Option (Nat×List fc)->ah
 |none=>.own z []
 |some (n,c)=>.raw z n c
def ad1(o:Option (Nat×List fc))(n:Nat)(c:List fc):Prop:=(o=none/\n=0/\c=[])\/(0<n/\o=some (n,c))
def DI(code:b8->aw)(x:b8):cX:=⟨x.n,decide (x.k=1),x.bq,x.db,x.s1,x.s2,x.bM,x.pl,code x⟩
def ga(code:b8->aw)(ds:List b8):List cX:=(ds.filter ix).map (DI code)
def hR(ds:List b8):List aw:=(ds.filter eX).map b8.n
theorem at2(code:b8->aw){ds:List b8}{i:Nat}(h:i<ds.length):ga code (ds.take (i+1))=ga code (ds.take i)++(if ix ds[i]=true then[DI code ds[i]]else[]):=by
 unfold ga;rw[aA9,aAj h,aBC,aAy];congr 1;show(([ds[i]]).filter ix).map _=_;cases hp:ix ds[i]with
 |true=>rw[aBG hp];rfl
 |false=>rw[aBP (by rw[hp];decide)];rfl
theorem at3{ds:List b8}{i:Nat}(h:i<ds.length):hR (ds.take (i+1))=hR (ds.take i)++(if eX ds[i]=true then[ds[i].n]else[]):=by
 unfold hR;rw[aA9,aAj h,aBC,aAy];congr 1;show(([ds[i]]).filter eX).map _=_;cases hp:eX ds[i]with
 |true=>rw[aBG hp];rfl
 |false=>rw[aBP (by rw[hp];decide)];rfl
end Go.Proofs.YthffhbakgmemaaaGreatDoor
