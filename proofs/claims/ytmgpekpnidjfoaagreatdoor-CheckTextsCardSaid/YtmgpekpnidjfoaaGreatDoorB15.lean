/- Part of texts_said. -/
import Derived.Test.YtmgpekpnidjfoaaGreatDoorB14
set_option maxRecDepth 100000
set_option maxHeartbeats 8000000
set_option linter.unusedSimpArgs false
set_option linter.unusedVariables false
namespace Go.Proofs.YtmgpekpnidjfoaaGreatDoor
open Go Go.aJ
attribute [local irreducible] bM
theorem asP{ad:bn}(h:ad=bn.bY){l:List dj}{i:Nat}(hi:i<l.length)(bw:List (ax×Int)):ad.mB true (i*24+2) 1 (gY l) true=true/\ad.ln (gY l) (i*24+2) [.d (.list 2 (bw.map bD))]=some (gY (l.set i {l[i]with bw:=bw})):=by
 have kT:i<(vA l).length:=aza;refine⟨Kt h (xP l) kT axw,?_⟩;unfold gY;rw[Ku h (xP l) kT (by show 2+1<=24;omega),C5];unfold vA;rw[aCg];rfl
theorem asQ{ad:bn}(h:ad=bn.bY){l:List dj}{i:Nat}(hi:i<l.length):ad.pF (gY l) (i*24+7) 16=.d (.agg l[i].pl.bB.cs):=by
 unfold gY;rw[SG h (xP l) aza axw,C5];rfl
def dj.key(x:dj):dj:={x with bw:=[]}
def asR(m:cP)(az hs:Bool)(Z:List Go.aJ.D)(q k:Nat):af:=cA [(0,.ptr 0 0),(18,.d (.list 1 Z)),(19,.d (int (Int.ofNat q))),(20,.d (int (Int.ofNat k)))] (m.st az hs true)
def asS(m:cP)(az hs:Bool)(Z:List Go.aJ.D)(q k i aF:Nat)(R IN:List Go.aJ.D)(bK j:Nat):af:=cA [(0,.ptr 0 0),(5,.d (int (Int.ofNat i))),(6,.ptr 1 aF),(7,.own 3 R),(18,.d (.list 1 Z)),(19,.d (int (Int.ofNat q))),(20,.d (int (Int.ofNat k))),(37,.d (.list 4 IN)),(38,.d (int (Int.ofNat bK))),(39,.d (int (Int.ofNat j)))] (m.st az hs true)
theorem asT(m:cP)(hm:m.Ok)(az hs:Bool)(l:List dj)(b9:m.N=gY l)(aH:l.length=m.bL)(aq:m.bL<=32)(h0:az=false->l=[])(k4:List Int)(jJ:m.ps=k4.map int)(lM:k4.length=m.bL)(e7:∀y∈l,y.b1.length<=33554432)(hw:∀y∈l,y.pl.w<=dS)(kz:vG m.bL m):
  ∃(a e:Int) (bC:List dj),(bC.map dj.key=l.map dj.key)/\aM 51 [.ptr 0 0] (m.st az hs true) (.tuple [.d (int a),.d (int e)]) (({m with N:=gY bC}:cP).st az hs true):=by
 suffices h:∃r s',(∃(a e:Int) (bC:List dj),(bC.map dj.key=l.map dj.key)/\r=.tuple [.d (int a),.d (int e)]/\s'=({m with N:=gY bC}:cP).st az hs true)/\aM 51 [.ptr 0 0] (m.st az hs true) r s' by
  obtain⟨_,_,⟨a,e,bC,h1,rfl,rfl⟩,h⟩:=h;exact⟨a,e,bC,h1,h⟩
 obtain⟨L,t,bL,N,ps,ns,S,gn,ct,cu,cp,P⟩:=m;obtain⟨g1,g2,g3,⟨ds,vE,g4⟩,g5⟩:=kz;dsimp only at b9 aH aq jJ lM g1 g2 g3 vE g4 g5;subst g1;refine SY.jl (jB az hs true) _ λad ae K ao=> ?_;replace ao:∀(a e:Int) (bC:List dj) (s':aV),(bC.map dj.key=l.map dj.key)->s'=(⟨L,t,gn,gY bC,ps,ns,S,gn,ct,cu,cp,P⟩:cP).st az hs true->K (.tuple [.d (int a),.d (int e)]) s':=λa e y s' h1 h2=>ao _ _ ⟨a,e,y,h1,rfl,h2⟩;obtain⟨bh,a2,a3⟩:=bA.of ae hm.N;obtain⟨bq,aR,bO⟩:=bA.of ae hm.S;obtain⟨c1,c2,c3⟩:=bA.of ae hm.ct;obtain⟨d1,d2,d3⟩:=bA.of ae hm.cu;obtain⟨b0,b7,c7⟩:=bA.of ae hm.cp;obtain⟨cT,c8,du⟩:=lD.of ae hm.P;dsimp only at bh a2 a3 bq aR bO c1 c2 c3 d1 d2 d3 b0 b7 c7 cT c8 du;obtain⟨zs,rA,sv⟩:=ach ds gn vE axs g2.flat g3.flat;have xT:(zs.map int).length=zs.length:=azG _;have Af:∀i (h:i<zs.length),(zs.map int)[i]?=some (int zs[i]):=λi h=>dv h;rw[<-g4]at sv;unfold c6 at sv;generalize zs.map int=Ag at*;have ta:ad.len Ag=gn:=by subst ae;exact xT.trans rA.len
 have ac0:az=false->gn=0:=λh=>by rw[<-aH,h0 h];rfl
 have MP:ad.len ps=gn:=azD;have MQ:∀i (h:i<gn),ad.get ps (Int.ofNat i)=int (k4[i]'(by rw[lM];exact h)):=λi h=>cV ae azE;have asU:∀bC:List dj,bC.map dj.key=l.map dj.key->bC.length=gn/\(az=false->bC=[])/\(∀y∈bC,y.b1.length<=33554432/\y.pl.w<=dS):=λbC h=>by
  have h1:bC.length=l.length:=by have:=congrArg List.length h;rwa [azG,azG]at this
  refine⟨h1.trans aH,λh=>aCf.1 (by rw[h1,h0 h];rfl),λy hy=> ?_⟩;have:y.key∈l.map dj.key:=h▸aCw hy;obtain⟨z,aQ,he⟩:=aAn.1 this;have aj:z.b1=y.b1:=show z.key.b1=y.key.b1 from congrArg dj.b1 he
  have aD:z.pl=y.pl:=show z.key.pl=y.key.pl from congrArg dj.pl he
  rw[<-aj,<-aD];exact⟨e7 z aQ,hw z aQ⟩
 have iM:∀(bC:List dj) (i:Nat) (h:i<bC.length) (bw:List (ax×Int)),bC.map dj.key=l.map dj.key->(bC.set i {bC[i]with bw:=bw}).map dj.key=l.map dj.key:=λbC i h bw he=>by
  rw[aCg,<-he];show(bC.map dj.key).set i (dj.key bC[i])=_;have:dj.key bC[i]=(bC.map dj.key)[i]'(by rw[azG];exact h):=(aCH _).symm;rw[this,aCL]
 have aE:n5 az:=trivial;have iU:n5 hs:=trivial;have kM:=hm;cases az<;>cases hs;all_goals
  dsimp only[cP.st,jB,eh]at ao⊢;conv=>cbv
  repeat' ((first|refine bG ?_|refine bH ?_|simp -proj only[ta,bh,a2,a3,bq,aR,bO,c1,c2,c3,d1,d2,d3,b0,b7,c7,cT,c8,du]|(split<;>(rename_i h;try simp only[h])))<;>conv=>cbv)
  refine⟨b6 (λz:Nat×List ag=>asR ⟨L,t,gn,z.2,ps,ns,S,gn,ct,cu,cp,P⟩ (eA aE) (eA iU) Ag gn z.1) (λz=>z.1<=gn/\∃bC,z.2=gY bC/\bC.map dj.key=l.map dj.key) (λz=>gn-z.1),_,⟨(0,N),⟨azF _,l,b9,rfl⟩,rfl,axr⟩,?_⟩;clear sv bh a2 a3;rintro _ _ ⟨⟨k,N⟩,⟨au,bC,nB,ud⟩,rfl,rfl⟩;dsimp only at au nB ud⊢;obtain⟨A4,jh,k1⟩:=asU bC ud;have vH:Flat N:=by rw[nB];exact C6 _
  obtain⟨bh,a2,a3⟩:=bA.of ae vH;by_cases aB:k<gn
  .have gB:k<bC.length:=by omega
   first
   |exact absurd (jh rfl▸gB) (aAM _)
   |skip
   all_goals
    have OA:=rA.len;have bU:=fS ae aB;have b4:ad.ez 1 1 (Int.ofNat k) gn=true:=fZ ae aB;have dm:=cV ae (Af k axs);have gS:=cv ae (n:=k) axs;obtain⟨i,dM,rv⟩:=xE (rA.all _ (azT (show k<zs.length by omega)));rw[rv]at dm;have qE:i<bC.length:=axs;obtain⟨qR,asV⟩:=k1 _ (azT qE);have w1:ad.ez 24 24 (Int.ofNat i) gn=true:=fZ ae dM;have bS:=qJ ae i 24;have dZ:ad.lp (i*24) 1=i*24+1:=pI ae _ _;have iP:ad.ic (i*24+1) 1 N true=true:=azc;have ku:ad.j4 N (i*24+1)=.d (.bool bC[i].s):=by rw[nB];exact C7 ae qE axw rfl
    have gb:ad.lp (i*24) 6=i*24+6:=pI ae _ _;have fR:ad.ic (i*24+6) 1 N true=true:=azc;have fp:ad.j4 N (i*24+6)=.d (.list 4 (bC[i].b1.map eg)):=by rw[nB];exact C7 ae qE axw rfl
    have gd:ad.lp (i*24) 7=i*24+7:=pI ae _ _;have gU:ad.ic (i*24+7) 16 N true=true:=azc;have kW:ad.pF N (i*24+7) 16=.d (.agg bC[i].pl.bB.cs):=by rw[nB];exact asQ ae qE
    have v1:ad.lp (i*24) 2=i*24+2:=pI ae _ _;have ry:=λbw=>asP ae qE bw;have MT:=λbw=>iM bC i qE bw ud;have asW:(bC[i].b1.map eg).length=bC[i].b1.length:=azG _;have C8:∀j (h:j<bC[i].b1.length),(bC[i].b1.map eg)[j]?=some (eg bC[i].b1[j]):=λj h=>dv h;have MU:=λsrc hs=>apA bC[i].pl asV src hs;have gH:∀j (h:j<bC.length),ad.ez 24 24 (Int.ofNat j) gn=true/\ad.ic (j*24+2) 1 N true=true/\ad.j4 N (j*24+2)=.d (.list 2 (bC[j].bw.map bD)):=λj aL=>⟨fZ ae axs,by rw[nB];exact sr ae aL axw,by rw[nB];exact C7 ae aL axw rfl⟩;have su:=λv=>Gr ⟨L,t,gn,N,ps,ns,S,gn,ct,cu,cp,P⟩ ⟨vH,kM.S,kM.ct,kM.cu,kM.cp,kM.P⟩ (eA aE) (eA iU) true bC nB A4 (show gn<=1073741824 by omega) jh v;dsimp only[cP.st,eh,eA]at su;have asX:=MQ i dM;have asY:ad.ez 1 1 (Int.ofNat i) gn=true:=fZ ae dM;generalize (k4[i]'(by rw[lM];exact dM))=pv at*;clear rv;rw[<-nB]at ry;generalize bC[i].pl.bB.cs=axa at*;generalize bC[i].b1=b1 at*;generalize b1.map eg=IN at*;generalize bC[i].s=h3 at*;generalize i*24=aF at*;generalize aF+1=axb at*;generalize aF+6=axc at*;generalize aF+7=axd at*;generalize aF+2=axe at*;obtain⟨q,aT⟩:∃q,q=b1.length:=⟨_,rfl⟩;have r0:ad.len IN=q:=by subst ae;exact asW.trans aT.symm
    cases h3 with
    |true=>
     conv=>cbv
     repeat' ((first|refine bG ?_|refine bH ?_|simp -proj only[bU,b4,dm,gS,w1,bS,dZ,iP,ku,bh,a2,a3,bq,aR,bO,c1,c2,c3,d1,d2,d3,b0,b7,c7,cT,c8,du]|(split<;>(rename_i h;try simp only[h])))<;>conv=>cbv)
     all_goals exact eb (k+1,N) ⟨aB,bC,nB,ud⟩ (by show gn-(k+1)<gn-k;omega) axr
    |false=>
     conv=>cbv
     repeat' ((first|refine bG ?_|refine bH ?_|simp -proj only[r0,bU,b4,dm,w1,bS,dZ,iP,ku,gb,fR,fp,bh,a2,a3,bq,aR,bO,c1,c2,c3,d1,d2,d3,b0,b7,c7,cT,c8,du]|(split<;>(rename_i h;try simp only[h])))<;>conv=>cbv)
     refine⟨b6 (λz:Nat×List Go.aJ.D=>asS ⟨L,t,gn,N,ps,ns,S,gn,ct,cu,cp,P⟩ (eA aE) (eA iU) Ag gn k i aF z.2 IN q z.1) (λz=>z.1<=q/\∃src:List (ax×List (ax×Int)),z.2=src.map jN/\src.length=z.1) (λz=>q-z.1),_,⟨(0,[]),⟨azF _,[],rfl,rfl⟩,rfl,axr⟩,?_⟩;clear bU b4 dm w1 bS dZ iP ku gb fR fp;rintro _ _ ⟨⟨j,R⟩,⟨aL,src,cX,km⟩,rfl,rfl⟩;dsimp only at aL cX km⊢;by_cases pX:j<q
     .have bU:=fS ae pX;have b4:=cV ae (C8 j axs);have dm:ad.ez 4 4 (Int.ofNat j) q=true:=fZ ae pX;have gS:=cv ae (n:=j) axs;obtain⟨f,ok,gw,oQ⟩:=su (b1[j]' axs).a;have yh:f<bC.length:=by
       rcases gw with⟨_,h,_⟩|⟨_,h,_⟩
       .exact h
       .omega
      obtain⟨g',z3,z4⟩:=gH f yh;have z2:=qJ ae f 24;have z5:ad.lp (f*24) 2=f*24+2:=pI ae _ _;have qV:ad.app R [.agg [.str (b1[j]' axs).b,.list 2 (bC[f].bw.map bD),.list 1 []]]=(src++[((b1[j]' axs).b,bC[f].bw)]).map jN:=by subst ae;rw[cX,az5];rfl
      have vu:(src++[((b1[j]' axs).b,bC[f].bw)]).length=j+1:=by rw[az6,km];rfl
      have vy:R.length<=33554432:=by rw[cX,azG];omega
      generalize src++[((b1[j]' axs).b,bC[f].bw)]=asZ at*;generalize bC[f].bw.map bD=vB at*;clear su gH gw MU ry MT;generalize (b1[j]' axs)=y at*;obtain⟨asl,asj,axf,acC⟩:=y;unfold eg at*;dsimp only at*;generalize f*24=as0 at*;generalize as0+2=axg at*;conv=>cbv
      repeat' ((first|refine bG ?_|refine bH ?_|simp -proj only[r0,bU,b4,dm,gS,g',z2,z3,z4,z5,bh,a2,a3,bq,aR,bO,c1,c2,c3,d1,d2,d3,b0,b7,c7,cT,c8,du]|(split<;>(rename_i h;try simp only[h])))<;>conv=>cbv)
      all_goals exact eb (j+1,ad.app R [.agg [.str acC,.list 2 vB,.list 1 []]]) ⟨pX,asZ,qV,vu⟩ (by show q-(j+1)<q-j;omega) axr
     .have bU:=f' ae pX;obtain⟨bw,e,lI⟩:=MU src axs;rw[<-cX]at lI;obtain⟨p1,ey⟩:=ry bw;have Ae:=MT bw;obtain⟨l2,ac2⟩:∃l2,l2=bC.set i {bC[i]with bw:=bw}:=⟨_,rfl⟩;rw[<-ac2]at ey Ae;obtain⟨lE,l'⟩:∃lE,lE=gY l2:=⟨_,rfl⟩;rw[<-l']at ey;have as1:Flat lE:=by rw[l'];exact C6 _
      obtain⟨g',z2,z3⟩:=bA.of ae as1;generalize bw.map bD=vB at*;clear su gH MU ry MT ac2;obtain⟨B,eD⟩:∃b,ad.aF .neq e 0=b:=⟨_,rfl⟩;cases B with
      |true=>
       conv=>cbv
       repeat' ((first|refine bG ?_|refine bH ?_|simp -proj only[bU,gd,gU,kW,eD,MP,asX,asY,bh,a2,a3,bq,aR,bO,c1,c2,c3,d1,d2,d3,b0,b7,c7,cT,c8,du]|(split<;>(rename_i h;try simp only[h])))<;>conv=>cbv)
       all_goals exact ao _ _ bC _ ud (by(try rw[<-nB]);try kernel_rfl)
      |false=>
       conv=>cbv
       repeat' ((first|refine bG ?_|refine bH ?_|simp -proj only[bU,gS,gd,gU,kW,v1,p1,ey,eD,bh,a2,a3,bq,aR,bO,c1,c2,c3,d1,d2,d3,b0,b7,c7,cT,c8,du,g',z2,z3]|(split<;>(rename_i h;try simp only[h])))<;>conv=>cbv)
       all_goals exact eb (k+1,lE) ⟨aB,l2,l',Ae⟩ (by show gn-(k+1)<gn-k;omega) axr
  .have bU:=f' ae aB;conv=>cbv
   repeat' ((first|refine bG ?_|refine bH ?_|simp -proj only[bU,bh,a2,a3,bq,aR,bO,c1,c2,c3,d1,d2,d3,b0,b7,c7,cT,c8,du]|(split<;>(rename_i h;try simp only[h])))<;>conv=>cbv)
   all_goals exact ao 0 0 bC _ ud (by(try rw[<-nB]);try kernel_rfl)
theorem MV{α:Type}{f:α->Nat}{x:α}:∀{l:List α},x∈l->fM f [x]<=fM f l
 |y::l,h=>by
  show 200+f x+0<=200+f y+fM f l;rcases azY.1 h with rfl|h
  .omega
  .have:200+f x+0<=fM f l:=MV h;omega
theorem MW{α:Type}(f:α->Nat):∀l:List α,l.length*200<=fM f l
 |[]=>azF _
 |x::l=>by
  have:=MW f l;show(l.length+1)*200<=200+f x+fM f l;omega
theorem as2(x:cQ)(aE:x.Good)(hw:iD [x]<=dS):∃(t:ax) (e:Int),aM 48 [.d (.agg x.d'.cs)] [] (.tuple [.d (.str t),.d (int e)]) []:=by
 obtain⟨t,e,_,aj⟩:=abY [x] (λy hy=>by rw[az9.1 hy];exact aE) hw;refine⟨t,e,?_⟩;have aj:aM 8 [.d (.list 25 [.agg x.d'.cs])] [] (.tuple [.d (.str t),.d (int e)]) []:=aj;generalize x.d'=w at*;obtain⟨cw,wn,C',Da,pR,vb,Db,⟨c1,c2,qY,c4,c5,eN,bT,e1,c9,fr,fa,X,eP,eT,eU,bB⟩,GN,GO⟩:=w;refine UL.cw λad ae Q a8=> ?_;refine ai ?_;all_goals (subst ae;exact b5 a8 axr axr)
def xV(x:Gq):List fb:=x.cs.map .d
def q0(l:List dj):List fb:=(l.map λx=>xV x.c24).flatten
theorem as3(l:List dj):ju (q0 l)=gY l:=by
 unfold ju q0 gY vA;rw[List.map_flatten,aBd];congr 1
theorem as4(l:List dj)(x:dj):q0 (l++[x])=q0 l++xV x.c24:=by
 unfold q0;rw[az5,List.flatten_append];simp
def De(n:ax):ha:=⟨n,l7,[]⟩
def GY(n:ax):List fb:=[.d (.str n),.d (.int .u64 0),.d (.int .u64 0),.d (.int .u64 0),.d (.int .u64 0),.d (.int .u64 0),.d (.bool false),.d (.bool false),.d (.bool false),.d (.bool false),.d (.bool false),.nil 1]
def q2(l:List ax):List fb:=(l.map GY).flatten
theorem as5(l:List ax):ju (q2 l)=gi (l.map De):=by
 unfold ju q2 gi pY;rw[List.map_flatten,aBd,aBd];congr 1
theorem as6(l:List ax)(x:ax):q2 (l++[x])=q2 l++GY x:=by
 unfold q2;rw[az5,List.flatten_append];simp
def ac3(z:Nat):Option (Nat×List fb)->ag
 |none=>.own z []
 |some (n,c)=>.raw z n c
def ac4(o:Option (Nat×List fb))(n:Nat)(c:List fb):Prop:=(o=none/\n=0/\c=[])\/(0<n/\o=some (n,c))
def Df(code:cQ->ax)(x:cQ):dj:=⟨x.n,decide (x.k=1),x.bw,x.db,x.s1,x.s2,x.b1,x.pl,code x⟩
def jq(code:cQ->ax)(ds:List cQ):List dj:=(ds.filter nA).map (Df code)
def iH(ds:List cQ):List ax:=(ds.filter jK).map cQ.n
theorem as7(code:cQ->ax){ds:List cQ}{i:Nat}(h:i<ds.length):jq code (ds.take (i+1))=jq code (ds.take i)++(if nA ds[i]=true then[Df code ds[i]]else[]):=by
 unfold jq;rw[aAS,azQ h,aCJ,az5];congr 1;show(([ds[i]]).filter nA).map _=_;cases hp:nA ds[i]with
 |true=>rw[aBs hp];rfl
 |false=>rw[aBC (by rw[hp];decide)];rfl
theorem as8{ds:List cQ}{i:Nat}(h:i<ds.length):iH (ds.take (i+1))=iH (ds.take i)++(if jK ds[i]=true then[ds[i].n]else[]):=by
 unfold iH;rw[aAS,azQ h,aCJ,az5];congr 1;show(([ds[i]]).filter jK).map _=_;cases hp:jK ds[i]with
 |true=>rw[aBs hp];rfl
 |false=>rw[aBC (by rw[hp];decide)];rfl
end Go.Proofs.YtmgpekpnidjfoaaGreatDoor
