/- Part of texts_said. -/
import Derived.Test.YtmgpekpnidjfoaaGreatDoorB12
set_option maxRecDepth 100000
set_option maxHeartbeats 8000000
set_option linter.unusedSimpArgs false
set_option linter.unusedVariables false
namespace Go.Proofs.YtmgpekpnidjfoaaGreatDoor
open Go Go.aJ
attribute [local irreducible] bM
theorem ar7{ad:bn}(h:ad=bn.bY){l:List dj}{i:Nat}(hi:i<l.length):ad.pF (gY l) (i*24+3) 3=.d (.agg [int l[i].k,int l[i].a,int l[i].b]):=by
 unfold gY;rw[SG h (xP l) aza axw,C5];rfl
def xS(l:List dj)(k:Nat)(au:k<l.length):Prop:=(∀z∈l[k].b1,∃i,n2 l z.a i true)/\∀j (aL:j<k),(l[j]' axs).n≠l[k].n
def ar8(m:cP)(hs:Bool)(n:ax)(s:Bool)(vB:List Go.aJ.D)(k a b:Int)(IN:List Go.aJ.D)(c:ef)(code:ax)(q j:Nat):af:=pD [(0,.ptr 0 0),(5,.dT 5 0),(47,.d (.list 4 IN)),(48,.d (int (Int.ofNat q))),(49,.d (int (Int.ofNat j)))] [(5,(Gq.cs ⟨n,s,vB,k,a,b,IN,c,code⟩).map .d)] (m.st true hs false)
theorem ar9(m:cP)(hm:m.Ok)(hs:Bool)(l:List dj)(b9:m.N=gY l)(aH:l.length=m.bL)(aq:m.bL<=1073741824)(k:Nat)(au:k<l.length)(hi:l[k].b1.length<=1073741824):
  ∃e:Int,(e=0->xS l k au)/\aM 84 [.ptr 0 0,.d (int (Int.ofNat k))] (m.st true hs false) (.d (int e)) (m.st true hs false):=by
 suffices h:∃r s',(∃e:Int,(e=0->xS l k au)/\r=.d (int e)/\s'=m.st true hs false)/\aM 84 [.ptr 0 0,.d (int (Int.ofNat k))] (m.st true hs false) r s' by
  obtain⟨_,_,⟨e,h1,rfl,rfl⟩,h⟩:=h;exact⟨e,h1,h⟩
 have su:=λv=>Gr m hm true hs false l b9 aH aq (λh=>axy) v;obtain⟨L,t,bL,N,ps,ns,S,gn,ct,cu,cp,P⟩:=m;dsimp only at b9 aH aq;obtain⟨i0,aw1,Ab,aj⟩:=su l[k].n;obtain⟨ar',_,aD⟩:=qO l[k].bw;obtain⟨asa,aW⟩:=Mv l[k].k l[k].a l[k].b;have asb:(∀z∈l[k].b1,∃i,n2 l z.a i true)->¬i0<k->xS l k au:=λh0 h=>⟨h0,λj aL=>by
  rcases Ab with⟨_,h1,h2,av⟩|⟨_,_,av⟩
  .exact av j axs
  .exact absurd rfl (av _ (azT au))⟩
 refine Wv.jl (jB true hs false) _ λad ae K ao=> ?_;replace ao:∀(e:Int) (s':aV),(e=0->xS l k au)->s'=(⟨L,t,bL,N,ps,ns,S,gn,ct,cu,cp,P⟩:cP).st true hs false->K (.d (int e)) s':=λe s' h1 h2=>ao _ _ ⟨e,h1,rfl,h2⟩;obtain⟨bh,a2,a3⟩:=bA.of ae hm.N;obtain⟨bq,aR,bO⟩:=bA.of ae hm.S;dsimp only at bh a2 a3 bq aR bO;have t1:ad.ez 24 24 (Int.ofNat k) bL=true:=fZ ae axs;have t2:=qJ ae k 24;have t3:ad.ic (k*24) 24 N true=true:=by rw[b9];exact sr ae au (j:=0) (n:=24) axw
 have t4:ad.pF N (k*24) 24=.d (.agg l[k].c24.cs):=by rw[b9];exact Mn ae au
 have aT:∀(i:Nat) (h:i<l.length),ad.ez 24 24 (Int.ofNat i) bL=true/\ad.ic (i*24+3) 3 N true=true/\ad.pF N (i*24+3) 3=.d (.agg [int l[i].k,int l[i].a,int l[i].b]):=λi h=>⟨fZ ae axs,by rw[b9];exact sr ae h axw,by rw[b9];exact ar7 ae h⟩;have Mw:(l[k].b1.map eg).length=l[k].b1.length:=azG _;have C8:∀i (h:i<l[k].b1.length),(l[k].b1.map eg)[i]?=some (eg l[k].b1[i]):=λi h=>dv h;have asc:∀j,ad.sub (l[k].b1.map eg) 0 (Int.ofNat j)=(l[k].b1.take j).map eg:=λj=>by subst ae;show(List.drop 0 _).take (j-0)=_;rw[aCD,aB7,List.map_take]
 have acA:=λ(j:Nat) (y:iV)=>arV (l[k].b1.take j) (by rw[aAT];omega) y;clear Ab;generalize xS l k au=GF at*;generalize l[k]=x at*;obtain⟨n,s,bw,Aa,GG,GH,b1,pl,code⟩:=x;unfold dj.c24 at t4;dsimp only at*;generalize asd:b1.map eg=IN at*;generalize bw.map bD=vB at*;generalize pl.bB=C at*;obtain⟨c1,c2,qY,c4,c5,eN,bT,e1,c9,fr,fa,X,eP,eT,eU,bB⟩:=C;obtain⟨q,Mx⟩:∃q,q=b1.length:=⟨_,rfl⟩;have r0:ad.len IN=q:=by subst ae;exact Mw.trans Mx.symm
 have aE:n5 hs:=trivial;have iU:n5 s:=trivial;generalize k*24=Ms at*;obtain⟨ase,Ac⟩:∃b,ad.aF .lss (Int.ofNat i0) (Int.ofNat k)=b:=⟨_,rfl⟩;obtain⟨My,GI⟩:∃b,ad.aF .neq ar' 0=b:=⟨_,rfl⟩;obtain⟨asf,Mz⟩:∃b,ad.aF .neq asa 0=b:=⟨_,rfl⟩;have cB:∀e:Int,ad.aF .neq e 0=true->e=0->GF:=λe h h2=>azb;have asg:(13:Int)=0->GF:=λh=>absurd h axw;have acB:(14:Int)=0->GF:=λh=>absurd h axw;cases ase with
 |true=>
  cases hs;all_goals
   dsimp only[cP.st,jB,eh]at ao aj⊢;conv=>cbv
   repeat' ((first|refine bG ?_|refine bH ?_|simp -proj only[t1,t2,t3,t4,Ac,bh,a2,a3,bq,aR,bO]|(split<;>(rename_i h;try simp only[h])))<;>conv=>cbv)
  all_goals exact ao _ _ acB axr
 |false=>
 have yV:¬i0<k:=λh=>by rw[fS ae h]at Ac;cases Ac
 by_cases fm:s=true/\My=true
 .obtain⟨rfl,rfl⟩:=fm;cases hs;all_goals
   dsimp only[cP.st,jB,eh]at ao aj⊢;conv=>cbv
   repeat' ((first|refine bG ?_|refine bH ?_|simp -proj only[t1,t2,t3,t4,Ac,GI,bh,a2,a3,bq,aR,bO]|(split<;>(rename_i h;try simp only[h])))<;>conv=>cbv)
  all_goals exact ao _ _ (cB _ GI) axr
 cases asf with
 |true=>
  cases s<;>cases My<;>try exact absurd ⟨rfl,rfl⟩ fm
  all_goals
   cases hs;all_goals
    dsimp only[cP.st,jB,eh]at ao aj⊢;conv=>cbv
    repeat' ((first|refine bG ?_|refine bH ?_|simp -proj only[t1,t2,t3,t4,Ac,GI,Mz,bh,a2,a3,bq,aR,bO]|(split<;>(rename_i h;try simp only[h])))<;>conv=>cbv)
   all_goals exact ao _ _ (cB _ Mz) axr
 |false=>
 cases s<;>cases My<;>try exact absurd ⟨rfl,rfl⟩ fm
 all_goals
  cases hs;all_goals
   dsimp only[cP.st,jB,eh]at ao aj⊢;conv=>cbv
   repeat' ((first|refine bG ?_|refine bH ?_|simp -proj only[r0,t1,t2,t3,t4,Ac,GI,Mz,bh,a2,a3,bq,aR,bO]|(split<;>(rename_i h;try simp only[h])))<;>conv=>cbv)
   refine⟨b6 (λj=>ar8 ⟨L,t,bL,N,ps,ns,S,gn,ct,cu,cp,P⟩ (eA aE) n (eA iU) vB Aa GG GH IN ⟨c1,c2,qY,c4,c5,eN,bT,e1,c9,fr,fa,X,eP,eT,eU,bB⟩ code q j) (λj=>j<=q/\∀z∈b1.take j,∃i,n2 l z.a i true) (λj=>q-j),_,⟨0,⟨azF _,λz h=>by simp at h⟩,rfl,axr⟩,?_⟩;rintro _ _ ⟨j,⟨aL,fQ⟩,rfl,rfl⟩;dsimp only at aL fQ⊢;by_cases aB:j<q
   .have bU:=fS ae aB;have b4:=cV ae (C8 j axs);have dm:ad.ez 4 4 (Int.ofNat j) q=true:=fZ ae aB;have pj:ad.pE true 0 (Int.ofNat j) (Int.ofNat q) q=true:=xC ae (azF _) axs (azI _);have s9:=asc j;have gS:=cv ae (n:=j) axs;have hr:b1.take (j+1)=b1.take j++[b1[j]' axs]:=by rw[aAS,azQ axs];rfl
    obtain⟨i,ok,cX,oQ⟩:=su (b1[j]' axs).a;obtain⟨ash,yg⟩:=acA j (b1[j]' axs);have Mt:ok=true->∀z∈b1.take (j+1),∃i,n2 l z.a i true:=λh z aQ=>by
     rw[hr]at aQ;rcases aAu.1 aQ with aQ|aQ
     .exact fQ z aQ
     .rw[az9.1 aQ];subst h;exact⟨i,cX⟩
    have e7:ok=true->i<l.length:=λh=>by
     rcases cX with⟨_,h1,_⟩|⟨h1,_⟩
     .exact h1
     .rw[h]at h1;cases h1
    clear hr cX acA;dsimp only[cP.st,eh]at oQ;generalize (b1[j]' axs)=y at*;obtain⟨cT,c8,du,iZ⟩:=y;unfold eg uc at*;dsimp only at*;generalize (b1.take j).map eg=aw2 at*;cases ok with
    |false=>
     conv=>cbv
     repeat' ((first|refine bG ?_|refine bH ?_|simp -proj only[r0,bU,b4,dm,bh,a2,a3,bq,aR,bO]|(split<;>(rename_i h;try simp only[h])))<;>conv=>cbv)
     all_goals exact ao _ _ asg axr
    |true=>
    cases ash with
    |true=>
     conv=>cbv
     repeat' ((first|refine bG ?_|refine bH ?_|simp -proj only[r0,bU,b4,dm,pj,s9,bh,a2,a3,bq,aR,bO]|(split<;>(rename_i h;try simp only[h])))<;>conv=>cbv)
     all_goals exact ao _ _ acB axr
    |false=>
    obtain⟨w1,dZ,iP⟩:=aT i (e7 rfl);have bS:=qJ ae i 24;have ku:ad.lp (i*24) 3=i*24+3:=pI ae _ _;obtain⟨aK,em⟩:=ar6 c8 du Aa GG GH (l[i]'(e7 rfl)).k (l[i]'(e7 rfl)).a (l[i]'(e7 rfl)).b;obtain⟨asi,MA⟩:∃b,ad.aF .neq aK 0=b:=⟨_,rfl⟩;generalize (l[i]'(e7 rfl)).k=asj at*;generalize (l[i]'(e7 rfl)).a=asl at*;generalize (l[i]'(e7 rfl)).b=acC at*;generalize i*24=aF at*;generalize aF+3=aw3 at*;cases asi with
    |true=>
     conv=>cbv
     repeat' ((first|refine bG ?_|refine bH ?_|simp -proj only[r0,bU,b4,dm,pj,s9,w1,bS,dZ,iP,ku,MA,bh,a2,a3,bq,aR,bO]|(split<;>(rename_i h;try simp only[h])))<;>conv=>cbv)
     all_goals exact ao _ _ (cB _ MA) axr
    |false=>
     conv=>cbv
     repeat' ((first|refine bG ?_|refine bH ?_|simp -proj only[r0,bU,b4,dm,pj,s9,gS,w1,bS,dZ,iP,ku,MA,bh,a2,a3,bq,aR,bO]|(split<;>(rename_i h;try simp only[h])))<;>conv=>cbv)
     all_goals exact eb (j+1) ⟨aB,Mt rfl⟩ (by show q-(j+1)<q-j;omega) axr
   .have bU:=f' ae aB;have uV:GF:=asb (by rw[aAP axs]at fQ;exact fQ) yV;conv=>cbv
    repeat' ((first|refine bG ?_|refine bH ?_|simp -proj only[bU,bh,a2,a3,bq,aR,bO]|(split<;>(rename_i h;try simp only[h])))<;>conv=>cbv)
    exact ao _ _ (λ_=>uV) axr
theorem MB{α:Type}(p:α->Bool):∀(ds:List α) (i:Nat) (h:i<ds.length),p ds[i]=true->∃au:((ds.take i).filter p).length<(ds.filter p).length,(ds.filter p)[((ds.take i).filter p).length]=ds[i]
 |d::ds,0,_,hp=>by
  have hp:p d=true:=hp;have:(d::ds).filter p=d::ds.filter p:=aBs hp;simp only[List.take_zero,List.filter_nil,aAz,this];exact⟨aCd _,rfl⟩
 |d::ds,i+1,h,hp=>by
  obtain⟨h1,h2⟩:=MB p ds i (aCB h) hp;cases a6:p d with
  |true=>
   simp only[aBE,aBs a6,az0,aCe];exact⟨aCA h1,h2⟩
  |false=>
   have mX:¬p d=true:=by rw[a6];decide
   simp only[aBE,aBC mX,aCe];exact⟨h1,h2⟩
theorem acD{α:Type}(p:α->Bool){ds:List α}{i:Nat}(h:i<ds.length):((ds.take (i+1)).filter p).length=((ds.take i).filter p).length+(if p ds[i]=true then 1 else 0):=by
 rw[aAS,azQ h,aCJ,az6];show _+([ds[i]].filter p).length=_;cases hp:p ds[i]with
 |true=>rw[aBs hp];rfl
 |false=>rw[aBC (by rw[hp];decide)];rfl
theorem MC{ad:bn}(h:ad=bn.bY){e:Int}(aq:ad.aF .neq e 0=false):e=0:=by
 subst h;have aq:(!decide (e=0))=false:=aq;cases a6:decide (e=0)with
 |true=>exact of_decide_eq_true a6
 |false=>rw[a6]at aq;cases aq
def jK(d:cQ):Bool:=decide (d.k=3)
def nA(d:cQ):Bool:=!decide (d.k=3)
structure GJ(l:List dj)(ds:List cQ)(aS:List ha)(i:Nat)(a b:Nat)(fN:List ha):Prop where
 br:a=((ds.take i).filter nA).length
 aq:b=((ds.take i).filter jK).length
 len:fN.length=aS.length
 nm:∀j (h:j<aS.length),(fN[j]' axs).n=aS[j].n
 todo:∀j (h:j<aS.length),b<=j->(fN[j]' axs).ks=[]
 done:∀j (h:j<aS.length) (h2:j<(ds.filter jK).length),j<b->Gt l (ds.filter jK)[j] (fN[j]' axs)
 nodes:∀j (h:j<l.length),j<a->xS l j h
structure acE(l:List dj)(ds:List cQ)(fN:List ha):Prop where
 done:∀j (h:j<fN.length) (h2:j<(ds.filter jK).length),Gt l (ds.filter jK)[j] fN[j]
 nodes:∀j (h:j<l.length),xS l j h
def asn(m:cP)(az hs:Bool)(L:List Go.aJ.D)(a b q i:Nat):af:=cA [(0,.ptr 0 0),(4,.d (int (Int.ofNat a))),(5,.d (int (Int.ofNat b))),(12,.d (.list 25 L)),(13,.d (int (Int.ofNat q))),(14,.d (int (Int.ofNat i)))] (m.st az hs false)
theorem aso(m:cP)(hm:m.Ok)(az hs:Bool)(ds:List cQ)(bF:m.L=ds.map cQ.d)(yt:ds.length<=1073741824)(l:List dj)(b9:m.N=gY l)(aH:l.length=m.bL)(aq:m.bL<=1073741824)(h0:az=false->l=[])(aS:List ha)(eM:m.S=gi aS)(km:aS.length=m.ns)(ld:m.ns<=1073741824)(asp:hs=false->aS=[])
  (s4:(ds.filter nA).length=l.length) (aw4:(ds.filter jK).length=aS.length) (Mq:∀y∈aS,y.ks=[]) (ak:∀x∈ds,x.fY.length<=1073741824/\x.ms.length<=1073741824) (hi:∀y∈l,y.b1.length<=1073741824):
  ∃(a e:Int) (fN:List ha),(fN.length=aS.length/\(∀j (h:j<aS.length) (h2:j<fN.length),fN[j].n=aS[j].n)/\(e=0->acE l ds fN))/\aM 49 [.ptr 0 0] (m.st az hs false) (.tuple [.d (int a),.d (int e)]) (({m with S:=gi fN}:cP).st az hs false):=by
 refine Kz ?_;have wS:=λhs (k:Nat) (au:k<l.length) (S:List ag) (oU:Flat S)=>ar9 {m with S:=S} ⟨hm.N,oU,hm.ct,hm.cu,hm.cp,hm.P⟩ hs l b9 aH aq k au (hi _ (azT au));have gH:=λ(fN:List ha) (he:fN.length=aS.length) (k:Nat) (au:k<fN.length) (h2:fN[k].ks=[]) (x:cQ) (J9:x∈ds)=>arG {m with S:=gi fN} ⟨hm.N,ub _,hm.ct,hm.cu,hm.cp,hm.P⟩ az l b9 aH aq h0 fN rfl (he.trans km) ld k au h2 x (ak x J9).1 (ak x J9).2;obtain⟨L,t,bL,N,ps,ns,S,gn,ct,cu,cp,P⟩:=m;dsimp only at b9 aH aq eM km ld bF wS gH;subst bF;have vz:(ds.map cQ.d).length=ds.length:=azG _;have cl:∀i (h:i<ds.length),(ds.map cQ.d)[i]?=some (.agg ds[i].d'.cs):=λi h=>dv h;generalize ds.map cQ.d=L at*;refine SW.jl (jB az hs false) _ λad ae K ao=> ?_;replace ao:∀(a e:Int) (fN:List ha) (s':aV),(fN.length=aS.length/\(∀j (h:j<aS.length) (h2:j<fN.length),fN[j].n=aS[j].n)/\(e=0->acE l ds fN))->s'=(⟨L,t,bL,N,ps,ns,gi fN,gn,ct,cu,cp,P⟩:cP).st az hs false->K (.tuple [.d (int a),.d (int e)]) s':=λa e y s' h1 h2=>ao _ _ ⟨a,e,y,h1,rfl,h2⟩;obtain⟨bh,a2,a3⟩:=bA.of ae hm.N;obtain⟨bq,aR,bO⟩:=bA.of ae hm.S;dsimp only at bh a2 a3 bq aR bO;obtain⟨q,aT⟩:∃q,q=ds.length:=⟨_,rfl⟩;have r0:ad.len L=q:=by subst ae;exact vz.trans aT.symm
 have C9:GJ l ds aS 0 0 0 aS:=⟨rfl,rfl,rfl,λ_ _=>rfl,λj h _=>Mq _ (azT h),λ_ _ _ h=>absurd h (aAM _),λ_ _ h=>absurd h (aAM _)⟩;have aE:n5 az:=trivial;have iU:n5 hs:=trivial;have cB:∀(e:Int) (Q:Prop),ad.aF .neq e 0=true->e=0->Q:=λe Q h h2=>azb;cases az<;>cases hs;all_goals
  dsimp only[cP.st,jB,eh]at ao⊢;refine ai ?_;repeat' (split<;>refine ai ?_)
  refine⟨b6 (λz:Nat×Nat×Nat×List ag=>asn ⟨L,t,bL,N,ps,ns,z.2.2.2,gn,ct,cu,cp,P⟩ (eA aE) (eA iU) L z.2.1 z.2.2.1 q z.1) (λz=>z.1<=q/\∃fN,z.2.2.2=gi fN/\GJ l ds aS z.1 z.2.1 z.2.2.1 fN) (λz=>q-z.1),_,⟨(0,0,0,S),⟨azF _,aS,eM,C9⟩,rfl,axr⟩,?_⟩;clear bq aR bO C9;rintro _ _ ⟨⟨i,a,b,S⟩,⟨aL,fN,pZ,dN⟩,rfl,rfl⟩;dsimp only at aL pZ dN⊢;have oU:Flat S:=by rw[pZ];exact ub _
  obtain⟨bq,aR,bO⟩:=bA.of ae oU;by_cases aB:i<q
  .have bU:=fS ae aB;have b4:=cV ae (cl i axs);have dm:ad.ez 25 25 (Int.ofNat i) q=true:=fZ ae aB;have gS:=cv ae (n:=i) axs;have kr:=cv ae (n:=a) (by have:=dN.br;have:=aCh nA (ds.take i);rw[aAT]at this;omega);have qx:=cv ae (n:=b) (by have:=dN.aq;have:=aCh jK (ds.take i);rw[aAT]at this;omega);have e7:i<ds.length:=axs;have h9:=azT e7;have Ad:=acD nA e7;have hr:=acD jK e7;have qU:=MB nA ds i e7;have has:=MB jK ds i e7;rw[<-dN.br]at Ad;rw[<-dN.aq]at hr;simp only[<-dN.br]at qU;simp only[<-dN.aq]at has;have aw5:ds[i].d'.k=ds[i].k:=rfl;have GK:jK ds[i]=decide (ds[i].k=3):=rfl;have GL:nA ds[i]=!decide (ds[i].k=3):=rfl;have kp:ad.aF .eql ds[i].d'.k 3=decide (ds[i].k=3):=(eX ae).1 _ _;rw[GK]at hr has;rw[GL]at Ad qU;cases a6:decide (ds[i].k=3)with
   |true=>
    rw[a6]at hr Ad kp;obtain⟨gZ,dP⟩:=has a6;have sY:b<aS.length:=axs;first
    |exact absurd (asp rfl▸sY) (aAM _)
    |skip
    all_goals
     obtain⟨e,y,⟨asq,acF⟩,vC⟩:=gH fN dN.len b (by rw[dN.len];exact sY) (dN.todo b sY (azI _)) ds[i] h9;rw[<-pZ]at vC;obtain⟨kD,jO⟩:∃kD,kD=gi (fN.set b y):=⟨_,rfl⟩;rw[<-jO]at vC;have Mu:Flat kD:=by rw[jO];exact ub _
     obtain⟨g',z2,z3⟩:=bA.of ae Mu;have oO:∀j (h:j<aS.length) (h2:j<(fN.set b y).length),(fN.set b y)[j].n=aS[j].n:=λj h _=>by
      rw[List.getElem_set];by_cases GM:b=j
      .subst GM;rw[aAa rfl,asq];exact dN.nm b h
      .rw[aAc GM];exact dN.nm j h
     have wZ:e=0->GJ l ds aS (i+1) a (b+1) (fN.set b y):=λhe=>⟨Ad.symm,hr.symm,by rw[aAN];exact dN.len,λj h=>oO j h (by rw[aAN,dN.len];exact h),λj h GM=>by
       rw[List.getElem_set_ne axs];exact dN.todo j h axs,λj h h2 GM=>by
       by_cases aD:b=j
       .subst aD;rw[aCI,dP];exact acF he
       .rw[List.getElem_set_ne aD];exact dN.done j h h2 axs,dN.nodes⟩
     have sT:(fN.set b y).length=aS.length:=by rw[aAN];exact dN.len
     clear gH wS has qU acF dP;generalize ds[i].d'=w at*;obtain⟨cw,wn,C',Da,pR,vb,Db,⟨c1,c2,qY,c4,c5,eN,bT,e1,c9,fr,fa,X,eP,eT,eU,bB⟩,GN,GO⟩:=w;dsimp only[cP.st,eh]at vC;dsimp only at kp;obtain⟨B,eD⟩:∃b,ad.aF .neq e 0=b:=⟨_,rfl⟩;cases B with
     |true=>
      conv=>cbv
      repeat' ((first|refine bG ?_|refine bH ?_|simp -proj only[r0,bU,b4,dm,kp,eD,qx,bh,a2,a3,bq,aR,bO,g',z2,z3]|(split<;>(rename_i h;try simp only[h])))<;>conv=>cbv)
      all_goals exact ao _ _ (fN.set b y) _ ⟨sT,oO,cB _ _ eD⟩ (by(try rw[<-jO]);try kernel_rfl)
     |false=>
      have he:e=0:=MC ae eD;conv=>cbv
      repeat' ((first|refine bG ?_|refine bH ?_|simp -proj only[r0,bU,b4,dm,gS,kp,eD,qx,bh,a2,a3,bq,aR,bO,g',z2,z3]|(split<;>(rename_i h;try simp only[h])))<;>conv=>cbv)
      all_goals exact fixF (i+1,a,b+1,kD) ⟨aB,_,jO,wZ he⟩
   |false=>
    rw[a6]at hr Ad kp;obtain⟨aw6,pd⟩:=qU (by rw[a6];rfl);have acG:a<l.length:=axs;first
    |exact absurd (h0 rfl▸acG) (aAM _)
    |skip
    all_goals
     obtain⟨e,asr,vC⟩:=wS (eA iU) a acG S oU;have wZ:e=0->GJ l ds aS (i+1) (a+1) b fN:=λhe=>⟨Ad.symm,hr.symm,dN.len,dN.nm,dN.todo,dN.done,λj h Mc=>by
       by_cases aD:j=a
       .subst aD;exact asr he
       .exact dN.nodes j h axs⟩
     clear gH wS has qU;generalize ds[i].d'=w at*;obtain⟨cw,wn,C',Da,pR,vb,Db,⟨c1,c2,qY,c4,c5,eN,bT,e1,c9,fr,fa,X,eP,eT,eU,bB⟩,GN,GO⟩:=w;dsimp only[cP.st,eh,eA]at vC;dsimp only at kp;obtain⟨B,eD⟩:∃b,ad.aF .neq e 0=b:=⟨_,rfl⟩;cases B with
     |true=>
      refine ai ?_;repeat' (split<;>refine ai ?_)
      all_goals exact ao _ _ fN _ ⟨dN.len,λj h _=>dN.nm j h,cB _ _ eD⟩ (by(try rw[<-pZ]);try kernel_rfl)
     |false=>
      have he:e=0:=MC ae eD;conv=>cbv
      repeat' ((first|refine bG ?_|refine bH ?_|simp -proj only[r0,bU,b4,dm,gS,kp,eD,kr,bh,a2,a3,bq,aR,bO]|(split<;>(rename_i h;try simp only[h])))<;>conv=>cbv)
      all_goals exact fixF (i+1,a+1,b,S) ⟨aB,_,pZ,wZ he⟩
  .have bU:=f' ae aB;refine ai ?_;repeat' (split<;>refine ai ?_)
   refine ao _ 0 fN _ ⟨dN.len,λj h _=>dN.nm j h,λ_=>⟨λj h h2=>dN.done j (by rw[dN.len]at h;exact h) h2 ?_,λj h=>dN.nodes j h ?_⟩⟩ (by(try rw[<-pZ]);try kernel_rfl)
   .have:=dN.aq;rw[aAP axs]at this;omega
   .have:=dN.br;rw[aAP axs]at this;omega
def n6(l:List dj)(x:dj):List Int:=x.b1.map λz=>n3 l z.a
def ass(m:cP)(hs:Bool)(IN:List Go.aJ.D)(q j:Nat)(R:List Go.aJ.D):af:=cA [(0,.ptr 0 0),(5,.own 1 R),(11,.d (.list 4 IN)),(12,.d (int (Int.ofNat q))),(13,.d (int (Int.ofNat j)))] (m.st true hs false)
theorem ast(m:cP)(hm:m.Ok)(hs:Bool)(l:List dj)(b9:m.N=gY l)(aH:l.length=m.bL)(aq:m.bL<=1073741824)(x:dj)(hi:x.b1.length<=1073741824):
  aM 85 [.ptr 0 0,.d (.agg x.c24.cs)] (m.st true hs false) (.d (.list 1 ((n6 l x).map int))) (m.st true hs false):=by
 have su:=λv=>Gr m hm true hs false l b9 aH aq (λh=>axy) v;obtain⟨L,t,bL,N,ps,ns,S,gn,ct,cu,cp,P⟩:=m;dsimp only at b9 aH aq;refine Wx.lq (jB true hs false) λad ae Q a8=> ?_;obtain⟨bh,a2,a3⟩:=bA.of ae hm.N;obtain⟨bq,aR,bO⟩:=bA.of ae hm.S;dsimp only at bh a2 a3 bq aR bO;have Mw:(x.b1.map eg).length=x.b1.length:=azG _;have C8:∀i (h:i<x.b1.length),(x.b1.map eg)[i]?=some (eg x.b1[i]):=λi h=>dv h;have s4:∀j (h:j<x.b1.length),((x.b1.take (j+1)).map λz=>n3 l z.a).map int=((x.b1.take j).map λz=>n3 l z.a).map int++[int (n3 l x.b1[j].a)]:=λj h=>by
  rw[aAS,azQ h,az5,az5];rfl
 unfold n6 at a8;obtain⟨n,s,bw,Aa,GG,GH,b1,pl,code⟩:=x;dsimp only[dj.c24]at*;generalize asd:b1.map eg=IN at*;generalize bw.map bD=vB at*;generalize pl.bB=C at*;obtain⟨c1,c2,qY,c4,c5,eN,bT,e1,c9,fr,fa,X,eP,eT,eU,bB⟩:=C;obtain⟨q,Mx⟩:∃q,q=b1.length:=⟨_,rfl⟩;have r0:ad.len IN=q:=by subst ae;exact Mw.trans Mx.symm
 have aE:n5 hs:=trivial;cases hs;all_goals
  dsimp only[cP.st,jB,eh]at a8⊢;refine ai ?_;repeat' (split<;>refine ai ?_)
  refine⟨b6 (λz:Nat×List Go.aJ.D=>ass ⟨L,t,bL,N,ps,ns,S,gn,ct,cu,cp,P⟩ (eA aE) IN q z.1 z.2) (λz=>z.1<=q/\z.2=((b1.take z.1).map λz=>n3 l z.a).map int) (λz=>q-z.1),_,⟨(0,[]),⟨azF _,rfl⟩,rfl,axr⟩,?_⟩;rintro _ _ ⟨⟨j,R⟩,⟨aL,cX⟩,rfl,rfl⟩;dsimp only at aL cX⊢;by_cases aB:j<q
  .have bU:=fS ae aB;have b4:=cV ae (C8 j axs);have dm:ad.ez 4 4 (Int.ofNat j) q=true:=fZ ae aB;have gS:=cv ae (n:=j) axs;have qV:=s4 j axs;obtain⟨i,ok,gw,oQ⟩:=su (b1[j]' axs).a;rw[<-cX,<-gw.eq]at qV;have vy:R.length<=1073741824:=by rw[cX,azG,azG,aAT];omega
   have kr:ad.app R [int (Int.ofNat i)]=R++[int (Int.ofNat i)]:=axz;rw[<-kr]at qV;dsimp only[cP.st,eh,eA]at oQ;generalize (b1[j]' axs)=y at*;obtain⟨cT,c8,du,iZ⟩:=y;unfold eg at*;dsimp only at*;clear su kr;refine ai ?_;repeat' (split<;>refine ai ?_)
   all_goals exact fixF (j+1,ad.app R [int (Int.ofNat i)]) ⟨aB,qV.symm⟩
  .have bU:=f' ae aB;rw[aAP axs]at cX;rw[<-cX]at a8;refine ai ?_;repeat' (split<;>refine ai ?_)
   exact b5 a8 axr axr
theorem acH{n i:Nat}(h:i<n):gh n (Int.ofNat i)=true:=azx
theorem asu{l:List dj}(h:0<l.length)(v:ax):gh l.length (n3 l v)=true:=by
 unfold n3;cases bm:l.findIdx? (λx=>decide (x.n=v))with
 |none=>exact acH (i:=0) h
 |some i=>exact acH (aBQ.1 bm).1
def jP(s:List Int):List (Go.aJ.D×ag):=s.map λk=>(int k,.d (.bool true))
theorem acI(s:List Int):oG (jP s):=λe he=>by
 obtain⟨k,_,rfl⟩:=aAn.1 he;exact⟨_,rfl⟩
theorem acJ(k:Int):∀(s:List Int) (i:Nat),(k∉s/\fu false [1] (int k) (jP s) i=some none)\/(k∈s/\∃j,j<s.length/\fu false [1] (int k) (jP s) i=some (some (i+j)))
 |[],i=>.inl ⟨aAi,rfl⟩
 |t::s,i=>by
  have aw:fu false [1] (int k) (jP (t::s)) i=(match some (decide (k=t)&&true)with|some true=>some (some i)|some false=>fu false [1] (int k) (jP s) (i+1)|none=>none):=rfl;cases a6:decide (k=t)with
  |true=>
   refine .inr ⟨by rw[of_decide_eq_true a6];exact aAr,0,aCd _,?_⟩;rw[aw,a6];rfl
  |false=>
   have cB:=aCK a6;rw[aw,a6];rcases acJ k s (i+1)with⟨h1,h2⟩|⟨h1,j,h2,av⟩
   .exact .inl ⟨λh=>by rcases azY.1 h with h|h;exact cB h;exact h1 h,h2⟩
   .exact .inr ⟨aAG _ h1,j+1,aCA h2,by rw[show i+(j+1)=i+1+j by omega];exact av⟩
theorem asv{ad:bn}(ae:ad=bn.bY)(s:List Int)(k:Int):(k∈s/\ad.zl false [1] (int k) (jP s)=some (some (.d (.bool true))))\/(k∉s/\ad.zl false [1] (int k) (jP s)=some none/\ad.zm false [1] (int k) (.d (.bool true)) (jP s)=some (jP (s++[k]))):=by
 subst ae;show(_/\u4 false [1] (int k) (jP s)=_)\/(_/\u4 false [1] (int k) (jP s)=_/\tF false [1] (int k) _ (jP s)=_);unfold u4 tF;rcases acJ k s 0 with⟨h1,h2⟩|⟨h1,j,h2,av⟩
 .rw[h2];refine .inr ⟨h1,rfl,?_⟩;show some (jP s++[_])=_;unfold jP;rw[az5];rfl
 .rw[av];refine .inl ⟨h1,?_⟩;have aL:0+j<(jP s).length:=by unfold jP;rw[azG];omega
  have gP:∀e∈jP s,e.2=.d (.bool true):=λe he=>by
   obtain⟨k,_,rfl⟩:=aAn.1 he;rfl
  simp only[azQ aL];rw[gP _ (azT aL)]
def l8:List (List Int)->Nat->List Int->Nat
 |[],_,_=>0
 |l::ls,i,s=>(if Int.ofNat i∈s then 0 else l.length)+l8 ls (i+1) s
theorem acK(k:Nat):∀(ls:List (List Int)) (i:Nat) (s:List Int),k<i->l8 ls i (s++[Int.ofNat k])=l8 ls i s
 |[],_,_,_=>rfl
 |l::ls,i,s,h=>by
  show(if _∈s++[_]then 0 else l.length)+_=(if _∈s then 0 else l.length)+_;rw[acK k ls (i+1) s axs];have:(Int.ofNat i∈s++[Int.ofNat k])↔Int.ofNat i∈s:=by
   rw[aAu,az9];exact⟨λh2=>h2.elim id λav=>absurd (aCG av) axs,.inl⟩
  simp only[this]
theorem acL(k:Nat):∀(ls:List (List Int)) (i:Nat) (s:List Int) (h1:i<=k) (h2:k-i<ls.length),Int.ofNat k∉s->l8 ls i (s++[Int.ofNat k])+ls[k-i].length=l8 ls i s
 |l::ls,i,s,h1,h2,h=>by
  show(if _∈s++[_]then 0 else l.length)+l8 ls (i+1) _+_=(if _∈s then 0 else l.length)+l8 ls (i+1) s;by_cases e:i=k
  .subst e;rw[acK i ls (i+1) s axs,aAa (aAf _ (az9.2 rfl)),aAc h];have:(l::ls)[i-i]=l:=by simp only[aBY,aCE]
   rw[this];omega
  .have ih:=acL k ls (i+1) s axs azy h;have hm:(Int.ofNat i∈s++[Int.ofNat k])↔Int.ofNat i∈s:=by
    rw[aAu,az9];exact⟨λh2=>h2.elim id λav=>absurd (aCG av) axs,.inl⟩
   have aE:(l::ls)[k-i]=ls[k-(i+1)]' azy:=by
    have:k-i=k-(i+1)+1:=axs;simp only[this,aCe]
   rw[aE];simp only[hm];omega
theorem acM:∀(ls:List (List Int)) (i:Nat) (s:List Int),(∀l∈ls,l.length<=33554432)->l8 ls i s<=ls.length*33554432
 |[],_,_,_=>azF _
 |l::ls,i,s,h=>by
  have h1:=acM ls (i+1) s λx ak=>h x (aAG _ ak);have h2:=h l aAr;show(if _ then 0 else l.length)+_<=(ls.length+1)*33554432;split<;>omega
def vD(V:ag)(l:List Int):Prop:=(V=.gE 1/\l=[])\/V=.own 1 (l.map int)
theorem vD.own(l:List Int):vD (ij 1 (l.map int)) l:=by
 cases l with
 |nil=>exact .inl ⟨rfl,rfl⟩
 |cons x l=>exact .inr rfl
def MD(m:cP)(hs:Bool)(i:Nat)(l9:List Go.aJ.D)(id:Nat)(V:ag)(es:List (Go.aJ.D×ag)):af:=cA [(1,.d (int (Int.ofNat i))),(2,.d (.list 1 l9)),(7,.map id),(8,V)] (m.st true hs false++[.map es])
theorem asw(L:List Go.aJ.D)(aH:L.length<=1073741824):aM 34 [.d (.list 1 L)] [] (.own 1 L) []:=by
 cases L with
 |nil=>
  refine KT.cw λad ae Q a8=> ?_;conv=>cbv
  subst ae;refine⟨?_,?_⟩;all_goals first|exact b5 a8 axr axr|exact⟨axr,b5 a8 axr axr⟩
 |cons x L=>
  refine KT.cw λad ae Q a8=> ?_;have h2:L.length+1<=1073741824:=aH;refine ai ?_;all_goals (subst ae;exact b5 a8 axr axr)
theorem asx(m:cP)(hm:m.Ok)(hs:Bool)(ls:List (List Int))(n:Nat)(s4:ls.length=n)(az:n<=32)(qZ:∀l∈ls,ka n l/\l.length<=33554432)(i:Nat)(hi:i<n):
  ∃b:Bool,aM 87 [.ptr 0 0,.d (int (Int.ofNat i)),.d (.list 1 (ls.map λl=>Go.aJ.D.list 1 (l.map int)))] (m.st true hs false) (.d (.bool b)) (m.st true hs false):=by
 refine gV ?_;obtain⟨L,t,bL,N,ps,ns,S,gn,ct,cu,cp,P⟩:=m;have asy:(ls.map λl=>Go.aJ.D.list 1 (l.map int)).length=ls.length:=azG _;have ME:∀i (h:i<ls.length),(ls.map λl=>Go.aJ.D.list 1 (l.map int))[i]?=some (.list 1 (ls[i].map int)):=λi h=>dv h;generalize (ls.map λl=>Go.aJ.D.list 1 (l.map int))=l9 at*;refine U1.jl (jB true hs false++[cond hs 3 2]) _ λad ae K ao=> ?_;replace ao:∀(b:Bool) (s':aV),s'=(⟨L,t,bL,N,ps,ns,S,gn,ct,cu,cp,P⟩:cP).st true hs false->K (.d (.bool b)) s':=λb s' h=>ao _ _ ⟨b,rfl,h⟩;obtain⟨bh,a2,a3⟩:=bA.of ae hm.N;obtain⟨bq,aR,bO⟩:=bA.of ae hm.S;dsimp only at bh a2 a3 bq aR bO;have r0:ad.len l9=n:=by subst ae;exact asy.trans s4
 have e7:i<ls.length:=axs;have t1:ad.ez 1 1 (Int.ofNat i) n=true:=fZ ae hi;have t2:=cV ae (ME i e7);have po:=qZ _ (azT e7);have aj:=asw (ls[i].map int) (by rw[azG];omega);have GQ:=acM ls 0 [] λl h=>(qZ l h).2;have rm:l8 ls 0 []+ls[i].length<=33*33554432:=by
  have:ls.length*33554432<=32*33554432:=aAl _ axs;omega
 generalize aw7:ls[i]=mz at*;obtain⟨c1,c2,c3⟩:=lD.of ae (C:=[]) (λe he=>by cases he);have e9:ad.len []=0:=axz;have q1:ad.aF .gtr (Int.ofNat 0) 0=false:=by rw[(eX ae).2.2.2];rfl
 have yn:∀c,ad.aF .gtr (Int.ofNat (c+1)) 0=true:=λc=>by rw[(eX ae).2.2.2];exact azO (aA5.2 (aCd c))
 have jy:ka n mz:=po.1;have aE:n5 hs:=trivial;generalize xw:mz.map int=L0 at*;cases hs;all_goals
  dsimp only[cP.st,jB,eh]at ao⊢;refine ai ?_;repeat' (split<;>refine ai ?_)
  refine⟨b6 (λz:ag×List Int×List Int=>MD ⟨L,t,bL,N,ps,ns,S,gn,ct,cu,cp,P⟩ (eA aE) i l9 (cond (eA aE) 3 2) z.1 (jP z.2.2)) (λz=>vD z.1 z.2.1/\ka n z.2.1/\l8 ls 0 z.2.2+z.2.1.length<=33*33554432) (λz=>l8 ls 0 z.2.2+z.2.1.length),_,⟨(.own 1 L0,mz,[]),⟨.inr (by rw[xw]),jy,rm⟩,rfl,axr⟩,?_⟩;clear c1 c2 c3 aj t1 t2 xw rm GQ jy po;rintro _ _ ⟨⟨V,l,s⟩,⟨hV,jy,hm⟩,rfl,rfl⟩;dsimp only at hV jy hm⊢;obtain⟨c1,c2,c3⟩:=lD.of ae (acI s);have ud:=asv ae s;have acN:=acL (s:=s) (ls:=ls) (i:=0);have MF:∀(GR:ag) (bC s':List Int),vD GR bC->ka n bC->l8 ls 0 s'+bC.length<l8 ls 0 s+l.length->∀{st:af},st=MD ⟨L,t,bL,N,ps,ns,S,gn,ct,cu,cp,P⟩ (eA aE) i l9 (cond (eA aE) 3 2) GR (jP s')->∃m,m<l8 ls 0 s+l.length/\b6 (λz:ag×List Int×List Int=>MD ⟨L,t,bL,N,ps,ns,S,gn,ct,cu,cp,P⟩ (eA aE) i l9 (cond (eA aE) 3 2) z.1 (jP z.2.2)) (λz=>vD z.1 z.2.1/\ka n z.2.1/\l8 ls 0 z.2.2+z.2.1.length<=33*33554432) (λz=>l8 ls 0 z.2.2+z.2.1.length) m st:=λGR bC s' h1 h2 av _ h=>eb (GR,bC,s') ⟨h1,h2,by show l8 ls 0 s'+bC.length<=_;omega⟩ av h;generalize yz:jP s=es at*;rcases hV with⟨rfl,rfl⟩|rfl
  .refine ai ?_;repeat' (split<;>refine ai ?_)
   all_goals exact ao false _ axr
  cases l with
  |nil=>
   refine ai ?_;repeat' (split<;>refine ai ?_)
   all_goals exact ao false _ axr
  |cons x rest=>
   obtain⟨k,Bx,rfl⟩:=xE (jy x aAr);have sO:ka n rest:=λz aQ=>jy z (aAG _ aQ);obtain⟨R,cX⟩:∃R,R=rest.map int:=⟨_,rfl⟩;have vy:R.length=rest.length:=by rw[cX];exact azG _
   have o8:(Int.ofNat k::rest).length=rest.length+1:=rfl;obtain⟨c,ay⟩:∃c,c=rest.length+1:=⟨_,rfl⟩;have p0:ad.len (int (Int.ofNat k)::R)=c:=by subst ae;show R.length+1=c;omega
   have p1:ad.aF .gtr (Int.ofNat c) 0=true:=by rw[ay];exact yn _
   have ey:ad.ez 1 1 0 c=true:=fZ ae (i:=0) axs;have lr:ad.get (int (Int.ofNat k)::R) 0=int (Int.ofNat k):=axz;have i':ad.Kc true 1 (int (Int.ofNat k)::R)=true:=by
    have im:(1:Int)<=((int (Int.ofNat k)::R).length:Nat):=by rw[show(int (Int.ofNat k)::R).length=R.length+1 from rfl];omega
    subst ae;show(true&&decide ((0:Int)<=1)&&decide ((1:Int)<=((int (Int.ofNat k)::R).length:Nat))&&true)=true;rw[azO im];rfl
   have iT:ad.Cb 1 (int (Int.ofNat k)::R) 1=ij 1 R:=axz;have kA:ad.ez 1 1 (Int.ofNat k) n=true:=fZ ae Bx;have Ci:=cV ae (ME k axs);have Ae:=qZ _ (azT (show k<ls.length by omega));have mo:=acN k (azF _) (show k-0<ls.length by omega);simp only[aB7]at mo;obtain⟨bi,MG⟩:∃b,ad.aF .eql (Int.ofNat k) (Int.ofNat i)=b:=⟨_,rfl⟩;have MH:=ud (Int.ofNat k);clear ud acN qZ ME;generalize (ls[k]' axs)=l2 at*;have Bb:(Int.ofNat k::rest).map int=int (Int.ofNat k)::R:=by rw[cX];rfl
   rw[Bb];clear Bb;have Dc:=λ(acO:ag) (ew:vD acO rest)=>@MF acO rest s ew sO axs;have acP:ka n (rest++l2):=λz aQ=>(aAu.1 aQ).elim (sO z) (Ae.1 z);obtain⟨iX,tV⟩:∃iX,iX=l2.map int:=⟨_,rfl⟩;have aw8:iX.length=l2.length:=by rw[tV];exact azG _
   obtain⟨acQ,asz⟩:∃e,e=jP (s++[Int.ofNat k]):=⟨_,rfl⟩;obtain⟨d1,d2,d3⟩:=lD.of ae (acI (s++[Int.ofNat k]));have jg:=λ(az:Int.ofNat k∉s) (acR:ag) (ew:vD acR (rest++l2))=>@MF acR (rest++l2) (s++[Int.ofNat k]) ew acP (by have:=mo az;rw[az6];omega);rw[<-asz]at MH d1 d2 d3 jg;rw[yz]at Dc;rw[<-tV]at Ci;have sT:l2.length<=33554432:=Ae.2;have DR:rest.length<=33*33554432:=axs;have wN:ad.app R iX=(rest++l2).map int:=by subst ae;rw[cX,tV,az5];rfl
   clear MF mo Ae acP;cases rest with
   |nil=>
    have Ab:R=[]:=cX;subst Ab;replace iT:ad.Cb 1 [int (Int.ofNat k)] 1=.gE 1:=iT;cases bi with
    |true=>
     refine ai ?_;repeat' (split<;>refine ai ?_)
     all_goals exact ao true _ axr
    |false=>
    rcases MH with⟨_,nM⟩|⟨oO,nM,GU⟩
    .refine ai ?_;repeat' (split<;>refine ai ?_)
     all_goals exact Dc (.gE 1) (.inl ⟨rfl,rfl⟩) axr
    .cases l2 with
     |nil=>
      have xw:iX=[]:=tV;subst xw;conv=>cbv
      repeat' ((first|refine bG ?_|refine bH ?_|simp -proj only[r0,e9,p0,p1,ey,lr,i',iT,kA,Ci,MG,nM,GU,bh,a2,a3,bq,aR,bO,c1,c2,c3,d1,d2,d3]|(split<;>(rename_i h;try simp only[h])))<;>conv=>cbv)
      all_goals exact jg oO (.gE 1) (.inl ⟨rfl,rfl⟩) axr
     |cons y ys=>
      have xw:iX=int y::ys.map int:=tV;subst xw;have BR:(ys.map int).length=ys.length:=azG _;have rL:ys.length<=33554432:=azz;generalize ys.map int=Y at*;conv=>cbv
      repeat' ((first|refine bG ?_|refine bH ?_|simp -proj only[r0,p0,p1,ey,lr,i',iT,kA,Ci,MG,nM,GU,bh,a2,a3,bq,aR,bO,c1,c2,c3,d1,d2,d3]|(split<;>(rename_i h;try simp only[h])))<;>conv=>cbv)
      all_goals exact jg oO (.own 1 (int y::Y)) (.inr (by show ag.own 1 _=.own 1 ((y::ys).map int);rw[tV])) axr
   |cons y ys=>
    have Ab:R=int y::ys.map int:=cX;subst Ab;have BR:(ys.map int).length=ys.length:=azG _;have rL:ys.length<=33*33554432:=azz;have acS:vD (.own 1 (int y::ys.map int)) (y::ys):=.inr rfl;replace Dc:=λ(st:af)=>@Dc _ acS st;replace jg:=λh (st:af)=>@jg h (.own 1 (ad.app (int y::ys.map int) iX)) (.inr (by rw[wN])) st;clear acS wN cX vy;generalize ys.map int=Y at*;replace iT:ad.Cb 1 (int (Int.ofNat k)::int y::Y) 1=.own 1 (int y::Y):=iT;cases bi with
    |true=>
     refine ai ?_;repeat' (split<;>refine ai ?_)
     all_goals exact ao true _ axr
    |false=>
    rcases MH with⟨_,nM⟩|⟨oO,nM,GU⟩
    .refine ai ?_;repeat' (split<;>refine ai ?_)
     all_goals exact Dc _ axr
    .conv=>cbv
     repeat' ((first|refine bG ?_|refine bH ?_|simp -proj only[r0,p0,p1,ey,lr,i',iT,kA,Ci,MG,nM,GU,bh,a2,a3,bq,aR,bO,c1,c2,c3,d1,d2,d3]|(split<;>(rename_i h;try simp only[h])))<;>conv=>cbv)
     all_goals exact jg oO _ axr
end Go.Proofs.YtmgpekpnidjfoaaGreatDoor
