/- Part of ranges_said. -/
import Derived.Test.YthffhbakgmemaaaGreatDoorB12
set_option maxRecDepth 100000
set_option maxHeartbeats 8000000
set_option linter.unusedSimpArgs false
set_option linter.unusedVariables false
namespace Go.Proofs.YthffhbakgmemaaaGreatDoor
open Go Go.aH
attribute [local irreducible] bG
theorem asZ{ad:bm}(h:ad=bm.bU){l:List cX}{i:Nat}(hi:i<l.length):ad.oZ (ha l) (i*24+3) 3=.d (.agg [int l[i].k,int l[i].a,int l[i].b]):=by
 unfold ha;rw[Tl h (yt l) azE ax0,Dz];rfl
def yy(l:List cX)(k:Nat)(aq:k<l.length):Prop:=(∀z∈l[k].bM,∃i,nS l z.a i true)/\(∀j (aK:j<k),(l[j]' axW).n≠l[k].n)/\aDh l[k].a l[k].b
def as0(m:cy)(hs:Bool)(n:aw)(s:Bool)(rr:List Go.aH.D)(k a b:Int)(IF:List Go.aH.D)(c:ef)(code:aw)(q j:Nat):ag:=pV [(0,.ptr 0 0),(5,.dT 5 0),(47,.d (.list 4 IF)),(48,.d (int (Int.ofNat q))),(49,.d (int (Int.ofNat j)))] [(5,(yc.cs ⟨n,s,rr,k,a,b,IF,c,code⟩).map .d)] (m.st true hs false)
theorem as1(m:cy)(hm:m.Ok)(hs:Bool)(l:List cX)(b3:m.N=ha l)(aI:l.length=m.bn)(au:m.bn<=1073741824)(k:Nat)(aq:k<l.length)(hi:l[k].bM.length<=1073741824):
  ∃e:Int,(e=0->yy l k aq)/\aM 101 [.ptr 0 0,.d (int (Int.ofNat k))] (m.st true hs false) (.d (int e)) (m.st true hs false):=by
 suffices h:∃r s',(∃e:Int,(e=0->yy l k aq)/\r=.d (int e)/\s'=m.st true hs false)/\aM 101 [.ptr 0 0,.d (int (Int.ofNat k))] (m.st true hs false) r s' by
  obtain⟨_,_,⟨e,h1,rfl,rfl⟩,h⟩:=h;exact⟨e,h1,h⟩
 have sY:=λv=>G6 m hm true hs false l b3 aI au (λh=>ax2) v;obtain⟨L,t,bn,N,ps,ns,S,gn,b0,b6,b4,P⟩:=m;dsimp only at b3 aI au;obtain⟨i0,axs,uN,aj⟩:=sY l[k].n;obtain⟨as2,_,aF⟩:=rb l[k].bq;obtain⟨as3,acu,aZ⟩:=Na l[k].k l[k].a l[k].b
 have as4:(∀z∈l[k].bM,∃i,nS l z.a i true)->¬i0<k->as3=0->yy l k aq:=λwb h av=>⟨wb,λj aK=>by
  rcases uN with⟨_,h1,sh,aW⟩|⟨_,_,av⟩
  .exact aW j axW
  .exact absurd rfl (av _ (aAl aq)),acu av⟩
 refine Xq.jt (iP true hs false) _ λad ae K ao=> ?_;replace ao:∀(e:Int) (s':aU),(e=0->yy l k aq)->s'=(⟨L,t,bn,N,ps,ns,S,gn,b0,b6,b4,P⟩:cy).st true hs false->K (.d (int e)) s':=λe s' h1 sh=>ao _ _ ⟨e,h1,rfl,sh⟩;obtain⟨bw,a2,a3⟩:=br.of ae hm.N;obtain⟨bJ,a6,cq⟩:=br.of ae hm.S;dsimp only at bw a2 a3 bJ a6 cq;have t1:ad.er 24 24 (Int.ofNat k) bn=true:=fT ae axW;have t2:=pZ ae k 24;have t3:ad.hL (k*24) 24 N true=true:=by rw[b3];exact sX ae aq (j:=0) (n:=24) ax0
 have t4:ad.oZ N (k*24) 24=.d (.agg l[k].c24.cs):=by rw[b3];exact M3 ae aq
 have aS:∀(i:Nat) (h:i<l.length),ad.er 24 24 (Int.ofNat i) bn=true/\ad.hL (i*24+3) 3 N true=true/\ad.oZ N (i*24+3) 3=.d (.agg [int l[i].k,int l[i].a,int l[i].b]):=λi h=>⟨fT ae axW,by rw[b3];exact sX ae h ax0,by rw[b3];exact asZ ae h⟩;have yz:(l[k].bM.map dW).length=l[k].bM.length:=aAb _;have DC:∀i (h:i<l[k].bM.length),(l[k].bM.map dW)[i]?=some (dW l[k].bM[i]):=λi h=>c7 h;have as5:∀j,ad.sub (l[k].bM.map dW) 0 (Int.ofNat j)=(l[k].bM.take j).map dW:=λj=>by subst ae;show(List.drop 0 _).take (j-0)=_;rw[aDa,aCG,List.map_take]
 have adu:=λ(j:Nat) (y:ja)=>asN (l[k].bM.take j) azr y;clear uN;generalize yy l k aq=Hf at*;generalize l[k]=x at*;obtain⟨n,s,bq,AP,Hg,Hh,bM,pl,code⟩:=x;unfold cX.c24 at t4;dsimp only at*;generalize as6:bM.map dW=IF at*;generalize bq.map bD=rr at*;generalize pl.bB=C at*;obtain⟨c1,c2,qj,c4,c5,eI,bQ,e0,c9,fj,e9,X,eN,eR,eS,bB⟩:=C;obtain⟨q,Nb⟩:∃q,q=bM.length:=⟨_,rfl⟩;have r0:ad.len IF=q:=by subst ae;exact yz.trans Nb.symm
 have aC:lM hs:=trivial;have fH:lM s:=trivial;generalize k*24=M7 at*;obtain⟨as7,jH⟩:∃b,ad.aD .lss (Int.ofNat i0) (Int.ofNat k)=b:=⟨_,rfl⟩;obtain⟨Nc,u8⟩:∃b,ad.aD .neq as2 0=b:=⟨_,rfl⟩;obtain⟨as8,nF⟩:∃b,ad.aD .neq as3 0=b:=⟨_,rfl⟩;have cB:∀e:Int,ad.aD .neq e 0=true->e=0->Hf:=λe h sh=>azF;have as9:(13:Int)=0->Hf:=λh=>absurd h ax0;have adv:(14:Int)=0->Hf:=λh=>absurd h ax0;cases as7 with
 |true=>
  cases hs;all_goals
   dsimp only[cy.st,iP,eD]at ao aj⊢;refine af ?_
  all_goals exact ao _ _ adv axV
 |false=>
 have zA:¬i0<k:=λh=>by rw[eT ae h]at jH;cases jH
 by_cases fm:s=true/\Nc=true
 .obtain⟨rfl,rfl⟩:=fm;cases hs;all_goals
   dsimp only[cy.st,iP,eD]at ao aj⊢;refine af ?_
  all_goals exact ao _ _ (cB _ u8) axV
 cases as8 with
 |true=>
  cases s<;>cases Nc<;>try exact absurd ⟨rfl,rfl⟩ fm
  all_goals
   cases hs;all_goals
    dsimp only[cy.st,iP,eD]at ao aj⊢;refine af ?_
   all_goals exact ao _ _ (cB _ nF) axV
 |false=>
 have aGv:as3=0:=by subst ae;have h:(!decide (as3=0))=false:=nF;simpa using h
 cases s<;>cases Nc<;>try exact absurd ⟨rfl,rfl⟩ fm
 all_goals
  cases hs;all_goals
   dsimp only[cy.st,iP,eD]at ao aj⊢;refine af ?_;refine⟨bX (λj=>as0 ⟨L,t,bn,N,ps,ns,S,gn,b0,b6,b4,P⟩ (cS aC) n (cS fH) rr AP Hg Hh IF ⟨c1,c2,qj,c4,c5,eI,bQ,e0,c9,fj,e9,X,eN,eR,eS,bB⟩ code q j) (λj=>j<=q/\∀z∈bM.take j,∃i,nS l z.a i true) (λj=>q-j),_,⟨0,⟨aAa _,λz h=>by simp at h⟩,rfl,axV⟩,?_⟩;rintro _ _ ⟨j,⟨aK,fW⟩,rfl,rfl⟩;dsimp only at aK fW⊢;by_cases aA:j<q
   .have bN:=eT ae aA;have b5:=cz ae (DC j axW);have dq:ad.er 4 4 (Int.ofNat j) q=true:=fT ae aA;have n7:ad.pW true 0 (Int.ofNat j) (Int.ofNat q) q=true:=ye ae (aAa _) axW (aAd _);have vg:=as5 j;have gf:=cd ae (n:=j) axW;have hB:bM.take (j+1)=bM.take j++[bM[j]' axW]:=by rw[aA9,aAj axW];rfl
    obtain⟨i,ok,ch,o9⟩:=sY (bM[j]' axW).a;obtain⟨as',y1⟩:=adu j (bM[j]' axW);have M8:ok=true->∀z∈bM.take (j+1),∃i,nS l z.a i true:=λh z aO=>by
     rw[hB]at aO;rcases aAT.1 aO with aO|aO
     .exact fW z aO
     .rw[aAF.1 aO];subst h;exact⟨i,ch⟩
    have dV:ok=true->i<l.length:=λh=>by
     rcases ch with⟨_,h1,_⟩|⟨h1,_⟩
     .exact h1
     .rw[h]at h1;cases h1
    clear hB ch adu;dsimp only[cy.st,eD]at o9;generalize (bM[j]' axW)=y at*;obtain⟨de,dp,dF,lz⟩:=y;unfold dW uM at*;dsimp only at*;generalize (bM.take j).map dW=axt at*;cases ok with
    |false=>
     refine af ?_;exact ao _ _ as9 axV
    |true=>
    cases as' with
    |true=>
     refine af ?_;exact ao _ _ adv axV
    |false=>
    obtain⟨w1,fb,jP⟩:=aS i (dV rfl);have bW:=pZ ae i 24;have oc:ad.lD (i*24) 3=i*24+3:=p2 ae _ _;obtain⟨aL,em⟩:=asY dp dF AP Hg Hh (l[i]'(dV rfl)).k (l[i]'(dV rfl)).a (l[i]'(dV rfl)).b;obtain⟨ata,vK⟩:∃b,ad.aD .neq aL 0=b:=⟨_,rfl⟩;generalize (l[i]'(dV rfl)).k=atb at*;generalize (l[i]'(dV rfl)).a=atc at*;generalize (l[i]'(dV rfl)).b=adw at*;generalize i*24=aD at*;generalize aD+3=axu at*;cases ata with
    |true=>
     refine af ?_;exact ao _ _ (cB _ vK) axV
    |false=>
     refine af ?_;repeat' (split<;>refine af ?_)
     all_goals exact ec (j+1) ⟨aA,M8 rfl⟩ (by show q-(j+1)<q-j;omega) axV
   .have bN:=eY ae aA;have vz:Hf:=as4 (by rw[aBa axW]at fW;exact fW) zA aGv;refine af ?_;exact ao _ _ (λ_=>vz) axV
theorem Nd{α:Type}(p:α->Bool):∀(ds:List α) (i:Nat) (h:i<ds.length),p ds[i]=true->∃aq:((ds.take i).filter p).length<(ds.filter p).length,(ds.filter p)[((ds.take i).filter p).length]=ds[i]
 |d::ds,0,_,hp=>by
  have hp:p d=true:=hp;have:(d::ds).filter p=d::ds.filter p:=aBG hp;simp only[List.take_zero,List.filter_nil,aA6,this];exact⟨aCM _,rfl⟩
 |d::ds,i+1,h,hp=>by
  obtain⟨h1,sh⟩:=Nd p ds i (aC8 h) hp;cases aY:p d with
  |true=>
   simp only[aCe,aBG aY,aAu,aCN];exact⟨aC7 h1,sh⟩
  |false=>
   have nC:¬p d=true:=by rw[aY];decide
   simp only[aCe,aBP nC,aCN];exact⟨h1,sh⟩
theorem adx{α:Type}(p:α->Bool){ds:List α}{i:Nat}(h:i<ds.length):((ds.take (i+1)).filter p).length=((ds.take i).filter p).length+(if p ds[i]=true then 1 else 0):=by
 rw[aA9,aAj h,aBC,aAA];show _+([ds[i]].filter p).length=_;cases hp:p ds[i]with
 |true=>rw[aBG hp];rfl
 |false=>rw[aBP (by rw[hp];decide)];rfl
theorem Hi{ad:bm}(h:ad=bm.bU){e:Int}(au:ad.aD .neq e 0=false):e=0:=by
 subst h;have au:(!decide (e=0))=false:=au;cases aY:decide (e=0)with
 |true=>exact of_decide_eq_true aY
 |false=>rw[aY]at au;cases au
def eX(d:b8):Bool:=decide (d.k=3)
def ix(d:b8):Bool:=!decide (d.k=3)
structure Hj(l:List cX)(ds:List b8)(aN:List gB)(i:Nat)(a b:Nat)(fM:List gB):Prop where
 bp:a=((ds.take i).filter ix).length
 au:b=((ds.take i).filter eX).length
 len:fM.length=aN.length
 nm:∀j (h:j<aN.length),(fM[j]' axW).n=aN[j].n
 todo:∀j (h:j<aN.length),b<=j->(fM[j]' axW).ks=[]
 done:∀j (h:j<aN.length) (sh:j<(ds.filter eX).length),j<b->G8 l (ds.filter eX)[j] (fM[j]' axW)
 nodes:∀j (h:j<l.length),j<a->yy l j h
structure Nf(l:List cX)(ds:List b8)(fM:List gB):Prop where
 done:∀j (h:j<fM.length) (sh:j<(ds.filter eX).length),G8 l (ds.filter eX)[j] fM[j]
 nodes:∀j (h:j<l.length),yy l j h
def atd(m:cy)(ay hs:Bool)(L:List Go.aH.D)(a b q i:Nat):ag:=cx [(0,.ptr 0 0),(4,.d (int (Int.ofNat a))),(5,.d (int (Int.ofNat b))),(12,.d (.list 25 L)),(13,.d (int (Int.ofNat q))),(14,.d (int (Int.ofNat i)))] (m.st ay hs false)
theorem ate(m:cy)(hm:m.Ok)(ay hs:Bool)(ds:List b8)(bE:m.L=ds.map b8.d)(tF:ds.length<=1073741824)(l:List cX)(b3:m.N=ha l)(aI:l.length=m.bn)(au:m.bn<=1073741824)(wb:ay=false->l=[])(aN:List gB)(ey:m.S=fU aN)(kz:aN.length=m.ns)(nZ:m.ns<=1073741824)(atf:hs=false->aN=[])
  (sb:(ds.filter ix).length=l.length) (axv:(ds.filter eX).length=aN.length) (M5:∀y∈aN,y.ks=[]) (ak:∀x∈ds,x.fI.length<=1073741824/\x.ms.length<=1073741824) (hi:∀y∈l,y.bM.length<=1073741824):
  ∃(a e:Int) (fM:List gB),(fM.length=aN.length/\(∀j (h:j<aN.length) (sh:j<fM.length),fM[j].n=aN[j].n)/\(e=0->Nf l ds fM))/\aM 67 [.ptr 0 0] (m.st ay hs false) (.tuple [.d (int a),.d (int e)]) (({m with S:=fU fM}:cy).st ay hs false):=by
 refine K8 ?_;have xy:=λhs (k:Nat) (aq:k<l.length) (S:List ah) (pe:Flat S)=>as1 {m with S:=S} ⟨hm.N,pe,hm.b0,hm.b6,hm.b4,hm.P⟩ hs l b3 aI au k aq (hi _ (aAl aq));have gN:=λ(fM:List gB) (he:fM.length=aN.length) (k:Nat) (aq:k<fM.length) (sh:fM[k].ks=[]) (x:b8) (KG:x∈ds)=>asy {m with S:=fU fM} ⟨hm.N,uL _,hm.b0,hm.b6,hm.b4,hm.P⟩ ay l b3 aI au wb fM rfl (he.trans kz) nZ k aq sh x (ak x KG).1 (ak x KG).2;obtain⟨L,t,bn,N,ps,ns,S,gn,b0,b6,b4,P⟩:=m;dsimp only at b3 aI au ey kz nZ bE xy gN;subst bE;have wk:(ds.map b8.d).length=ds.length:=aAb _;have bY:∀i (h:i<ds.length),(ds.map b8.d)[i]?=some (.agg ds[i].cU.cs):=λi h=>c7 h;generalize ds.map b8.d=L at*;refine Vt.jt (iP ay hs false) _ λad ae K ao=> ?_;replace ao:∀(a e:Int) (fM:List gB) (s':aU),(fM.length=aN.length/\(∀j (h:j<aN.length) (sh:j<fM.length),fM[j].n=aN[j].n)/\(e=0->Nf l ds fM))->s'=(⟨L,t,bn,N,ps,ns,fU fM,gn,b0,b6,b4,P⟩:cy).st ay hs false->K (.tuple [.d (int a),.d (int e)]) s':=λa e y s' h1 sh=>ao _ _ ⟨a,e,y,h1,rfl,sh⟩;obtain⟨bw,a2,a3⟩:=br.of ae hm.N;obtain⟨bJ,a6,cq⟩:=br.of ae hm.S;dsimp only at bw a2 a3 bJ a6 cq;obtain⟨q,aS⟩:∃q,q=ds.length:=⟨_,rfl⟩;have r0:ad.len L=q:=by subst ae;exact wk.trans aS.symm
 have yA:Hj l ds aN 0 0 0 aN:=⟨rfl,rfl,rfl,λ_ _=>rfl,λj h _=>M5 _ (aAl h),λ_ _ _ h=>absurd h (aBh _),λ_ _ h=>absurd h (aBh _)⟩;have aC:lM ay:=trivial;have fH:lM hs:=trivial;have cB:∀(e:Int) (Q:Prop),ad.aD .neq e 0=true->e=0->Q:=λe Q h sh=>azF;cases ay<;>cases hs;all_goals
  dsimp only[cy.st,iP,eD]at ao⊢;refine af ?_;refine⟨bX (λz:Nat×Nat×Nat×List ah=>atd ⟨L,t,bn,N,ps,ns,z.2.2.2,gn,b0,b6,b4,P⟩ (cS aC) (cS fH) L z.2.1 z.2.2.1 q z.1) (λz=>z.1<=q/\∃fM,z.2.2.2=fU fM/\Hj l ds aN z.1 z.2.1 z.2.2.1 fM) (λz=>q-z.1),_,⟨(0,0,0,S),⟨aAa _,aN,ey,yA⟩,rfl,axV⟩,?_⟩;clear bJ a6 cq yA;rintro _ _ ⟨⟨i,a,b,S⟩,⟨aK,fM,qk,dr⟩,rfl,rfl⟩;dsimp only at aK qk dr⊢;have pe:Flat S:=by rw[qk];exact uL _
  obtain⟨bJ,a6,cq⟩:=br.of ae pe;by_cases aA:i<q
  .have bN:=eT ae aA;have b5:=cz ae (bY i axW);have dq:ad.er 25 25 (Int.ofNat i) q=true:=fT ae aA;have gf:=cd ae (n:=i) axW;have ij:=cd ae (n:=a) (by have:=dr.bp;have:=aBu ix (ds.take i);rw[aBq]at this;omega);have qS:=cd ae (n:=b) (by have:=dr.au;have:=aBu eX (ds.take i);rw[aBq]at this;omega);have dV:i<ds.length:=axW;have ie:=aAl dV;have AQ:=adx ix dV;have hB:=adx eX dV;have rl:=Nd ix ds i dV;have has:=Nd eX ds i dV;rw[<-dr.bp]at AQ;rw[<-dr.au]at hB;simp only[<-dr.bp]at rl;simp only[<-dr.au]at has;have axw:ds[i].cU.k=ds[i].k:=rfl;have Hk:eX ds[i]=decide (ds[i].k=3):=rfl;have Hl:ix ds[i]=!decide (ds[i].k=3):=rfl;have hD:ad.aD .eql ds[i].cU.k 3=decide (ds[i].k=3):=(eF ae).1 _ _;rw[Hk]at hB has;rw[Hl]at AQ rl;cases aY:decide (ds[i].k=3)with
   |true=>
    rw[aY]at hB AQ hD;obtain⟨hd,dY⟩:=has aY;have tD:b<aN.length:=axW;first
    |exact absurd (atf rfl▸tD) (aBh _)
    |skip
    all_goals
     obtain⟨e,y,⟨atg,ady⟩,wo⟩:=gN fM dr.len b (by rw[dr.len];exact tD) (dr.todo b tD (aAd _)) ds[i] ie;rw[<-qk]at wo;obtain⟨kM,jW⟩:∃kM,kM=fU (fM.set b y):=⟨_,rfl⟩;rw[<-jW]at wo;have M9:Flat kM:=by rw[jW];exact uL _
     obtain⟨fO,z2,z3⟩:=br.of ae M9;have kk:∀j (h:j<aN.length) (sh:j<(fM.set b y).length),(fM.set b y)[j].n=aN[j].n:=λj h _=>by
      rw[List.getElem_set];by_cases Hm:b=j
      .subst Hm;rw[aAD rfl,atg];exact dr.nm b h
      .rw[aAG Hm];exact dr.nm j h
     have su:e=0->Hj l ds aN (i+1) a (b+1) (fM.set b y):=λhe=>⟨AQ.symm,hB.symm,by rw[aBm];exact dr.len,λj h=>kk j h (by rw[aBm,dr.len];exact h),λj h Hm=>by
       rw[List.getElem_set_ne axW];exact dr.todo j h axW,λj h sh Hm=>by
       by_cases aF:b=j
       .subst aF;rw[aDd,dY];exact ady he
       .rw[List.getElem_set_ne aF];exact dr.done j h sh axW,dr.nodes⟩
     have tz:(fM.set b y).length=aN.length:=by rw[aBm];exact dr.len
     clear gN xy has rl ady dY;generalize ds[i].cU=w at*;obtain⟨cn,wn,uO,uP,na,qb,AR,⟨c1,c2,qj,c4,c5,eI,bQ,e0,c9,fj,e9,X,eN,eR,eS,bB⟩,wq,yB⟩:=w;dsimp only[cy.st,eD]at wo;dsimp only at hD;obtain⟨B,eJ⟩:∃b,ad.aD .neq e 0=b:=⟨_,rfl⟩;cases B with
     |true=>
      conv=>cbv
      repeat' ((first|refine cZ ?_|refine c6 ?_|simp -proj only[r0,bN,b5,dq,hD,eJ,qS,bw,a2,a3,bJ,a6,cq,fO,z2,z3]|(split<;>(rename_i h;try simp only[h])))<;>conv=>cbv)
      exact ao _ _ (fM.set b y) _ ⟨tz,kk,cB _ _ eJ⟩ (by(try rw[<-jW]);try kernel_rfl)
     |false=>
      have he:e=0:=Hi ae eJ;conv=>cbv
      repeat' ((first|refine cZ ?_|refine c6 ?_|simp -proj only[r0,bN,b5,dq,gf,hD,eJ,qS,bw,a2,a3,bJ,a6,cq,fO,z2,z3]|(split<;>(rename_i h;try simp only[h])))<;>conv=>cbv)
      exact fixF (i+1,a,b+1,kM) ⟨aA,_,jW,su he⟩
   |false=>
    rw[aY]at hB AQ hD;obtain⟨axx,pF⟩:=rl (by rw[aY];rfl);have adz:a<l.length:=axW;first
    |exact absurd (wb rfl▸adz) (aBh _)
    |skip
    all_goals
     obtain⟨e,ath,wo⟩:=xy (cS fH) a adz S pe
     have su:e=0->Hj l ds aN (i+1) (a+1) b fM:=λhe=>⟨AQ.symm,hB.symm,dr.len,dr.nm,dr.todo,dr.done,λj h MR=>by
       by_cases aF:j=a
       .subst aF;exact ath he
       .exact dr.nodes j h axW⟩
     clear gN xy has rl;generalize ds[i].cU=w at*;obtain⟨cn,wn,uO,uP,na,qb,AR,⟨c1,c2,qj,c4,c5,eI,bQ,e0,c9,fj,e9,X,eN,eR,eS,bB⟩,wq,yB⟩:=w;dsimp only[cy.st,eD,cS]at wo;dsimp only at hD;obtain⟨B,eJ⟩:∃b,ad.aD .neq e 0=b:=⟨_,rfl⟩;cases B with
     |true=>
      refine af ?_;exact ao _ _ fM _ ⟨dr.len,λj h _=>dr.nm j h,cB _ _ eJ⟩ (by(try rw[<-qk]);try kernel_rfl)
     |false=>
      have he:e=0:=Hi ae eJ;conv=>cbv
      repeat' ((first|refine cZ ?_|refine c6 ?_|simp -proj only[r0,bN,b5,dq,gf,hD,eJ,ij,bw,a2,a3,bJ,a6,cq]|(split<;>(rename_i h;try simp only[h])))<;>conv=>cbv)
      exact fixF (i+1,a+1,b,S) ⟨aA,_,qk,su he⟩
  .have bN:=eY ae aA;refine af ?_;refine ao _ 0 fM _ ⟨dr.len,λj h _=>dr.nm j h,λ_=>⟨λj h sh=>dr.done j (by rw[dr.len]at h;exact h) sh ?_,λj h=>dr.nodes j h ?_⟩⟩ (by(try rw[<-qk]);try kernel_rfl)
   .have:=dr.au;rw[aBa axW]at this;omega
   .have:=dr.bp;rw[aBa axW]at this;omega
def lN(l:List cX)(x:cX):List Int:=x.bM.map λz=>nh l z.a
def ati(m:cy)(hs:Bool)(IF:List Go.aH.D)(q j:Nat)(R:List Go.aH.D):ag:=cx [(0,.ptr 0 0),(5,.own 1 R),(11,.d (.list 4 IF)),(12,.d (int (Int.ofNat q))),(13,.d (int (Int.ofNat j)))] (m.st true hs false)
theorem atj(m:cy)(hm:m.Ok)(hs:Bool)(l:List cX)(b3:m.N=ha l)(aI:l.length=m.bn)(au:m.bn<=1073741824)(x:cX)(hi:x.bM.length<=1073741824):
  aM 102 [.ptr 0 0,.d (.agg x.c24.cs)] (m.st true hs false) (.d (.list 1 ((lN l x).map int))) (m.st true hs false):=by
 have sY:=λv=>G6 m hm true hs false l b3 aI au (λh=>ax2) v;obtain⟨L,t,bn,N,ps,ns,S,gn,b0,b6,b4,P⟩:=m;dsimp only at b3 aI au;refine VM.kf (iP true hs false) λad ae Q aV=> ?_;obtain⟨bw,a2,a3⟩:=br.of ae hm.N;obtain⟨bJ,a6,cq⟩:=br.of ae hm.S;dsimp only at bw a2 a3 bJ a6 cq;have yz:(x.bM.map dW).length=x.bM.length:=aAb _;have DC:∀i (h:i<x.bM.length),(x.bM.map dW)[i]?=some (dW x.bM[i]):=λi h=>c7 h;have sb:∀j (h:j<x.bM.length),((x.bM.take (j+1)).map λz=>nh l z.a).map int=((x.bM.take j).map λz=>nh l z.a).map int++[int (nh l x.bM[j].a)]:=λj h=>by
  rw[aA9,aAj h,aAy,aAy];rfl
 unfold lN at aV;obtain⟨n,s,bq,AP,Hg,Hh,bM,pl,code⟩:=x;dsimp only[cX.c24]at*;generalize as6:bM.map dW=IF at*;generalize bq.map bD=rr at*;generalize pl.bB=C at*;obtain⟨c1,c2,qj,c4,c5,eI,bQ,e0,c9,fj,e9,X,eN,eR,eS,bB⟩:=C;obtain⟨q,Nb⟩:∃q,q=bM.length:=⟨_,rfl⟩;have r0:ad.len IF=q:=by subst ae;exact yz.trans Nb.symm
 have aC:lM hs:=trivial;cases hs;all_goals
  dsimp only[cy.st,iP,eD]at aV⊢;refine af ?_;refine⟨bX (λz:Nat×List Go.aH.D=>ati ⟨L,t,bn,N,ps,ns,S,gn,b0,b6,b4,P⟩ (cS aC) IF q z.1 z.2) (λz=>z.1<=q/\z.2=((bM.take z.1).map λz=>nh l z.a).map int) (λz=>q-z.1),_,⟨(0,[]),⟨aAa _,rfl⟩,rfl,axV⟩,?_⟩;rintro _ _ ⟨⟨j,R⟩,⟨aK,ch⟩,rfl,rfl⟩;dsimp only at aK ch⊢;by_cases aA:j<q
  .have bN:=eT ae aA;have b5:=cz ae (DC j axW);have dq:ad.er 4 4 (Int.ofNat j) q=true:=fT ae aA;have gf:=cd ae (n:=j) axW;have ng:=sb j axW;obtain⟨i,ok,gx,o9⟩:=sY (bM[j]' axW).a;rw[<-ch,<-gx.eq]at ng;have sW:R.length<=1073741824:=by rw[ch,aAb,aAb,aBq];omega
   have ij:ad.app R [int (Int.ofNat i)]=R++[int (Int.ofNat i)]:=ax3;rw[<-ij]at ng;dsimp only[cy.st,eD,cS]at o9;generalize (bM[j]' axW)=y at*;obtain⟨de,dp,dF,lz⟩:=y;unfold dW at*;dsimp only at*;clear sY ij;refine af ?_;exact fixF (j+1,ad.app R [int (Int.ofNat i)]) ⟨aA,ng.symm⟩
  .have bN:=eY ae aA;rw[aBa axW]at ch;rw[<-ch]at aV;refine af ?_;exact bZ aV axV axV
theorem adA{n i:Nat}(h:i<n):gj n (Int.ofNat i)=true:=az1
theorem atk{l:List cX}(h:0<l.length)(v:aw):gj l.length (nh l v)=true:=by
 unfold nh;cases bh:l.findIdx? (λx=>decide (x.n=v))with
 |none=>exact adA (i:=0) h
 |some i=>exact adA (aB1.1 bh).1
def jX(s:List Int):List (Go.aH.D×ah):=s.map λk=>(int k,.d (.bool true))
theorem adB(s:List Int):o0 (jX s):=λe he=>by
 obtain⟨k,_,rfl⟩:=aAR.1 he;exact⟨_,rfl⟩
theorem adC(k:Int):∀(s:List Int) (i:Nat),(k∉s/\e3 false [1] (int k) (jX s) i=some none)\/(k∈s/\∃j,j<s.length/\e3 false [1] (int k) (jX s) i=some (some (i+j)))
 |[],i=>.inl ⟨aAO,rfl⟩
 |t::s,i=>by
  have ax:e3 false [1] (int k) (jX (t::s)) i=(match some (decide (k=t)&&true)with|some true=>some (some i)|some false=>e3 false [1] (int k) (jX s) (i+1)|none=>none):=rfl;cases aY:decide (k=t)with
  |true=>
   refine .inr ⟨by rw[of_decide_eq_true aY];exact aAX,0,aCM _,?_⟩;rw[ax,aY];rfl
  |false=>
   have cB:=aCw aY;rw[ax,aY];rcases adC k s (i+1)with⟨h1,sh⟩|⟨h1,j,sh,av⟩
   .exact .inl ⟨λh=>by rcases aAs.1 h with h|h;exact cB h;exact h1 h,sh⟩
   .exact .inr ⟨aBe _ h1,j+1,aC7 sh,by rw[show i+(j+1)=i+1+j by omega];exact av⟩
theorem atl{ad:bm}(ae:ad=bm.bU)(s:List Int)(k:Int):(k∈s/\ad.xP false [1] (int k) (jX s)=some (some (.d (.bool true))))\/(k∉s/\ad.xP false [1] (int k) (jX s)=some none/\ad.xQ false [1] (int k) (.d (.bool true)) (jX s)=some (jX (s++[k]))):=by
 subst ae;show(_/\sy false [1] (int k) (jX s)=_)\/(_/\sy false [1] (int k) (jX s)=_/\q6 false [1] (int k) _ (jX s)=_);unfold sy q6;rcases adC k s 0 with⟨h1,sh⟩|⟨h1,j,sh,av⟩
 .rw[sh];refine .inr ⟨h1,rfl,?_⟩;show some (jX s++[_])=_;unfold jX;rw[aAy];rfl
 .rw[av];refine .inl ⟨h1,?_⟩;have aK:0+j<(jX s).length:=by unfold jX;rw[aAb];omega
  have gT:∀e∈jX s,e.2=.d (.bool true):=λe he=>by
   obtain⟨k,_,rfl⟩:=aAR.1 he;rfl
  simp only[aAj aK];rw[gT _ (aAl aK)]
def mr:List (List Int)->Nat->List Int->Nat
 |[],_,_=>0
 |l::ls,i,s=>(if Int.ofNat i∈s then 0 else l.length)+mr ls (i+1) s
theorem adD(k:Nat):∀(ls:List (List Int)) (i:Nat) (s:List Int),k<i->mr ls i (s++[Int.ofNat k])=mr ls i s
 |[],_,_,_=>rfl
 |l::ls,i,s,h=>by
  show(if _∈s++[_]then 0 else l.length)+_=(if _∈s then 0 else l.length)+_;rw[adD k ls (i+1) s axW];have:(Int.ofNat i∈s++[Int.ofNat k])↔Int.ofNat i∈s:=by
   rw[aAT,aAF];exact⟨λsh=>sh.elim id λav=>absurd (aCP av) axW,.inl⟩
  simp only[this]
theorem adE(k:Nat):∀(ls:List (List Int)) (i:Nat) (s:List Int) (h1:i<=k) (sh:k-i<ls.length),Int.ofNat k∉s->mr ls i (s++[Int.ofNat k])+ls[k-i].length=mr ls i s
 |l::ls,i,s,h1,sh,h=>by
  show(if _∈s++[_]then 0 else l.length)+mr ls (i+1) _+_=(if _∈s then 0 else l.length)+mr ls (i+1) s;by_cases e:i=k
  .subst e;rw[adD i ls (i+1) s axW,aAD (aAN _ (aAF.2 rfl)),aAG h];have:(l::ls)[i-i]=l:=by simp only[Nat.sub_self,aDb]
   rw[this];omega
  .have ih:=adE k ls (i+1) s axW az2 h;have hm:(Int.ofNat i∈s++[Int.ofNat k])↔Int.ofNat i∈s:=by
    rw[aAT,aAF];exact⟨λsh=>sh.elim id λav=>absurd (aCP av) axW,.inl⟩
   have aC:(l::ls)[k-i]=ls[k-(i+1)]' az2:=by
    have:k-i=k-(i+1)+1:=axW;simp only[this,aCN]
   rw[aC];simp only[hm];omega
theorem adF:∀(ls:List (List Int)) (i:Nat) (s:List Int),(∀l∈ls,l.length<=33554432)->mr ls i s<=ls.length*33554432
 |[],_,_,_=>aAa _
 |l::ls,i,s,h=>by
  have h1:=adF ls (i+1) s λx ak=>h x (aBe _ ak);have sh:=h l aAX;show(if _ then 0 else l.length)+_<=(ls.length+1)*33554432;split<;>omega
def wu(V:ah)(l:List Int):Prop:=(V=.gJ 1/\l=[])\/V=.own 1 (l.map int)
theorem wu.own(l:List Int):wu (iz 1 (l.map int)) l:=by
 cases l with
 |nil=>exact .inl ⟨rfl,rfl⟩
 |cons x l=>exact .inr rfl
def Ng(m:cy)(hs:Bool)(i:Nat)(mu:List Go.aH.D)(id:Nat)(V:ah)(es:List (Go.aH.D×ah)):ag:=cx [(1,.d (int (Int.ofNat i))),(2,.d (.list 1 mu)),(7,.map id),(8,V)] (m.st true hs false++[.map es])
theorem Nh(L:List Go.aH.D)(aI:L.length<=1073741824):aM 156 [.d (.list 1 L)] [] (.own 1 L) []:=by
 cases L with
 |nil=>
  refine Ly.cn λad ae Q aV=> ?_;conv=>cbv
  subst ae;refine⟨?_,?_⟩;all_goals first|exact bZ aV axV axV|exact⟨axV,bZ aV axV axV⟩
 |cons x L=>
  refine Ly.cn λad ae Q aV=> ?_;have sh:L.length+1<=1073741824:=aI;refine af ?_
  (subst ae;exact bZ aV axV axV)
theorem atm(m:cy)(hm:m.Ok)(hs:Bool)(ls:List (List Int))(n:Nat)(sb:ls.length=n)(ay:n<=32)(ru:∀l∈ls,km n l/\l.length<=33554432)(i:Nat)(hi:i<n):
  ∃b:Bool,aM 104 [.ptr 0 0,.d (int (Int.ofNat i)),.d (.list 1 (ls.map λl=>Go.aH.D.list 1 (l.map int)))] (m.st true hs false) (.d (.bool b)) (m.st true hs false):=by
 refine gZ ?_;obtain⟨L,t,bn,N,ps,ns,S,gn,b0,b6,b4,P⟩:=m;have atn:(ls.map λl=>Go.aH.D.list 1 (l.map int)).length=ls.length:=aAb _;have Ni:∀i (h:i<ls.length),(ls.map λl=>Go.aH.D.list 1 (l.map int))[i]?=some (.list 1 (ls[i].map int)):=λi h=>c7 h;generalize (ls.map λl=>Go.aH.D.list 1 (l.map int))=mu at*;refine Xt.jt (iP true hs false++[cond hs 3 2]) _ λad ae K ao=> ?_;replace ao:∀(b:Bool) (s':aU),s'=(⟨L,t,bn,N,ps,ns,S,gn,b0,b6,b4,P⟩:cy).st true hs false->K (.d (.bool b)) s':=λb s' h=>ao _ _ ⟨b,rfl,h⟩;obtain⟨bw,a2,a3⟩:=br.of ae hm.N;obtain⟨bJ,a6,cq⟩:=br.of ae hm.S;dsimp only at bw a2 a3 bJ a6 cq;have r0:ad.len mu=n:=by subst ae;exact atn.trans sb
 have dV:i<ls.length:=axW;have t1:ad.er 1 1 (Int.ofNat i) n=true:=fT ae hi;have t2:=cz ae (Ni i dV);have pN:=ru _ (aAl dV);have aj:=Nh (ls[i].map int) azD;have Hn:=adF ls 0 [] λl h=>(ru l h).2;have rV:mr ls 0 []+ls[i].length<=33*33554432:=by
  have:ls.length*33554432<=32*33554432:=aAV _ axW;omega
 generalize axy:ls[i]=mO at*;obtain⟨c1,c2,c3⟩:=lh.of ae (C:=[]) (λe he=>by cases he);have fG:ad.len []=0:=ax3;have q1:ad.aD .gtr (Int.ofNat 0) 0=false:=by rw[(eF ae).2.2.2];rfl
 have y6:∀c,ad.aD .gtr (Int.ofNat (c+1)) 0=true:=λc=>by rw[(eF ae).2.2.2];exact aAk (aBF.2 (aCM c))
 have jE:km n mO:=pN.1;have aC:lM hs:=trivial;generalize x':mO.map int=L0 at*;cases hs;all_goals
  dsimp only[cy.st,iP,eD]at ao⊢;refine af ?_;refine⟨bX (λz:ah×List Int×List Int=>Ng ⟨L,t,bn,N,ps,ns,S,gn,b0,b6,b4,P⟩ (cS aC) i mu (cond (cS aC) 3 2) z.1 (jX z.2.2)) (λz=>wu z.1 z.2.1/\km n z.2.1/\mr ls 0 z.2.2+z.2.1.length<=33*33554432) (λz=>mr ls 0 z.2.2+z.2.1.length),_,⟨(.own 1 L0,mO,[]),⟨.inr (by rw[x']),jE,rV⟩,rfl,axV⟩,?_⟩;clear c1 c2 c3 aj t1 t2 x' rV Hn jE pN;rintro _ _ ⟨⟨V,l,s⟩,⟨AT,jE,hm⟩,rfl,rfl⟩;dsimp only at AT jE hm⊢;obtain⟨c1,c2,c3⟩:=lh.of ae (adB s);have uQ:=atl ae s;have adG:=adE (s:=s) (ls:=ls) (i:=0);have Nj:∀(Ho:ah) (bC s':List Int),wu Ho bC->km n bC->mr ls 0 s'+bC.length<mr ls 0 s+l.length->∀{st:ag},st=Ng ⟨L,t,bn,N,ps,ns,S,gn,b0,b6,b4,P⟩ (cS aC) i mu (cond (cS aC) 3 2) Ho (jX s')->∃m,m<mr ls 0 s+l.length/\bX (λz:ah×List Int×List Int=>Ng ⟨L,t,bn,N,ps,ns,S,gn,b0,b6,b4,P⟩ (cS aC) i mu (cond (cS aC) 3 2) z.1 (jX z.2.2)) (λz=>wu z.1 z.2.1/\km n z.2.1/\mr ls 0 z.2.2+z.2.1.length<=33*33554432) (λz=>mr ls 0 z.2.2+z.2.1.length) m st:=λHo bC s' h1 sh av _ h=>ec (Ho,bC,s') ⟨h1,sh,by show mr ls 0 s'+bC.length<=_;omega⟩ av h;generalize zg:jX s=es at*;rcases AT with⟨rfl,rfl⟩|rfl
  .refine af ?_;exact ao false _ axV
  cases l with
  |nil=>
   refine af ?_;exact ao false _ axV
  |cons x rest=>
   obtain⟨k,t',rfl⟩:=wh (jE x aAX);have tt:km n rest:=λz aO=>jE z (aBe _ aO);obtain⟨R,ch⟩:∃R,R=rest.map int:=⟨_,rfl⟩;have sW:R.length=rest.length:=by rw[ch];exact aAb _
   have oK:(Int.ofNat k::rest).length=rest.length+1:=rfl;obtain⟨c,az⟩:∃c,c=rest.length+1:=⟨_,rfl⟩;have aDj:ad.len (int (Int.ofNat k)::R)=c:=by subst ae;show R.length+1=c;omega
   have AN:ad.aD .gtr (Int.ofNat c) 0=true:=by rw[az];exact y6 _
   have eb:ad.er 1 1 0 c=true:=fT ae (i:=0) axW;have k7:ad.get (int (Int.ofNat k)::R) 0=int (Int.ofNat k):=ax3;have i':ad.KK true 1 (int (Int.ofNat k)::R)=true:=by
    have iD:(1:Int)<=((int (Int.ofNat k)::R).length:Nat):=by rw[show(int (Int.ofNat k)::R).length=R.length+1 from rfl];omega
    subst ae;show(true&&decide ((0:Int)<=1)&&decide ((1:Int)<=((int (Int.ofNat k)::R).length:Nat))&&true)=true;rw[aAk iD];rfl
   have i7:ad.CI 1 (int (Int.ofNat k)::R) 1=iz 1 R:=ax3;have kI:ad.er 1 1 (Int.ofNat k) n=true:=fT ae t';have uj:=cz ae (Ni k axW);have AU:=ru _ (aAl (show k<ls.length by omega));have mK:=adG k (aAa _) (show k-0<ls.length by omega);simp only[aCG]at mK;obtain⟨bi,Nk⟩:∃b,ad.aD .eql (Int.ofNat k) (Int.ofNat i)=b:=⟨_,rfl⟩;have Nl:=uQ (Int.ofNat k);clear uQ adG ru Ni;generalize (ls[k]' axW)=l2 at*;have BN:(Int.ofNat k::rest).map int=int (Int.ofNat k)::R:=by rw[ch];rfl
   rw[BN];clear BN;have DE:=λ(adH:ah) (ew:wu adH rest)=>@Nj adH rest s ew tt axW;have adI:km n (rest++l2):=λz aO=>(aAT.1 aO).elim (tt z) (AU.1 z);obtain⟨jd,uC⟩:∃jd,jd=l2.map int:=⟨_,rfl⟩;have axz:jd.length=l2.length:=by rw[uC];exact aAb _
   obtain⟨adJ,ato⟩:∃e,e=jX (s++[Int.ofNat k]):=⟨_,rfl⟩;obtain⟨d1,d2,d3⟩:=lh.of ae (adB (s++[Int.ofNat k]));have jl:=λ(ay:Int.ofNat k∉s) (adK:ah) (ew:wu adK (rest++l2))=>@Nj adK (rest++l2) (s++[Int.ofNat k]) ew adI (by have:=mK ay;rw[aAA];omega);rw[<-ato]at Nl d1 d2 d3 jl;rw[zg]at DE;rw[<-uC]at uj;have tz:l2.length<=33554432:=AU.2;have En:rest.length<=33*33554432:=axW;have xt:ad.app R jd=(rest++l2).map int:=by subst ae;rw[ch,uC,aAy];rfl
   clear Nj mK AU adI;cases rest with
   |nil=>
    have uN:R=[]:=ch;subst uN;replace i7:ad.CI 1 [int (Int.ofNat k)] 1=.gJ 1:=i7;cases bi with
    |true=>
     refine af ?_;exact ao true _ axV
    |false=>
    rcases Nl with⟨_,qf⟩|⟨kk,qf,Hp⟩
    .refine af ?_;exact DE (.gJ 1) (.inl ⟨rfl,rfl⟩) axV
    .cases l2 with
     |nil=>
      have x':jd=[]:=uC;subst x';conv=>cbv
      repeat' ((first|refine cZ ?_|refine c6 ?_|simp -proj only[r0,fG,aDj,AN,eb,k7,i',i7,kI,uj,Nk,qf,Hp,bw,a2,a3,bJ,a6,cq,c1,c2,c3,d1,d2,d3]|(split<;>(rename_i h;try simp only[h])))<;>conv=>cbv)
      exact jl kk (.gJ 1) (.inl ⟨rfl,rfl⟩) axV
     |cons y ys=>
      have x':jd=int y::ys.map int:=uC;subst x';have Co:(ys.map int).length=ys.length:=aAb _;have sa:ys.length<=33554432:=az3;generalize ys.map int=Y at*;conv=>cbv
      repeat' ((first|refine cZ ?_|refine c6 ?_|simp -proj only[r0,aDj,AN,eb,k7,i',i7,kI,uj,Nk,qf,Hp,bw,a2,a3,bJ,a6,cq,c1,c2,c3,d1,d2,d3]|(split<;>(rename_i h;try simp only[h])))<;>conv=>cbv)
      exact jl kk (.own 1 (int y::Y)) (.inr (by show ah.own 1 _=.own 1 ((y::ys).map int);rw[uC])) axV
   |cons y ys=>
    have uN:R=int y::ys.map int:=ch;subst uN;have Co:(ys.map int).length=ys.length:=aAb _;have sa:ys.length<=33*33554432:=az3;have adL:wu (.own 1 (int y::ys.map int)) (y::ys):=.inr rfl;replace DE:=λ(st:ag)=>@DE _ adL st;replace jl:=λh (st:ag)=>@jl h (.own 1 (ad.app (int y::ys.map int) jd)) (.inr (by rw[xt])) st;clear adL xt ch sW;generalize ys.map int=Y at*;replace i7:ad.CI 1 (int (Int.ofNat k)::int y::Y) 1=.own 1 (int y::Y):=i7;cases bi with
    |true=>
     refine af ?_;exact ao true _ axV
    |false=>
    rcases Nl with⟨_,qf⟩|⟨kk,qf,Hp⟩
    .refine af ?_;exact DE _ axV
    .conv=>cbv
     repeat' ((first|refine cZ ?_|refine c6 ?_|simp -proj only[r0,aDj,AN,eb,k7,i',i7,kI,uj,Nk,qf,Hp,bw,a2,a3,bJ,a6,cq,c1,c2,c3,d1,d2,d3]|(split<;>(rename_i h;try simp only[h])))<;>conv=>cbv)
     exact jl kk _ axV
end Go.Proofs.YthffhbakgmemaaaGreatDoor
