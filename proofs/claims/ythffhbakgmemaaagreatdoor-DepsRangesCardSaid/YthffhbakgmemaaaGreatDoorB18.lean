/- Part of ranges_said. -/
import Derived.Test.YthffhbakgmemaaaGreatDoorB17
set_option maxRecDepth 100000
set_option maxHeartbeats 8000000
set_option linter.unusedSimpArgs false
set_option linter.unusedVariables false
namespace Go.Proofs.YthffhbakgmemaaaGreatDoor
open Go Go.aH
attribute [local irreducible] bG
theorem aF'(s:aw)(a e:Int)(he:e≠0)(aj:aM 19 [.d (.str s)] [] (.tuple [.d .dP,.d (int a),.d (int e)]) []):aM 5 [.d (.str s)] [] (.d .dP) []:=by
 refine al8.cn λad ae Q aV=> ?_;have t1:ad.aD .neq e 0=true:=azi;obtain⟨B,eJ⟩:∃b,ad.aD .gtr (Int.ofNat (ad.ev s)) 2000=b:=⟨_,rfl⟩;cases B;all_goals refine af ?_
 all_goals (subst ae;exact bZ aV axV axV)
def aGU(m:cy)(ay hs:Bool)(x:Int)(n i:Nat):ag:=cx [(3,.ptr 0 0),(6,.d (int x)),(24,.d (int (Int.ofNat n))),(25,.d (int (Int.ofNat i)))] (m.bq ay hs true)
theorem aGV{m:cy}{ay:Bool}{l:List cX}(wa:aDB m ay l)(hs:Bool)(s:aw)(b2:aM 19 [.d (.str s)] [] (.tuple [.ptr 0 0,.d (int 0),.d (int 0)]) (m.bq ay hs true)):
  ∃r st,((r=.d .dP/\st=[])\/(r=.ptr 0 0/\st=m.bq ay hs true))/\aM 5 [.d (.str s)] [] r st:=by
 have ak:=wa.1;have aj:=aGz ak hs;have aF:=λi hi=>aDL ak hs i hi (wa.aN _ (aAl hi)).1 (wa.aN _ (aAl hi)).2.1 (wa.aN _ (aAl hi)).2.2;have aZ:=λi hi=>aGB l[i].k l[i].a l[i].b (wa.bq i hi);have hm:=ak.ok;have jb:=ak.bn;have au:=ak.wE;have agL:=ak.wb;clear wa ak;obtain⟨ox,t,bn,N,dN,ns,S,gn,b0,b6,b4,P⟩:=m;dsimp only at jb au;refine al8.jt (DJ ay hs) _ λad ae K ao=> ?_;have aGa:∀s,s=[]->K (.d .dP) s:=λs h=>ao _ _ (.inl ⟨rfl,h⟩);have aGb:=λs h=>ao _ s (.inr ⟨rfl,h⟩);clear ao;obtain⟨bw,a2,a3⟩:=br.of ae hm.N;obtain⟨bJ,a6,cq⟩:=br.of ae hm.S;obtain⟨c1,c2,c3⟩:=br.of ae hm.b0;obtain⟨d1,d2,d3⟩:=br.of ae hm.b6;obtain⟨b',cr,dE⟩:=br.of ae hm.b4;obtain⟨de,dp,dF⟩:=lh.of ae hm.P;dsimp only at bw a2 a3 bJ a6 cq c1 c2 c3 d1 d2 d3 b' cr dE de dp dF;have t1:ad.aD .neq 0 0=false:=ax3;obtain⟨B,eJ⟩:∃b,ad.aD .gtr (Int.ofNat (ad.ev s)) 2000=b:=⟨_,rfl⟩;cases B with
 |true=>
  cases ay<;>cases hs;all_goals refine af ?_
  all_goals exact aGa _ axV
 |false=>
 have aC:lM ay:=trivial;have fH:lM hs:=trivial;cases ay<;>cases hs;all_goals
  dsimp only[cy.st,cy.bq,DJ,iP,eD,cR,yG,s3]at aGb b2 aj aF⊢;refine af ?_;refine⟨bX (λz:Nat×Int=>aGU ⟨ox,t,bn,N,dN,ns,S,gn,b0,b6,b4,P⟩ (cS aC) (cS fH) z.2 bn z.1) (λz=>z.1<=bn) (λz=>bn-z.1),_,⟨(0,0),aAa _,rfl,axV⟩,?_⟩;clear b2 aj;rintro _ _ ⟨⟨j,x⟩,aK,rfl,rfl⟩;dsimp only at aK⊢;by_cases aA:j<bn
  .have hi:j<l.length:=jb.symm▸aA;first
   |exact absurd (agL rfl▸hi) (aBh _)
   |skip
   all_goals
    have t1:=eT ae aA;have t6:=cd ae (n:=j) axW;have bP:=aF j hi;have cK:=aZ j hi;clear aF aZ;generalize l[j]=w at*;obtain⟨wn,aDx,uO,uP,na,qb,bM,pl,aDy⟩:=w;unfold cX.c24 at bP;dsimp only at bP cK;generalize bM.map dW=IF at*;generalize uO.map bD=rr at*;generalize pl.bB=C at*;generalize qb-na+1=k3 at*;obtain⟨cY,cO,nR,aeh,aei,aej,aek,ael,aem,aen,aeo,aep,aeq,aer,aes,aeu⟩:=C;refine af ?_;all_goals exact fixF (j+1,ad.io .add .i64 x k3) aA
  .have t1:=eY ae aA;clear aF aZ;obtain⟨B,t2⟩:∃b,ad.aD .gtr x 60=b:=⟨_,rfl⟩;cases B with
   |true=>
    refine af ?_;all_goals exact aGa _ axV
   |false=>
    refine af ?_;all_goals exact aGb _ axV
def aDf(l:List cX)(v:aw)(f g:Int)(p:Int×Int):Bool:=match l[p.1.toNat]? with|some x=>decide (x.n=v)&&decide (f<=p.2)&&decide (p.2<=g)|none=>false
theorem aGW{α:Type}{zs:List Int}{a:Int}{Q:List α}(F:Int->List α)(ay:zs.Nodup)(bp:a∈zs)(h1:F a=Q)(sh:∀z∈zs,z≠a->F z=[]):zs.flatMap F=Q:=by
 induction zs with
 |nil=>cases bp
 |cons z zs ih=>
  rw[aBw];have ⟨aO,ay⟩:=aCZ.1 ay;by_cases h:z=a
  .subst h;have:zs.flatMap F=[]:=aCY.2 λy wa=>sh y (aBe _ wa) λe=>aO (e▸wa);rw[this,h1,aBN]
  .rw[sh z (aAX ..) h,aBn];exact ih ay (List.mem_of_ne_of_mem (aAt h) bp) λy wa=>sh y (aBe _ wa)
theorem aGX{l:List cX}{v:aw}{f g:Int}{j:Nat}(aK:j<l.length):((l[j].ks.map λk=>((Int.ofNat j,k):Int×Int)).filter (aDf l v f g))=if l[j].n=v then(Pe f g l[j].ks).map λk=>(Int.ofNat j,k)else[]:=by
 rw[List.filter_map];have h:((aDf l v f g)∘λk=>((Int.ofNat j,k):Int×Int))=λk=>decide (l[j].n=v)&&!abi f g k:=by
  funext k;show(match l[j]? with|some x=>_|none=>false)=_;rw[aAj aK];show(decide (l[j].n=v)&&decide (f<=k)&&decide (k<=g))=_;unfold abi;rw[Bool.and_assoc];congr 1;by_cases h1:k<f<;>by_cases sh:g<k<;>simp[h1,sh]<;>omega
 rw[h];split
 .rename_i h1;simp only[h1,decide_true,aB'];rfl
 .rename_i h1;simp only[h1,decide_false,aC'];rw[List.filter_eq_nil_iff.2 axX];rfl
theorem aGY{l:List cX}{zs:List Int}{v:aw}{f g:Int}{R:List Int}(aO:iw l.length (iota l.length) zs)(cv:adT l)(ch:aF3 l v f g R):(DO l zs).filter (aDf l v f g)=R.map λk=>(aro l v,k):=by
 have aDg:zs.Nodup:=aO.perm.nodup_iff.2 (by unfold iota;exact List.Pairwise.map _ (λa b h e=>h (aCP e)) List.nodup_range);have dw:∀z∈zs,∃j,j<l.length/\z=Int.ofNat j:=λz h=>wh (aO.all z h);unfold DO;rw[List.filter_flatMap];have gx:∀z∈zs,∀j (aK:j<l.length),z=Int.ofNat j->((aDP l z).filter (aDf l v f g))=if l[j].n=v then(Pe f g l[j].ks).map λk=>(Int.ofNat j,k)else[]:=λz _ j aK e=>by
  subst e;rw[<-aGX aK,aDQ aK]
 rcases ch with⟨i,hi,aDs,rfl⟩|⟨aDs,rfl⟩
 .rw[aF4 aDs];have vu:l[i].n=v:=by rcases aDs with⟨_,_,h,_⟩|⟨h,_⟩;exact h;cases h
  have nz:Int.ofNat i∈zs:=aO.perm.mem_iff.2 (by unfold iota;exact aC3 (aBi.2 hi));refine aGW _ aDg nz ?_ λz h1 sh=> ?_
  .rw[gx _ nz i hi rfl,aAD vu]
  .obtain⟨j,aK,rfl⟩:=dw z h1;rw[gx _ h1 j aK rfl,aAG λe=>sh (by rw[cv j i aK hi (e.trans vu.symm)])]
 .rcases aDs with⟨h,_⟩|⟨_,_,aDs⟩
  .cases h
  refine aCY.2 λz h1=> ?_;obtain⟨j,aK,rfl⟩:=dw z h1;rw[gx _ h1 j aK rfl,aAG (aDs _ (aAl aK))]
theorem aGZ{code:b8->aw}{ds:List b8}{ay hs:Bool}{m:cy}(hm:m.Ok)(h:NG (ga code ds) ds ay hs m)(tF:ds.length<=16384)(hw:hn ds<=dJ):∃l,aDB m ay l/\adT l/\∃zs,iw m.bn (iota m.bn) zs/\aM 24 [.ptr 0 0] [.box (cR 1 2 3 m.bn),.box m.b0,.box m.b6,.box m.b4] (.d (.list 1 (zs.map int))) [.box (cR 1 2 3 m.bn),.box m.b0,.box m.b6,.box m.b4]:=by
 obtain⟨h1,⟨l,b3,aq,kz⟩,sh,av,aW,⟨aN,s1,s2,kE,k5⟩,bL,cW⟩:=h;have oK:l.length=(ga code ds).length:=by have:=congrArg List.length aq;rwa [aAb,aAb]at this
 have wV:=aBu ix ds;have sb:(ga code ds).length=(ds.filter ix).length:=aAb _;have j':∀i (hi:i<l.length),l[i].key=((ga code ds)[i]' axW).key:=λi hi=>by
  have h:(l.map cX.key)[i]?=((ga code ds).map cX.key)[i]?:=by rw[aq]
  rw[aA4,aA4,aAj hi,aAj axW]at h;exact aBO h
 have kk:∀i (hi:i<l.length),l[i].n=((ga code ds)[i]' axW).n:=λi hi=>show l[i].key.n=((ga code ds)[i]' axW).key.n from congrArg cX.n (j' i hi)
 have aG0:∀y∈ga code ds,y.bM.length<=1073741824/\y.pl.w<=dJ:=λy wa=>by
  obtain⟨x,ak,rfl⟩:=aAR.1 wa;have h1:hn [x]<=hn ds:=Ht (aCo.1 ak).1;have sh:hn [x]=200+(1000+x.n.length+jU x.bq+jv x.bM+x.pl.w+x.fI.length+fw x.ms)+0:=rfl;have av:x.bM.length*200<=jv x.bM:=DH _ _;have bL:dJ=1000000000:=rfl;exact⟨by show x.bM.length<=_;omega,by show x.pl.w<=_;omega⟩
 refine⟨l,⟨⟨hm,b3,axW,axW,av⟩,λi hi=> ?_,λx ak=> ?_,bL.gn⟩,λi j hi aK e=> ?_,cW.Nt.imp λzs h=>⟨h.1,h.2.1⟩⟩
 .have:=(k5.nodes i axW).2.2;have bp:l[i].a=((ga code ds)[i]' axW).a:=show l[i].key.a=((ga code ds)[i]' axW).key.a from congrArg cX.a (j' i hi)
  have au:l[i].b=((ga code ds)[i]' axW).b:=show l[i].key.b=((ga code ds)[i]' axW).key.b from congrArg cX.b (j' i hi)
  rw[bp,au];exact this
 .obtain⟨i,hi,rfl⟩:=aBs ak;have bp:l[i].bM=((ga code ds)[i]' axW).bM:=show l[i].key.bM=((ga code ds)[i]' axW).key.bM from congrArg cX.bM (j' i hi)
  have au:l[i].pl=((ga code ds)[i]' axW).pl:=show l[i].key.pl=((ga code ds)[i]' axW).key.pl from congrArg cX.pl (j' i hi)
  obtain⟨bJ,a6⟩:=aG0 _ (aAl (show i<(ga code ds).length by omega));exact⟨kz _ ak,by rw[bp];exact bJ,by rw[au];exact a6⟩
 .rw[kk i hi,kk j aK]at e;rcases Nat.lt_trichotomy i j with h|h|h
  .exact absurd e ((k5.nodes j axW).2.1 i h)
  .exact h
  .exact absurd e.symm ((k5.nodes i axW).2.1 j h)
def Xs(p:Int×Int):Go.aH.D:=BE p.1 p.2
theorem aG1{α:Type}(P:α->Bool)(l:List α){j:Nat}(aK:j<l.length):(l.take (j+1)).filter P=(l.take j).filter P++cond (P l[j]) [l[j]] []:=by
 rw[aA9,aAj aK,aBC];show _++List.filter _ [l[j]]=_;rw[List.filter_cons];cases P l[j]<;>rfl
theorem aG2{l:List cX}{zs:List Int}(aO:∀z∈zs,∃j,j<l.length/\z=Int.ofNat j){p:Int×Int}(hp:p∈DO l zs):∃i,i<l.length/\p.1=Int.ofNat i:=by
 obtain⟨z,h1,sh⟩:=aCh.1 hp;obtain⟨j,aK,rfl⟩:=aO z h1;rw[aDQ aK]at sh;obtain⟨k,_,rfl⟩:=aAR.1 sh;exact⟨j,aK,rfl⟩
def aG3(m:cy)(ay hs:Bool)(v:aw)(f g:Int)(A W:List Go.aH.D)(n i:Nat):ag:=pV [(1,.d (.str v)),(5,.dT 5 0),(7,.ptr 0 0),(8,.own 2 W),(22,.d (.list 2 A)),(23,.d (int (Int.ofNat n))),(24,.d (int (Int.ofNat i)))] [(5,[.d (int f),.d (int g)])] (m.bq ay hs true)
theorem aG4{m:cy}{ay:Bool}{l:List cX}(wa:aDB m ay l)(cv:adT l)(hs:Bool)(zs:List Int)(aO:iw m.bn (iota m.bn) zs)(ry:aM 24 [.ptr 0 0] [.box (cR 1 2 3 m.bn),.box m.b0,.box m.b6,.box m.b4] (.d (.list 1 (zs.map int))) [.box (cR 1 2 3 m.bn),.box m.b0,.box m.b6,.box m.b4])
  (axR:aM 6 [] [] (.d (.bool true)) []) (s v:aw) (f g:Int) (b2:aM 5 [.d (.str s)] [] (.ptr 0 0) (m.bq ay hs true)):
  aM 3 [.d (.str s),.d (.str v),.d (.agg [int f,int g])] [] (.d (.bool true)) []:=by
 have ak:=wa.1;have aj:=aGT wa hs zs aO ry;obtain⟨R,ch,sW,aF⟩:=aGJ ak hs v f g wa.bq;have gw:=ak.bn▸aO;have aDC:=aGY gw cv ch;have aZ:=aGO ak hs (R.map λk=>(v,k)) azD;have cK:=λi hi=>aDL ak hs i hi (wa.aN _ (aAl hi)).1 (wa.aN _ (aAl hi)).2.1 (wa.aN _ (aAl hi)).2.2;have dw:∀z∈zs,∃j,j<l.length/\z=Int.ofNat j:=λz h=>wh (gw.all z h);have ie:=λp=>aG2 (l:=l) (p:=p) dw;have bP:=aGQ ((DO l zs).filter (aDf l v f g)) (by rw[aDC,aAb];omega);have Iy:(R.map λk=>(v,k)).map (λp=>Pd p.1 p.2)=R.map (Pd v):=by rw[aBE];rfl
 have tE:(R.map λk=>(v,k)).map (λp=>BE (aro l p.1) p.2)=((DO l zs).filter (aDf l v f g)).map Xs:=by rw[aDC,aBE,aBE];rfl
 have aG5:∀j,(((DO l zs).take j).filter (aDf l v f g)).length<=512:=λj=>by
  refine aAZ (aAZ ?_ (aB9 (by rw[aDC,aAb]):((DO l zs).filter (aDf l v f g)).length<=R.length)) sW;exact((List.take_sublist j _).filter _).length_le
 change bG _ _ _ _ _ (.d (.list 2 ((DO l zs).map Xs))) _ at aj;change bG _ _ _ [.d (.list 2 (((DO l zs).filter (aDf l v f g)).map Xs)),.d (.list 2 (((DO l zs).filter (aDf l v f g)).map Xs))] _ _ _ at bP;rw[Iy,tE]at aZ;have aGc:∀i (hi:i<l.length) k,aDf l v f g (Int.ofNat i,k)=(decide (l[i].n=v)&&decide (f<=k)&&decide (k<=g)):=λi hi k=>by
  show(match l[i]? with|some x=>_|none=>false)=_;rw[aAj hi]
 have hm:=ak.ok;have jb:=ak.bn;have au:=ak.wE;have agL:=ak.wb;have aHb:(DO l zs).length<=1073741824:=by
  have h1:=aF6 wa.bq aO jb m.bn (aAd _);rw[aBa (by have:=aO.len;omega)]at h1;omega
 clear wa ak ry ch aO gw aDC Iy tE dw cv sW;have bE:((DO l zs).map Xs).length=(DO l zs).length:=aAb _;have bY:∀i (h:i<(DO l zs).length),((DO l zs).map Xs)[i]?=some (Xs (DO l zs)[i]):=λi h=>c7 h;generalize DO l zs=ps at*;generalize hA:ps.map Xs=A at*;generalize aHc:aDf l v f g=JO at*;generalize aGd:(ps.filter JO).map Xs=aHd at*;generalize R.map (Pd v)=aGK at*;obtain⟨ox,t,bn,N,dN,ns,S,gn,b0,b6,b4,P⟩:=m;dsimp only at jb au;refine aDF.kf (DJ ay hs) λad ae Q aV=> ?_;obtain⟨bw,a2,a3⟩:=br.of ae hm.N;obtain⟨bJ,a6,cq⟩:=br.of ae hm.S;obtain⟨c1,c2,c3⟩:=br.of ae hm.b0;obtain⟨d1,d2,d3⟩:=br.of ae hm.b6;obtain⟨b',cr,dE⟩:=br.of ae hm.b4;obtain⟨de,dp,dF⟩:=lh.of ae hm.P;dsimp only at bw a2 a3 bJ a6 cq c1 c2 c3 d1 d2 d3 b' cr dE de dp dF;obtain⟨aDz,akY⟩:∃n,n=ps.length:=⟨_,rfl⟩;have t0:ad.len A=aDz:=by subst ae;exact bE.trans akY.symm
 obtain⟨B,eJ⟩:∃b,ad.aD .gtr (Int.ofNat (ad.ev v)) 50=b:=⟨_,rfl⟩;cases B with
 |true=>
  clear aj aF aZ bP cK;cases ay<;>cases hs;all_goals
   dsimp only[cy.bq,DJ,eD,cR,s3]at aV b2⊢;refine af ?_
  all_goals (subst ae;exact bZ aV axV axV)
 |false=>
 have aC:lM ay:=trivial;have fH:lM hs:=trivial;cases ay<;>cases hs;all_goals
  dsimp only[cy.st,cy.bq,DJ,iP,eD,cR,yG,s3]at aV b2 aj aF aZ cK⊢;refine af ?_;refine⟨bX (λz:Nat×List Go.aH.D=>aG3 ⟨ox,t,bn,N,dN,ns,S,gn,b0,b6,b4,P⟩ (cS aC) (cS fH) v f g A z.2 aDz z.1) (λz=>z.1<=aDz/\z.2=((ps.take z.1).filter JO).map Xs) (λz=>aDz-z.1),_,⟨(0,[]),⟨aAa _,rfl⟩,rfl,axV⟩,?_⟩;clear b2 aj;rintro _ _ ⟨⟨j,W⟩,⟨aK,NO⟩,rfl,rfl⟩;dsimp only at aK NO⊢;by_cases aA:j<aDz
  .have aDo:j<ps.length:=akY▸aA;obtain⟨i,hi,ak7⟩:=ie _ (aAl aDo);first
   |exact absurd (agL rfl▸hi) (aBh _)
   |skip
   all_goals
    have t1:=eT ae aA;have t2:=cz ae (bY j aDo);have t6:=cd ae (n:=j) axW;have dO:=cK i hi;have Hx:=aG1 JO ps aDo;have aHe:W.length<=33554432:=by rw[NO,aAb];have:=aG5 j;omega
    clear aF aZ bP cK bY ie;generalize ps[j]=p at*;obtain⟨AN,k⟩:=p;dsimp only at ak7;subst ak7;unfold Xs BE at t2;dsimp only at t2;have aDt:=aGc i hi k;clear aGc;generalize JO (Int.ofNat i,k)=aGe at*;have gE:ad.bq .eql l[i].n v=decide (l[i].n=v):=Mx ae _ _;have gW:ad.aD .geq k f=decide (f<=k):=ax3;have gd:ad.aD .leq k g=decide (k<=g):=ax3;generalize decide (f<=k)=Nc at*;generalize decide (k<=g)=as8 at*;have zw:l[i].n=l[i].c24.n:=rfl;rw[zw]at gE aDt;clear zw;generalize l[i].c24=w at*;obtain⟨wn,aDx,uO,uP,na,qb,IF,⟨cY,cO,nR,aeh,aei,aej,aek,ael,aem,aen,aeo,aep,aeq,aer,aes,aeu⟩,aDy⟩:=w;dsimp only at gE aDt;generalize decide (wn=v)=as7 at*;have aDD:W++cond aGe [Xs (Int.ofNat i,k)] []=((ps.take (j+1)).filter JO).map Xs:=by rw[Hx,aAy,NO];cases aGe<;>rfl
    clear NO Hx aGd hA;cases as7 with
    |false=>
     subst aDt;refine af ?_;all_goals exact fixF (j+1,_) ⟨aA,(aBN _).symm.trans aDD⟩
    |true=>
    cases Nc with
    |false=>
     subst aDt;refine af ?_;all_goals exact fixF (j+1,_) ⟨aA,(aBN _).symm.trans aDD⟩
    |true=>
    cases as8 with
    |false=>
     subst aDt;refine af ?_;all_goals exact fixF (j+1,_) ⟨aA,(aBN _).symm.trans aDD⟩
    |true=>
     subst aDt;have aG6:ad.app W [.agg [int (Int.ofNat i),int k]]=((ps.take (j+1)).filter JO).map Xs:=by subst ae;exact aDD
     refine af ?_;all_goals exact fixF (j+1,_) ⟨aA,aG6⟩
  .have t1:=eY ae aA;rw[aBa axW,aGd]at NO;subst NO;clear cK;refine af ?_;all_goals (subst ae;exact bZ aV axV axV)
theorem aDT(axR:aM 6 [] [] (.d (.bool true)) [])(s v:aw)(f g:Int)(b2:aM 5 [.d (.str s)] [] (.d .dP) []):
  aM 3 [.d (.str s),.d (.str v),.d (.agg [int f,int g])] [] (.d (.bool true)) []:=by
 refine aDF.cn λad ae Q aV=> ?_;refine af ?_;all_goals (subst ae;exact bZ aV axV axV)
theorem aGm(axR:aM 6 [] [] (.d (.bool true)) [])(s v:aw)(f g:Int):aM 3 [.d (.str s),.d (.str v),.d (.agg [int f,int g])] [] (.d (.bool true)) []:=by
 obtain⟨ds,a,e,⟨ly,hw,tF,_,_⟩,aj⟩:=acb s;by_cases he:e=0
 .subst he;obtain⟨t,es,xd,aF⟩:=acN ds ly hw;obtain⟨r,st,ax,aZ⟩:=aua ds ly hw tF t es aF λh=>(xd h).2;rcases ax with⟨b,e,he,rfl,rfl⟩|⟨rfl,m,ay,hs,b,⟨hm,rfl,code,b7⟩,rfl,rfl⟩
  .exact aDT axR s v f g (aF' s b e he (auh s _ a b e he aj aZ))
  .have bP:=aui s _ a b m hm ay hs aj aZ;obtain⟨l,wa,cv,zs,aO,ry⟩:=aGZ hm b7 tF hw;obtain⟨r,st,ax,cK⟩:=aGV wa hs s bP;rcases ax with⟨rfl,rfl⟩|⟨rfl,rfl⟩
   .exact aDT axR s v f g cK
   .exact aG4 wa cv hs zs aO ry axR s v f g cK
 .exact aDT axR s v f g (aF' s a e he (aug s _ a e he aj))
end Go.Proofs.YthffhbakgmemaaaGreatDoor
