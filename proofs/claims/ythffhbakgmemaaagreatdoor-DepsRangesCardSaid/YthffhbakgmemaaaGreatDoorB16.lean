/- Part of ranges_said. -/
import Derived.Test.YthffhbakgmemaaaGreatDoorB15
set_option maxRecDepth 100000
set_option maxHeartbeats 8000000
set_option linter.unusedSimpArgs false
set_option linter.unusedVariables false
namespace Go.Proofs.YthffhbakgmemaaaGreatDoor
open Go Go.aH
attribute [local irreducible] bG
def s3:b9:=.box [.func 67 [.ptr 0 0] [],.func 68 [.ptr 0 0] [],.func 69 [.ptr 0 0] []]
def cy.bq(m:cy):Bool->Bool->Bool->aU
 |true,true,false=>[eD m.L m.t m.ps (.aN 1 0 m.bn m.bn 24) (.aN 2 0 m.ns m.ns 12) (.d .dP) (.d .hS),.box m.N,.box m.S,s3]
 |true,false,false=>[eD m.L m.t m.ps (.aN 1 0 m.bn m.bn 24) (.own 12 []) (.d .dP) (.d .hS),.box m.N,s3]
 |false,true,false=>[eD m.L m.t m.ps (.own 24 []) (.aN 1 0 m.ns m.ns 12) (.d .dP) (.d .hS),.box m.S,s3]
 |false,false,false=>[eD m.L m.t m.ps (.own 24 []) (.own 12 []) (.d .dP) (.d .hS),s3]
 |true,true,true=>[eD m.L m.t m.ps (.aN 1 0 m.bn m.bn 24) (.aN 2 0 m.ns m.ns 12) (.ptr 7 0) (.map 9),.box m.N,.box m.S,s3,.box m.b0,.box m.b6,.box m.b4,.box (cR 4 5 6 m.gn),.box [.ptr 7 0],.map m.P]
 |true,false,true=>[eD m.L m.t m.ps (.aN 1 0 m.bn m.bn 24) (.own 12 []) (.ptr 6 0) (.map 8),.box m.N,s3,.box m.b0,.box m.b6,.box m.b4,.box (cR 3 4 5 m.gn),.box [.ptr 6 0],.map m.P]
 |false,true,true=>[eD m.L m.t m.ps (.own 24 []) (.aN 1 0 m.ns m.ns 12) (.ptr 6 0) (.map 8),.box m.S,s3,.box m.b0,.box m.b6,.box m.b4,.box (cR 3 4 5 m.gn),.box [.ptr 6 0],.map m.P]
 |false,false,true=>[eD m.L m.t m.ps (.own 24 []) (.own 12 []) (.ptr 5 0) (.map 7),s3,.box m.b0,.box m.b6,.box m.b4,.box (cR 2 3 4 m.gn),.box [.ptr 5 0],.map m.P]
def DJ:Bool->Bool->List Nat
 |true,true=>[1,2,4,5,6,9]
 |true,false=>[1,3,4,5,8]
 |false,true=>[1,3,4,5,8]
 |false,false=>[2,3,4,7]
def at4(ay hs:Bool):Nat:=cond ay 1 0+cond hs 1 0+1
def at5(L:List Go.aH.D)(t:aw)(q i:Nat)(cY cO:Option (Nat×List fc))(ps:List Go.aH.D):ag:=cx [(0,.d (.list 25 L)),(2,.ptr 0 0),(37,.d (.list 25 L)),(38,.d (int (Int.ofNat q))),(39,.d (int (Int.ofNat i)))] [eD L t ps (ad0 24 cY) (ad0 12 cO) (.d .dP) (.d .hS)]
structure DK(code:b8->aw)(ds:List b8)(i:Nat)(cY cO:Option (Nat×List fc))(ps:List Go.aH.D):Prop where
 n:ad1 cY (ga code (ds.take i)).length (rz (ga code (ds.take i)))
 s:ad1 cO (hR (ds.take i)).length (rA (hR (ds.take i)))
 p:∃lk:List Int,ps=lk.map int/\lk.length=(ga code (ds.take i)).length
def at6(L:List Go.aH.D)(m:cy)(ay hs g:Bool)(j:Nat):ag:=cx [(0,.d (.list 25 L)),(2,.ptr 0 0),(105,.aN (at4 ay hs) 0 3 3 1),(106,.d (int (Int.ofNat 3))),(107,.d (int (Int.ofNat j)))] (m.bq ay hs g)
def at7(T Q:List ah->Prop)(R:cy->Prop)(m:cy)(z:Nat×Bool×cy):Prop:=
 z=(0,false,m)\/(∃S,(Flat S/\Q S)/\z=(1,false,{m with S:=S}))\/(∃(S b0 b6 b4:List ah) (P:List (Go.aH.D×ah)),(Flat S/\Q S)/\(s0 m.bn {m with S:=S,gn:=m.bn,b0:=b0,b6:=b6,b4:=b4,P:=P}/\R {m with S:=S,gn:=m.bn,b0:=b0,b6:=b6,b4:=b4,P:=P})/\z=(2,true,{m with S:=S,gn:=m.bn,b0:=b0,b6:=b6,b4:=b4,P:=P}))\/
 (∃(N S b0 b6 b4:List ah) (P:List (Go.aH.D×ah)),(Flat S/\Q S)/\T N/\(s0 m.bn {m with S:=S,gn:=m.bn,b0:=b0,b6:=b6,b4:=b4,P:=P}/\R {m with S:=S,gn:=m.bn,b0:=b0,b6:=b6,b4:=b4,P:=P})/\z=(3,true,{m with N:=N,S:=S,gn:=m.bn,b0:=b0,b6:=b6,b4:=b4,P:=P}))
def NF(l:List cX)(ds:List b8)(S:List ah)(k:Nat):Prop:=∃aN,S=fU aN/\aN.length=k/\(∀j (h:j<aN.length) (sh:j<(ds.filter eX).length),aN[j].n=(ds.filter eX)[j].n)/\Nf l ds aN
structure NG(l:List cX)(ds:List b8)(ay hs:Bool)(m:cy):Prop where
 bn:m.bn=l.length
 N:∃bC,m.N=ha bC/\aDk l bC
 ns:m.ns=(ds.filter eX).length
 ay:ay=decide (0<m.bn)
 hs:hs=decide (0<m.ns)
 S:NF l ds m.S m.ns
 g:s0 m.bn m
 r:DG m.bn l m
theorem s0.flat{n:Nat}{m:cy}(h:s0 n m):Flat m.b0/\Flat m.b6/\Flat m.b4/\o0 m.P:=by
 obtain⟨_,sh,av,⟨ds,_,aW⟩,bL⟩:=h;exact⟨sh.flat,av.flat,by rw[aW];exact et _,bL.flat⟩
theorem ad2:∀ds:List b8,(ds.filter ix).length+(ds.filter eX).length=ds.length
 |[]=>rfl
 |d::ds=>by
  have ih:=ad2 ds;have h:ix d=!eX d:=rfl;cases aY:eX d with
  |true=>rw[aBP (by rw[h,aY];decide),aBG aY,aAu,aAu];omega
  |false=>rw[aBG (by rw[h,aY];rfl),aBP (by rw[aY];decide),aAu,aAu];omega
theorem AX:Flat ([]:List ah):=λ_ h=>(aAO h).elim
theorem ad3:o0 []:=λ_ h=>(aAO h).elim
set_option maxHeartbeats 16000000 in
theorem aua(ds:List b8)(ly:∀x∈ds,x.Good)(hw:hn ds<=dJ)(tF:ds.length<=16384)(t:aw)(es:Int)(aF:aM 65 [.d (.list 25 (ds.map b8.d))] [] (.tuple [.d (.str t),.d (int es)]) [])
  (q3:es=0->∃a:Int,aM 45 [.d (.str t)] [] (.tuple [.d (.list 25 (ds.map b8.d)),.d (int a),.d (int 0)]) []):
  ∃(r:ah) (s:aU),((∃a e:Int,e≠0/\r=.tuple [.d .dP,.d (int a),.d (int e)]/\s=[])\/(es=0/\∃(m:cy) (ay hs:Bool) (a:Int),(m.Ok/\m.t=t/\∃code,NG (ga code ds) ds ay hs m)/\r=.tuple [.ptr 0 0,.d (int a),.d (int 0)]/\s=m.bq ay hs true))/\aM 46 [.d (.list 25 (ds.map b8.d))] [] r s:=by
 obtain⟨b,aub,aj⟩:=aqt ds axW;have NH:∀x,x∈ds->∃t:aw,∃e:Int,aM 66 [.d (.agg x.cU.cs)] [] (.tuple [.d (.str t),.d (int e)]) []:=λx ak=>atX x (ly x ak) (by have:hn [x]<=hn ds:=Ht ak;omega);obtain⟨code,Hv⟩:∃code:b8->aw,∀x∈ds,∃e:Int,aM 66 [.d (.agg x.cU.cs)] [] (.tuple [.d (.str (code x)),.d (int e)]) []:=by
  classical
  exact⟨λx=>if h:x∈ds then Classical.choose (NH x h)else[],λx ak=>by simp only[dif_pos ak];exact aC9 (NH x ak)⟩
 have Fa:∀x∈ds,x.w<=dJ:=λx ak=>by
  have h1:hn [x]<=hn ds:=Ht ak;have sh:hn [x]=200+x.w+0:=rfl;omega
 clear NH;have wk:(ds.map b8.d).length=ds.length:=aAb _;have bY:∀i (h:i<ds.length),(ds.map b8.d)[i]?=some (.agg ds[i].cU.cs):=λi h=>c7 h;obtain⟨L,NI⟩:∃L,L=ds.map b8.d:=⟨_,rfl⟩;rw[<-NI]at aj aF q3 wk bY⊢;obtain⟨ay,cB⟩:∃ay,ay=decide (0<(ga code ds).length):=⟨_,rfl⟩;obtain⟨hs,nX⟩:∃hs,hs=decide (0<(hR ds).length):=⟨_,rfl⟩;refine aEr.jt (DJ ay hs) _ λad ae K ao=> ?_;have DL:∀(a e:Int) (s':aU),e≠0->s'=[]->K (.tuple [.d .dP,.d (int a),.d (int e)]) s':=λa e s' h1 sh=>ao _ _ (.inl ⟨a,e,h1,rfl,sh⟩);have NJ:∀(a:Int) (m:cy) (s':aU),es=0->m.Ok->m.t=t->NG (ga code ds) ds ay hs m->s'=m.bq ay hs true->K (.tuple [.ptr 0 0,.d (int a),.d (int 0)]) s':=λa m s' wb h1 sh aW av=>ao _ _ (.inr ⟨wb,m,ay,hs,a,⟨h1,sh,code,aW⟩,rfl,av⟩);clear ao;have DM:∀e:Int,ad.aD .neq e 0=true->e≠0:=λe h sh=>azF;obtain⟨q,aS⟩:∃q,q=ds.length:=⟨_,rfl⟩;have r0:ad.len L=q:=by subst ae;exact wk.trans aS.symm
 have aC:lM ay:=trivial;have fH:lM hs:=trivial;cases b with
 |true=>
  cases ay<;>cases hs;all_goals
   refine af ?_
  all_goals exact DL _ _ _ ax0 axV
 |false=>
 obtain⟨B,jH⟩:∃b,ad.aD .neq es 0=b:=⟨_,rfl⟩;cases B with
 |true=>
  cases ay<;>cases hs;all_goals
   refine af ?_
  all_goals exact DL _ _ _ (DM _ jH) axV
 |false=>
 have zg:=Hi ae jH;obtain⟨aG7,aZ⟩:=q3 zg;have yA:DK code ds 0 none none []:=⟨.inl ⟨rfl,rfl,rfl⟩,.inl ⟨rfl,rfl,rfl⟩,[],rfl,rfl⟩;clear q3;cases ay<;>cases hs;all_goals
  refine af ?_;refine⟨bX (λz:Nat×Option (Nat×List fc)×Option (Nat×List fc)×List Go.aH.D=>at5 L t q z.1 z.2.1 z.2.2.1 z.2.2.2) (λz=>z.1<=q/\DK code ds z.1 z.2.1 z.2.2.1 z.2.2.2) (λz=>q-z.1),_,⟨(0,none,none,[]),⟨aAa _,yA⟩,rfl,axV⟩,?_⟩;clear aj aF aZ yA jH;rintro _ _ ⟨⟨i,cY,cO,ps⟩,⟨hi,dr⟩,rfl,rfl⟩;dsimp only at hi dr⊢;by_cases aA:i<q
  .have bN:=eT ae aA;have b5:=cz ae (bY i axW);have dq:ad.er 25 25 (Int.ofNat i) q=true:=fT ae aA;have gf:=cd ae (n:=i) axW;have dV:i<ds.length:=axW;obtain⟨wo,ed⟩:=Hv _ (aAl dV);have vK:ad.aD .eql ds[i].cU.k 3=decide (ds[i].k=3):=(eF ae).1 _ _;have nF:ad.aD .eql ds[i].cU.k 1=decide (ds[i].k=1):=(eF ae).1 _ _;have pf:=at2 code dV;have rB:=at3 dV;obtain⟨lk,AY,yE⟩:=dr.p;have axI:(ga code (ds.take i)).length<=16384:=by
    unfold ga;rw[aAb];have:=aBu ix (ds.take i);rw[aBq]at this;omega
   have axJ:(hR (ds.take i)).length<=16384:=by
    unfold hR;rw[aAb];have:=aBu eX (ds.take i);rw[aBq]at this;omega
   have axK:ps.length<=16384:=by rw[AY,aAb];omega
   have Hk:eX ds[i]=decide (ds[i].k=3):=rfl;have Hl:ix ds[i]=!decide (ds[i].k=3):=rfl;have dw:=dr.n;have mM:=dr.s;have kk:ds[i].n=ds[i].cU.n:=rfl;have Bw:yD (DI code ds[i]).c24=yD ⟨ds[i].cU.n,decide (ds[i].k=1),ds[i].cU.bq,ds[i].cU.db,ds[i].cU.s1,ds[i].cU.s2,ds[i].cU.bM,ds[i].cU.pl,code ds[i]⟩:=rfl;cases aY:decide (ds[i].k=3)with
   |true=>
    rw[Hl,aY]at pf;rw[Hk,aY]at rB;have pf:ga code (ds.take (i+1))=ga code (ds.take i):=pf.trans (aBN _);have rB:hR (ds.take (i+1))=hR (ds.take i)++[ds[i].n]:=rB;have hg:∀(ic:Nat) (d':List fc),ic=(hR (ds.take i)).length+1->d'=rA (hR (ds.take i))++Hu ds[i].n->DK code ds (i+1) cY (some (ic,d')) ps:=λic d' h1 sh=>by
     refine⟨by rw[pf];exact dr.n,.inr ⟨by rw[rB,aAA];exact aC6 _,?_⟩,lk,AY,by rw[pf];exact yE⟩;rw[rB,aAA,at1,<-sh,h1];rfl
    rw[aY]at vK;rw[kk]at hg;clear dr Hv pf rB Bw nF ed;generalize ds[i].cU=w at*;obtain⟨cn,wn,uO,uP,na,qb,AR,⟨c1,c2,qj,c4,c5,eI,bQ,e0,c9,fj,e9,X,eN,eR,eS,bB⟩,wq,yB⟩:=w;dsimp only at vK hg;unfold Hu at hg;generalize (ga code (ds.take i)).length=gG at*;generalize rz (ga code (ds.take i))=nP at*;generalize (hR (ds.take i)).length=m1 at*;generalize rA (hR (ds.take i))=d' at*;have ei:ad.zW d' [.d (.str wn),.d (.int .u64 0),.d (.int .u64 0),.d (.int .u64 0),.d (.int .u64 0),.d (.int .u64 0),.d (.bool false),.d (.bool false),.d (.bool false),.d (.bool false),.d (.bool false),.nil 1]=some (d'++[.d (.str wn),.d (.int .u64 0),.d (.int .u64 0),.d (.int .u64 0),.d (.int .u64 0),.d (.int .u64 0),.d (.bool false),.d (.bool false),.d (.bool false),.d (.bool false),.d (.bool false),.nil 1]):=ax3;have kI:ad.lD m1 1=m1+1:=p2 ae _ _;have u8:ad.zX 12 12 m1 1 1599289640401=true:=by subst ae;show(Nat.beq 12 12&&Nat.ble (m1+1) 1599289640401)=true;rw[aBD axW];rfl
    have wC:=hg (m1+1) _ rfl rfl;obtain⟨m2,kW⟩:∃m2,m2=m1+1:=⟨_,rfl⟩;obtain⟨v8,DP⟩:∃v8,v8=d'++[fc.d (.str wn),.d (.int .u64 0),.d (.int .u64 0),.d (.int .u64 0),.d (.int .u64 0),.d (.int .u64 0),.d (.bool false),.d (.bool false),.d (.bool false),.d (.bool false),.d (.bool false),.nil 1]:=⟨_,rfl⟩;rw[<-DP]at ei wC;rw[<-kW]at kI wC;rcases mM with⟨rfl,yq,vD⟩|⟨_,rfl⟩
    .have NL:=hg 1 _ axW (by rw[vD]);rcases dw with⟨rfl,_,_⟩|⟨_,rfl⟩
     all_goals
      refine af ?_
     all_goals exact ec (i+1,_,some (1,_),ps) ⟨aA,NL⟩ azh axV
    .rcases dw with⟨rfl,_,_⟩|⟨_,rfl⟩
     all_goals
      refine af ?_
     all_goals exact ec (i+1,_,some (m2,v8),ps) ⟨aA,wC⟩ azh axV
   |false=>
    rw[Hl,aY]at pf;rw[Hk,aY]at rB;have rB:hR (ds.take (i+1))=hR (ds.take i):=rB.trans (aBN _);have pf:ga code (ds.take (i+1))=ga code (ds.take i)++[DI code ds[i]]:=pf;have ad4:ad.app ps [int (Int.ofNat i)]=(lk++[Int.ofNat i]).map int:=by subst ae;rw[AY,aAy];rfl
    have hg:∀(ic:Nat) (d':List fc),ic=(ga code (ds.take i)).length+1->d'=rz (ga code (ds.take i))++yD (DI code ds[i]).c24->DK code ds (i+1) (some (ic,d')) cO (ad.app ps [int (Int.ofNat i)]):=λic d' h1 sh=>by
     refine⟨.inr ⟨by rw[pf,aAA];exact aC6 _,?_⟩,by rw[rB];exact dr.s,lk++[Int.ofNat i],ad4,by rw[pf,aAA,aAA,yE];rfl⟩;rw[pf,aAA,atZ,<-sh,h1];rfl
    rw[aY]at vK;rw[Bw]at hg;clear dr Hv pf rB Bw kk ad4;generalize ds[i].cU=w at*;generalize code ds[i]=auc at*;generalize decide (ds[i].k=1)=bJ at*;obtain⟨cn,wn,uO,uP,na,qb,AR,⟨c1,c2,qj,c4,c5,eI,bQ,e0,c9,fj,e9,X,eN,eR,eS,bB⟩,wq,yB⟩:=w;dsimp only at vK nF hg;generalize (ga code (ds.take i)).length=m1 at*;generalize rz (ga code (ds.take i))=d' at*;generalize (hR (ds.take i)).length=gG at*;generalize rA (hR (ds.take i))=nP at*;obtain⟨yF,NM⟩:∃yF,yF=yD ⟨wn,bJ,uO,uP,na,qb,AR,⟨c1,c2,qj,c4,c5,eI,bQ,e0,c9,fj,e9,X,eN,eR,eS,bB⟩,auc⟩:=⟨_,rfl⟩;have ei:ad.zW d' yF=some (d'++yF):=ax3;have kI:ad.lD m1 1=m1+1:=p2 ae _ _;have u8:ad.zX 24 24 m1 1 366503875925=true:=by subst ae;show(Nat.beq 24 24&&Nat.ble (m1+1) 366503875925)=true;rw[aBD axW];rfl
    rw[<-NM]at hg;have wC:=hg (m1+1) _ rfl rfl;obtain⟨m2,kW⟩:∃m2,m2=m1+1:=⟨_,rfl⟩;obtain⟨v8,DP⟩:∃v8,v8=d'++yF:=⟨_,rfl⟩;rw[<-DP]at ei wC;rw[<-kW]at kI wC;rcases dw with⟨rfl,yq,vD⟩|⟨_,rfl⟩
    .have NL:=hg 1 yF axW (by rw[vD];exact(aBn _).symm);clear hg wC ei DP;rcases mM with⟨rfl,_,_⟩|⟨_,rfl⟩
     all_goals
      refine af ?_
     all_goals exact ec (i+1,some (1,yF),_,_) ⟨aA,NL⟩ azh (by rw[NM];kernel_rfl)
    .clear hg DP;rw[NM]at ei;unfold yD yc.cs at ei;simp only[aAP,aBK]at ei;rcases mM with⟨rfl,_,_⟩|⟨_,rfl⟩
     all_goals
      refine af ?_
     all_goals exact ec (i+1,some (m2,v8),_,_) ⟨aA,wC⟩ azh axV
  .have bN:=eY ae aA;obtain⟨dw,mM,lk,AY,yE⟩:DK code ds q cY cO ps:=(show i=q by omega)▸dr;rw[aBa axW]at dw mM yE;clear dr Hv bY;have axL:=aub rfl;have axM:=ad2 ds;have ad5:(hR ds).length=o7 ds:=aAb _;have pe:o7 ds=(ds.filter eX).length:=rfl;have ad6:(ga code ds).length=(ds.filter ix).length:=aAb _;have sa:∀y∈ga code ds,y.bM.length<=33554432/\y.pl.w<=dJ/\y.bq.length<=1073741824:=λy wa=>by
    obtain⟨x,ak,rfl⟩:=aAR.1 wa;have h1:=Fa x (aCo.1 ak).1;have sh:x.w=1000+x.n.length+jU x.bq+jv x.bM+x.pl.w+x.fI.length+fw x.ms:=rfl;have av:x.bM.length*200<=jv x.bM:=DH _ _;have bL:x.bq.length*200<=jU x.bq:=DH _ _;have aW:dJ=1000000000:=rfl;exact⟨by show x.bM.length<=_;omega,by show x.pl.w<=_;omega,by show x.bq.length<=_;omega⟩
   have qO:∀x∈ds,x.fI.length<=1073741824/\x.ms.length<=1073741824:=λx ak=>by
    have h1:=Fa x ak;have sh:x.w=1000+x.n.length+jU x.bq+jv x.bM+x.pl.w+x.fI.length+fw x.ms:=rfl;have av:x.ms.length*200<=fw x.ms:=DH _ _;have aW:dJ=1000000000:=rfl;exact⟨axW,axW⟩
   have xS:ad.xL (rz (ga code ds))=some (ha (ga code ds)):=by subst ae;exact congrArg some (atY _)
   have uj:ad.xL (rA (hR ds))=some (fU ((hR ds).map wB)):=by subst ae;exact congrArg some (at0 _)
   have qK:∀y∈(hR ds).map wB,y.ks=[]:=λy wa=>by
    obtain⟨x,_,rfl⟩:=aAR.1 wa;rfl
   have NQ:((hR ds).map wB).length=(hR ds).length:=aAb _;have ad7:∀j (h:j<((hR ds).map wB).length) (sh:j<(ds.filter eX).length),((hR ds).map wB)[j].n=(ds.filter eX)[j].n:=λj h sh=>by simp[hR,wB]
   generalize ga code ds=l at*;generalize rA (hR ds)=axN at*;generalize (hR ds).map wB=aN at*;generalize (hR ds).length=ns at*;obtain⟨bn,jb⟩:∃bn,bn=l.length:=⟨_,rfl⟩;rw[<-jb]at dw yE ad6;have wA:=DA l;have pe:=uL aN;obtain⟨N,b3⟩:∃N,N=ha l:=⟨_,rfl⟩;obtain⟨S,ey⟩:∃S,S=fU aN:=⟨_,rfl⟩;rw[<-b3]at xS wA;rw[<-ey]at uj pe;generalize rz l=axO at*;have ad8:cS aC=true->0<bn:=λh=>by have:=cB.symm.trans h;rw[jb];exact of_decide_eq_true this
   have NR:cS aC=false->bn=0:=λh=>by have:=cB.symm.trans h;have:=aCw this;omega
   have mP:cS fH=true->0<ns:=λh=>of_decide_eq_true (nX.symm.trans h);have cg:cS fH=false->ns=0:=λh=>by have:=aCw (nX.symm.trans h);omega
   obtain⟨T,ew⟩:∃T:List ah->Prop,T=λN=>∃bC,N=ha bC/\aDk l bC:=⟨_,rfl⟩;have aDK:∀N,T N->Flat N:=by rw[ew];rintro _ ⟨bC,rfl,_⟩;exact DA _
   have yq:cy.Ok ⟨L,t,bn,N,ps,ns,S,0,[],[],[],[]⟩:=⟨wA,pe,AX,AX,AX,ad3⟩;have pH:cS aC=false->l=[]:=λh=>aCO.1 (by rw[<-jb];exact NR h);have G3:cS fH=false->aN=[]:=λh=>aCO.1 (by rw[NQ];exact cg h);obtain⟨gK,ad9,jJ,ad',NS,o9⟩:∃(a e:Int) (jJ:List ah),Flat jJ/\(e=0->NF l ds jJ ns)/\aM 67 [.ptr 0 0] ((⟨L,t,bn,N,ps,ns,S,0,[],[],[],[]⟩:cy).st (cS aC) (cS fH) false) (.tuple [.d (int a),.d (int e)]) ((⟨L,t,bn,N,ps,ns,jJ,0,[],[],[],[]⟩:cy).st (cS aC) (cS fH) false):=by
    obtain⟨a,e,fM,⟨mn,ql,wD⟩,h⟩:=ate ⟨L,t,bn,N,ps,ns,S,0,[],[],[],[]⟩ yq (cS aC) (cS fH) ds NI axW l b3 jb.symm (show bn<=1073741824 by omega) pH aN ey NQ (show ns<=1073741824 by omega) G3 axW axW qK qO (λy wa=>by have:=(sa y wa).1;omega);exact⟨a,e,fU fM,uL _,λhe=>⟨fM,rfl,mn.trans NQ,λj h1 sh=>(ql j axW h1).trans (ad7 j axW sh),wD he⟩,h⟩
   have C0:∀jJ,Flat jJ->_:=λjJ (yv:Flat jJ)=>atC ⟨L,t,bn,N,ps,ns,jJ,0,[],[],[],[]⟩ ⟨wA,yv,AX,AX,AX,ad3⟩ (cS aC) (cS fH) l b3 jb.symm (show bn<=32 by omega) pH lk AY yE (λy wa=>(sa y wa).1);have Fy:∀(jJ b0 b6 b4:List ah) (P:List (Go.aH.D×ah)),Flat jJ->s0 bn ⟨L,t,bn,N,ps,ns,jJ,bn,b0,b6,b4,P⟩->∃(a e:Int) (lO:List ah),T lO/\aM 69 [.ptr 0 0] ((⟨L,t,bn,N,ps,ns,jJ,bn,b0,b6,b4,P⟩:cy).st (cS aC) (cS fH) true) (.tuple [.d (int a),.d (int e)]) ((⟨L,t,bn,lO,ps,ns,jJ,bn,b0,b6,b4,P⟩:cy).st (cS aC) (cS fH) true):=λjJ b0 b6 b4 P yv jf=>by
    obtain⟨a,e,bC,aGy,h⟩:=atM ⟨L,t,bn,N,ps,ns,jJ,bn,b0,b6,b4,P⟩ ⟨wA,yv,jf.flat.1,jf.flat.2.1,jf.flat.2.2.1,jf.flat.2.2.2⟩ (cS aC) (cS fH) l b3 jb.symm (show bn<=32 by omega) pH lk AY yE (λy wa=>(sa y wa).1) (λy wa=>(sa y wa).2.1) (λy wa=>(sa y wa).2.2) jf;exact⟨a,e,ha bC,by rw[ew];exact⟨bC,rfl,aGy⟩,h⟩
   obtain⟨bw,a2,a3⟩:=br.of ae wA;obtain⟨bJ,a6,cq⟩:=br.of ae pe;have aea:ns=(ds.filter eX).length:=axW;have aeb:cS fH=decide (0<ns):=nX;have aFX:cS aC=decide (0<bn):=by rw[jb];exact cB
   obtain⟨Q,aV⟩:∃Q:List ah->Prop,Q=λS=>NF l ds S ns:=⟨_,rfl⟩;obtain⟨R,ch⟩:∃R:cy->Prop,R=λm=>DG bn l m:=⟨_,rfl⟩;have aud:∀m:cy,DG bn l m->R m:=by rw[ch];exact λ_ h=>h
   replace NJ:∀(a:Int) (m:cy) (s':aU),m.Ok->m.t=t->m.bn=bn->m.ns=ns->T m.N->Q m.S->s0 bn m->R m->s'=m.bq _ _ true->K (.tuple [.ptr 0 0,.d (int a),.d (int 0)]) s':=λa m s' h1 sh av aW iD bL cW hx hI=>NJ a m s' zg h1 sh ⟨av.trans jb,by rw[ew]at iD;exact iD,aW.trans aea,by rw[av];exact aFX,by rw[aW];exact aeb,by rw[aV]at bL;rw[aW];exact bL,by rw[av];exact cW,by rw[ch]at hx;rw[av];exact hx⟩ hI;replace NS:ad9=0->Q jJ:=by rw[aV];exact NS
   have aue:∀(m:cy) (N:List ah),R m->R {m with N:=N}:=by rw[ch];exact λ_ _ h=>⟨h.ne,h.Nt⟩
   clear aV ch ew ad7 aea aeb aFX;clear sa qO qK cB nX NI yq;dsimp only[cy.st,eD,cS]at o9;rcases dw with⟨rfl,r2,_⟩|⟨r2,rfl⟩<;>rcases mM with⟨rfl,gw,_⟩|⟨gw,rfl⟩
   all_goals first
   |exact absurd (ad8 rfl) axW
   |exact absurd (NR rfl) axW
   |exact absurd (mP rfl) axW
   |exact absurd (cg rfl) axW
   |skip
   refine af ?_;refine⟨bX (λz:Nat×Bool×cy=>at6 L z.2.2 (cS aC) (cS fH) z.2.1 z.1) (at7 T Q R ⟨L,t,bn,N,ps,ns,S,0,[],[],[],[]⟩) (λz=>3-z.1),_,⟨(0,false,⟨L,t,bn,N,ps,ns,S,0,[],[],[],[]⟩),.inl rfl,rfl,axV⟩,?_⟩;clear xS uj bJ a6 cq bN DM ad8 NR mP cg pH G3;have gF:ad.aD .neq 0 0=false:=ax3;have DM:∀e:Int,ad.aD .neq e 0=true->e≠0:=λe h sh=>by subst sh;rw[gF]at h;cases h
   have auf:∀e:Int,e≠0->ad.aD .neq e 0=true:=λe h=>by subst ae;show(!decide (e=0))=true;rw[aAK h];rfl
   rintro _ _ ⟨z,aO,rfl,rfl⟩;rcases aO with rfl|⟨kM,⟨jW,aV⟩,rfl⟩|⟨kM,b0,b6,b4,P,⟨jW,aV⟩,⟨jf,ch⟩,rfl⟩|⟨lO,kM,b0,b6,b4,P,⟨jW,aV⟩,mv,⟨jf,ch⟩,rfl⟩
   .dsimp only;obtain⟨bJ,a6,cq⟩:=br.of ae pe;obtain⟨c1,c2,c3⟩:=br.of ae ad';have bN:=eT ae (a:=0) (b:=3) axW;have b5:ad.aD .lss 0 3=true:=bN;have gf:=cd ae (n:=0) axW;have ij:ad.io .add .i64 0 1=Int.ofNat 1:=gf;obtain⟨B,jH⟩:∃b,ad.aD .neq ad9 0=b:=⟨_,rfl⟩;cases B with
    |true=>
     refine af ?_;exact DL _ _ _ (DM _ jH) axV
    |false=>
     refine af ?_;exact ec (1,false,⟨L,t,bn,N,ps,ns,jJ,0,[],[],[],[]⟩) (.inr (.inl ⟨jJ,⟨ad',NS (Hi ae jH)⟩,rfl⟩)) (by show 3-1<3-0;omega) axV
   .dsimp only;clear o9;obtain⟨bJ,a6,cq⟩:=br.of ae jW;have bN:=eT ae (a:=1) (b:=3) axW;have b5:ad.aD .lss 1 3=true:=bN;have gf:=cd ae (n:=1) axW;have ij:ad.io .add .i64 1 1=Int.ofNat 2:=gf;obtain⟨a,e,s,gq,ry⟩:=C0 kM jW;rcases gq with⟨he,rfl⟩|⟨rfl,b0,b6,b4,P,⟨jf,uN⟩,rfl⟩
    .have jH:=auf e he;dsimp only[cy.st,eD,cS]at ry;refine af ?_;exact DL _ _ _ he axV
    .have ch:=aud _ uN;clear uN;obtain⟨mn,ql,wD,AZ⟩:=jf.flat;obtain⟨c1,c2,c3⟩:=br.of ae mn;obtain⟨d1,d2,d3⟩:=br.of ae ql;obtain⟨b',cr,dE⟩:=br.of ae wD;obtain⟨de,dp,dF⟩:=lh.of ae AZ;dsimp only[cy.st,cy.Hs,eD,cR,cS]at ry c1 c2 c3 d1 d2 d3 b' cr dE de dp dF;refine af ?_;exact ec (2,true,⟨L,t,bn,N,ps,ns,kM,bn,b0,b6,b4,P⟩) (.inr (.inr (.inl ⟨kM,b0,b6,b4,P,⟨jW,aV⟩,⟨jf,ch⟩,rfl⟩))) (by show 3-2<3-1;omega) axV
   .dsimp only;clear o9 C0;obtain⟨a,e,lO,mv,nV⟩:=Fy kM b0 b6 b4 P jW jf;obtain⟨mn,ql,wD,AZ⟩:=jf.flat;obtain⟨bJ,a6,cq⟩:=br.of ae jW;obtain⟨c1,c2,c3⟩:=br.of ae mn;obtain⟨d1,d2,d3⟩:=br.of ae ql;obtain⟨b',cr,dE⟩:=br.of ae wD;obtain⟨de,dp,dF⟩:=lh.of ae AZ;obtain⟨fO,z2,z3⟩:=br.of ae (aDK _ mv);dsimp only[cy.st,eD,cR,cS]at nV c1 c2 c3 d1 d2 d3 b' cr dE de dp dF;have bN:=eT ae (a:=2) (b:=3) axW;have b5:ad.aD .lss 2 3=true:=bN;have gf:=cd ae (n:=2) axW;have ij:ad.io .add .i64 2 1=Int.ofNat 3:=gf;obtain⟨B,jH⟩:∃b,ad.aD .neq e 0=b:=⟨_,rfl⟩;cases B with
    |true=>
     refine af ?_;exact DL _ _ _ (DM _ jH) axV
    |false=>
     refine af ?_;exact ec (3,true,⟨L,t,bn,lO,ps,ns,kM,bn,b0,b6,b4,P⟩) (.inr (.inr (.inr ⟨lO,kM,b0,b6,b4,P,⟨jW,aV⟩,mv,⟨jf,ch⟩,rfl⟩))) (by show 3-3<3-2;omega) axV
   .dsimp only;clear o9 C0 Fy bw a2 a3;obtain⟨mn,ql,wD,AZ⟩:=jf.flat;obtain⟨bw,a2,a3⟩:=br.of ae (aDK _ mv);obtain⟨bJ,a6,cq⟩:=br.of ae jW;obtain⟨c1,c2,c3⟩:=br.of ae mn;obtain⟨d1,d2,d3⟩:=br.of ae ql;obtain⟨b',cr,dE⟩:=br.of ae wD;obtain⟨de,dp,dF⟩:=lh.of ae AZ;dsimp only at c1 c2 c3 d1 d2 d3 b' cr dE de dp dF;have bN:=eY ae (a:=3) (b:=3) axW;have b5:ad.aD .lss 3 3=false:=bN;refine af ?_;exact NJ _ ⟨L,t,bn,lO,ps,ns,kM,bn,b0,b6,b4,P⟩ _ ⟨aDK _ mv,jW,mn,ql,wD,AZ⟩ rfl rfl rfl mv aV ⟨jf.gn,jf.b0,jf.b6,jf.b4,jf.P⟩ (aue _ _ ch) axV
end Go.Proofs.YthffhbakgmemaaaGreatDoor
