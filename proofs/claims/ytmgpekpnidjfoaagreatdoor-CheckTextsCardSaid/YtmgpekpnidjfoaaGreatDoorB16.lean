/- Part of texts_said. -/
import Derived.Test.YtmgpekpnidjfoaaGreatDoorB15
set_option maxRecDepth 100000
set_option maxHeartbeats 8000000
set_option linter.unusedSimpArgs false
set_option linter.unusedVariables false
namespace Go.Proofs.YtmgpekpnidjfoaaGreatDoor
open Go Go.aJ
attribute [local irreducible] bM
def sw:b3:=.box [.func 49 [.ptr 0 0] [],.func 50 [.ptr 0 0] [],.func 51 [.ptr 0 0] []]
def cP.bw(m:cP):Bool->Bool->Bool->aV
 |true,true,false=>[eh m.L m.t m.ps (.aS 1 0 m.bL m.bL 24) (.aS 2 0 m.ns m.ns 12) (.d .dO) (.d .hj),.box m.N,.box m.S,sw]
 |true,false,false=>[eh m.L m.t m.ps (.aS 1 0 m.bL m.bL 24) (.own 12 []) (.d .dO) (.d .hj),.box m.N,sw]
 |false,true,false=>[eh m.L m.t m.ps (.own 24 []) (.aS 1 0 m.ns m.ns 12) (.d .dO) (.d .hj),.box m.S,sw]
 |false,false,false=>[eh m.L m.t m.ps (.own 24 []) (.own 12 []) (.d .dO) (.d .hj),sw]
 |true,true,true=>[eh m.L m.t m.ps (.aS 1 0 m.bL m.bL 24) (.aS 2 0 m.ns m.ns 12) (.ptr 7 0) (.map 9),.box m.N,.box m.S,sw,.box m.ct,.box m.cu,.box m.cp,.box (c6 4 5 6 m.gn),.box [.ptr 7 0],.map m.P]
 |true,false,true=>[eh m.L m.t m.ps (.aS 1 0 m.bL m.bL 24) (.own 12 []) (.ptr 6 0) (.map 8),.box m.N,sw,.box m.ct,.box m.cu,.box m.cp,.box (c6 3 4 5 m.gn),.box [.ptr 6 0],.map m.P]
 |false,true,true=>[eh m.L m.t m.ps (.own 24 []) (.aS 1 0 m.ns m.ns 12) (.ptr 6 0) (.map 8),.box m.S,sw,.box m.ct,.box m.cu,.box m.cp,.box (c6 3 4 5 m.gn),.box [.ptr 6 0],.map m.P]
 |false,false,true=>[eh m.L m.t m.ps (.own 24 []) (.own 12 []) (.ptr 5 0) (.map 7),sw,.box m.ct,.box m.cu,.box m.cp,.box (c6 2 3 4 m.gn),.box [.ptr 5 0],.map m.P]
def MX:Bool->Bool->List Nat
 |true,true=>[1,2,4,5,6,9]
 |true,false=>[1,3,4,5,8]
 |false,true=>[1,3,4,5,8]
 |false,false=>[2,3,4,7]
def as9(az hs:Bool):Nat:=cond az 1 0+cond hs 1 0+1
def as'(L:List Go.aJ.D)(t:ax)(q i:Nat)(cY cU:Option (Nat×List fb))(ps:List Go.aJ.D):af:=cA [(0,.d (.list 25 L)),(2,.ptr 0 0),(37,.d (.list 25 L)),(38,.d (int (Int.ofNat q))),(39,.d (int (Int.ofNat i)))] [eh L t ps (ac3 24 cY) (ac3 12 cU) (.d .dO) (.d .hj)]
structure Dg(code:cQ->ax)(ds:List cQ)(i:Nat)(cY cU:Option (Nat×List fb))(ps:List Go.aJ.D):Prop where
 n:ac4 cY (jq code (ds.take i)).length (q0 (jq code (ds.take i)))
 s:ac4 cU (iH (ds.take i)).length (q2 (iH (ds.take i)))
 p:∃k4:List Int,ps=k4.map int/\k4.length=(jq code (ds.take i)).length
def ata(L:List Go.aJ.D)(m:cP)(az hs g:Bool)(j:Nat):af:=cA [(0,.d (.list 25 L)),(2,.ptr 0 0),(105,.aS (as9 az hs) 0 3 3 1),(106,.d (int (Int.ofNat 3))),(107,.d (int (Int.ofNat j)))] (m.bw az hs g)
def atb(m:cP)(z:Nat×Bool×cP):Prop:=
 z=(0,false,m)\/(∃S,Flat S/\z=(1,false,{m with S:=S}))\/(∃(S ct cu cp:List ag) (P:List (Go.aJ.D×ag)),Flat S/\vG m.bL {m with S:=S,gn:=m.bL,ct:=ct,cu:=cu,cp:=cp,P:=P}/\z=(2,true,{m with S:=S,gn:=m.bL,ct:=ct,cu:=cu,cp:=cp,P:=P}))\/
 (∃(N S ct cu cp:List ag) (P:List (Go.aJ.D×ag)),Flat S/\Flat N/\vG m.bL {m with S:=S,gn:=m.bL,ct:=ct,cu:=cu,cp:=cp,P:=P}/\z=(3,true,{m with N:=N,S:=S,gn:=m.bL,ct:=ct,cu:=cu,cp:=cp,P:=P}))
theorem vG.flat{n:Nat}{m:cP}(h:vG n m):Flat m.ct/\Flat m.cu/\Flat m.cp/\oG m.P:=by
 obtain⟨_,h2,av,⟨ds,_,aZ⟩,bW⟩:=h;exact⟨h2.flat,av.flat,by rw[aZ];exact er _,bW.flat⟩
theorem ac5:∀ds:List cQ,(ds.filter nA).length+(ds.filter jK).length=ds.length
 |[]=>rfl
 |d::ds=>by
  have ih:=ac5 ds;have h:nA d=!jK d:=rfl;cases a6:jK d with
  |true=>rw[aBC (by rw[h,a6];decide),aBs a6,az0,az0];omega
  |false=>rw[aBs (by rw[h,a6];rfl),aBC (by rw[a6];decide),az0,az0];omega
theorem Ah:Flat ([]:List ag):=λ_ h=>(aAi h).elim
theorem ac6:oG []:=λ_ h=>(aAi h).elim
set_option maxHeartbeats 16000000 in
theorem atc(ds:List cQ)(lh:∀x∈ds,x.Good)(hw:iD ds<=dS)(yt:ds.length<=16384)(t:ax)(es:Int)(aD:aM 8 [.d (.list 25 (ds.map cQ.d))] [] (.tuple [.d (.str t),.d (int es)]) [])
  (qG:es=0->∃a:Int,aM 7 [.d (.str t)] [] (.tuple [.d (.list 25 (ds.map cQ.d)),.d (int a),.d (int 0)]) []):
  ∃(r:ag) (s:aV),((∃a e:Int,e≠0/\r=.tuple [.d .dO,.d (int a),.d (int e)]/\s=[])\/(es=0/\∃(m:cP) (az hs:Bool) (a:Int),(m.Ok/\m.t=t)/\r=.tuple [.ptr 0 0,.d (int a),.d (int 0)]/\s=m.bw az hs true))/\aM 24 [.d (.list 25 (ds.map cQ.d))] [] r s:=by
 obtain⟨b,atd,aj⟩:=axh ds axs;have MY:∀x,x∈ds->∃t:ax,∃e:Int,aM 48 [.d (.agg x.d'.cs)] [] (.tuple [.d (.str t),.d (int e)]) []:=λx ak=>as2 x (lh x ak) (by have:iD [x]<=iD ds:=MV ak;omega);obtain⟨code,GZ⟩:∃code:cQ->ax,∀x∈ds,∃e:Int,aM 48 [.d (.agg x.d'.cs)] [] (.tuple [.d (.str (code x)),.d (int e)]) []:=by
  classical
  exact⟨λx=>if h:x∈ds then Classical.choose (MY x h)else[],λx ak=>by simp only[dif_pos ak];exact aCC (MY x ak)⟩
 have ED:∀x∈ds,x.w<=dS:=λx ak=>by
  have h1:iD [x]<=iD ds:=MV ak;have h2:iD [x]=200+x.w+0:=rfl;omega
 clear MY;have vz:(ds.map cQ.d).length=ds.length:=azG _;have cl:∀i (h:i<ds.length),(ds.map cQ.d)[i]?=some (.agg ds[i].d'.cs):=λi h=>dv h;obtain⟨L,MZ⟩:∃L,L=ds.map cQ.d:=⟨_,rfl⟩;rw[<-MZ]at aj aD qG vz cl⊢;obtain⟨az,cB⟩:∃az,az=decide (0<(jq code ds).length):=⟨_,rfl⟩;obtain⟨hs,yq⟩:∃hs,hs=decide (0<(iH ds).length):=⟨_,rfl⟩;refine UA.jl (MX az hs) _ λad ae K ao=> ?_;have Dh:∀(a e:Int) (s':aV),e≠0->s'=[]->K (.tuple [.d .dO,.d (int a),.d (int e)]) s':=λa e s' h1 h2=>ao _ _ (.inl ⟨a,e,h1,rfl,h2⟩);have ate:∀(a:Int) (m:cP) (s':aV),es=0->m.Ok->m.t=t->s'=m.bw az hs true->K (.tuple [.ptr 0 0,.d (int a),.d (int 0)]) s':=λa m s' h0 h1 h2 av=>ao _ _ (.inr ⟨h0,m,az,hs,a,⟨h1,h2⟩,rfl,av⟩);clear ao;have Di:∀e:Int,ad.aF .neq e 0=true->e≠0:=λe h h2=>azb;obtain⟨q,aT⟩:∃q,q=ds.length:=⟨_,rfl⟩;have r0:ad.len L=q:=by subst ae;exact vz.trans aT.symm
 have aE:n5 az:=trivial;have iU:n5 hs:=trivial;cases b with
 |true=>
  cases az<;>cases hs;all_goals
   conv=>cbv
   repeat' ((first|refine bG ?_|refine bH ?_|simp -proj only[r0]|(split<;>(rename_i h;try simp only[h])))<;>conv=>cbv)
  all_goals exact Dh _ _ _ axw axr
 |false=>
 obtain⟨B,eD⟩:∃b,ad.aF .neq es 0=b:=⟨_,rfl⟩;cases B with
 |true=>
  cases az<;>cases hs;all_goals
   conv=>cbv
   repeat' ((first|refine bG ?_|refine bH ?_|simp -proj only[r0,eD]|(split<;>(rename_i h;try simp only[h])))<;>conv=>cbv)
  all_goals exact Dh _ _ _ (Di _ eD) axr
 |false=>
 have yz:=MC ae eD;obtain⟨pa,aW⟩:=qG yz;have C9:Dg code ds 0 none none []:=⟨.inl ⟨rfl,rfl,rfl⟩,.inl ⟨rfl,rfl,rfl⟩,[],rfl,rfl⟩;clear qG;cases az<;>cases hs;all_goals
  conv=>cbv
  repeat' ((first|refine bG ?_|refine bH ?_|simp -proj only[r0,eD]|(split<;>(rename_i h;try simp only[h])))<;>conv=>cbv)
  refine⟨b6 (λz:Nat×Option (Nat×List fb)×Option (Nat×List fb)×List Go.aJ.D=>as' L t q z.1 z.2.1 z.2.2.1 z.2.2.2) (λz=>z.1<=q/\Dg code ds z.1 z.2.1 z.2.2.1 z.2.2.2) (λz=>q-z.1),_,⟨(0,none,none,[]),⟨azF _,C9⟩,rfl,axr⟩,?_⟩;clear aj aD aW C9 eD;rintro _ _ ⟨⟨i,cY,cU,ps⟩,⟨hi,dN⟩,rfl,rfl⟩;dsimp only at hi dN⊢;by_cases aB:i<q
  .have bU:=fS ae aB;have b4:=cV ae (cl i axs);have dm:ad.ez 25 25 (Int.ofNat i) q=true:=fZ ae aB;have gS:=cv ae (n:=i) axs;have e7:i<ds.length:=axs;obtain⟨vC,ed⟩:=GZ _ (azT e7);have kp:ad.aF .eql ds[i].d'.k 3=decide (ds[i].k=3):=(eX ae).1 _ _;have fe:ad.aF .eql ds[i].d'.k 1=decide (ds[i].k=1):=(eX ae).1 _ _;have oV:=as7 code e7;have q3:=as8 e7;obtain⟨k4,Ai,xW⟩:=dN.p;have axi:(jq code (ds.take i)).length<=16384:=by
    unfold jq;rw[azG];have:=aCh nA (ds.take i);rw[aAT]at this;omega
   have axj:(iH (ds.take i)).length<=16384:=by
    unfold iH;rw[azG];have:=aCh jK (ds.take i);rw[aAT]at this;omega
   have axk:ps.length<=16384:=by rw[Ai,azG];omega
   have GK:jK ds[i]=decide (ds[i].k=3):=rfl;have GL:nA ds[i]=!decide (ds[i].k=3):=rfl;have dM:=dN.n;have mr:=dN.s;have oO:ds[i].n=ds[i].d'.n:=rfl;have AX:xV (Df code ds[i]).c24=xV ⟨ds[i].d'.n,decide (ds[i].k=1),ds[i].d'.bw,ds[i].d'.db,ds[i].d'.s1,ds[i].d'.s2,ds[i].d'.b1,ds[i].d'.pl,code ds[i]⟩:=rfl;cases a6:decide (ds[i].k=3)with
   |true=>
    rw[GL,a6]at oV;rw[GK,a6]at q3;have oV:jq code (ds.take (i+1))=jq code (ds.take i):=oV.trans (aBb _);have q3:iH (ds.take (i+1))=iH (ds.take i)++[ds[i].n]:=q3;have iA:∀(jF:Nat) (ea:List fb),jF=(iH (ds.take i)).length+1->ea=q2 (iH (ds.take i))++GY ds[i].n->Dg code ds (i+1) cY (some (jF,ea)) ps:=λjF ea h1 h2=>by
     refine⟨by rw[oV];exact dN.n,.inr ⟨by rw[q3,az6];exact aCz _,?_⟩,k4,Ai,by rw[oV];exact xW⟩;rw[q3,az6,as6,<-h2,h1];rfl
    rw[a6]at kp;rw[oO]at iA;clear dN GZ oV q3 AX fe ed;generalize ds[i].d'=w at*;obtain⟨cw,wn,C',Da,pR,vb,Db,⟨c1,c2,qY,c4,c5,eN,bT,e1,c9,fr,fa,X,eP,eT,eU,bB⟩,GN,GO⟩:=w;dsimp only at kp iA;unfold GY at iA;generalize (jq code (ds.take i)).length=kq at*;generalize q0 (jq code (ds.take i))=ny at*;generalize (iH (ds.take i)).length=m1 at*;generalize q2 (iH (ds.take i))=ea at*;have uf:ad.zj ea [.d (.str wn),.d (.int .u64 0),.d (.int .u64 0),.d (.int .u64 0),.d (.int .u64 0),.d (.int .u64 0),.d (.bool false),.d (.bool false),.d (.bool false),.d (.bool false),.d (.bool false),.nil 1]=some (ea++[.d (.str wn),.d (.int .u64 0),.d (.int .u64 0),.d (.int .u64 0),.d (.int .u64 0),.d (.int .u64 0),.d (.bool false),.d (.bool false),.d (.bool false),.d (.bool false),.d (.bool false),.nil 1]):=axz;have Dj:ad.lp m1 1=m1+1:=pI ae _ _;have M0:ad.zk 12 12 m1 1 1599289640401=true:=by subst ae;show(Nat.beq 12 12&&Nat.ble (m1+1) 1599289640401)=true;rw[aA4 axs];rfl
    have vI:=iA (m1+1) _ rfl rfl;obtain⟨m2,kM⟩:∃m2,m2=m1+1:=⟨_,rfl⟩;obtain⟨vq,Dk⟩:∃vq,vq=ea++[fb.d (.str wn),.d (.int .u64 0),.d (.int .u64 0),.d (.int .u64 0),.d (.int .u64 0),.d (.int .u64 0),.d (.bool false),.d (.bool false),.d (.bool false),.d (.bool false),.d (.bool false),.nil 1]:=⟨_,rfl⟩;rw[<-Dk]at uf vI;rw[<-kM]at Dj vI;rcases mr with⟨rfl,xN,uZ⟩|⟨_,rfl⟩
    .have M1:=iA 1 _ axs (by rw[uZ]);rcases dM with⟨rfl,_,_⟩|⟨_,rfl⟩
     all_goals
      conv=>cbv
      repeat' ((first|refine bG ?_|refine bH ?_|refine zq axG ?_|refine zr axG ?_|simp -proj only[r0,bU,b4,dm,gS,kp]|(split<;>(rename_i h;try simp only[h])))<;>conv=>cbv)
     all_goals exact eb (i+1,_,some (1,_),ps) ⟨aB,M1⟩ ayQ axr
    .rcases dM with⟨rfl,_,_⟩|⟨_,rfl⟩
     all_goals
      conv=>cbv
      repeat' ((first|refine bG ?_|refine bH ?_|refine zq axG ?_|refine zr axG ?_|simp -proj only[r0,bU,b4,dm,gS,kp,uf,Dj,M0]|(split<;>(rename_i h;try simp only[h])))<;>conv=>cbv)
     all_goals exact eb (i+1,_,some (m2,vq),ps) ⟨aB,vI⟩ ayQ axr
   |false=>
    rw[GL,a6]at oV;rw[GK,a6]at q3;have q3:iH (ds.take (i+1))=iH (ds.take i):=q3.trans (aBb _);have oV:jq code (ds.take (i+1))=jq code (ds.take i)++[Df code ds[i]]:=oV;have ac7:ad.app ps [int (Int.ofNat i)]=(k4++[Int.ofNat i]).map int:=by subst ae;rw[Ai,az5];rfl
    have iA:∀(jF:Nat) (ea:List fb),jF=(jq code (ds.take i)).length+1->ea=q0 (jq code (ds.take i))++xV (Df code ds[i]).c24->Dg code ds (i+1) (some (jF,ea)) cU (ad.app ps [int (Int.ofNat i)]):=λjF ea h1 h2=>by
     refine⟨.inr ⟨by rw[oV,az6];exact aCz _,?_⟩,by rw[q3];exact dN.s,k4++[Int.ofNat i],ac7,by rw[oV,az6,az6,xW];rfl⟩;rw[oV,az6,as4,<-h2,h1];rfl
    rw[a6]at kp;rw[AX]at iA;clear dN GZ oV q3 AX oO ac7;generalize ds[i].d'=w at*;generalize code ds[i]=atf at*;generalize decide (ds[i].k=1)=bq at*;obtain⟨cw,wn,C',Da,pR,vb,Db,⟨c1,c2,qY,c4,c5,eN,bT,e1,c9,fr,fa,X,eP,eT,eU,bB⟩,GN,GO⟩:=w;dsimp only at kp fe iA;generalize (jq code (ds.take i)).length=m1 at*;generalize q0 (jq code (ds.take i))=ea at*;generalize (iH (ds.take i)).length=kq at*;generalize q2 (iH (ds.take i))=ny at*;obtain⟨xX,M3⟩:∃xX,xX=xV ⟨wn,bq,C',Da,pR,vb,Db,⟨c1,c2,qY,c4,c5,eN,bT,e1,c9,fr,fa,X,eP,eT,eU,bB⟩,atf⟩:=⟨_,rfl⟩;have uf:ad.zj ea xX=some (ea++xX):=axz;have Dj:ad.lp m1 1=m1+1:=pI ae _ _;have M0:ad.zk 24 24 m1 1 366503875925=true:=by subst ae;show(Nat.beq 24 24&&Nat.ble (m1+1) 366503875925)=true;rw[aA4 axs];rfl
    rw[<-M3]at iA;have vI:=iA (m1+1) _ rfl rfl;obtain⟨m2,kM⟩:∃m2,m2=m1+1:=⟨_,rfl⟩;obtain⟨vq,Dk⟩:∃vq,vq=ea++xX:=⟨_,rfl⟩;rw[<-Dk]at uf vI;rw[<-kM]at Dj vI;rcases dM with⟨rfl,xN,uZ⟩|⟨_,rfl⟩
    .have M1:=iA 1 xX axs (by rw[uZ];exact(aAO _).symm);clear iA vI uf Dk;rcases mr with⟨rfl,_,_⟩|⟨_,rfl⟩
     all_goals
      conv=>cbv
      repeat' ((first|refine bG ?_|refine bH ?_|refine zq axG ?_|refine zr axG ?_|simp -proj only[r0,bU,b4,dm,gS,kp,fe]|(split<;>(rename_i h;try simp only[h])))<;>conv=>cbv)
     all_goals exact eb (i+1,some (1,xX),_,_) ⟨aB,M1⟩ ayQ (by rw[M3];kernel_rfl)
    .clear iA Dk;rw[M3]at uf;unfold xV Gq.cs at uf;simp only[aAh,aA8]at uf;rcases mr with⟨rfl,_,_⟩|⟨_,rfl⟩
     all_goals
      conv=>cbv
      repeat' ((first|refine bG ?_|refine bH ?_|refine zq axG ?_|refine zr axG ?_|simp -proj only[r0,bU,b4,dm,gS,kp,fe,uf,Dj,M0]|(split<;>(rename_i h;try simp only[h])))<;>conv=>cbv)
     all_goals exact eb (i+1,some (m2,vq),_,_) ⟨aB,vI⟩ ayQ axr
  .have bU:=f' ae aB;obtain⟨dM,mr,k4,Ai,xW⟩:Dg code ds q cY cU ps:=(show i=q by omega)▸dN;rw[aAP axs]at dM mr xW;clear dN GZ cl;have axl:=atd rfl;have axm:=ac5 ds;have axn:(iH ds).length=atg ds:=azG _;have oU:atg ds=(ds.filter jK).length:=rfl;have ath:(jq code ds).length=(ds.filter nA).length:=azG _;have rL:∀y∈jq code ds,y.b1.length<=33554432/\y.pl.w<=dS:=λy hy=>by
    obtain⟨x,ak,rfl⟩:=aAn.1 hy;have h1:=ED x (aCr.1 ak).1;have h2:x.w=1000+x.n.length+j' x.bw+jM x.b1+x.pl.w+x.fY.length+fH x.ms:=rfl;have av:x.b1.length*200<=jM x.b1:=MW _ _;have aZ:dS=1000000000:=rfl;exact⟨by show x.b1.length<=_;omega,by show x.pl.w<=_;omega⟩
   have qt:∀x∈ds,x.fY.length<=1073741824/\x.ms.length<=1073741824:=λx ak=>by
    have h1:=ED x ak;have h2:x.w=1000+x.n.length+j' x.bw+jM x.b1+x.pl.w+x.fY.length+fH x.ms:=rfl;have av:x.ms.length*200<=fH x.ms:=MW _ _;have aZ:dS=1000000000:=rfl;exact⟨axs,axs⟩
   have M4:ad.w7 (q0 (jq code ds))=some (gY (jq code ds)):=by subst ae;exact congrArg some (as3 _)
   have M5:ad.w7 (q2 (iH ds))=some (gi ((iH ds).map De)):=by subst ae;exact congrArg some (as5 _)
   have sX:∀y∈(iH ds).map De,y.ks=[]:=λy hy=>by
    obtain⟨x,_,rfl⟩:=aAn.1 hy;rfl
   have ac8:((iH ds).map De).length=(iH ds).length:=azG _;generalize jq code ds=l at*;generalize q2 (iH ds)=axo at*;generalize (iH ds).map De=aS at*;generalize (iH ds).length=ns at*;obtain⟨bL,k2⟩:∃bL,bL=l.length:=⟨_,rfl⟩;rw[<-k2]at dM xW ath;have vH:=C6 l;have oU:=ub aS;obtain⟨N,b9⟩:∃N,N=gY l:=⟨_,rfl⟩;obtain⟨S,eM⟩:∃S,S=gi aS:=⟨_,rfl⟩;rw[<-b9]at M4 vH;rw[<-eM]at M5 oU;generalize q0 l=axp at*;have ac9:eA aE=true->0<bL:=λh=>by have:=cB.symm.trans h;rw[k2];exact of_decide_eq_true this
   have M6:eA aE=false->bL=0:=λh=>by have:=cB.symm.trans h;have:=aCK this;omega
   have mA:eA iU=true->0<ns:=λh=>of_decide_eq_true (yq.symm.trans h);have cm:eA iU=false->ns=0:=λh=>by have:=aCK (yq.symm.trans h);omega
   have xN:cP.Ok ⟨L,t,bL,N,ps,ns,S,0,[],[],[],[]⟩:=⟨vH,oU,Ah,Ah,Ah,ac6⟩;have pf:eA aE=false->l=[]:=λh=>aCf.1 (by rw[<-k2];exact M6 h);have Bc:eA iU=false->aS=[]:=λh=>aCf.1 (by rw[ac8];exact cm h);obtain⟨gF,ati,kb,ac',oQ⟩:∃(a e:Int) (kb:List ag),Flat kb/\aM 49 [.ptr 0 0] ((⟨L,t,bL,N,ps,ns,S,0,[],[],[],[]⟩:cP).st (eA aE) (eA iU) false) (.tuple [.d (int a),.d (int e)]) ((⟨L,t,bL,N,ps,ns,kb,0,[],[],[],[]⟩:cP).st (eA aE) (eA iU) false):=by
    obtain⟨a,e,fN,_,h⟩:=aso ⟨L,t,bL,N,ps,ns,S,0,[],[],[],[]⟩ xN (eA aE) (eA iU) ds MZ axs l b9 k2.symm (show bL<=1073741824 by omega) pf aS eM ac8 (show ns<=1073741824 by omega) Bc axs axs sX qt (λy hy=>by have:=(rL y hy).1;omega);exact⟨a,e,gi fN,ub _,h⟩
   have Cv:∀kb,Flat kb->_:=λkb (xR:Flat kb)=>asM ⟨L,t,bL,N,ps,ns,kb,0,[],[],[],[]⟩ ⟨vH,xR,Ah,Ah,Ah,ac6⟩ (eA aE) (eA iU) l b9 k2.symm (show bL<=32 by omega) pf k4 Ai xW (λy hy=>(rL y hy).1);have EW:∀(kb ct cu cp:List ag) (P:List (Go.aJ.D×ag)),Flat kb->vG bL ⟨L,t,bL,N,ps,ns,kb,bL,ct,cu,cp,P⟩->∃(a e:Int) (lE:List ag),Flat lE/\aM 51 [.ptr 0 0] ((⟨L,t,bL,N,ps,ns,kb,bL,ct,cu,cp,P⟩:cP).st (eA aE) (eA iU) true) (.tuple [.d (int a),.d (int e)]) ((⟨L,t,bL,lE,ps,ns,kb,bL,ct,cu,cp,P⟩:cP).st (eA aE) (eA iU) true):=λkb ct cu cp P xR kz=>by
    obtain⟨a,e,bC,_,h⟩:=asT ⟨L,t,bL,N,ps,ns,kb,bL,ct,cu,cp,P⟩ ⟨vH,xR,kz.flat.1,kz.flat.2.1,kz.flat.2.2.1,kz.flat.2.2.2⟩ (eA aE) (eA iU) l b9 k2.symm (show bL<=32 by omega) pf k4 Ai xW (λy hy=>(rL y hy).1) (λy hy=>(rL y hy).2) kz;exact⟨a,e,gY bC,C6 _,h⟩
   obtain⟨bh,a2,a3⟩:=bA.of ae vH;obtain⟨bq,aR,bO⟩:=bA.of ae oU;clear rL qt sX cB yq MZ xN;dsimp only[cP.st,eh,eA]at oQ;rcases dM with⟨rfl,rC,_⟩|⟨rC,rfl⟩<;>rcases mr with⟨rfl,gu,_⟩|⟨gu,rfl⟩
   all_goals first
   |exact absurd (ac9 rfl) axs
   |exact absurd (M6 rfl) axs
   |exact absurd (mA rfl) axs
   |exact absurd (cm rfl) axs
   |skip
   conv=>cbv
   repeat' ((first|refine bG ?_|refine bH ?_|refine zq axG ?_|refine zr axG ?_|simp -proj only[bU,M4,M5,bh,a2,a3,bq,aR,bO]|(split<;>(rename_i h;try simp only[h])))<;>conv=>cbv)
   refine⟨b6 (λz:Nat×Bool×cP=>ata L z.2.2 (eA aE) (eA iU) z.2.1 z.1) (atb ⟨L,t,bL,N,ps,ns,S,0,[],[],[],[]⟩) (λz=>3-z.1),_,⟨(0,false,⟨L,t,bL,N,ps,ns,S,0,[],[],[],[]⟩),.inl rfl,rfl,axr⟩,?_⟩;clear M4 M5 bq aR bO bU Di ac9 M6 mA cm pf Bc;have ada:ad.aF .neq 0 0=false:=axz;have Di:∀e:Int,ad.aF .neq e 0=true->e≠0:=λe h h2=>by subst h2;rw[ada]at h;cases h
   have atj:∀e:Int,e≠0->ad.aF .neq e 0=true:=λe h=>by subst ae;show(!decide (e=0))=true;rw[aAg h];rfl
   rintro _ _ ⟨z,aQ,rfl,rfl⟩;rcases aQ with rfl|⟨kD,jO,rfl⟩|⟨kD,ct,cu,cp,P,jO,kz,rfl⟩|⟨lE,kD,ct,cu,cp,P,jO,l',kz,rfl⟩
   .dsimp only;obtain⟨bq,aR,bO⟩:=bA.of ae oU;obtain⟨c1,c2,c3⟩:=bA.of ae ac';have bU:=fS ae (a:=0) (b:=3) axs;have b4:ad.aF .lss 0 3=true:=bU;have gS:=cv ae (n:=0) axs;have kr:ad.io .add .i64 0 1=Int.ofNat 1:=gS;obtain⟨B,eD⟩:∃b,ad.aF .neq ati 0=b:=⟨_,rfl⟩;cases B with
    |true=>
     conv=>cbv
     repeat' ((first|refine bG ?_|refine bH ?_|simp -proj only[bU,b4,eD,bh,a2,a3,bq,aR,bO,c1,c2,c3]|(split<;>(rename_i h;try simp only[h])))<;>conv=>cbv)
     all_goals exact Dh _ _ _ (Di _ eD) axr
    |false=>
     conv=>cbv
     repeat' ((first|refine bG ?_|refine bH ?_|simp -proj only[bU,b4,gS,kr,eD,bh,a2,a3,bq,aR,bO,c1,c2,c3]|(split<;>(rename_i h;try simp only[h])))<;>conv=>cbv)
     all_goals exact eb (1,false,⟨L,t,bL,N,ps,ns,kb,0,[],[],[],[]⟩) (.inr (.inl ⟨kb,ac',rfl⟩)) (by show 3-1<3-0;omega) axr
   .dsimp only;clear oQ;obtain⟨bq,aR,bO⟩:=bA.of ae jO;have bU:=fS ae (a:=1) (b:=3) axs;have b4:ad.aF .lss 1 3=true:=bU;have gS:=cv ae (n:=1) axs;have kr:ad.io .add .i64 1 1=Int.ofNat 2:=gS;obtain⟨a,e,s,gp,sv⟩:=Cv kD jO;rcases gp with⟨he,rfl⟩|⟨rfl,ct,cu,cp,P,kz,rfl⟩
    .have eD:=atj e he;dsimp only[cP.st,eh,eA]at sv;conv=>cbv
     repeat' ((first|refine bG ?_|refine bH ?_|simp -proj only[bU,b4,eD,bh,a2,a3,bq,aR,bO]|(split<;>(rename_i h;try simp only[h])))<;>conv=>cbv)
     all_goals exact Dh _ _ _ he axr
    .obtain⟨tT,Aj,Ak,Al⟩:=kz.flat;obtain⟨c1,c2,c3⟩:=bA.of ae tT;obtain⟨d1,d2,d3⟩:=bA.of ae Aj;obtain⟨b0,b7,c7⟩:=bA.of ae Ak;obtain⟨cT,c8,du⟩:=lD.of ae Al;dsimp only[cP.st,cP.GX,eh,c6,eA]at sv c1 c2 c3 d1 d2 d3 b0 b7 c7 cT c8 du;conv=>cbv
     repeat' ((first|refine bG ?_|refine bH ?_|simp -proj only[bU,b4,gS,kr,ada,bh,a2,a3,bq,aR,bO,c1,c2,c3,d1,d2,d3,b0,b7,c7,cT,c8,du]|(split<;>(rename_i h;try simp only[h])))<;>conv=>cbv)
     all_goals exact eb (2,true,⟨L,t,bL,N,ps,ns,kD,bL,ct,cu,cp,P⟩) (.inr (.inr (.inl ⟨kD,ct,cu,cp,P,jO,kz,rfl⟩))) (by show 3-2<3-1;omega) axr
   .dsimp only;clear oQ Cv;obtain⟨a,e,lE,l',lI⟩:=EW kD ct cu cp P jO kz;obtain⟨tT,Aj,Ak,Al⟩:=kz.flat;obtain⟨bq,aR,bO⟩:=bA.of ae jO;obtain⟨c1,c2,c3⟩:=bA.of ae tT;obtain⟨d1,d2,d3⟩:=bA.of ae Aj;obtain⟨b0,b7,c7⟩:=bA.of ae Ak;obtain⟨cT,c8,du⟩:=lD.of ae Al;obtain⟨g',z2,z3⟩:=bA.of ae l';dsimp only[cP.st,eh,c6,eA]at lI c1 c2 c3 d1 d2 d3 b0 b7 c7 cT c8 du;have bU:=fS ae (a:=2) (b:=3) axs;have b4:ad.aF .lss 2 3=true:=bU;have gS:=cv ae (n:=2) axs;have kr:ad.io .add .i64 2 1=Int.ofNat 3:=gS;obtain⟨B,eD⟩:∃b,ad.aF .neq e 0=b:=⟨_,rfl⟩;cases B with
    |true=>
     conv=>cbv
     repeat' ((first|refine bG ?_|refine bH ?_|simp -proj only[bU,b4,eD,bh,a2,a3,bq,aR,bO,c1,c2,c3,d1,d2,d3,b0,b7,c7,cT,c8,du,g',z2,z3]|(split<;>(rename_i h;try simp only[h])))<;>conv=>cbv)
     all_goals exact Dh _ _ _ (Di _ eD) axr
    |false=>
     conv=>cbv
     repeat' ((first|refine bG ?_|refine bH ?_|simp -proj only[bU,b4,gS,kr,eD,bh,a2,a3,bq,aR,bO,c1,c2,c3,d1,d2,d3,b0,b7,c7,cT,c8,du,g',z2,z3]|(split<;>(rename_i h;try simp only[h])))<;>conv=>cbv)
     all_goals exact eb (3,true,⟨L,t,bL,lE,ps,ns,kD,bL,ct,cu,cp,P⟩) (.inr (.inr (.inr ⟨lE,kD,ct,cu,cp,P,jO,l',kz,rfl⟩))) (by show 3-3<3-2;omega) axr
   .dsimp only;clear oQ Cv EW bh a2 a3;obtain⟨tT,Aj,Ak,Al⟩:=kz.flat;obtain⟨bh,a2,a3⟩:=bA.of ae l';obtain⟨bq,aR,bO⟩:=bA.of ae jO;obtain⟨c1,c2,c3⟩:=bA.of ae tT;obtain⟨d1,d2,d3⟩:=bA.of ae Aj;obtain⟨b0,b7,c7⟩:=bA.of ae Ak;obtain⟨cT,c8,du⟩:=lD.of ae Al;dsimp only at c1 c2 c3 d1 d2 d3 b0 b7 c7 cT c8 du;have bU:=f' ae (a:=3) (b:=3) axs;have b4:ad.aF .lss 3 3=false:=bU;conv=>cbv
    repeat' ((first|refine bG ?_|refine bH ?_|simp -proj only[r0,bU,b4,bh,a2,a3,bq,aR,bO,c1,c2,c3,d1,d2,d3,b0,b7,c7,cT,c8,du]|(split<;>(rename_i h;try simp only[h])))<;>conv=>cbv)
    all_goals exact ate _ ⟨L,t,bL,lE,ps,ns,kD,bL,ct,cu,cp,P⟩ _ yz ⟨l',jO,tT,Aj,Ak,Al⟩ rfl axr
end Go.Proofs.YtmgpekpnidjfoaaGreatDoor
