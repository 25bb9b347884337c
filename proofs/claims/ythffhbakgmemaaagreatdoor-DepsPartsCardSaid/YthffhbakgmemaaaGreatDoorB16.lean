/- Part of parts_said. -/
import Derived.Test.YthffhbakgmemaaaGreatDoorB15
set_option maxRecDepth 100000
set_option maxHeartbeats 8000000
set_option linter.unusedSimpArgs false
set_option linter.unusedVariables false
namespace Go.Proofs.YthffhbakgmemaaaGreatDoor
open Go Go.aG
attribute [local irreducible] bD
def qO:cc:=.box [.func 67 [.ptr 0 0] [],.func 68 [.ptr 0 0] [],.func 69 [.ptr 0 0] []]
def bw.bm(m:bw):Bool->Bool->Bool->aY
 |true,true,false=>[dc m.L m.t m.ps (.aP 1 0 m.bf m.bf 24) (.aP 2 0 m.ns m.ns 12) (.d .dJ) (.d .h9),.box m.N,.box m.S,qO]
 |true,false,false=>[dc m.L m.t m.ps (.aP 1 0 m.bf m.bf 24) (.own 12 []) (.d .dJ) (.d .h9),.box m.N,qO]
 |false,true,false=>[dc m.L m.t m.ps (.own 24 []) (.aP 1 0 m.ns m.ns 12) (.d .dJ) (.d .h9),.box m.S,qO]
 |false,false,false=>[dc m.L m.t m.ps (.own 24 []) (.own 12 []) (.d .dJ) (.d .h9),qO]
 |true,true,true=>[dc m.L m.t m.ps (.aP 1 0 m.bf m.bf 24) (.aP 2 0 m.ns m.ns 12) (.ptr 7 0) (.map 9),.box m.N,.box m.S,qO,.box m.bI,.box m.bJ,.box m.bH,.box (cv 4 5 6 m.gn),.box [.ptr 7 0],.map m.P]
 |true,false,true=>[dc m.L m.t m.ps (.aP 1 0 m.bf m.bf 24) (.own 12 []) (.ptr 6 0) (.map 8),.box m.N,qO,.box m.bI,.box m.bJ,.box m.bH,.box (cv 3 4 5 m.gn),.box [.ptr 6 0],.map m.P]
 |false,true,true=>[dc m.L m.t m.ps (.own 24 []) (.aP 1 0 m.ns m.ns 12) (.ptr 6 0) (.map 8),.box m.S,qO,.box m.bI,.box m.bJ,.box m.bH,.box (cv 3 4 5 m.gn),.box [.ptr 6 0],.map m.P]
 |false,false,true=>[dc m.L m.t m.ps (.own 24 []) (.own 12 []) (.ptr 5 0) (.map 7),qO,.box m.bI,.box m.bJ,.box m.bH,.box (cv 2 3 4 m.gn),.box [.ptr 5 0],.map m.P]
def vv:Bool->Bool->List Nat
 |true,true=>[1,2,4,5,6,9]
 |true,false=>[1,3,4,5,8]
 |false,true=>[1,3,4,5,8]
 |false,false=>[2,3,4,7]
def avm(a c:Bool):Nat:=cond a 1 0+cond c 1 0+1
def avn(L:List Go.aG.D)(t:ax)(q i:Nat)(c a:Option (Nat×List fb))(ps:List Go.aG.D):ag:=cA [(0,.d (.list 25 L)),(2,.ptr 0 0),(37,.d (.list 25 L)),(38,.d (int (Int.ofNat q))),(39,.d (int (Int.ofNat i)))] [dc L t ps (ae9 24 c) (ae9 12 a) (.d .dJ) (.d .h9)]
structure En(code:cC->ax)(ds:List cC)(i:Nat)(cR cO:Option (Nat×List fb))(ps:List Go.aG.D):Prop where
 n:ae' cR (fA code (ds.take i)).length (r5 (fA code (ds.take i)))
 s:ae' cO (h7 (ds.take i)).length (r6 (h7 (ds.take i)))
 p:∃lK:List Int,ps=lK.map int/\lK.length=(fA code (ds.take i)).length
def avo(L:List Go.aG.D)(m:bw)(a c g:Bool)(j:Nat):ag:=cA [(0,.d (.list 25 L)),(2,.ptr 0 0),(105,.aP (avm a c) 0 3 3 1),(106,.d (int (Int.ofNat 3))),(107,.d (int (Int.ofNat j)))] (m.bm a c g)
def avp(T Q:List ah->Prop)(R:bw->Prop)(m:bw)(z:Nat×Bool×bw):Prop:=
 z=(0,false,m)\/(∃S,(Flat S/\Q S)/\z=(1,false,{m with S:=S}))\/(∃(S bI bJ bH:List ah) (P:List (Go.aG.D×ah)),(Flat S/\Q S)/\(tF m.bf {m with S:=S,gn:=m.bf,bI:=bI,bJ:=bJ,bH:=bH,P:=P}/\R {m with S:=S,gn:=m.bf,bI:=bI,bJ:=bJ,bH:=bH,P:=P})/\z=(2,true,{m with S:=S,gn:=m.bf,bI:=bI,bJ:=bJ,bH:=bH,P:=P}))\/
 (∃(N S bI bJ bH:List ah) (P:List (Go.aG.D×ah)),(Flat S/\Q S)/\T N/\(tF m.bf {m with S:=S,gn:=m.bf,bI:=bI,bJ:=bJ,bH:=bH,P:=P}/\R {m with S:=S,gn:=m.bf,bI:=bI,bJ:=bJ,bH:=bH,P:=P})/\z=(3,true,{m with N:=N,S:=S,gn:=m.bf,bI:=bI,bJ:=bJ,bH:=bH,P:=P}))
def Oz(l:List b1)(c:List cC)(S:List ah)(k:Nat):Prop:=∃a,S=gd a/\a.length=k/\(∀j (h:j<a.length) (d:j<(c.filter iJ).length),a[j].n=(c.filter iJ)[j].n)/\Oa l c a
structure OA(l:List b1)(ds:List cC)(aq hs:Bool)(m:bw):Prop where
 bf:m.bf=l.length
 N:∃bC,m.N=gB bC/\vu l bC
 ns:m.ns=(ds.filter iJ).length
 aq:aq=decide (0<m.bf)
 hs:hs=decide (0<m.ns)
 S:Oz l ds m.S m.ns
 g:tF m.bf m
 r:Ek m.bf l m
theorem tF.flat{n:Nat}{m:bw}(h:tF n m):Flat m.bI/\Flat m.bJ/\Flat m.bH/\po m.P:=by
 obtain⟨_,c,d,⟨g,_,a⟩,f⟩:=h;exact⟨c.flat,d.flat,by rw[a];exact ez _,f.flat⟩
theorem afa:∀a:List cC,(a.filter mN).length+(a.filter iJ).length=a.length
 |[]=>rfl
 |d::a=>by
  have f:=afa a;have h:mN d=!iJ d:=rfl;cases c:iJ d with
  |true=>rw[aE3 (by rw[h,c];decide),aEH c,aCU,aCU];omega
  |false=>rw[aEH (by rw[h,c];rfl),aE3 (by rw[c];decide),aCU,aCU];omega
theorem BB:Flat ([]:List ah):=λ_ h=>(aC5 h).elim
theorem afb:po []:=λ_ h=>(aC5 h).elim
set_option maxHeartbeats 16000000 in
theorem avq(ds:List cC)(lW:∀x∈ds,x.Good)(hw:hE ds<=dr)(rj:ds.length<=16384)(t:ax)(es:Int)(aC:aL 65 [.d (.list 25 (ds.map cC.d))] [] (.tuple [.d (.str t),.d (int es)]) [])
  (rI:es=0->∃a:Int,aL 45 [.d (.str t)] [] (.tuple [.d (.list 25 (ds.map cC.d)),.d (int a),.d (int 0)]) []):
  ∃(r:ah) (s:aY),((∃a e:Int,e≠0/\r=.tuple [.d .dJ,.d (int a),.d (int e)]/\s=[])\/(es=0/\∃(m:bw) (aq hs:Bool) (a:Int),(m.Ok/\m.t=t/\∃c,OA (fA c ds) ds aq hs m)/\r=.tuple [.ptr 0 0,.d (int a),.d (int 0)]/\s=m.bm aq hs true))/\aL 46 [.d (.list 25 (ds.map cC.d))] [] r s:=by
 obtain⟨b,bM,aj⟩:=arR ds az6;have OB:∀x,x∈ds->∃t:ax,∃e:Int,aL 66 [.d (.agg x.dX.cs)] [] (.tuple [.d (.str t),.d (int e)]) []:=λx G=>avf x (lW x G) (by have:hE [x]<=hE ds:=Ip G;omega);obtain⟨c,Ir⟩:∃c:cC->ax,∀x∈ds,∃e:Int,aL 66 [.d (.agg x.dX.cs)] [] (.tuple [.d (.str (c x)),.d (int e)]) []:=by
  classical
  exact⟨λx=>if h:x∈ds then Classical.choose (OB x h)else[],λx G=>by simp only[dif_pos G];exact aEv (OB x G)⟩
 have F3:∀x∈ds,x.w<=dr:=λx G=>by
  have h1:hE [x]<=hE ds:=Ip G;have af:hE [x]=200+x.w+0:=rfl;omega
 clear OB;have wX:(ds.map cC.d).length=ds.length:=aCv _;have bY:∀i (h:i<ds.length),(ds.map cC.d)[i]?=some (.agg ds[i].dX.cs):=λi h=>cY h;obtain⟨L,OC⟩:∃L,L=ds.map cC.d:=⟨_,rfl⟩;rw[<-OC]at aj aC rI wX bY⊢;obtain⟨aq,cd⟩:∃aq,aq=decide (0<(fA c ds).length):=⟨_,rfl⟩;obtain⟨hs,sA⟩:∃hs,hs=decide (0<(h7 ds).length):=⟨_,rfl⟩;refine Wu.iX (vv aq hs) _ λd ae aR ao=> ?_;have Eo:∀(a e:Int) (F:aY),e≠0->F=[]->aR (.tuple [.d .dJ,.d (int a),.d (int e)]) F:=λa e F h1 af=>ao _ _ (.inl ⟨a,e,h1,rfl,af⟩);have OD:∀(a:Int) (m:bw) (F:aY),es=0->m.Ok->m.t=t->OA (fA c ds) ds aq hs m->F=m.bm aq hs true->aR (.tuple [.ptr 0 0,.d (int a),.d (int 0)]) F:=λa m F bB h1 af aZ av=>ao _ _ (.inr ⟨bB,m,aq,hs,a,⟨h1,af,c,aZ⟩,rfl,av⟩);clear ao;have Ep:∀e:Int,d.aB .neq e 0=true->e≠0:=λe h af=>aBW;obtain⟨q,aS⟩:∃q,q=ds.length:=⟨_,rfl⟩;have r0:d.len L=q:=by subst ae;exact wX.trans aS.symm
 have C:h6 aq:=trivial;have E:h6 hs:=trivial;cases b with
 |true=>
  cases aq<;>cases hs;all_goals
   refine ak ?_
  all_goals exact Eo _ _ _ az' az5
 |false=>
 obtain⟨aB,hD⟩:∃b,d.aB .neq es 0=b:=⟨_,rfl⟩;cases aB with
 |true=>
  cases aq<;>cases hs;all_goals
   refine ak ?_
  all_goals exact Eo _ _ _ (Ep _ hD) az5
 |false=>
 have p2:=H9 ae hD;obtain⟨b',aX⟩:=rI p2;have y3:En c ds 0 none none []:=⟨.inl ⟨rfl,rfl,rfl⟩,.inl ⟨rfl,rfl,rfl⟩,[],rfl,rfl⟩;clear rI;cases aq<;>cases hs;all_goals
  refine ak ?_;refine⟨bX (λz:Nat×Option (Nat×List fb)×Option (Nat×List fb)×List Go.aG.D=>avn L t q z.1 z.2.1 z.2.2.1 z.2.2.2) (λz=>z.1<=q/\En c ds z.1 z.2.1 z.2.2.1 z.2.2.2) (λz=>q-z.1),_,⟨(0,none,none,[]),⟨aCu _,y3⟩,rfl,az5⟩,?_⟩;clear aj aC aX y3 hD;rintro _ _ ⟨⟨i,cR,cO,ps⟩,⟨hi,K⟩,rfl,rfl⟩;dsimp only at hi K⊢;by_cases ay:i<q
  .have b7:=ek ae ay;have cq:=cH ae (bY i az6);have dG:d.dS 25 25 (Int.ofNat i) q=true:=e7 ae ay;have jj:=b9 ae (n:=i) az6;have e8:i<ds.length:=az6;obtain⟨w5,ed⟩:=Ir _ (aCC e8);have pv:d.aB .eql ds[i].dX.k 3=decide (ds[i].k=3):=(eS ae).1 _ _;have lC:d.aB .eql ds[i].dX.k 1=decide (ds[i].k=1):=(eS ae).1 _ _;have B:=avk c e8;have H:=avl e8;obtain⟨lK,BD,y7⟩:=K.p;have cf:(fA c (ds.take i)).length<=16384:=by
    unfold fA;rw[aCv];have:=aEE mN (ds.take i);rw[aDk]at this;omega
   have cn:(h7 (ds.take i)).length<=16384:=by
    unfold h7;rw[aCv];have:=aEE iJ (ds.take i);rw[aDk]at this;omega
   have cr:ps.length<=16384:=by rw[BD,aCv];omega
   have Ia:iJ ds[i]=decide (ds[i].k=3):=rfl;have Ib:mN ds[i]=!decide (ds[i].k=3):=rfl;have di:=K.n;have jH:=K.s;have iq:ds[i].n=ds[i].dX.n:=rfl;have xN:y6 (Em c ds[i]).c24=y6 ⟨ds[i].dX.n,decide (ds[i].k=1),ds[i].dX.bm,ds[i].dX.c8,ds[i].dX.s1,ds[i].dX.s2,ds[i].dX.bV,ds[i].dX.pl,c ds[i]⟩:=rfl;cases bk:decide (ds[i].k=3)with
   |true=>
    rw[Ib,bk]at B;rw[Ia,bk]at H;have B:fA c (ds.take (i+1))=fA c (ds.take i):=B.trans (aDI _);have H:h7 (ds.take (i+1))=h7 (ds.take i)++[ds[i].n]:=H;have A:∀(jG:Nat) (k:List fb),jG=(h7 (ds.take i)).length+1->k=r6 (h7 (ds.take i))++Iq ds[i].n->En c ds (i+1) cR (some (jG,k)) ps:=λjG k h1 af=>by
     refine⟨by rw[B];exact K.n,.inr ⟨by rw[H,aCF];exact aFx _,?_⟩,lK,BD,by rw[B];exact y7⟩;rw[H,aCF,avj,<-af,h1];rfl
    rw[bk]at pv;rw[iq]at A;clear K Ir B H xN lC ed;generalize ds[i].dX=w at*;obtain⟨ct,wn,nC,oQ,hR,jM,Eh,⟨c1,c2,r2,c4,c5,eA,bQ,eQ,c9,e1,eR,aU,eD,eE,eF,bz⟩,Ie,Ig⟩:=w;dsimp only at pv A;unfold Iq at A;generalize (fA c (ds.take i)).length=hy at*;generalize r5 (fA c (ds.take i))=nz at*;generalize (h7 (ds.take i)).length=m1 at*;generalize r6 (h7 (ds.take i))=k at*;have dB:d.AN k [.d (.str wn),.d (.int .u64 0),.d (.int .u64 0),.d (.int .u64 0),.d (.int .u64 0),.d (.int .u64 0),.d (.bool false),.d (.bool false),.d (.bool false),.d (.bool false),.d (.bool false),.nil 1]=some (k++[.d (.str wn),.d (.int .u64 0),.d (.int .u64 0),.d (.int .u64 0),.d (.int .u64 0),.d (.int .u64 0),.d (.bool false),.d (.bool false),.d (.bool false),.d (.bool false),.d (.bool false),.nil 1]):=aAc;have jL:d.l3 m1 1=m1+1:=qt ae _ _;have u8:d.AO 12 12 m1 1 1599289640401=true:=by subst ae;show(Nat.beq 12 12&&Nat.ble (m1+1) 1599289640401)=true;rw[aDG az6];rfl
    have Z:=A (m1+1) _ rfl rfl;obtain⟨m2,ly⟩:∃m2,m2=m1+1:=⟨_,rfl⟩;obtain⟨vg,Er⟩:∃vg,vg=k++[fb.d (.str wn),.d (.int .u64 0),.d (.int .u64 0),.d (.int .u64 0),.d (.int .u64 0),.d (.int .u64 0),.d (.bool false),.d (.bool false),.d (.bool false),.d (.bool false),.d (.bool false),.nil 1]:=⟨_,rfl⟩;rw[<-Er]at dB Z;rw[<-ly]at jL Z;rcases jH with⟨rfl,tD,wm⟩|⟨_,rfl⟩
    .have OE:=A 1 _ az6 (by rw[wm]);rcases di with⟨rfl,_,_⟩|⟨_,rfl⟩
     all_goals
      refine ak ?_
     all_goals exact ea (i+1,_,some (1,_),ps) ⟨ay,OE⟩ aBx az5
    .rcases di with⟨rfl,_,_⟩|⟨_,rfl⟩
     all_goals
      refine ak ?_
     all_goals exact ea (i+1,_,some (m2,vg),ps) ⟨ay,Z⟩ aBx az5
   |false=>
    rw[Ib,bk]at B;rw[Ia,bk]at H;have H:h7 (ds.take (i+1))=h7 (ds.take i):=H.trans (aDI _);have B:fA c (ds.take (i+1))=fA c (ds.take i)++[Em c ds[i]]:=B;have bg:d.app ps [int (Int.ofNat i)]=(lK++[Int.ofNat i]).map int:=by subst ae;rw[BD,aCR];rfl
    have A:∀(jG:Nat) (k:List fb),jG=(fA c (ds.take i)).length+1->k=r5 (fA c (ds.take i))++y6 (Em c ds[i]).c24->En c ds (i+1) (some (jG,k)) cO (d.app ps [int (Int.ofNat i)]):=λjG k h1 af=>by
     refine⟨.inr ⟨by rw[B,aCF];exact aFx _,?_⟩,by rw[H];exact K.s,lK++[Int.ofNat i],bg,by rw[B,aCF,aCF,y7];rfl⟩;rw[B,aCF,avh,<-af,h1];rfl
    rw[bk]at pv;rw[xN]at A;clear K Ir B H xN iq bg;generalize ds[i].dX=w at*;generalize c ds[i]=bO at*;generalize decide (ds[i].k=1)=bq at*;obtain⟨ct,wn,nC,oQ,hR,jM,Eh,⟨c1,c2,r2,c4,c5,eA,bQ,eQ,c9,e1,eR,aU,eD,eE,eF,bz⟩,Ie,Ig⟩:=w;dsimp only at pv lC A;generalize (fA c (ds.take i)).length=m1 at*;generalize r5 (fA c (ds.take i))=k at*;generalize (h7 (ds.take i)).length=hy at*;generalize r6 (h7 (ds.take i))=nz at*;obtain⟨y8,OG⟩:∃y8,y8=y6 ⟨wn,bq,nC,oQ,hR,jM,Eh,⟨c1,c2,r2,c4,c5,eA,bQ,eQ,c9,e1,eR,aU,eD,eE,eF,bz⟩,bO⟩:=⟨_,rfl⟩;have dB:d.AN k y8=some (k++y8):=aAc;have jL:d.l3 m1 1=m1+1:=qt ae _ _;have u8:d.AO 24 24 m1 1 366503875925=true:=by subst ae;show(Nat.beq 24 24&&Nat.ble (m1+1) 366503875925)=true;rw[aDG az6];rfl
    rw[<-OG]at A;have Z:=A (m1+1) _ rfl rfl;obtain⟨m2,ly⟩:∃m2,m2=m1+1:=⟨_,rfl⟩;obtain⟨vg,Er⟩:∃vg,vg=k++y8:=⟨_,rfl⟩;rw[<-Er]at dB Z;rw[<-ly]at jL Z;rcases di with⟨rfl,tD,wm⟩|⟨_,rfl⟩
    .have OE:=A 1 y8 az6 (by rw[wm];exact(aDL _).symm);clear A Z dB Er;rcases jH with⟨rfl,_,_⟩|⟨_,rfl⟩
     all_goals
      refine ak ?_
     all_goals exact ea (i+1,some (1,y8),_,_) ⟨ay,OE⟩ aBx (by rw[OG];kernel_rfl)
    .clear A Er;rw[OG]at dB;unfold y6 wQ.cs at dB;simp only[aDe,aD2]at dB;rcases jH with⟨rfl,_,_⟩|⟨_,rfl⟩
     all_goals
      refine ak ?_
     all_goals exact ea (i+1,some (m2,vg),_,_) ⟨ay,Z⟩ aBx az5
  .have b7:=en ae ay;obtain⟨di,jH,lK,BD,y7⟩:En c ds q cR cO ps:=(show i=q by omega)▸K;rw[aDd az6]at di jH y7;clear K Ir bY;have cz:=bM rfl;have cB:=afa ds;have cD:(h7 ds).length=pA ds:=aCv _;have pG:pA ds=(ds.filter iJ).length:=rfl;have bR:(fA c ds).length=(ds.filter mN).length:=aCv _;have rl:∀y∈fA c ds,y.bV.length<=33554432/\y.pl.w<=dr/\y.bm.length<=1073741824:=λy v=>by
    obtain⟨x,G,rfl⟩:=aCY.1 v;have h1:=F3 x (aET.1 G).1;have af:x.w=1000+x.n.length+j8 x.bm+jN x.bV+x.pl.w+x.fZ.length+fl x.ms:=rfl;have av:x.bV.length*200<=jN x.bV:=El _ _;have bN:x.bm.length*200<=j8 x.bm:=El _ _;have aZ:dr=1000000000:=rfl;exact⟨by show x.bV.length<=_;omega,by show x.pl.w<=_;omega,by show x.bm.length<=_;omega⟩
   have p8:∀x∈ds,x.fZ.length<=1073741824/\x.ms.length<=1073741824:=λx G=>by
    have h1:=F3 x G;have af:x.w=1000+x.n.length+j8 x.bm+jN x.bV+x.pl.w+x.fZ.length+fl x.ms:=rfl;have av:x.ms.length*200<=fl x.ms:=El _ _;have aZ:dr=1000000000:=rfl;exact⟨az6,az6⟩
   have tg:d.yn (r5 (fA c ds))=some (gB (fA c ds)):=by subst ae;exact congrArg some (avg _)
   have qu:d.yn (r6 (h7 ds))=some (gd ((h7 ds).map xa)):=by subst ae;exact congrArg some (avi _)
   have o7:∀y∈(h7 ds).map xa,y.ks=[]:=λy v=>by
    obtain⟨x,_,rfl⟩:=aCY.1 v;rfl
   have OH:((h7 ds).map xa).length=(h7 ds).length:=aCv _;have bh:∀j (h:j<((h7 ds).map xa).length) (af:j<(ds.filter iJ).length),((h7 ds).map xa)[j].n=(ds.filter iJ)[j].n:=λj h af=>by simp[h7,xa]
   generalize fA c ds=l at*;generalize r6 (h7 ds)=cE at*;generalize (h7 ds).map xa=aP at*;generalize (h7 ds).length=ns at*;obtain⟨bf,U⟩:∃bf,bf=l.length:=⟨_,rfl⟩;rw[<-U]at di y7 bR;have w9:=Ee l;have pG:=vn aP;obtain⟨N,b4⟩:∃N,N=gB l:=⟨_,rfl⟩;obtain⟨S,eI⟩:∃S,S=gd aP:=⟨_,rfl⟩;rw[<-b4]at tg w9;rw[<-eI]at qu pG;generalize r5 l=cF at*;have bm:dj C=true->0<bf:=λh=>by have:=cd.symm.trans h;rw[U];exact of_decide_eq_true this
   have OI:dj C=false->bf=0:=λh=>by have:=cd.symm.trans h;have:=aFi this;omega
   have nk:dj E=true->0<ns:=λh=>of_decide_eq_true (sA.symm.trans h);have cj:dj E=false->ns=0:=λh=>by have:=aFi (sA.symm.trans h);omega
   obtain⟨T,ej⟩:∃T:List ah->Prop,T=λN=>∃bC,N=gB bC/\vu l bC:=⟨_,rfl⟩;have OJ:∀N,T N->Flat N:=by rw[ej];rintro _ ⟨bC,rfl,_⟩;exact Ee _
   have tD:bw.Ok ⟨L,t,bf,N,ps,ns,S,0,[],[],[],[]⟩:=⟨w9,pG,BB,BB,BB,afb⟩;have p5:dj C=false->l=[]:=λh=>aE2.1 (by rw[<-U];exact OI h);have HS:dj E=false->aP=[]:=λh=>aE2.1 (by rw[OH];exact cj h);obtain⟨gJ,bn,f,br,OL,lF⟩:∃(a e:Int) (f:List ah),Flat f/\(e=0->Oz l ds f ns)/\aL 67 [.ptr 0 0] ((⟨L,t,bf,N,ps,ns,S,0,[],[],[],[]⟩:bw).st (dj C) (dj E) false) (.tuple [.d (int a),.d (int e)]) ((⟨L,t,bf,N,ps,ns,f,0,[],[],[],[]⟩:bw).st (dj C) (dj E) false):=by
    obtain⟨a,e,fN,⟨X,V,Y⟩,h⟩:=auu ⟨L,t,bf,N,ps,ns,S,0,[],[],[],[]⟩ tD (dj C) (dj E) ds OC az6 l b4 U.symm (show bf<=1073741824 by omega) p5 aP eI OH (show ns<=1073741824 by omega) HS az6 az6 o7 p8 (λy v=>by have:=(rl y v).1;omega);exact⟨a,e,gd fN,vn _,λhe=>⟨fN,rfl,X.trans OH,λj h1 af=>(V j az6 h1).trans (bh j az6 af),Y he⟩,h⟩
   have OM:∀f,Flat f->_:=λf (y1:Flat f)=>auU ⟨L,t,bf,N,ps,ns,f,0,[],[],[],[]⟩ ⟨w9,y1,BB,BB,BB,afb⟩ (dj C) (dj E) l b4 U.symm (show bf<=32 by omega) p5 lK BD y7 (λy v=>(rl y v).1);have Gk:∀(f p u o:List ah) (P:List (Go.aG.D×ah)),Flat f->tF bf ⟨L,t,bf,N,ps,ns,f,bf,p,u,o,P⟩->∃(a e:Int) (mb:List ah),T mb/\aL 69 [.ptr 0 0] ((⟨L,t,bf,N,ps,ns,f,bf,p,u,o,P⟩:bw).st (dj C) (dj E) true) (.tuple [.d (int a),.d (int e)]) ((⟨L,t,bf,mb,ps,ns,f,bf,p,u,o,P⟩:bw).st (dj C) (dj E) true):=λf p u o P y1 g=>by
    obtain⟨a,e,bC,ON,h⟩:=au5 ⟨L,t,bf,N,ps,ns,f,bf,p,u,o,P⟩ ⟨w9,y1,g.flat.1,g.flat.2.1,g.flat.2.2.1,g.flat.2.2.2⟩ (dj C) (dj E) l b4 U.symm (show bf<=32 by omega) p5 lK BD y7 (λy v=>(rl y v).1) (λy v=>(rl y v).2.1) (λy v=>(rl y v).2.2) g;exact⟨a,e,gB bC,by rw[ej];exact⟨bC,rfl,ON⟩,h⟩
   obtain⟨bp,a2,a3⟩:=aV.of ae w9;obtain⟨bq,aT,b3⟩:=aV.of ae pG;have bt:ns=(ds.filter iJ).length:=az6;have bu:dj E=decide (0<ns):=sA;have bE:dj C=decide (0<bf):=by rw[U];exact cd
   obtain⟨aI,Q⟩:∃aI:List ah->Prop,aI=λS=>Oz l ds S ns:=⟨_,rfl⟩;obtain⟨ar,J⟩:∃ar:bw->Prop,ar=λm=>Ek bf l m:=⟨_,rfl⟩;have bU:∀m:bw,Ek bf l m->ar m:=by rw[J];exact λ_ h=>h
   replace OD:∀(a:Int) (m:bw) (F:aY),m.Ok->m.t=t->m.bf=bf->m.ns=ns->T m.N->aI m.S->tF bf m->ar m->F=m.bm _ _ true->aR (.tuple [.ptr 0 0,.d (int a),.d (int 0)]) F:=λa m F h1 af av aZ hX bN cT hK gL=>OD a m F p2 h1 af ⟨av.trans U,by rw[ej]at hX;exact hX,aZ.trans bt,by rw[av];exact bE,by rw[aZ];exact bu,by rw[Q]at bN;rw[aZ];exact bN,by rw[av];exact cT,by rw[J]at hK;rw[av];exact hK⟩ gL;replace OL:bn=0->aI f:=by rw[Q];exact OL
   have bV:∀(m:bw) (N:List ah),ar m->ar {m with N:=N}:=by rw[J];exact λ_ _ h=>⟨h.ne,h.ae3⟩
   clear Q J ej bh bt bu bE;clear rl p8 o7 cd sA OC tD;dsimp only[bw.st,dc,dj]at lF;rcases di with⟨rfl,sI,_⟩|⟨sI,rfl⟩<;>rcases jH with⟨rfl,gw,_⟩|⟨gw,rfl⟩
   all_goals first
   |exact absurd (bm rfl) az6
   |exact absurd (OI rfl) az6
   |exact absurd (nk rfl) az6
   |exact absurd (cj rfl) az6
   |skip
   refine ak ?_;refine⟨bX (λz:Nat×Bool×bw=>avo L z.2.2 (dj C) (dj E) z.2.1 z.1) (avp T aI ar ⟨L,t,bf,N,ps,ns,S,0,[],[],[],[]⟩) (λz=>3-z.1),_,⟨(0,false,⟨L,t,bf,N,ps,ns,S,0,[],[],[],[]⟩),.inl rfl,rfl,az5⟩,?_⟩;clear tg qu bq aT b3 b7 Ep bm OI nk cj p5 HS;have gE:d.aB .neq 0 0=false:=aAc;have Ep:∀e:Int,d.aB .neq e 0=true->e≠0:=λe h af=>by subst af;rw[gE]at h;cases h
   have b0:∀e:Int,e≠0->d.aB .neq e 0=true:=λe h=>by subst ae;show(!decide (e=0))=true;rw[aC3 h];rfl
   rintro _ _ ⟨z,aM,rfl,rfl⟩;rcases aM with rfl|⟨R,⟨M,Q⟩,rfl⟩|⟨R,p,u,o,P,⟨M,Q⟩,⟨g,J⟩,rfl⟩|⟨mb,R,p,u,o,P,⟨M,Q⟩,ma,⟨g,J⟩,rfl⟩
   .dsimp only;obtain⟨bq,aT,b3⟩:=aV.of ae pG;obtain⟨c1,c2,c3⟩:=aV.of ae br;have b7:=ek ae (a:=0) (b:=3) az6;have cq:d.aB .lss 0 3=true:=b7;have jj:=b9 ae (n:=0) az6;have mu:d.io .add .i64 0 1=Int.ofNat 1:=jj;obtain⟨aB,hD⟩:∃b,d.aB .neq bn 0=b:=⟨_,rfl⟩;cases aB with
    |true=>
     refine ak ?_;exact Eo _ _ _ (Ep _ hD) az5
    |false=>
     refine ak ?_;exact ea (1,false,⟨L,t,bf,N,ps,ns,f,0,[],[],[],[]⟩) (.inr (.inl ⟨f,⟨br,OL (H9 ae hD)⟩,rfl⟩)) (by show 3-1<3-0;omega) az5
   .dsimp only;clear lF;obtain⟨bq,aT,b3⟩:=aV.of ae M;have b7:=ek ae (a:=1) (b:=3) az6;have cq:d.aB .lss 1 3=true:=b7;have jj:=b9 ae (n:=1) az6;have mu:d.io .add .i64 1 1=Int.ofNat 2:=jj;obtain⟨a,e,s,gu,jq⟩:=OM R M;rcases gu with⟨he,rfl⟩|⟨rfl,p,u,o,P,⟨g,vr⟩,rfl⟩
    .have hD:=b0 e he;dsimp only[bw.st,dc,dj]at jq;refine ak ?_;exact Eo _ _ _ he az5
    .have J:=bU _ vr;clear vr;obtain⟨X,V,Y,BE⟩:=g.flat;obtain⟨c1,c2,c3⟩:=aV.of ae X;obtain⟨d1,d2,d3⟩:=aV.of ae V;obtain⟨bP,bZ,cx⟩:=aV.of ae Y;obtain⟨cb,cp,cy⟩:=fU.of ae BE;dsimp only[bw.st,bw.Io,dc,cv,dj]at jq c1 c2 c3 d1 d2 d3 bP bZ cx cb cp cy;refine ak ?_;exact ea (2,true,⟨L,t,bf,N,ps,ns,R,bf,p,u,o,P⟩) (.inr (.inr (.inl ⟨R,p,u,o,P,⟨M,Q⟩,⟨g,J⟩,rfl⟩))) (by show 3-2<3-1;omega) az5
   .dsimp only;clear lF OM;obtain⟨a,e,mb,ma,oh⟩:=Gk R p u o P M g;obtain⟨X,V,Y,BE⟩:=g.flat;obtain⟨bq,aT,b3⟩:=aV.of ae M;obtain⟨c1,c2,c3⟩:=aV.of ae X;obtain⟨d1,d2,d3⟩:=aV.of ae V;obtain⟨bP,bZ,cx⟩:=aV.of ae Y;obtain⟨cb,cp,cy⟩:=fU.of ae BE;obtain⟨hl,z2,z3⟩:=aV.of ae (OJ _ ma);dsimp only[bw.st,dc,cv,dj]at oh c1 c2 c3 d1 d2 d3 bP bZ cx cb cp cy;have b7:=ek ae (a:=2) (b:=3) az6;have cq:d.aB .lss 2 3=true:=b7;have jj:=b9 ae (n:=2) az6;have mu:d.io .add .i64 2 1=Int.ofNat 3:=jj;obtain⟨aB,hD⟩:∃b,d.aB .neq e 0=b:=⟨_,rfl⟩;cases aB with
    |true=>
     refine ak ?_;exact Eo _ _ _ (Ep _ hD) az5
    |false=>
     refine ak ?_;exact ea (3,true,⟨L,t,bf,mb,ps,ns,R,bf,p,u,o,P⟩) (.inr (.inr (.inr ⟨mb,R,p,u,o,P,⟨M,Q⟩,ma,⟨g,J⟩,rfl⟩))) (by show 3-3<3-2;omega) az5
   .dsimp only;clear lF OM Gk bp a2 a3;obtain⟨X,V,Y,BE⟩:=g.flat;obtain⟨bp,a2,a3⟩:=aV.of ae (OJ _ ma);obtain⟨bq,aT,b3⟩:=aV.of ae M;obtain⟨c1,c2,c3⟩:=aV.of ae X;obtain⟨d1,d2,d3⟩:=aV.of ae V;obtain⟨bP,bZ,cx⟩:=aV.of ae Y;obtain⟨cb,cp,cy⟩:=fU.of ae BE;dsimp only at c1 c2 c3 d1 d2 d3 bP bZ cx cb cp cy;have b7:=en ae (a:=3) (b:=3) az6;have cq:d.aB .lss 3 3=false:=b7;refine ak ?_;exact OD _ ⟨L,t,bf,mb,ps,ns,R,bf,p,u,o,P⟩ _ ⟨OJ _ ma,M,X,V,Y,BE⟩ rfl rfl rfl ma Q ⟨g.gn,g.bI,g.bJ,g.bH,g.P⟩ (bV _ _ J) az5
end Go.Proofs.YthffhbakgmemaaaGreatDoor
