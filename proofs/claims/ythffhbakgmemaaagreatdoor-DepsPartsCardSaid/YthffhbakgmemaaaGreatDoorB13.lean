/- Part of parts_said. -/
import Derived.Test.YthffhbakgmemaaaGreatDoorB12
set_option maxRecDepth 100000
set_option maxHeartbeats 8000000
set_option linter.unusedSimpArgs false
set_option linter.unusedVariables false
namespace Go.Proofs.YthffhbakgmemaaaGreatDoor
open Go Go.aG
attribute [local irreducible] bD
theorem aue{a:bd}(h:a=bd.bU){l:List b1}{i:Nat}(hi:i<l.length):a.l0 (gB l) (i*24+3) 3=.d (.agg [int l[i].k,int l[i].a,int l[i].b]):=by
 unfold gB;rw[Um h (yY l) aBV az',Ed];rfl
def y2(l:List b1)(k:Nat)(c:k<l.length):Prop:=(∀z∈l[k].bV,∃i,nB l z.a i true)/\(∀j (a:j<k),(l[j]' az6).n≠l[k].n)/\vq l[k].a l[k].b
def auf(m:bw)(g:Bool)(n:ax)(s:Bool)(l:List Go.aG.D)(k a b:Int)(d:List Go.aG.D)(c:dO)(f:ax)(q j:Nat):ag:=lZ [(0,.ptr 0 0),(5,.dw 5 0),(47,.d (.list 4 d)),(48,.d (int (Int.ofNat q))),(49,.d (int (Int.ofNat j)))] [(5,(wQ.cs ⟨n,s,l,k,a,b,d,c,f⟩).map .d)] (m.st true g false)
theorem aug(m:bw)(F:m.Ok)(hs:Bool)(l:List b1)(g:m.N=gB l)(Q:l.length=m.bf)(au:m.bf<=1073741824)(k:Nat)(hk:k<l.length)(hi:l[k].bV.length<=1073741824):
  ∃e:Int,(e=0->y2 l k hk)/\aL 101 [.ptr 0 0,.d (int (Int.ofNat k))] (m.st true hs false) (.d (int e)) (m.st true hs false):=by
 suffices h:∃ai o,(∃e:Int,(e=0->y2 l k hk)/\ai=.d (int e)/\o=m.st true hs false)/\aL 101 [.ptr 0 0,.d (int (Int.ofNat k))] (m.st true hs false) ai o by
  obtain⟨_,_,⟨e,h1,rfl,rfl⟩,h⟩:=h;exact⟨e,h1,h⟩
 have tE:=λbC=>Br m F true hs false l g Q au (λh=>aAb) bC;obtain⟨L,ar,u,N,ps,ns,S,gn,Y,Z,X,P⟩:=m;dsimp only at g Q au;obtain⟨G,bR,vr,aj⟩:=tE l[k].n;obtain⟨aQ,_,aC⟩:=rR l[k].bm;obtain⟨p,nZ,aX⟩:=N5 l[k].k l[k].a l[k].b
 have aR:(∀z∈l[k].bV,∃i,nB l z.a i true)->¬G<k->p=0->y2 l k hk:=λbB h av=>⟨bB,λj R=>by
  rcases vr with⟨_,h1,af,aZ⟩|⟨_,_,av⟩
  .exact aZ j az6
  .exact absurd rfl (av _ (aCC hk)),nZ av⟩
 refine YF.iX (dP true hs false) _ λa ae aN c=> ?_;replace c:∀(e:Int) (o:aY),(e=0->y2 l k hk)->o=(⟨L,ar,u,N,ps,ns,S,gn,Y,Z,X,P⟩:bw).st true hs false->aN (.d (int e)) o:=λe o h1 af=>c _ _ ⟨e,h1,rfl,af⟩;obtain⟨bp,a2,a3⟩:=aV.of ae F.N;obtain⟨bq,aT,b3⟩:=aV.of ae F.S;dsimp only at bp a2 a3 bq aT b3;have t1:a.dS 24 24 (Int.ofNat k) u=true:=e7 ae az6;have t2:=kf ae k 24;have t3:a.ha (k*24) 24 N true=true:=by rw[g];exact r1 ae hk (j:=0) (n:=24) az'
 have t4:a.l0 N (k*24) 24=.d (.agg l[k].c24.cs):=by rw[g];exact HW ae hk
 have aS:∀(i:Nat) (h:i<l.length),a.dS 24 24 (Int.ofNat i) u=true/\a.ha (i*24+3) 3 N true=true/\a.l0 N (i*24+3) 3=.d (.agg [int l[i].k,int l[i].a,int l[i].b]):=λi h=>⟨e7 ae az6,by rw[g];exact r1 ae h az',by rw[g];exact aue ae h⟩;have N6:(l[k].bV.map ef).length=l[k].bV.length:=aCv _;have Eg:∀i (h:i<l[k].bV.length),(l[k].bV.map ef)[i]?=some (ef l[k].bV[i]):=λi h=>cY h;have aU:∀j,a.sub (l[k].bV.map ef) 0 (Int.ofNat j)=(l[k].bV.take j).map ef:=λj=>by subst ae;show(List.drop 0 _).take (j-0)=_;rw[aFW,aFa,List.map_take]
 have U:=λ(j:Nat) (y:jo)=>at0 (l[k].bV.take j) aAG y;clear vr;generalize y2 l k hk=r at*;generalize l[k]=x at*;obtain⟨n,s,bm,J,K,M,d,pl,bu⟩:=x;unfold b1.c24 at t4;dsimp only at*;generalize bM:d.map ef=jR at*;generalize bm.map bF=r3 at*;generalize pl.bz=C at*;obtain⟨c1,c2,r2,c4,c5,eA,bQ,eQ,c9,e1,eR,aP,eD,eE,eF,bz⟩:=C;obtain⟨q,N7⟩:∃q,q=d.length:=⟨_,rfl⟩;have r0:a.len jR=q:=by subst ae;exact N6.trans N7.symm
 have aF:h6 hs:=trivial;have fy:h6 s:=trivial;generalize k*24=w4 at*;obtain⟨bg,hD⟩:∃b,a.aB .lss (Int.ofNat G) (Int.ofNat k)=b:=⟨_,rfl⟩;obtain⟨w,u8⟩:∃b,a.aB .neq aQ 0=b:=⟨_,rfl⟩;obtain⟨bh,lC⟩:∃b,a.aB .neq p 0=b:=⟨_,rfl⟩;have B:∀e:Int,a.aB .neq e 0=true->e=0->r:=λe h af=>aBW;have bk:(13:Int)=0->r:=λh=>absurd h az';have V:(14:Int)=0->r:=λh=>absurd h az';cases bg with
 |true=>
  cases hs;all_goals
   dsimp only[bw.st,dP,dc]at c aj⊢;refine ak ?_
  all_goals exact c _ _ V az5
 |false=>
 have Am:¬G<k:=λh=>by rw[ek ae h]at hD;cases hD
 by_cases E:s=true/\w=true
 .obtain⟨rfl,rfl⟩:=E;cases hs;all_goals
   dsimp only[bw.st,dP,dc]at c aj⊢;refine ak ?_
  all_goals exact c _ _ (B _ u8) az5
 cases bh with
 |true=>
  cases s<;>cases w<;>try exact absurd ⟨rfl,rfl⟩ E
  all_goals
   cases hs;all_goals
    dsimp only[bw.st,dP,dc]at c aj⊢;refine ak ?_
   all_goals exact c _ _ (B _ lC) az5
 |false=>
 have bn:p=0:=by subst ae;have h:(!decide (p=0))=false:=lC;simpa using h
 cases s<;>cases w<;>try exact absurd ⟨rfl,rfl⟩ E
 all_goals
  cases hs;all_goals
   dsimp only[bw.st,dP,dc]at c aj⊢;refine ak ?_;refine⟨bX (λj=>auf ⟨L,ar,u,N,ps,ns,S,gn,Y,Z,X,P⟩ (dj aF) n (dj fy) r3 J K M jR ⟨c1,c2,r2,c4,c5,eA,bQ,eQ,c9,e1,eR,aP,eD,eE,eF,bz⟩ bu q j) (λj=>j<=q/\∀z∈d.take j,∃i,nB l z.a i true) (λj=>q-j),_,⟨0,⟨aCu _,λz h=>by simp at h⟩,rfl,az5⟩,?_⟩;rintro _ _ ⟨j,⟨R,v⟩,rfl,rfl⟩;dsimp only at R v⊢;by_cases t:j<q
   .have b7:=ek ae t;have cq:=cH ae (Eg j az6);have dG:a.dS 4 4 (Int.ofNat j) q=true:=e7 ae t;have rv:a.mC true 0 (Int.ofNat j) (Int.ofNat q) q=true:=qH ae (aCu _) az6 (aCw _);have Aa:=aU j;have jj:=b9 ae (n:=j) az6;have fK:d.take (j+1)=d.take j++[d[j]' az6]:=by rw[aDg,aCB az6];rfl
    obtain⟨i,H,A,lF⟩:=tE (d[j]' az6).a;obtain⟨br,zL⟩:=U j (d[j]' az6);have N2:H=true->∀z∈d.take (j+1),∃i,nB l z.a i true:=λh z aM=>by
     rw[fK]at aM;rcases aC9.1 aM with aM|aM
     .exact v z aM
     .rw[aCS.1 aM];subst h;exact⟨i,A⟩
    have f:H=true->i<l.length:=λh=>by
     rcases A with⟨_,h1,_⟩|⟨h1,_⟩
     .exact h1
     .rw[h]at h1;cases h1
    clear fK A U;dsimp only[bw.st,dc]at lF;generalize (d[j]' az6)=y at*;obtain⟨cb,cp,cy,kG⟩:=y;unfold ef vp at*;dsimp only at*;generalize (d.take j).map ef=bU at*;cases H with
    |false=>
     refine ak ?_;exact c _ _ bk az5
    |true=>
    cases br with
    |true=>
     refine ak ?_;exact c _ _ V az5
    |false=>
    obtain⟨w1,eG,jw⟩:=aS i (f rfl);have b5:=kf ae i 24;have ni:a.l3 (i*24) 3=i*24+3:=qt ae _ _;obtain⟨aO,em⟩:=aud cp cy J K M (l[i]'(f rfl)).k (l[i]'(f rfl)).a (l[i]'(f rfl)).b;obtain⟨bt,pv⟩:∃b,a.aB .neq aO 0=b:=⟨_,rfl⟩;generalize (l[i]'(f rfl)).k=bN at*;generalize (l[i]'(f rfl)).a=bO at*;generalize (l[i]'(f rfl)).b=bE at*;generalize i*24=aB at*;generalize aB+3=bY at*;cases bt with
    |true=>
     refine ak ?_;exact c _ _ (B _ pv) az5
    |false=>
     refine ak ?_;repeat' (split<;>refine ak ?_)
     all_goals exact ea (j+1) ⟨t,N2 rfl⟩ (by show q-(j+1)<q-j;omega) az5
   .have b7:=en ae t;have yc:r:=aR (by rw[aDd az6]at v;exact v) Am bn;refine ak ?_;exact c _ _ (λ_=>yc) az5
theorem N9{g:Type}(p:g->Bool):∀(a:List g) (i:Nat) (h:i<a.length),p a[i]=true->∃k:((a.take i).filter p).length<(a.filter p).length,(a.filter p)[((a.take i).filter p).length]=a[i]
 |d::a,0,_,hp=>by
  have hp:p d=true:=hp;have:(d::a).filter p=d::a.filter p:=aEH hp;simp only[aF1,List.filter_nil,aDm,this];exact⟨aFy _,rfl⟩
 |d::a,i+1,h,hp=>by
  obtain⟨h1,c⟩:=N9 p a i (aGb h) hp;cases f:p d with
  |true=>
   simp only[aE5,aEH f,aCU,aFV];exact⟨aFz h1,c⟩
  |false=>
   have j:¬p d=true:=by rw[f];decide
   simp only[aE5,aE3 j,aFV];exact⟨h1,c⟩
theorem aeI{c:Type}(p:c->Bool){a:List c}{i:Nat}(h:i<a.length):((a.take (i+1)).filter p).length=((a.take i).filter p).length+(if p a[i]=true then 1 else 0):=by
 rw[aDg,aCB h,aE1,aCF];show _+([a[i]].filter p).length=_;cases hp:p a[i]with
 |true=>rw[aEH hp];rfl
 |false=>rw[aE3 (by rw[hp];decide)];rfl
theorem H9{a:bd}(h:a=bd.bU){e:Int}(au:a.aB .neq e 0=false):e=0:=by
 subst h;have au:(!decide (e=0))=false:=au;cases c:decide (e=0)with
 |true=>exact of_decide_eq_true c
 |false=>rw[c]at au;cases au
def iJ(d:cC):Bool:=decide (d.k=3)
def mN(d:cC):Bool:=!decide (d.k=3)
structure H'(l:List b1)(ds:List cC)(aP:List hr)(i:Nat)(a b:Nat)(fN:List hr):Prop where
 bn:a=((ds.take i).filter mN).length
 au:b=((ds.take i).filter iJ).length
 len:fN.length=aP.length
 nm:∀j (h:j<aP.length),(fN[j]' az6).n=aP[j].n
 todo:∀j (h:j<aP.length),b<=j->(fN[j]' az6).ks=[]
 done:∀j (h:j<aP.length) (af:j<(ds.filter iJ).length),j<b->HY l (ds.filter iJ)[j] (fN[j]' az6)
 nodes:∀j (h:j<l.length),j<a->y2 l j h
structure Oa(l:List b1)(ds:List cC)(fN:List hr):Prop where
 done:∀j (h:j<fN.length) (af:j<(ds.filter iJ).length),HY l (ds.filter iJ)[j] fN[j]
 nodes:∀j (h:j<l.length),y2 l j h
def aut(m:bw)(c d:Bool)(L:List Go.aG.D)(a b q i:Nat):ag:=cA [(0,.ptr 0 0),(4,.d (int (Int.ofNat a))),(5,.d (int (Int.ofNat b))),(12,.d (.list 25 L)),(13,.d (int (Int.ofNat q))),(14,.d (int (Int.ofNat i)))] (m.st c d false)
theorem auu(m:bw)(g:m.Ok)(aq hs:Bool)(c:List cC)(bx:m.L=c.map cC.d)(rj:c.length<=1073741824)(l:List b1)(Z:m.N=gB l)(Y:l.length=m.bf)(au:m.bf<=1073741824)(bB:aq=false->l=[])(aP:List hr)(eI:m.S=gd aP)(jT:aP.length=m.ns)(oj:m.ns<=1073741824)(aU:hs=false->aP=[])
  (hZ:(c.filter mN).length=l.length) (bh:(c.filter iJ).length=aP.length) (N0:∀y∈aP,y.ks=[]) (ai:∀x∈c,x.fZ.length<=1073741824/\x.ms.length<=1073741824) (hi:∀y∈l,y.bV.length<=1073741824):
  ∃(a e:Int) (f:List hr),(f.length=aP.length/\(∀j (h:j<aP.length) (af:j<f.length),f[j].n=aP[j].n)/\(e=0->Oa l c f))/\aL 67 [.ptr 0 0] (m.st aq hs false) (.tuple [.d (int a),.d (int e)]) (({m with S:=gd f}:bw).st aq hs false):=by
 refine G8 ?_;have X:=λhs (k:Nat) (P:k<l.length) (S:List ah) (V:Flat S)=>aug {m with S:=S} ⟨g.N,V,g.bI,g.bJ,g.bH,g.P⟩ hs l Z Y au k P (hi _ (aCC P));have M:=λ(f:List hr) (o:f.length=aP.length) (k:Nat) (P:k<f.length) (af:f[k].ks=[]) (x:cC) (Ly:x∈c)=>atM {m with S:=gd f} ⟨g.N,vn _,g.bI,g.bJ,g.bH,g.P⟩ aq l Z Y au bB f rfl (o.trans jT) oj k P af x (ai x Ly).1 (ai x Ly).2;obtain⟨L,aN,bf,N,ps,ns,S,gn,bI,bJ,bH,ar⟩:=m;dsimp only at Z Y au eI jT oj bx X M;subst bx;have wX:(c.map cC.d).length=c.length:=aCv _;have bY:∀i (h:i<c.length),(c.map cC.d)[i]?=some (.agg c[i].dX.cs):=λi h=>cY h;generalize c.map cC.d=L at*;refine aav.iX (dP aq hs false) _ λt ae aQ u=> ?_;replace u:∀(a e:Int) (f:List hr) (s':aY),(f.length=aP.length/\(∀j (h:j<aP.length) (af:j<f.length),f[j].n=aP[j].n)/\(e=0->Oa l c f))->s'=(⟨L,aN,bf,N,ps,ns,gd f,gn,bI,bJ,bH,ar⟩:bw).st aq hs false->aQ (.tuple [.d (int a),.d (int e)]) s':=λa e y s' h1 af=>u _ _ ⟨a,e,y,h1,rfl,af⟩;obtain⟨bp,a2,a3⟩:=aV.of ae g.N;obtain⟨bq,aT,b3⟩:=aV.of ae g.S;dsimp only at bp a2 a3 bq aT b3;obtain⟨q,aS⟩:∃q,q=c.length:=⟨_,rfl⟩;have r0:t.len L=q:=by subst ae;exact wX.trans aS.symm
 have y3:H' l c aP 0 0 0 aP:=⟨rfl,rfl,rfl,λ_ _=>rfl,λj h _=>N0 _ (aCC h),λ_ _ _ h=>absurd h (aDs _),λ_ _ h=>absurd h (aDs _)⟩;have aF:h6 aq:=trivial;have fy:h6 hs:=trivial;have cd:∀(e:Int) (Q:Prop),t.aB .neq e 0=true->e=0->Q:=λe Q h af=>aBW;cases aq<;>cases hs;all_goals
  dsimp only[bw.st,dP,dc]at u⊢;refine ak ?_;refine⟨bX (λz:Nat×Nat×Nat×List ah=>aut ⟨L,aN,bf,N,ps,ns,z.2.2.2,gn,bI,bJ,bH,ar⟩ (dj aF) (dj fy) L z.2.1 z.2.2.1 q z.1) (λz=>z.1<=q/\∃f,z.2.2.2=gd f/\H' l c aP z.1 z.2.1 z.2.2.1 f) (λz=>q-z.1),_,⟨(0,0,0,S),⟨aCu _,aP,eI,y3⟩,rfl,az5⟩,?_⟩;clear bq aT b3 y3;rintro _ _ ⟨⟨i,a,b,S⟩,⟨aI,f,A,d⟩,rfl,rfl⟩;dsimp only at aI A d⊢;have V:Flat S:=by rw[A];exact vn _
  obtain⟨bq,aT,b3⟩:=aV.of ae V;by_cases C:i<q
  .have b7:=ek ae C;have cq:=cH ae (bY i az6);have dG:t.dS 25 25 (Int.ofNat i) q=true:=e7 ae C;have jj:=b9 ae (n:=i) az6;have mu:=b9 ae (n:=a) (by have:=d.bn;have:=aEE mN (c.take i);rw[aDk]at this;omega);have ry:=b9 ae (n:=b) (by have:=d.au;have:=aEE iJ (c.take i);rw[aDk]at this;omega);have E:i<c.length:=az6;have hn:=aCC E;have s:=aeI mN E;have v:=aeI iJ E;have G:=N9 mN c i E;have F:=N9 iJ c i E;rw[<-d.bn]at s;rw[<-d.au]at v;simp only[<-d.bn]at G;simp only[<-d.au]at F;have bm:c[i].dX.k=c[i].k:=rfl;have Ia:iJ c[i]=decide (c[i].k=3):=rfl;have Ib:mN c[i]=!decide (c[i].k=3):=rfl;have r:t.aB .eql c[i].dX.k 3=decide (c[i].k=3):=(eS ae).1 _ _;rw[Ia]at v F;rw[Ib]at s G;cases K:decide (c[i].k=3)with
   |true=>
    rw[K]at v s r;obtain⟨hj,eh⟩:=F K;have uk:b<aP.length:=az6;first
    |exact absurd (aU rfl▸uk) (aDs _)
    |skip
    all_goals
     obtain⟨e,y,⟨aZ,aB⟩,H⟩:=M f d.len b (by rw[d.len];exact uk) (d.todo b uk (aCw _)) c[i] hn;rw[<-A]at H;obtain⟨U,R⟩:∃U,U=gd (f.set b y):=⟨_,rfl⟩;rw[<-R]at H;have N3:Flat U:=by rw[R];exact vn _
     obtain⟨hl,z2,z3⟩:=aV.of ae N3;have iq:∀j (h:j<aP.length) (af:j<(f.set b y).length),(f.set b y)[j].n=aP[j].n:=λj h _=>by
      rw[List.getElem_set];by_cases J:b=j
      .subst J;rw[aCT rfl,aZ];exact d.nm b h
      .rw[aCV J];exact d.nm j h
     have s7:e=0->H' l c aP (i+1) a (b+1) (f.set b y):=λo=>⟨s.symm,v.symm,by rw[aDE];exact d.len,λj h=>iq j h (by rw[aDE,d.len];exact h),λj h J=>by
       rw[List.getElem_set_ne az6];exact d.todo j h az6,λj h af J=>by
       by_cases aC:b=j
       .subst aC;rw[aGk,eh];exact aB o
       .rw[List.getElem_set_ne aC];exact d.done j h af az6,d.nodes⟩
     have uf:(f.set b y).length=aP.length:=by rw[aDE];exact d.len
     clear M X F G aB eh;generalize c[i].dX=w at*;obtain⟨ct,wn,nC,oQ,hR,jM,Eh,⟨c1,c2,r2,c4,c5,eA,bQ,eQ,c9,e1,eR,aR,eD,eE,eF,bz⟩,Ie,Ig⟩:=w;dsimp only[bw.st,dc]at H;dsimp only at r;obtain⟨B,p⟩:∃b,t.aB .neq e 0=b:=⟨_,rfl⟩;cases B with
     |true=>
      conv=>cbv
      repeat' ((first|refine dD ?_|refine dE ?_|simp -proj only[r0,b7,cq,dG,r,p,ry,bp,a2,a3,bq,aT,b3,hl,z2,z3]|(split<;>(rename_i h;try simp only[h])))<;>conv=>cbv)
      exact u _ _ (f.set b y) _ ⟨uf,iq,cd _ _ p⟩ (by(try rw[<-R]);try kernel_rfl)
     |false=>
      have o:e=0:=H9 ae p;conv=>cbv
      repeat' ((first|refine dD ?_|refine dE ?_|simp -proj only[r0,b7,cq,dG,jj,r,p,ry,bp,a2,a3,bq,aT,b3,hl,z2,z3]|(split<;>(rename_i h;try simp only[h])))<;>conv=>cbv)
      exact fixF (i+1,a,b+1,U) ⟨C,_,R,s7 o⟩
   |false=>
    rw[K]at v s r;obtain⟨bn,p1⟩:=G (by rw[K];rfl);have aM:a<l.length:=az6;first
    |exact absurd (bB rfl▸aM) (aDs _)
    |skip
    all_goals
     obtain⟨e,bg,H⟩:=X (dj fy) a aM S V
     have s7:e=0->H' l c aP (i+1) (a+1) b f:=λo=>⟨s.symm,v.symm,d.len,d.nm,d.todo,d.done,λj h NP=>by
       by_cases aC:j=a
       .subst aC;exact bg o
       .exact d.nodes j h az6⟩
     clear M X F G;generalize c[i].dX=w at*;obtain⟨ct,wn,nC,oQ,hR,jM,Eh,⟨c1,c2,r2,c4,c5,eA,bQ,eQ,c9,e1,eR,aR,eD,eE,eF,bz⟩,Ie,Ig⟩:=w;dsimp only[bw.st,dc,dj]at H;dsimp only at r;obtain⟨B,p⟩:∃b,t.aB .neq e 0=b:=⟨_,rfl⟩;cases B with
     |true=>
      refine ak ?_;exact u _ _ f _ ⟨d.len,λj h _=>d.nm j h,cd _ _ p⟩ (by(try rw[<-A]);try kernel_rfl)
     |false=>
      have o:e=0:=H9 ae p;conv=>cbv
      repeat' ((first|refine dD ?_|refine dE ?_|simp -proj only[r0,b7,cq,dG,jj,r,p,mu,bp,a2,a3,bq,aT,b3]|(split<;>(rename_i h;try simp only[h])))<;>conv=>cbv)
      exact fixF (i+1,a+1,b,S) ⟨C,_,A,s7 o⟩
  .have b7:=en ae C;refine ak ?_;refine u _ 0 f _ ⟨d.len,λj h _=>d.nm j h,λ_=>⟨λj h af=>d.done j (by rw[d.len]at h;exact h) af ?_,λj h=>d.nodes j h ?_⟩⟩ (by(try rw[<-A]);try kernel_rfl)
   .have:=d.au;rw[aDd az6]at this;omega
   .have:=d.bn;rw[aDd az6]at this;omega
def nD(l:List b1)(x:b1):List Int:=x.bV.map λz=>oP l z.a
def auz(m:bw)(a:Bool)(c:List Go.aG.D)(q j:Nat)(R:List Go.aG.D):ag:=cA [(0,.ptr 0 0),(5,.own 1 R),(11,.d (.list 4 c)),(12,.d (int (Int.ofNat q))),(13,.d (int (Int.ofNat j)))] (m.st true a false)
theorem auA(m:bw)(k:m.Ok)(hs:Bool)(l:List b1)(r:m.N=gB l)(p:l.length=m.bf)(au:m.bf<=1073741824)(x:b1)(hi:x.bV.length<=1073741824):
  aL 102 [.ptr 0 0,.d (.agg x.c24.cs)] (m.st true hs false) (.d (.list 1 ((nD l x).map int))) (m.st true hs false):=by
 have u:=λai=>Br m k true hs false l r p au (λh=>aAb) ai;obtain⟨L,t,J,N,Z,X,S,Q,G,H,F,P⟩:=m;dsimp only at r p au;refine YH.fX (dP true hs false) λf ae ao d=> ?_;obtain⟨bp,a2,a3⟩:=aV.of ae k.N;obtain⟨bq,aT,b3⟩:=aV.of ae k.S;dsimp only at bp a2 a3 bq aT b3;have w:(x.bV.map ef).length=x.bV.length:=aCv _;have v:∀i (h:i<x.bV.length),(x.bV.map ef)[i]?=some (ef x.bV[i]):=λi h=>cY h;have U:∀j (h:j<x.bV.length),((x.bV.take (j+1)).map λz=>oP l z.a).map int=((x.bV.take j).map λz=>oP l z.a).map int++[int (oP l x.bV[j].a)]:=λj h=>by
  rw[aDg,aCB h,aCR,aCR];rfl
 unfold nD at d;obtain⟨n,aP,K,Bt,H7,H8,c,Y,aM⟩:=x;dsimp only[b1.c24]at*;generalize aB:c.map ef=s at*;generalize K.map bF=r3 at*;generalize Y.bz=C at*;obtain⟨c1,c2,r2,c4,c5,eA,bQ,eQ,c9,e1,eR,ar,eD,eE,eF,bz⟩:=C;obtain⟨q,A⟩:∃q,q=c.length:=⟨_,rfl⟩;have r0:f.len s=q:=by subst ae;exact w.trans A.symm
 have B:h6 hs:=trivial;cases hs;all_goals
  dsimp only[bw.st,dP,dc]at d⊢;refine ak ?_;refine⟨bX (λz:Nat×List Go.aG.D=>auz ⟨L,t,J,N,Z,X,S,Q,G,H,F,P⟩ (dj B) s q z.1 z.2) (λz=>z.1<=q/\z.2=((c.take z.1).map λz=>oP l z.a).map int) (λz=>q-z.1),_,⟨(0,[]),⟨aCu _,rfl⟩,rfl,az5⟩,?_⟩;rintro _ _ ⟨⟨j,R⟩,⟨E,a⟩,rfl,rfl⟩;dsimp only at E a⊢;by_cases g:j<q
  .have b7:=ek ae g;have cq:=cH ae (v j az6);have dG:f.dS 4 4 (Int.ofNat j) q=true:=e7 ae g;have jj:=b9 ae (n:=j) az6;have o:=U j az6;obtain⟨i,ok,M,V⟩:=u (c[j]' az6).a;rw[<-a,<-M.eq]at o;have oa:R.length<=1073741824:=by rw[a,aCv,aCv,aDk];omega
   have mu:f.app R [int (Int.ofNat i)]=R++[int (Int.ofNat i)]:=aAc;rw[<-mu]at o;dsimp only[bw.st,dc,dj]at V;generalize (c[j]' az6)=y at*;obtain⟨cb,cp,cy,kG⟩:=y;unfold ef at*;dsimp only at*;clear u mu;refine ak ?_;exact fixF (j+1,f.app R [int (Int.ofNat i)]) ⟨g,o.symm⟩
  .have b7:=en ae g;rw[aDd az6]at a;rw[<-a]at d;refine ak ?_;exact bS d az5 az5
theorem aeL{n i:Nat}(h:i<n):gp n (Int.ofNat i)=true:=aCl
theorem auB{l:List b1}(h:0<l.length)(v:ax):gp l.length (oP l v)=true:=by
 unfold oP;cases a:l.findIdx? (λx=>decide (x.n=v))with
 |none=>exact aeL (i:=0) h
 |some i=>exact aeL (aEt.1 a).1
def kt(s:List Int):List (Go.aG.D×ah):=s.map λk=>(int k,.d (.bool true))
theorem aeM(s:List Int):po (kt s):=λe a=>by
 obtain⟨k,_,rfl⟩:=aCY.1 a;exact⟨_,rfl⟩
theorem aeN(k:Int):∀(s:List Int) (i:Nat),(k∉s/\e4 false [1] (int k) (kt s) i=some none)\/(k∈s/\∃j,j<s.length/\e4 false [1] (int k) (kt s) i=some (some (i+j)))
 |[],i=>.inl ⟨aC5,rfl⟩
 |t::s,i=>by
  have d:e4 false [1] (int k) (kt (t::s)) i=(match some (decide (k=t)&&true)with|some true=>some (some i)|some false=>e4 false [1] (int k) (kt s) (i+1)|none=>none):=rfl;cases a:decide (k=t)with
  |true=>
   refine .inr ⟨by rw[of_decide_eq_true a];exact aDa,0,aFy _,?_⟩;rw[d,a];rfl
  |false=>
   have g:=aFi a;rw[d,a];rcases aeN k s (i+1)with⟨h1,c⟩|⟨h1,j,c,f⟩
   .exact .inl ⟨λh=>by rcases aCJ.1 h with h|h;exact g h;exact h1 h,c⟩
   .exact .inr ⟨aDu _ h1,j+1,aFz c,by rw[show i+(j+1)=i+1+j by omega];exact f⟩
theorem auC{a:bd}(f:a=bd.bU)(s:List Int)(k:Int):(k∈s/\a.yr false [1] (int k) (kt s)=some (some (.d (.bool true))))\/(k∉s/\a.yr false [1] (int k) (kt s)=some none/\a.yt false [1] (int k) (.d (.bool true)) (kt s)=some (kt (s++[k]))):=by
 subst f;show(_/\tc false [1] (int k) (kt s)=_)\/(_/\tc false [1] (int k) (kt s)=_/\rL false [1] (int k) _ (kt s)=_);unfold tc rL;rcases aeN k s 0 with⟨h1,d⟩|⟨h1,j,d,g⟩
 .rw[d];refine .inr ⟨h1,rfl,?_⟩;show some (kt s++[_])=_;unfold kt;rw[aCR];rfl
 .rw[g];refine .inl ⟨h1,?_⟩;have c:0+j<(kt s).length:=by unfold kt;rw[aCv];omega
  have l:∀e∈kt s,e.2=.d (.bool true):=λe m=>by
   obtain⟨k,_,rfl⟩:=aCY.1 m;rfl
  simp only[aCB c];rw[l _ (aCC c)]
def mO:List (List Int)->Nat->List Int->Nat
 |[],_,_=>0
 |l::ls,i,s=>(if Int.ofNat i∈s then 0 else l.length)+mO ls (i+1) s
theorem aeO(k:Nat):∀(ls:List (List Int)) (i:Nat) (s:List Int),k<i->mO ls i (s++[Int.ofNat k])=mO ls i s
 |[],_,_,_=>rfl
 |l::ls,i,s,h=>by
  show(if _∈s++[_]then 0 else l.length)+_=(if _∈s then 0 else l.length)+_;rw[aeO k ls (i+1) s az6];have:(Int.ofNat i∈s++[Int.ofNat k])↔Int.ofNat i∈s:=by
   rw[aC9,aCS];exact⟨λa=>a.elim id λc=>absurd (aEG c) az6,.inl⟩
  simp only[this]
theorem aeP(k:Nat):∀(ls:List (List Int)) (i:Nat) (s:List Int) (h1:i<=k) (a:k-i<ls.length),Int.ofNat k∉s->mO ls i (s++[Int.ofNat k])+ls[k-i].length=mO ls i s
 |l::ls,i,s,h1,a,h=>by
  show(if _∈s++[_]then 0 else l.length)+mO ls (i+1) _+_=(if _∈s then 0 else l.length)+mO ls (i+1) s;by_cases e:i=k
  .subst e;rw[aeO i ls (i+1) s az6,aCT (aC7 _ (aCS.2 rfl)),aCV h];have:(l::ls)[i-i]=l:=by simp only[Nat.sub_self,aGh]
   rw[this];omega
  .have g:=aeP k ls (i+1) s az6 aCm h;have f:(Int.ofNat i∈s++[Int.ofNat k])↔Int.ofNat i∈s:=by
    rw[aC9,aCS];exact⟨λa=>a.elim id λd=>absurd (aEG d) az6,.inl⟩
   have c:(l::ls)[k-i]=ls[k-(i+1)]' aCm:=by
    have:k-i=k-(i+1)+1:=az6;simp only[this,aFV]
   rw[c];simp only[f];omega
theorem aeQ:∀(ls:List (List Int)) (i:Nat) (s:List Int),(∀l∈ls,l.length<=33554432)->mO ls i s<=ls.length*33554432
 |[],_,_,_=>aCu _
 |l::ls,i,s,h=>by
  have h1:=aeQ ls (i+1) s λx a=>h x (aDu _ a);have c:=h l aDa;show(if _ then 0 else l.length)+_<=(ls.length+1)*33554432;split<;>omega
def w6(V:ah)(l:List Int):Prop:=(V=.gH 1/\l=[])\/V=.own 1 (l.map int)
theorem w6.own(l:List Int):w6 (iL 1 (l.map int)) l:=by
 cases l with
 |nil=>exact .inl ⟨rfl,rfl⟩
 |cons x l=>exact .inr rfl
def Ob(m:bw)(a:Bool)(i:Nat)(d:List Go.aG.D)(c:Nat)(V:ah)(es:List (Go.aG.D×ah)):ag:=cA [(1,.d (int (Int.ofNat i))),(2,.d (.list 1 d)),(7,.map c),(8,V)] (m.st true a false++[.map es])
theorem auD(L:List Go.aG.D)(c:L.length<=1073741824):aL 156 [.d (.list 1 L)] [] (.own 1 L) []:=by
 cases L with
 |nil=>
  refine Mw.ct λd ae Q a=> ?_;conv=>cbv
  subst ae;refine⟨?_,?_⟩;all_goals first|exact bS a az5 az5|exact⟨az5,bS a az5 az5⟩
 |cons x L=>
  refine Mw.ct λd ae Q a=> ?_;have af:L.length+1<=1073741824:=c;refine ak ?_
  (subst ae;exact bS a az5 az5)
theorem auE(m:bw)(Q:m.Ok)(hs:Bool)(ls:List (List Int))(n:Nat)(hZ:ls.length=n)(aq:n<=32)(r4:∀l∈ls,kR n l/\l.length<=33554432)(i:Nat)(hi:i<n):
  ∃b:Bool,aL 104 [.ptr 0 0,.d (int (Int.ofNat i)),.d (.list 1 (ls.map λl=>Go.aG.D.list 1 (l.map int)))] (m.st true hs false) (.d (.bool b)) (m.st true hs false):=by
 refine hb ?_;obtain⟨L,ai,K,N,Z,X,S,M,H,J,G,P⟩:=m;have aQ:(ls.map λl=>Go.aG.D.list 1 (l.map int)).length=ls.length:=aCv _;have Oc:∀i (h:i<ls.length),(ls.map λl=>Go.aG.D.list 1 (l.map int))[i]?=some (.list 1 (ls[i].map int)):=λi h=>cY h;generalize (ls.map λl=>Go.aG.D.list 1 (l.map int))=V at*;refine aaJ.iX (dP true hs false++[cond hs 3 2]) _ λa ae aP g=> ?_;replace g:∀(b:Bool) (d:aY),d=(⟨L,ai,K,N,Z,X,S,M,H,J,G,P⟩:bw).st true hs false->aP (.d (.bool b)) d:=λb d h=>g _ _ ⟨b,rfl,h⟩;obtain⟨bp,a2,a3⟩:=aV.of ae Q.N;obtain⟨bq,aT,b3⟩:=aV.of ae Q.S;dsimp only at bp a2 a3 bq aT b3;have r0:a.len V=n:=by subst ae;exact aQ.trans hZ
 have e8:i<ls.length:=az6;have t1:a.dS 1 1 (Int.ofNat i) n=true:=e7 ae hi;have t2:=cH ae (Oc i e8);have qd:=r4 _ (aCC e8);have aj:=auD (ls[i].map int) aA2;have Ih:=aeQ ls 0 [] λl h=>(r4 l h).2;have sC:mO ls 0 []+ls[i].length<=33*33554432:=by
  have:ls.length*33554432<=32*33554432:=aDi _ az6;omega
 generalize bh:ls[i]=nj at*;obtain⟨c1,c2,c3⟩:=fU.of ae (C:=[]) (λe he=>by cases he);have fH:a.len []=0:=aAc;have q1:a.aB .gtr (Int.ofNat 0) 0=false:=by rw[(eS ae).2.2.2];rfl
 have zQ:∀c,a.aB .gtr (Int.ofNat (c+1)) 0=true:=λc=>by rw[(eS ae).2.2.2];exact aCI (aDN.2 (aFy c))
 have u:kR n nj:=qd.1;have o:h6 hs:=trivial;generalize A:nj.map int=L0 at*;cases hs;all_goals
  dsimp only[bw.st,dP,dc]at g⊢;refine ak ?_;refine⟨bX (λz:ah×List Int×List Int=>Ob ⟨L,ai,K,N,Z,X,S,M,H,J,G,P⟩ (dj o) i V (cond (dj o) 3 2) z.1 (kt z.2.2)) (λz=>w6 z.1 z.2.1/\kR n z.2.1/\mO ls 0 z.2.2+z.2.1.length<=33*33554432) (λz=>mO ls 0 z.2.2+z.2.1.length),_,⟨(.own 1 L0,nj,[]),⟨.inr (by rw[A]),u,sC⟩,rfl,az5⟩,?_⟩;clear c1 c2 c3 aj t1 t2 A sC Ih u qd;rintro _ _ ⟨⟨aU,l,s⟩,⟨jf,u,Q⟩,rfl,rfl⟩;dsimp only at jf u Q⊢;obtain⟨c1,c2,c3⟩:=fU.of ae (aeM s);have vt:=auC ae s;have ar:=aeP (s:=s) (ls:=ls) (i:=0);have Od:∀(E:ah) (p d:List Int),w6 E p->kR n p->mO ls 0 d+p.length<mO ls 0 s+l.length->∀{st:ag},st=Ob ⟨L,ai,K,N,Z,X,S,M,H,J,G,P⟩ (dj o) i V (cond (dj o) 3 2) E (kt d)->∃m,m<mO ls 0 s+l.length/\bX (λz:ah×List Int×List Int=>Ob ⟨L,ai,K,N,Z,X,S,M,H,J,G,P⟩ (dj o) i V (cond (dj o) 3 2) z.1 (kt z.2.2)) (λz=>w6 z.1 z.2.1/\kR n z.2.1/\mO ls 0 z.2.2+z.2.1.length<=33*33554432) (λz=>mO ls 0 z.2.2+z.2.1.length) m st:=λE p d h1 af av _ h=>ea (E,p,d) ⟨h1,af,by show mO ls 0 d+p.length<=_;omega⟩ av h;generalize p2:kt s=es at*;rcases jf with⟨rfl,rfl⟩|rfl
  .refine ak ?_;exact g false _ az5
  cases l with
  |nil=>
   refine ak ?_;exact g false _ az5
  |cons x rest=>
   obtain⟨k,CL,rfl⟩:=pC (u x aDa);have t':kR n rest:=λz aM=>u z (aDu _ aM);obtain⟨R,r⟩:∃R,R=rest.map int:=⟨_,rfl⟩;have oa:R.length=rest.length:=by rw[r];exact aCv _
   have ot:(Int.ofNat k::rest).length=rest.length+1:=rfl;obtain⟨c,az⟩:∃c,c=rest.length+1:=⟨_,rfl⟩;have uY:a.len (int (Int.ofNat k)::R)=c:=by subst ae;show R.length+1=c;omega
   have cI:a.aB .gtr (Int.ofNat c) 0=true:=by rw[az];exact zQ _
   have d':a.dS 1 1 0 c=true:=e7 ae (i:=0) az6;have l4:a.get (int (Int.ofNat k)::R) 0=int (Int.ofNat k):=aAc;have jz:a.LB true 1 (int (Int.ofNat k)::R)=true:=by
    have hX:(1:Int)<=((int (Int.ofNat k)::R).length:Nat):=by rw[show(int (Int.ofNat k)::R).length=R.length+1 from rfl];omega
    subst ae;show(true&&decide ((0:Int)<=1)&&decide ((1:Int)<=((int (Int.ofNat k)::R).length:Nat))&&true)=true;rw[aCI hX];rfl
   have jn:a.Dh 1 (int (Int.ofNat k)::R) 1=iL 1 R:=aAc;have jL:a.dS 1 1 (Int.ofNat k) n=true:=e7 ae CL;have qu:=cH ae (Oc k az6);have Bw:=r4 _ (aCC (show k<ls.length by omega));have nc:=ar k (aCu _) (show k-0<ls.length by omega);simp only[aFa]at nc;obtain⟨bi,Oe⟩:∃b,a.aB .eql (Int.ofNat k) (Int.ofNat i)=b:=⟨_,rfl⟩;have Og:=vt (Int.ofNat k);clear vt ar r4 Oc;generalize (ls[k]' az6)=f at*;have Cq:(Int.ofNat k::rest).map int=int (Int.ofNat k)::R:=by rw[r];rfl
   rw[Cq];clear Cq;have B:=λ(ay:ah) (ej:w6 ay rest)=>@Od ay rest s ej t' az6;have aB:kR n (rest++f):=λz aM=>(aC9.1 aM).elim (t' z) (Bw.1 z);obtain⟨j,w⟩:∃j,j=f.map int:=⟨_,rfl⟩;have bg:j.length=f.length:=by rw[w];exact aCv _
   obtain⟨aZ,aR⟩:∃e,e=kt (s++[Int.ofNat k]):=⟨_,rfl⟩;obtain⟨d1,d2,d3⟩:=fU.of ae (aeM (s++[Int.ofNat k]));have t:=λ(aq:Int.ofNat k∉s) (aI:ah) (ej:w6 aI (rest++f))=>@Od aI (rest++f) (s++[Int.ofNat k]) ej aB (by have:=nc aq;rw[aCF];omega);rw[<-aR]at Og d1 d2 d3 t;rw[p2]at B;rw[<-w]at qu;have uf:f.length<=33554432:=Bw.2;have Fa:rest.length<=33*33554432:=az6;have xZ:a.app R j=(rest++f).map int:=by subst ae;rw[r,w,aCR];rfl
   clear Od nc Bw aB;cases rest with
   |nil=>
    have vr:R=[]:=r;subst vr;replace jn:a.Dh 1 [int (Int.ofNat k)] 1=.gH 1:=jn;cases bi with
    |true=>
     refine ak ?_;exact g true _ az5
    |false=>
    rcases Og with⟨_,v⟩|⟨U,v,F⟩
    .refine ak ?_;exact B (.gH 1) (.inl ⟨rfl,rfl⟩) az5
    .cases f with
     |nil=>
      have A:j=[]:=w;subst A;conv=>cbv
      repeat' ((first|refine dD ?_|refine dE ?_|simp -proj only[r0,fH,uY,cI,d',l4,jz,jn,jL,qu,Oe,v,F,bp,a2,a3,bq,aT,b3,c1,c2,c3,d1,d2,d3]|(split<;>(rename_i h;try simp only[h])))<;>conv=>cbv)
      exact t U (.gH 1) (.inl ⟨rfl,rfl⟩) az5
     |cons y ys=>
      have A:j=int y::ys.map int:=w;subst A;have C0:(ys.map int).length=ys.length:=aCv _;have rl:ys.length<=33554432:=aCn;generalize ys.map int=Y at*;conv=>cbv
      repeat' ((first|refine dD ?_|refine dE ?_|simp -proj only[r0,uY,cI,d',l4,jz,jn,jL,qu,Oe,v,F,bp,a2,a3,bq,aT,b3,c1,c2,c3,d1,d2,d3]|(split<;>(rename_i h;try simp only[h])))<;>conv=>cbv)
      exact t U (.own 1 (int y::Y)) (.inr (by show ah.own 1 _=.own 1 ((y::ys).map int);rw[w])) az5
   |cons y ys=>
    have vr:R=int y::ys.map int:=r;subst vr;have C0:(ys.map int).length=ys.length:=aCv _;have rl:ys.length<=33*33554432:=aCn;have aN:w6 (.own 1 (int y::ys.map int)) (y::ys):=.inr rfl;replace B:=λ(st:ag)=>@B _ aN st;replace t:=λh (st:ag)=>@t h (.own 1 (a.app (int y::ys.map int) j)) (.inr (by rw[xZ])) st;clear aN xZ r oa;generalize ys.map int=Y at*;replace jn:a.Dh 1 (int (Int.ofNat k)::int y::Y) 1=.own 1 (int y::Y):=jn;cases bi with
    |true=>
     refine ak ?_;exact g true _ az5
    |false=>
    rcases Og with⟨_,v⟩|⟨U,v,F⟩
    .refine ak ?_;exact B _ az5
    .conv=>cbv
     repeat' ((first|refine dD ?_|refine dE ?_|simp -proj only[r0,uY,cI,d',l4,jz,jn,jL,qu,Oe,v,F,bp,a2,a3,bq,aT,b3,c1,c2,c3,d1,d2,d3]|(split<;>(rename_i h;try simp only[h])))<;>conv=>cbv)
     exact t U _ az5
end Go.Proofs.YthffhbakgmemaaaGreatDoor
