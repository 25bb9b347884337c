/- Part of graphs_said. -/
import Derived.Test.YtmgpekpnidjfoaaGreatDoorB16
set_option maxRecDepth 100000
set_option maxHeartbeats 8000000
set_option linter.unusedSimpArgs false
set_option linter.unusedVariables false
namespace Go.Proofs.YtmgpekpnidjfoaaGreatDoor
open Go Go.aH
attribute [local irreducible] bG
theorem aug(s:aw)(L:List Go.aH.D)(a e:Int)(he:e≠0)(aj:aM 7 [.d (.str s)] [] (.tuple [.d (.list 25 L),.d (int a),.d (int e)]) []):
  aM 6 [.d (.str s)] [] (.tuple [.d .dP,.d (int a),.d (int e)]) []:=by
 refine Gb.cn λad ae Q aV=> ?_;have t1:ad.aD .neq e 0=true:=azi;refine af ?_
 (subst ae;exact bZ aV axV axV)
theorem auh(s:aw)(L:List Go.aH.D)(a b e:Int)(he:e≠0)(aj:aM 7 [.d (.str s)] [] (.tuple [.d (.list 25 L),.d (int a),.d (int 0)]) [])
  (aF:aM 24 [.d (.list 25 L)] [] (.tuple [.d .dP,.d (int b),.d (int e)]) []):
  aM 6 [.d (.str s)] [] (.tuple [.d .dP,.d (int b),.d (int e)]) []:=by
 refine Gb.cn λad ae Q aV=> ?_;have t0:ad.aD .neq 0 0=false:=ax3;have t1:ad.aD .neq e 0=true:=azi;refine af ?_
 (subst ae;exact bZ aV axV axV)
theorem aui(s:aw)(L:List Go.aH.D)(a b:Int)(m:cy)(hm:m.Ok)(ay hs:Bool)(aj:aM 7 [.d (.str s)] [] (.tuple [.d (.list 25 L),.d (int a),.d (int 0)]) [])
  (aF:aM 24 [.d (.list 25 L)] [] (.tuple [.ptr 0 0,.d (int b),.d (int 0)]) (m.bq ay hs true)):
  aM 6 [.d (.str s)] [] (.tuple [.ptr 0 0,.d (int 0),.d (int 0)]) (m.bq ay hs true):=by
 obtain⟨ox,t,bn,N,ps,ns,S,gn,b0,b6,b4,P⟩:=m;refine Gb.kf (DJ ay hs) λad ae Q aV=> ?_;have t0:ad.aD .neq 0 0=false:=ax3;obtain⟨bw,a2,a3⟩:=br.of ae hm.N;obtain⟨bJ,a6,cq⟩:=br.of ae hm.S;obtain⟨c1,c2,c3⟩:=br.of ae hm.b0;obtain⟨d1,d2,d3⟩:=br.of ae hm.b6;obtain⟨b',cr,dE⟩:=br.of ae hm.b4;obtain⟨de,dp,dF⟩:=lh.of ae hm.P;dsimp only at bw a2 a3 bJ a6 cq c1 c2 c3 d1 d2 d3 b' cr dE de dp dF;cases ay<;>cases hs;all_goals
  dsimp only[cy.bq,DJ,eD,cR,s3]at aF aV⊢;refine af ?_
 all_goals (subst ae;exact bZ aV axV axV)
def jY(l:List aw)(v:aw):Int:=match l.findIdx? (λx=>decide (x=v))with|some i=>Int.ofNat i|none=> -1
theorem aed(l:List aw)(v:aw)(aI:l.length<=1073741824):aM 14 [.d (.list 1 (l.map .str)),.d (.str v)] [] (.d (int (jY l v))) []:=by
 have bE:(l.map Go.aH.D.str).length=l.length:=aAb _;have bY:∀i (h:i<l.length),(l.map Go.aH.D.str)[i]?=some (.str l[i]):=λi h=>c7 h;have mn:∀i (h:i<l.length),l[i]=v->(∀j (h:j<l.length),j<i->l[j]≠v)->jY l v=Int.ofNat i:=λi h h1 h2=>by
  unfold jY;rw[(aB1 (p:=λx:aw=>decide (x=v))).2 ⟨h,by simp[h1],λj aK=>by simpa using h2 j axW aK⟩]
 have ql:(∀j (h:j<l.length),l[j]≠v)->jY l v= -1:=λh2=>by
  unfold jY;rw[List.findIdx?_eq_none_iff.2 λx ak=>by obtain⟨j,aK,rfl⟩:=aBs ak;simpa using h2 j aK]
 generalize l.map Go.aH.D.str=L at*;generalize jY l v=Ft at*;refine YJ.cn λad ae Q aV=> ?_;refine af ?_;refine⟨bX (λi:Nat=>cx [(0,.d (.list 1 L)),(1,.d (.str v)),(5,.d (int (Int.ofNat i)))] []) (λi=>i<=l.length/\∀j (h:j<l.length),j<i->l[j]≠v) (λi=>l.length-i),_,⟨0,⟨aAa _,λ_ _ h=>absurd h (aBh _)⟩,rfl,axV⟩,?_⟩;rintro _ _ ⟨i,⟨hi,aK⟩,rfl,rfl⟩;dsimp only at hi aK⊢;obtain⟨k,aq⟩:∃k,k=l.length:=⟨_,rfl⟩;have t0:ad.len L=k:=azg;by_cases aA:i<k
 .have t1:=eT ae aA;have t3:=cz ae (bY i axW);have t6:=cd ae (n:=i) axW;have mn:=mn i axW;have hg:l[i]' axW≠v->∀j (h:j<l.length),j<i+1->l[j]≠v:=λh j h1 h2=>by
   by_cases e:j=i
   .subst e;exact h
   .exact aK j h1 axW
  generalize l[i]' axW=x at*;have p0:ad.bq .eql x v=decide (x=v):=by rw[Mx ae]
  by_cases ak:x=v
  .have p1:ad.bq .eql x v=true:=by rw[p0];exact aAk ak
   rw[mn ak aK]at aV;clear mn ql hg p0 aK bY;refine af ?_
   (subst ae;exact bZ aV axV axV)
  .have p1:ad.bq .eql x v=false:=by rw[p0];exact aAK ak
   clear p0;refine af ?_;exact fixF (i+1) ⟨(by omega:i+1<=l.length),hg ak⟩
 .have t1:=eY ae aA;rw[ql λj h=>aK j h axW]at aV;clear mn ql aK bY;refine af ?_
  (subst ae;exact bZ aV axV axV)
theorem aee(l:List Int)(v:Int)(aI:l.length<=1073741824):aM 16 [.d (.list 1 (l.map int)),.d (int v)] [] (.d (.bool (decide (v∈l)))) []:=by
 have bE:(l.map int).length=l.length:=aAb _;have bY:∀i (h:i<l.length),(l.map int)[i]?=some (int l[i]):=λi h=>c7 h;generalize l.map int=L at*;refine Tx.cn λad ae Q aV=> ?_;refine af ?_;refine⟨bX (λi:Nat=>cx [(0,.d (.list 1 L)),(1,.d (int v)),(5,.d (int (Int.ofNat i)))] []) (λi=>i<=l.length/\v∉l.take i) (λi=>l.length-i),_,⟨0,⟨aAa _,axX⟩,rfl,axV⟩,?_⟩;rintro _ _ ⟨i,⟨hi,aK⟩,rfl,rfl⟩;dsimp only at hi aK⊢;obtain⟨k,aq⟩:∃k,k=l.length:=⟨_,rfl⟩;have t0:ad.len L=k:=azg;by_cases aA:i<k
 .have t1:=eT ae aA;have t3:=cz ae (bY i axW);have t6:=cd ae (n:=i) axW;have dV:i<l.length:=axW;have hm:l[i]∈l:=aAl dV;have hg:l[i]≠v->v∉l.take (i+1):=λh hm=>by
   rw[aA9,aAj dV]at hm;rcases aAT.1 hm with hm|hm
   .exact aK hm
   .exact h (aAF.1 hm).symm
  generalize l[i]=x at*;have p0:ad.aD .eql x v=decide (x=v):=(eF ae).1 _ _;by_cases ak:x=v
  .have p1:ad.aD .eql x v=true:=by rw[p0];exact aAk ak
   rw[aAk (ak▸hm)]at aV;clear hg p0 aK bY;refine af ?_
   (subst ae;exact bZ aV axV axV)
  .have p1:ad.aD .eql x v=false:=by rw[p0];exact aAK ak
   clear p0;refine af ?_;exact fixF (i+1) ⟨(by omega:i+1<=l.length),hg ak⟩
 .have t1:=eY ae aA;rw[aBa axW]at aK;rw[aAK aK]at aV;clear aK bY;refine af ?_
  (subst ae;exact bZ aV axV axV)
def oy:List b8->Nat->List Nat
 |[],_=>[]
 |d::ds,k=>if ix d then k::oy ds (k+1)else oy ds (k+1)
theorem auj(a b:List b8)(k:Nat):oy (a++b) k=oy a k++oy b (k+a.length):=by
 induction a generalizing k with
 |nil=>rfl
 |cons d a ih=>simp only[aBJ,oy,ih,aAu];split<;>simp[aB4,Nat.add_comm 1]
theorem aef(a:List b8)(k:Nat):(oy a k).length=(a.filter ix).length:=by
 induction a generalizing k with
 |nil=>rfl
 |cons d a ih=>simp only[oy];split<;>simp[*]
theorem auk(a:List b8)(k i:Nat)(hi:i<(a.filter ix).length):∃q,(oy a k)[i]?=some (k+q)/\a[q]?=some (a.filter ix)[i]:=by
 induction a generalizing k i with
 |nil=>cases hi
 |cons d a ih=>
  cases aY:ix d with
  |true=>
   simp only[aBG aY]at hi⊢;cases i with
   |zero=>exact⟨0,by simp[oy,aY],rfl⟩
   |succ i=>
    obtain⟨q,h1,h2⟩:=ih (k+1) i (by simpa using hi);exact⟨q+1,by simp[oy,aY,h1];omega,by simpa using h2⟩
  |false=>
   have xj:¬ix d=true:=by rw[aY];decide
   simp only[aBP xj]at hi⊢;obtain⟨q,h1,h2⟩:=ih (k+1) i hi;exact⟨q+1,by simp[oy,aY,h1];omega,by simpa using h2⟩
def hb(ds:List b8):List aw:=(ds.filter ix).map b8.n
def A0(ds:List b8):List aw:=(ds.filter eX).map b8.n
def rC(ds:List b8):List Int:=(oy ds 0).map Int.ofNat
def aul(L:List Go.aH.D)(k i:Nat)(a b c:List Go.aH.D):ag:=cx [(2,.own 1 a),(3,.own 1 b),(4,.own 1 c),(7,.d (.list 25 L)),(8,.d (int (Int.ofNat k))),(9,.d (int (Int.ofNat i)))] []
theorem aum(ds:List b8)(aI:ds.length<=16384):aM 11 [.d (.list 25 (ds.map b8.d))] [] (.tuple [.d (.list 1 ((hb ds).map .str)),.d (.list 1 ((rC ds).map int)),.d (.list 1 ((A0 ds).map .str))]) []:=by
 have bE:(ds.map b8.d).length=ds.length:=aAb _;have bY:∀i (h:i<ds.length),(ds.map b8.d)[i]?=some (.agg ds[i].cU.cs):=λi h=>c7 h;generalize ds.map b8.d=L at*;refine Ts.cn λad ae Q aV=> ?_;obtain⟨k,aq⟩:∃k,k=ds.length:=⟨_,rfl⟩;have t0:ad.len L=k:=azg;refine af ?_;refine⟨bX (λz:Nat×List Go.aH.D×List Go.aH.D×List Go.aH.D=>aul L k z.1 z.2.1 z.2.2.1 z.2.2.2) (λz=>z.1<=k/\z.2.1=(hb (ds.take z.1)).map .str/\z.2.2.1=(rC (ds.take z.1)).map int/\z.2.2.2=(A0 (ds.take z.1)).map .str) (λz=>k-z.1),_,⟨(0,[],[],[]),⟨aAa _,rfl,rfl,rfl⟩,rfl,axV⟩,?_⟩;rintro _ _ ⟨⟨i,a,b,c⟩,⟨hi,bp,au,az⟩,rfl,rfl⟩;dsimp only at hi bp au az⊢;by_cases aA:i<k
 .have t1:=eT ae aA;have dV:i<ds.length:=axW;have t3:=cz ae (bY i dV);have t6:=cd ae (n:=i) axW;have xh:a.length<=16384:=by rw[bp];unfold hb;have:=aBu ix (ds.take i);simp at this⊢;omega
  have axP:b.length<=16384:=by rw[au];unfold rC;have:=aef (ds.take i) 0;have:=aBu ix (ds.take i);simp at*;omega
  have ig:c.length<=16384:=by rw[az];unfold A0;have:=aBu eX (ds.take i);simp at this⊢;omega
  have ij:∀l x,ad.app l x=l++x:=λl x=>ax3;have oO:ds.take (i+1)=ds.take i++[ds[i]]:=by rw[aA9,aAj dV];rfl
  have hD:eX ds[i]=decide (ds[i].cU.k=3):=rfl;have t':ix ds[i]=!decide (ds[i].cU.k=3):=rfl;have kk:ds[i].n=ds[i].cU.n:=rfl;have hlen:(ds.take i).length=i:=azr;have hA:∀bJ,decide (ds[i].cU.k=3)=bJ->(hb (ds.take (i+1))).map Go.aH.D.str=cond bJ a (ad.app a [.str ds[i].cU.n])/\(rC (ds.take (i+1))).map int=cond bJ b (ad.app b [int (Int.ofNat i)])/\(A0 (ds.take (i+1))).map Go.aH.D.str=cond bJ (ad.app c [.str ds[i].cU.n]) c:=λbJ h=>by
   rw[h]at hD t';rw[oO,ij,ij,ij,bp,au,az];unfold hb A0 rC;rw[aBC,aBC,auj];cases bJ<;>simp[hD,t',kk,oy,hlen]
  clear bp au az hD t' kk oO hlen ij bY;generalize ds[i].cU=w at*;obtain⟨cn,wn,uO,uP,na,qb,AR,⟨c1,c2,qj,c4,c5,eI,bQ,e0,c9,fj,e9,X,eN,eR,eS,bB⟩,wq,yB⟩:=w;dsimp only at hA;have p0:ad.aD .eql cn 3=decide (cn=3):=(eF ae).1 _ _;cases aY:decide (cn=3)with
  |true=>
   have p1:=p0.trans aY;obtain⟨h1,h2,av⟩:=hA _ aY;clear hA p0 aY;refine af ?_;exact fixF (i+1,a,b,ad.app c [.str wn]) ⟨aA,h1.symm,h2.symm,av.symm⟩
  |false=>
   have p1:=p0.trans aY;obtain⟨h1,h2,av⟩:=hA _ aY;clear hA p0 aY;refine af ?_;exact fixF (i+1,ad.app a [.str wn],ad.app b [int (Int.ofNat i)],c) ⟨aA,h1.symm,h2.symm,av.symm⟩
 .have t1:=eY ae aA;rw[aBa axW]at bp au az;rw[<-bp,<-au,<-az]at aV;clear bp au az bY;refine af ?_
  (subst ae;exact bZ aV axV axV)
theorem aun{N M D:List ah}(n:Nat)(b3:Flat N)(b7:Flat M)(cv:Flat D):aM 13 [.ptr 0 0] [.box (cR 1 2 3 n),.box N,.box M,.box D] (.d (int (Int.ofNat n))) [.box (cR 1 2 3 n),.box N,.box M,.box D]:=by
 unfold cR;refine Tv.kf [1,2,3] λad ae Q aV=> ?_;obtain⟨bw,a2,a3⟩:=br.of ae b3;obtain⟨bJ,a6,cq⟩:=br.of ae b7;obtain⟨c1,c2,c3⟩:=br.of ae cv;clear b3 b7 cv;refine af ?_
 (subst ae;exact bZ aV axV axV)
theorem auo{N M D:List ah}(n i:Nat)(hi:i<n)(z:List Int)(aO:N.getD i .undef=.d (.list 1 (z.map int)))(qM:z.length<=1073741824)(ad6:N.length=n)(b3:Flat N)(b7:Flat M)(cv:Flat D):aM 15 [.ptr 0 0,.d (int (Int.ofNat i))] [.box (cR 1 2 3 n),.box N,.box M,.box D] (.d (.list 1 (z.map int))) [.box (cR 1 2 3 n),.box N,.box M,.box D]:=by
 have aj:=acW (N:=N) (M:=M) (D:=D) n (Int.ofNat i) b3 b7 cv;rw[adN hi]at aj;have aF:=Nh (z.map int) (by rw[aAb];exact qM);generalize z.map int=Z at*;unfold cR at*;refine YL.kf [1,2,3] λad ae Q aV=> ?_;obtain⟨bw,a2,a3⟩:=br.of ae b3;obtain⟨bJ,a6,cq⟩:=br.of ae b7;obtain⟨c1,c2,c3⟩:=br.of ae cv;have gE:ad.er 1 1 (Int.ofNat i) n=true:=fT ae hi;have gW:=lg ae i;have gY:ad.hL i 1 N true=true:=rh ae axW;have kJ:ad.jS N i=.d (.list 1 Z):=v7 ae (by rw[aAL,aAj axW]at aO;rw[aAj axW];exact congrArg some aO);clear b3 b7 cv aO;refine af ?_
 (subst ae;exact bZ aV axV axV)
def yG:Bool->Bool->Nat
 |true,true=>3
 |false,false=>1
 |_,_=>2
theorem aup(m:cy)(hm:m.Ok)(ay hs:Bool):aM 12 [.ptr 0 0] (m.st ay hs true) (.ptr (yG ay hs) 0) (m.st ay hs true):=by
 obtain⟨ox,t,bn,N,ps,ns,S,gn,b0,b6,b4,P⟩:=m;refine WV.kf (iP ay hs true) λad ae Q aV=> ?_;obtain⟨bw,a2,a3⟩:=br.of ae hm.N;obtain⟨bJ,a6,cq⟩:=br.of ae hm.S;obtain⟨c1,c2,c3⟩:=br.of ae hm.b0;obtain⟨d1,d2,d3⟩:=br.of ae hm.b6;obtain⟨b',cr,dE⟩:=br.of ae hm.b4;obtain⟨de,dp,dF⟩:=lh.of ae hm.P;dsimp only at bw a2 a3 bJ a6 cq c1 c2 c3 d1 d2 d3 b' cr dE de dp dF;cases ay<;>cases hs;all_goals
  dsimp only[cy.st,iP,eD,cR,yG]at aV⊢;refine af ?_
 all_goals (subst ae;exact bZ aV axV axV)
theorem auq(m:cy)(hm:m.Ok)(jF:sZ m.P)(ay hs:Bool)(v:aw)(k:Int)(h:lP v m.P=some (.d (int k))\/lP v m.P=none/\k= -1):aM 18 [.ptr 0 0,.d (.str v)] (m.st ay hs true) (.d (int k)) (m.st ay hs true):=by
 obtain⟨ox,t,bn,N,ps,ns,S,gn,b0,b6,b4,P⟩:=m;refine TB.kf (iP ay hs true) λad ae Q aV=> ?_;have gE:=atw ae v λe he=>(jF e he).1;obtain⟨bw,a2,a3⟩:=br.of ae hm.N;obtain⟨bJ,a6,cq⟩:=br.of ae hm.S;obtain⟨c1,c2,c3⟩:=br.of ae hm.b0;obtain⟨d1,d2,d3⟩:=br.of ae hm.b6;obtain⟨b',cr,dE⟩:=br.of ae hm.b4;obtain⟨de,dp,dF⟩:=lh.of ae hm.P;dsimp only at bw a2 a3 bJ a6 cq c1 c2 c3 d1 d2 d3 b' cr dE de dp dF gE h;clear jF hm;rcases h with h|⟨h,rfl⟩<;>rw[h]at gE<;>cases ay<;>cases hs
 all_goals
  dsimp only[cy.st,iP,eD,cR]at aV⊢;refine af ?_
 all_goals (subst ae;exact bZ aV axV axV)
def aur(ay hs:Bool)(ns:Nat):ah:=cond hs (.aN (cond ay 2 1) 0 ns ns 12) (.d (.list 12 []))
def aus(m:cy)(ay hs:Bool)(i:Nat)(R:List Go.aH.D):ag:=cx [(3,.own 12 R),(9,aur ay hs m.ns),(10,.d (int (Int.ofNat m.ns))),(11,.d (int (Int.ofNat i)))] (m.st ay hs true)
theorem aut(m:cy)(hm:m.Ok)(ay hs:Bool)(aN:List gB)(ey:m.S=fU aN)(kz:aN.length=m.ns)(au:m.ns<=16384)(nX:hs=decide (0<m.ns))(aq:∀y∈aN,y.ks.length<=1073741824):aM 19 [.ptr 0 0] (m.st ay hs true) (.d (.list 12 (aN.map λx=>.agg x.cs))) (m.st ay hs true):=by
 obtain⟨ox,t,bn,N,ps,ns,S,gn,b0,b6,b4,P⟩:=m;dsimp only at ey kz au nX;refine WX.kf (iP ay hs true) λad ae Q aV=> ?_;obtain⟨bw,a2,a3⟩:=br.of ae hm.N;obtain⟨bJ,a6,cq⟩:=br.of ae hm.S;obtain⟨c1,c2,c3⟩:=br.of ae hm.b0;obtain⟨d1,d2,d3⟩:=br.of ae hm.b6;obtain⟨b',cr,dE⟩:=br.of ae hm.b4;obtain⟨de,dp,dF⟩:=lh.of ae hm.P;dsimp only at bw a2 a3 bJ a6 cq c1 c2 c3 d1 d2 d3 b' cr dE de dp dF;have bh:∀j (aK:j<aN.length),ad.er 12 12 (Int.ofNat j) ns=true/\ad.hL (j*12+0) 12 S true=true/\ad.oZ S (j*12) 12=.d (.agg aN[j].cs):=λj aK=>⟨fT ae axW,by rw[ey];exact adp ae aK ax0,by rw[ey];exact ado ae aK⟩;have r0:hs=false->ad.len []=ns:=λh=>by subst ae;have:=aCw (nX.symm.trans h);show 0=ns;omega
 have aC:lM ay:=trivial;have fH:lM hs:=trivial;cases ay<;>cases hs;all_goals
  dsimp only[cy.st,iP,eD,cR]at aV⊢;have axQ:=r0;try replace r0:=r0 rfl
  refine af ?_;refine⟨bX (λz:Nat×List Go.aH.D=>aus ⟨ox,t,bn,N,ps,ns,S,gn,b0,b6,b4,P⟩ (cS aC) (cS fH) z.1 z.2) (λz=>z.1<=ns/\z.2=(aN.take z.1).map λx=>Go.aH.D.agg x.cs) (λz=>ns-z.1),_,⟨(0,[]),⟨aAa _,rfl⟩,rfl,axV⟩,?_⟩;rintro _ _ ⟨⟨j,R⟩,⟨aK,ch⟩,rfl,rfl⟩;dsimp only at aK ch⊢;by_cases aA:j<ns
  .first
   |exact absurd (aCw nX.symm) axW
   |skip
   all_goals
    have ep:j<aN.length:=axW;have bN:=eT ae aA;have gf:=cd ae (n:=j) axW;obtain⟨w1,fb,jP⟩:=bh j ep;have bW:=pZ ae j 12;have ng:((aN.take (j+1)).map λx=>Go.aH.D.agg x.cs)=ad.app R [.agg aN[j].cs]:=by subst ae;rw[ch,aA9,aAj ep,aAy];rfl
    have sW:R.length<=16384:=az9;have aj:=Nh (aN[j].ks.map int) (by rw[aAb];exact aq _ (aAl ep));clear bh ch aq;generalize aN[j]=y at*;obtain⟨n,⟨g0,g1,g2,g3,g4,p0,p1,eb,k7,i'⟩,ks⟩:=y;unfold gB.cs at*;dsimp only at aj jP ng;generalize ks.map int=K at*;generalize j*12=M' at*;refine af ?_;exact fixF (j+1,_) ⟨aA,ng.symm⟩
  .have bN:=eY ae aA;rw[aBa axW]at ch;rw[<-ch]at aV;clear bh ch aq;refine af ?_
   (subst ae;exact bZ aV axV axV)
structure auu(ds:List b8)(hs:Bool)(m:cy):Prop where
 bn:m.bn=(hb ds).length
 P:sZ m.P
 gn:m.gn=m.bn
 nb:m.bn<=16384
 need:∀i,i<m.bn->∃(q:Nat) (aS:q<ds.length) (z:List Int),(rC ds)[i]?=some (Int.ofNat q)/\(∀x,x∈z↔x∈ds[q].bM.map λy=>jY (hb ds) y.a)/\z.length<=1073741824/\m.b0.getD i .undef=.d (.list 1 (z.map int))/\m.b0.length=m.bn/\ds[q].bM.length<=33554432
 ord:∃zs:List Int,zs.length=m.bn/\aM 17 [.ptr 0 0] [.box (cR 1 2 3 m.bn),.box m.b0,.box m.b6,.box m.b4] (.d (.list 1 (zs.map int))) [.box (cR 1 2 3 m.bn),.box m.b0,.box m.b6,.box m.b4]/\∀k (h:k<zs.length),∃(i:Nat) (hi:i<(hb ds).length),zs[k]=Int.ofNat i/\lP (hb ds)[i] m.P=some (.d (int (Int.ofNat k)))
 auv:lP [] m.P=none
 ms:∀x∈ds,x.ms.length<=33554432
 hs:hs=decide (0<m.ns)
 auw:∃aN:List gB,m.S=fU aN/\aN.length=m.ns/\aN.length=(ds.filter eX).length/\∀j (h:j<aN.length) (h2:j<(ds.filter eX).length),aN[j].n=(ds.filter eX)[j].n/\aN[j].ks=(ds.filter eX)[j].ms.map (jY (hb ds))/\aM 20 [.d (.str (ds.filter eX)[j].fI)] [] (.tuple [.d (.agg aN[j].sp.cs),.d (int 0)]) []
theorem aeg(l:List cX)(v:aw){i:Nat}(h:nS l v i true):jY (l.map cX.n) v=nh l v:=by
 unfold jY nh;rw[List.findIdx?_map];rcases h with⟨_,hi,h1,h2⟩|⟨h,_⟩
 .have:=(aB1 (p:=λx:cX=>decide (x.n=v))).2 ⟨hi,by simpa using h1,λj aK=>by simpa using h2 j aK⟩;simp only[Function.comp_def,this]
 .cases h
theorem auy{code:b8->aw}{ds:List b8}{hs:Bool}{m:cy}(h:NG (ga code ds) ds hs m)(ay:∀x∈ds,x.n≠[])(tF:ds.length<=16384)(hw:hn ds<=dJ):auu ds hs m:=by
 have dV:∀x∈ds,x.bM.length<=33554432/\x.ms.length<=33554432:=λx ak=>by
  have h1:hn [x]<=hn ds:=Ht ak;have h2:hn [x]=200+(1000+x.n.length+jU x.bq+jv x.bM+x.pl.w+x.fI.length+fw x.ms)+0:=rfl;have av:x.bM.length*200<=jv x.bM:=DH _ _;have aW:x.ms.length*200<=fw x.ms:=DH _ _;have bL:dJ=1000000000:=rfl;omega
 have kk:(ga code ds).map cX.n=hb ds:=by unfold ga hb;rw[aBE];rfl
 have oK:(ga code ds).length=(ds.filter ix).length:=aAb _;have j':∀i (hi:i<(ga code ds).length),(ga code ds)[i].bM=((ds.filter ix)[i]' axW).bM:=λi hi=>by simp only[ga,aCv];rfl
 have sb:(hb ds).length=(ga code ds).length:=by rw[<-kk,aAb]
 have wV:=aBu ix ds;obtain⟨h1,h2,av,⟨aN,s1,s2,kE,k5⟩,bL,cW⟩:=h;have jb:∀x∈ga code ds,x.n≠[]:=λx ak=>by
  obtain⟨d,aY,rfl⟩:=aAR.1 ak;exact ay d (aCo.1 aY).1
 have auz:adT (ga code ds):=λi j hi aK e=>by
  rcases Nat.lt_trichotomy i j with h|h|h
  .exact absurd e ((k5.nodes j aK).2 i h)
  .exact h
  .exact absurd e.symm ((k5.nodes i hi).2 j h)
 refine⟨axW,bL.P,bL.gn,axW,λi hi=> ?_,?_,?_,λx ak=>(dV x ak).2,av,aN,s1,s2,axW,λj aK jM=>⟨kE j aK jM,?_,(k5.done j aK jM).sp⟩⟩
 .obtain⟨q,q1,bF⟩:=auk ds 0 i axW;obtain⟨aS,cE⟩:=aBk.1 bF;have dw:i<(ga code ds).length:=axW;obtain⟨z,fO,z2⟩:=cW.ne i _ (by rw[aAb];exact dw) (by rw[aA4,aAj dw];rfl);obtain⟨y,⟨_,de⟩,dp⟩:=bL.b0.get i hi;refine⟨q,aS,z,by unfold rC;rw[aA4,q1,aA2];rfl,λx=> ?_,?_,fO,bL.b0.len,(dV _ (aAl aS)).1⟩
  .rw[z2];have:lN (ga code ds) (ga code ds)[i]=ds[q].bM.map λy=>jY (hb ds) y.a:=by
    unfold lN;rw[j' i dw,cE,<-kk];refine aCc λw hw=> ?_;obtain⟨_,bh⟩:=(k5.nodes i dw).1 w (by rw[j' i dw];exact hw);exact(aeg _ _ bh).symm
   rw[this]
  .rw[fO]at dp;have dF:z.map int=y.map int:=by injection dp with h;injection h
   have:=congrArg List.length dF;simp at this;omega
 .obtain⟨zs,fO,z2,z3⟩:=cW.Nt;refine⟨zs,fO.len,z2,λk aq=> ?_⟩;obtain⟨i,hi,n2⟩:=wh (fO.all _ (aAl aq));have qM:=fO.len;have:=z3.a auz k i axW axW (by rw[aAj aq,n2]);refine⟨i,axW,n2,?_⟩;rw[<-this];congr 1;simp only[<-kk,aCv]
 .obtain⟨zs,fO,z2,z3⟩:=cW.Nt;exact z3.b [] jb
 .rw[(k5.done j aK jM).ks,<-kk];refine aCc λv hv=> ?_;obtain⟨_,bh⟩:=(k5.done j aK jM).ok v hv;exact(aeg _ _ bh).symm
def auA(ay hs:Bool):Nat:=cond ay (cond hs 7 6) (cond hs 6 5)
def yH(m:cy)(ay hs:Bool)(xs:List (Nat×ah)):ag:=cx xs (m.bq ay hs true)
def Hw(ay hs:Bool)(L s4:List Go.aH.D):List (Nat×ah):=[(3,.d (.list 25 L)),(6,.ptr 0 0),(9,.d (.list 1 s4)),(12,.ptr (auA ay hs) 0)]
def rD(i n x:Nat)(z:Nat)(L:List Go.aH.D):List (Nat×ah):=[(x,.d (.list z L)),(x+1,.d (int (Int.ofNat n))),(x+2,.d (int (Int.ofNat i)))]
set_option maxHeartbeats 40000000 in
theorem am'(axR:aM 5 [] [] (.d (.bool true)) [])(s:aw):aM 4 [.d (.str s)] [] (.d (.bool true)) []:=by
 obtain⟨ds,a,e,⟨ly,hw,tF,_,cB⟩,aj⟩:=acb s;by_cases he:e=0
 .subst he;obtain⟨t,es,xd,aF⟩:=acN ds ly hw;obtain⟨r,st,ax,aZ⟩:=aua ds ly hw tF t es aF λh=>(xd h).2;have cK:=aum ds tF;have bE:(ds.map b8.d).length=ds.length:=aAb _;have bY:∀i (h:i<ds.length),(ds.map b8.d)[i]?=some (.agg ds[i].cU.cs):=λi h=>c7 h;generalize ds.map b8.d=L at*;rcases ax with⟨b,e,he,rfl,rfl⟩|⟨rfl,m,ay,hs,b,⟨hm,rfl,code,b7⟩,rfl,rfl⟩
  .have bP:=auh s L a b e he aj aZ;refine Ga.cn λad ae Q aV=> ?_;have t1:ad.aD .neq e 0=true:=azi;have t2:ad.aD .neq 0 0=false:=ax3;obtain⟨B,eJ⟩:∃b,ad.aD .gtr (Int.ofNat (ad.ev s)) 2500=b:=⟨_,rfl⟩;clear aF aZ cK bY xd;cases B;all_goals
    refine af ?_
   all_goals (subst ae;exact bZ aV axV axV)
  .have hC:=auy b7 cB tF hw;have bP:=aui s L a b m hm ay hs aj aZ;have dO:=aup m hm ay hs;have vU:=aun (N:=m.b0) (M:=m.b6) (D:=m.b4) m.bn hm.b0 hm.b6 hm.b4;have JH:=hC.gn.symm;have jb:=hC.bn;have iI:=hC.nb;obtain⟨ox,t,bn,N,ps,ns,S,gn,b0,b6,b4,P⟩:=m;dsimp only at JH jb iI dO vU bP;subst JH;clear aF aZ xd;refine Ga.kf (DJ ay hs) λad ae Q aV=> ?_;have t1:ad.aD .neq 0 0=false:=ax3;obtain⟨B,eJ⟩:∃b,ad.aD .gtr (Int.ofNat (ad.ev s)) 2500=b:=⟨_,rfl⟩;obtain⟨bw,a2,a3⟩:=br.of ae hm.N;obtain⟨bJ,a6,cq⟩:=br.of ae hm.S;obtain⟨c1,c2,c3⟩:=br.of ae hm.b0;obtain⟨d1,d2,d3⟩:=br.of ae hm.b6;obtain⟨b',cr,dE⟩:=br.of ae hm.b4;obtain⟨de,dp,dF⟩:=lh.of ae hm.P;dsimp only at bw a2 a3 bJ a6 cq c1 c2 c3 d1 d2 d3 b' cr dE de dp dF;have auB:((hb ds).map Go.aH.D.str).length=bn:=by rw[aAb];exact jb.symm
   have t2:ad.len ((hb ds).map .str)=bn:=by subst ae;exact auB
   have t3:ad.aD .neq (Int.ofNat bn) (Int.ofNat bn)=false:=az';have t4:ad.len ((rC ds).map int)=bn:=by subst ae;show((rC ds).map int).length=bn;rw[aAb];unfold rC;rw[aAb,aef,jb];unfold hb;rw[aAb]
   generalize NT:(hb ds).map Go.aH.D.str=s4 at*;generalize auC:(rC ds).map int=A at*;generalize axS:(A0 ds).map Go.aH.D.str=axT at*;cases B with
   |true=>
    cases ay<;>cases hs;all_goals refine af ?_
    all_goals (subst ae;exact bZ aV axV axV)
   |false=>
   have aC:lM ay:=trivial;have fH:lM hs:=trivial;cases ay<;>cases hs;all_goals
    dsimp only[cy.bq,cy.st,DJ,eD,cR,s3,yG]at bP dO vU⊢;refine af ?_;refine⟨bX (λi:Nat=>yH ⟨ox,t,bn,N,ps,ns,S,bn,b0,b6,b4,P⟩ (cS aC) (cS fH) (Hw (cS aC) (cS fH) L s4++rD i bn 77 1 A)) (λi=>i<=bn) (λi=>bn-i),_,⟨0,aAa _,rfl,axV⟩,?_⟩;clear bP cK dO vU;rintro _ _ ⟨i,hi,rfl,rfl⟩;dsimp only at hi⊢;by_cases aA:i<bn
    .have bN:=eT ae aA;have gf:=cd ae (n:=i) axW;obtain⟨q,aS,z,auD,aO,qM,auE,auF,dV⟩:=hC.need i aA;have b5:ad.get A (Int.ofNat i)=int (Int.ofNat q):=cz ae (by rw[<-auC,aA4,auD];rfl);have dq:=cz ae (bY q aS);have uz:=auo bn i aA z auE qM auF hm.b0 hm.b6 hm.b4;have jI:=λa=>aed (hb ds) a axW;rw[NT]at jI;have yz:ds[q].cU.bM=ds[q].bM.map dW:=rfl;generalize ds[q].bM=bM at*;generalize ds[q].cU=w at*;obtain⟨cn,wn,uO,uP,na,qb,IN,⟨cY,cO,nR,aeh,aei,aej,aek,ael,aem,aen,aeo,aep,aeq,aer,aes,aeu⟩,wq,yB⟩:=w;dsimp only at yz;have yG:∀j (h:j<bM.length),IN[j]?=some (dW bM[j]):=λj h=>by rw[yz];exact c7 h
     obtain⟨k2,hf⟩:∃k,k=bM.length:=⟨_,rfl⟩;have n7:ad.len IN=k2:=by subst ae;show IN.length=k2;rw[yz,aAb,hf]
     unfold cR at uz;refine af ?_;refine⟨bX (λy:Nat×List Go.aH.D=>yH ⟨ox,t,bn,N,ps,ns,S,bn,b0,b6,b4,P⟩ (cS aC) (cS fH) (Hw (cS aC) (cS fH) L s4++(13,.d (int (Int.ofNat i)))::(15,.own 1 y.2)::(rD i bn 77 1 A++rD y.1 k2 88 4 IN))) (λy=>y.1<=k2/\y.2=((bM.take y.1).map λx=>jY (hb ds) x.a).map int) (λy=>k2-y.1),_,⟨(0,[]),⟨aAa _,rfl⟩,rfl,axV⟩,?_⟩;rintro _ _ ⟨⟨j,R⟩,⟨aK,ch⟩,rfl,rfl⟩;dsimp only at aK ch⊢;by_cases ep:j<k2
     .have gE:=eT ae ep;have gW:=cz ae (yG j axW);have kJ:=cd ae (n:=j) axW;have jI:=jI (bM[j]' axW).a;have ng:((bM.take (j+1)).map λx=>jY (hb ds) x.a).map int=ad.app R [int (jY (hb ds) (bM[j]' axW).a)]:=by subst ae;rw[ch,aA9,aAj axW,aAy,aAy];rfl
      have sW:R.length<=33554432:=by rw[ch];simp;omega
      clear yG ch bY uz aO;generalize (bM[j]' axW)=x at*;unfold dW at gW;generalize jY (hb ds) x.a=Ft at*;refine af ?_;exact fixF (j+1,_) ⟨ep,ng.symm⟩
     .have gE:=eY ae ep;rw[aBa axW]at ch;have uF:=λv=>aee (bM.map λx=>jY (hb ds) x.a) v azD;rw[<-ch]at uF;have DQ:=λv=>aee z v qM;have rv:(z.map int).length=z.length:=aAb _;have ow:∀j (h:j<z.length),(z.map int)[j]?=some (int z[j]):=λj h=>c7 h;have mQ:∀j (h:j<bM.length),R[j]?=some (int (jY (hb ds) bM[j].a)):=λj h=>by rw[ch,aA4,aA4,aAj h];rfl
      obtain⟨fX,auG⟩:∃k,k=z.length:=⟨_,rfl⟩;have gd:ad.len (z.map int)=fX:=by subst ae;exact rv.trans auG.symm
      have hK:ad.len R=k2:=by subst ae;show R.length=k2;rw[ch,aAb,aAb,hf]
      clear ch yG jI;generalize z.map int=Z at*;refine af ?_;refine⟨bX (λj:Nat=>yH ⟨ox,t,bn,N,ps,ns,S,bn,b0,b6,b4,P⟩ (cS aC) (cS fH) (Hw (cS aC) (cS fH) L s4++(15,.own 1 R)::(18,.d (.list 1 Z))::(rD i bn 77 1 A++rD j fX 105 1 Z))) (λj=>j<=fX) (λj=>fX-j),_,⟨0,aAa _,rfl,axV⟩,?_⟩;clear uz aK ep j gE;rintro _ _ ⟨j,aK,rfl,rfl⟩;dsimp only at aK⊢;by_cases ep:j<fX
      .have v1:=eT ae ep;have v2:=cz ae (ow j axW);have pJ:=cd ae (n:=j) axW;have uF:=uF (z[j]' axW);rw[aAk ((aO _).1 (aAl _))]at uF;clear ow mQ DQ aO;generalize (z[j]' axW)=x at*;refine af ?_;exact fixF (j+1) ep
      .have v1:=eY ae ep;refine af ?_;refine⟨bX (λj:Nat=>yH ⟨ox,t,bn,N,ps,ns,S,bn,b0,b6,b4,P⟩ (cS aC) (cS fH) (Hw (cS aC) (cS fH) L s4++(18,.d (.list 1 Z))::(rD i bn 77 1 A++rD j k2 116 1 R))) (λj=>j<=k2) (λj=>k2-j),_,⟨0,aAa _,rfl,axV⟩,?_⟩;clear uF aK ep j v1;rintro _ _ ⟨j,aK,rfl,rfl⟩;dsimp only at aK⊢;by_cases ep:j<k2
       .have v1:=eT ae ep;have v2:=cz ae (mQ j axW);have pJ:=cd ae (n:=j) axW;have DQ:=DQ (jY (hb ds) (bM[j]' axW).a);rw[aAk ((aO _).2 (aAR.2 ⟨_,aAl _,rfl⟩))]at DQ;clear ow mQ aO;generalize jY (hb ds) (bM[j]' axW).a=x at*;refine af ?_;exact fixF (j+1) ep
       .have v1:=eY ae ep;refine af ?_;exact fixF (i+1) aA
    .have bN:=eY ae aA;obtain⟨zs,qM,uz,nu⟩:=hC.ord;have jI:=λv k h=>auq ⟨ox,t,bn,N,ps,ns,S,bn,b0,b6,b4,P⟩ hm hC.P (cS aC) (cS fH) v k h;have uF:=jI [] (-1) (.inr ⟨hC.auv,rfl⟩);have rv:(zs.map int).length=zs.length:=aAb _;have ow:∀j (h:j<zs.length),(zs.map int)[j]?=some (int zs[j]):=λj h=>c7 h;have gd:ad.len (zs.map int)=bn:=by subst ae;exact rv.trans qM
     have gY:∀k:Int,ad.aD .neq k k=false:=λk=>az';have kJ:=gY (-1);have sS:∀i (h:i<(hb ds).length),s4[i]?=some (.str (hb ds)[i]):=λi h=>by rw[<-NT];exact c7 h
     dsimp only[cy.st,eD,cR,cS]at jI uz uF qM;generalize zs.map int=wz at*;refine af ?_;refine⟨bX (λk:Nat=>yH ⟨ox,t,bn,N,ps,ns,S,bn,b0,b6,b4,P⟩ (cS aC) (cS fH) ((3,.d (.list 25 L))::(6,.ptr 0 0)::(9,.d (.list 1 s4))::rD k bn 129 1 wz)) (λj=>j<=bn) (λj=>bn-j),_,⟨0,aAa _,rfl,axV⟩,?_⟩;clear uz hi aA i bN;rintro _ _ ⟨k,aq,rfl,rfl⟩;dsimp only at aq⊢;by_cases aA:k<bn
     .have bN:=eT ae aA;have gf:=cd ae (n:=k) axW;obtain⟨i,hi,aev,aew⟩:=nu k axW;have b5:=cz ae (ow k axW);rw[aev]at b5;have dq:=cz ae (sS i hi);have DQ:=jI _ _ (.inl aew);have jH:=gY (Int.ofNat k);clear ow sS jI aev aew bY;generalize (hb ds)[i]=nm at*;refine af ?_;exact fixF (k+1) aA
     .have bN:=eY ae aA;obtain⟨aN,s1,s2,kE,k5⟩:=hC.auw;have auH:ns<=16384:=by have:=aBu eX ds;dsimp only at s2;omega
      have aex:=aut ⟨ox,t,bn,N,ps,ns,S,bn,b0,b6,b4,P⟩ hm (cS aC) (cS fH) aN s1 s2 auH hC.hs λy hy=>by
       obtain⟨j,aK,rfl⟩:=aBs hy;rw[(k5 j aK axW).2.1,aAb];have:=hC.ms _ (aCo.1 (aAl (show j<(ds.filter eX).length by omega))).1;omega
      dsimp only[cy.st,eD,cR,cS]at aex s2;have ad5:(aN.map λx=>Go.aH.D.agg x.cs).length=aN.length:=aAb _;have jR:∀j (h:j<aN.length),(aN.map λx=>Go.aH.D.agg x.cs)[j]?=some (.agg aN[j].cs):=λj h=>c7 h;have b5:ad.len (aN.map λx=>Go.aH.D.agg x.cs)=ns:=by subst ae;exact ad5.trans s2
      generalize (aN.map λx=>Go.aH.D.agg x.cs)=rr at*;obtain⟨dl,auI⟩:∃k,k=ds.length:=⟨_,rfl⟩;have dq:ad.len L=dl:=by subst ae;exact bE.trans auI.symm
      refine af ?_;refine⟨bX (λy:Nat×Nat=>yH ⟨ox,t,bn,N,ps,ns,S,bn,b0,b6,b4,P⟩ (cS aC) (cS fH) ((9,.d (.list 1 s4))::(25,.d (int (Int.ofNat y.2)))::(26,.d (.list 12 rr))::rD y.1 dl 152 25 L)) (λy=>y.1<=dl/\y.2=((ds.take y.1).filter eX).length) (λy=>dl-y.1),_,⟨(0,0),⟨aAa _,rfl⟩,rfl,axV⟩,?_⟩;clear jI uF aex aq aA k ow sS bN nu;rintro _ _ ⟨⟨i,at'⟩,⟨hi,j'⟩,rfl,rfl⟩;dsimp only at hi j'⊢;by_cases aA:i<dl
      .have bN:=eT ae aA;have gf:=cd ae (n:=i) axW;have dV:i<ds.length:=axW;have n7:=cz ae (bY i dV);have Hx:ds.filter eX=(ds.take i).filter eX++([ds[i]].filter eX++(ds.drop (i+1)).filter eX):=by rw[<-aBC,<-aBC,List.singleton_append,<-aBg dV,aCq]
       have oO:(ds.take (i+1)).filter eX=(ds.take i).filter eX++[ds[i]].filter eX:=by rw[aA9,aAj dV,aBC];rfl
       have hD:eX ds[i]=decide (ds[i].cU.k=3):=rfl;have p0:ad.aD .neq ds[i].cU.k 3=!decide (ds[i].cU.k=3):=ax3;have DR:ds[i].cU.ms=ds[i].ms.map .str:=rfl;have NU:ds[i].n=ds[i].cU.n:=rfl;have NV:ds[i].fI=ds[i].cU.fI:=rfl;have Io:=hC.ms _ (aAl dV);cases aY:decide (ds[i].cU.k=3)with
       |false=>
        rw[aY]at hD p0;have p1:ad.aD .neq ds[i].cU.k 3=true:=p0;have NW:at'=((ds.take (i+1)).filter eX).length:=by rw[oO,aBP (by rw[hD];decide)];simpa using j'
        clear p0 j' Hx oO hD DR NU NV jR k5 bY;generalize ds[i].cU=w at*;obtain⟨cn,wn,uO,uP,na,qb,IN,⟨cY,cO,nR,aeh,aei,aej,aek,ael,aem,aen,aeo,aep,aeq,aer,aes,aeu⟩,wq,yB⟩:=w;dsimp only at p1;refine af ?_;exact fixF (i+1,at') ⟨aA,NW⟩
       |true=>
        rw[aY]at hD p0;have p1:ad.aD .neq ds[i].cU.k 3=false:=p0;rw[aBG hD]at Hx oO;have NW:at'+1=((ds.take (i+1)).filter eX).length:=by rw[oO,aAA,j'];rfl
        have ak:(ds.filter eX)[at']?=some ds[i]:=by rw[Hx,j'];simp
        obtain⟨h2,ak⟩:=aBk.1 ak;have aey:at'<aN.length:=by rw[kE];exact h2
        obtain⟨gG,ic,Hy⟩:=k5 at' aey h2;have axU:at'<ns:=axW;have ij:=cz ae (jR at' aey);rw[ak,NU]at gG;rw[ak]at ic;rw[ak,NV]at Hy;have vg:ad.aD .geq (Int.ofNat at') (Int.ofNat ns)=false:=by rw[(eF ae).2.2.1];exact aAK λh=>by have:=Int.ofNat_le.1 h;omega
        have pJ:=cd ae (n:=at') axW;have q1:∀v,ad.bq .neq v v=false:=λv=>by subst ae;show(!decide (v=v))=false;rw[aAk rfl];rfl
        clear p0 j' Hx oO hD NU NV jR k5 bY ak;generalize ds[i].ms=ms at*;generalize ds[i].cU=w at*;obtain⟨cn,wn,uO,uP,na,qb,IN,⟨cY,cO,nR,aeh,aei,aej,aek,ael,aem,aen,aeo,aep,aeq,aer,aes,aeu⟩,wq,Hz⟩:=w;generalize aN[at']=y at*;obtain⟨adY,⟨g0,g1,g2,g3,g4,aez,yw,tZ,yx,aeA⟩,ks⟩:=y;unfold gB.cs at ij;unfold lK.cs at Hy;dsimp only at p1 DR gG ic Hy ij;subst gG;have q1:=q1 adY;have kK:∀j (h:j<ms.length),Hz[j]?=some (.str ms[j]):=λj h=>by rw[DR];exact c7 h
        have aeB:∀j (h:j<ms.length),(ks.map int)[j]?=some (int (jY (hb ds) ms[j])):=λj h=>by rw[ic,aA4,aA4,aAj h];rfl
        obtain⟨jn,aeC⟩:∃k,k=ms.length:=⟨_,rfl⟩;have bF:ad.len (ks.map int)=jn:=by subst ae;show(ks.map int).length=jn;rw[ic,aAb,aAb,aeC]
        have cE:ad.len Hz=jn:=by subst ae;show Hz.length=jn;rw[DR,aAb,aeC]
        have ei:=gY (Int.ofNat jn);have jI:=λa=>aed (hb ds) a axW;rw[NT]at jI;have gF:ad.og [1,1,1,1,1,0,0,0,0,0] [.int .u64 g0,.int .u64 g1,.int .u64 g2,.int .u64 g3,.int .u64 g4,.bool aez,.bool yw,.bool tZ,.bool yx,.bool aeA] [.int .u64 g0,.int .u64 g1,.int .u64 g2,.int .u64 g3,.int .u64 g4,.bool aez,.bool yw,.bool tZ,.bool yx,.bool aeA]=some true:=by subst ae;show cA _ _ _=_;simp[cA]
        generalize ks.map int=K at*;clear DR ic;refine af ?_;refine⟨bX (λj:Nat=>yH ⟨ox,t,bn,N,ps,ns,S,bn,b0,b6,b4,P⟩ (cS aC) (cS fH) ((9,.d (.list 1 s4))::(25,.d (int (Int.ofNat at')))::(26,.d (.list 12 rr))::(rD i dl 152 25 L++rD j jn 205 1 Hz))) (λj=>j<=jn) (λj=>jn-j),_,⟨0,aAa _,rfl,axV⟩,?_⟩;clear Hy gF q1 n7 p1 vg;rintro _ _ ⟨j,aK,rfl,rfl⟩;dsimp only at aK⊢;by_cases ep:j<jn
        .have bN:=eT ae ep;have gf:=cd ae (n:=j) axW;have b5:=cz ae (kK j axW);have n7:=cz ae (aeB j axW);have jI:=jI (ms[j]' axW);have q1:=gY (jY (hb ds) (ms[j]' axW));clear kK aeB;generalize jY (hb ds) (ms[j]' axW)=Ft at*;generalize (ms[j]' axW)=arI at*;refine af ?_;exact fixF (j+1) ep
        .have bN:=eY ae ep;refine af ?_;exact fixF (i+1,at'+1) ⟨aA,NW⟩
      .have bN:=eY ae aA;have auJ:at'=ns:=by rw[j',aBa axW];omega
       subst auJ;have n7:ad.aD .eql (Int.ofNat at') (Int.ofNat at')=true:=by rw[(eF ae).1];exact aAk rfl
       clear jR k5 bY j';refine af ?_
       (subst ae;exact bZ aV axV axV)
 .have bP:=aug s _ a e he aj;clear cB;refine Ga.cn λad ae Q aV=> ?_;have t1:ad.aD .neq e 0=true:=azi;obtain⟨B,eJ⟩:∃b,ad.aD .gtr (Int.ofNat (ad.ev s)) 2500=b:=⟨_,rfl⟩;cases B;all_goals
   refine af ?_
  all_goals (subst ae;exact bZ aV axV axV)
end Go.Proofs.YtmgpekpnidjfoaaGreatDoor
