/- Part of ranges_said. -/
import Derived.Test.YthffhbakgmemaaaGreatDoorB16
set_option maxRecDepth 100000
set_option maxHeartbeats 8000000
set_option linter.unusedSimpArgs false
set_option linter.unusedVariables false
namespace Go.Proofs.YthffhbakgmemaaaGreatDoor
open Go Go.aH
attribute [local irreducible] bG
theorem aug(s:aw)(L:List Go.aH.D)(a e:Int)(he:e≠0)(aj:aM 45 [.d (.str s)] [] (.tuple [.d (.list 25 L),.d (int a),.d (int e)]) []):
  aM 19 [.d (.str s)] [] (.tuple [.d .dP,.d (int a),.d (int e)]) []:=by
 refine WX.cn λad ae Q aV=> ?_;have t1:ad.aD .neq e 0=true:=azi;refine af ?_
 (subst ae;exact bZ aV axV axV)
theorem auh(s:aw)(L:List Go.aH.D)(a b e:Int)(he:e≠0)(aj:aM 45 [.d (.str s)] [] (.tuple [.d (.list 25 L),.d (int a),.d (int 0)]) [])
  (aF:aM 46 [.d (.list 25 L)] [] (.tuple [.d .dP,.d (int b),.d (int e)]) []):
  aM 19 [.d (.str s)] [] (.tuple [.d .dP,.d (int b),.d (int e)]) []:=by
 refine WX.cn λad ae Q aV=> ?_;have t0:ad.aD .neq 0 0=false:=ax3;have t1:ad.aD .neq e 0=true:=azi;refine af ?_
 (subst ae;exact bZ aV axV axV)
theorem aui(s:aw)(L:List Go.aH.D)(a b:Int)(m:cy)(hm:m.Ok)(ay hs:Bool)(aj:aM 45 [.d (.str s)] [] (.tuple [.d (.list 25 L),.d (int a),.d (int 0)]) [])
  (aF:aM 46 [.d (.list 25 L)] [] (.tuple [.ptr 0 0,.d (int b),.d (int 0)]) (m.bq ay hs true)):
  aM 19 [.d (.str s)] [] (.tuple [.ptr 0 0,.d (int 0),.d (int 0)]) (m.bq ay hs true):=by
 obtain⟨ox,t,bn,N,ps,ns,S,gn,b0,b6,b4,P⟩:=m;refine WX.kf (DJ ay hs) λad ae Q aV=> ?_;have t0:ad.aD .neq 0 0=false:=ax3;obtain⟨bw,a2,a3⟩:=br.of ae hm.N;obtain⟨bJ,a6,cq⟩:=br.of ae hm.S;obtain⟨c1,c2,c3⟩:=br.of ae hm.b0;obtain⟨d1,d2,d3⟩:=br.of ae hm.b6;obtain⟨b',cr,dE⟩:=br.of ae hm.b4;obtain⟨de,dp,dF⟩:=lh.of ae hm.P;dsimp only at bw a2 a3 bJ a6 cq c1 c2 c3 d1 d2 d3 b' cr dE de dp dF;cases ay<;>cases hs;all_goals
  dsimp only[cy.bq,DJ,eD,cR,s3]at aF aV⊢;refine af ?_
 all_goals (subst ae;exact bZ aV axV axV)
structure aDi(m:cy)(ay:Bool)(l:List cX):Prop where
 ok:m.Ok
 N:m.N=ha l
 bn:l.length=m.bn
 wE:m.bn<=16384
 ay:ay=decide (0<m.bn)
theorem aDi.wb{m:cy}{ay:Bool}{l:List cX}(h:aDi m ay l):ay=false->l=[]:=λe=>aCO.1 (by have:=aCw (h.ay.symm.trans e);have:=h.bn;omega)
theorem aGz{m:cy}{ay:Bool}{l:List cX}(ak:aDi m ay l)(hs:Bool):aM 20 [.ptr 0 0] (m.st ay hs true) (.d (int (Int.ofNat m.bn))) (m.st ay hs true):=by
 obtain⟨hm,b3,aI,au,cB⟩:=ak;obtain⟨ox,t,bn,N,ps,ns,S,gn,b0,b6,b4,P⟩:=m;dsimp only at b3 aI au cB;refine U7.kf (iP ay hs true) λad ae Q aV=> ?_;obtain⟨bw,a2,a3⟩:=br.of ae hm.N;obtain⟨bJ,a6,cq⟩:=br.of ae hm.S;obtain⟨c1,c2,c3⟩:=br.of ae hm.b0;obtain⟨d1,d2,d3⟩:=br.of ae hm.b6;obtain⟨b',cr,dE⟩:=br.of ae hm.b4;obtain⟨de,dp,dF⟩:=lh.of ae hm.P;dsimp only at bw a2 a3 bJ a6 cq c1 c2 c3 d1 d2 d3 b' cr dE de dp dF;have r0:ay=false->ad.len []=bn:=λh=>by subst ae;have:=aCw (cB.symm.trans h);show 0=bn;omega
 cases ay<;>cases hs;all_goals
  dsimp only[cy.st,iP,eD,cR]at aV⊢;try replace r0:=r0 rfl
  refine af ?_
 all_goals (subst ae;exact bZ aV axV axV)
theorem aFY{m:cy}{ay:Bool}{l:List cX}(ak:aDi m ay l)(hs:Bool)(i:Nat)(hi:i<l.length):aM 25 [.ptr 0 0,.d (int (Int.ofNat i))] (m.st ay hs true) (.d (.agg l[i].c24.cs)) (m.st ay hs true):=by
 obtain⟨hm,b3,aI,au,cB⟩:=ak;obtain⟨ox,t,bn,N,ps,ns,S,gn,b0,b6,b4,P⟩:=m;dsimp only at b3 aI au cB;obtain rfl:ay=true:=cB.trans (aAk axW);refine YN.kf (iP true hs true) λad ae Q aV=> ?_;obtain⟨bw,a2,a3⟩:=br.of ae hm.N;obtain⟨bJ,a6,cq⟩:=br.of ae hm.S;obtain⟨c1,c2,c3⟩:=br.of ae hm.b0;obtain⟨d1,d2,d3⟩:=br.of ae hm.b6;obtain⟨b',cr,dE⟩:=br.of ae hm.b4;obtain⟨de,dp,dF⟩:=lh.of ae hm.P;dsimp only at bw a2 a3 bJ a6 cq c1 c2 c3 d1 d2 d3 b' cr dE de dp dF;have t1:ad.aD .lss (Int.ofNat i) 0=false:=by rw[(eF ae).2.1];simp
 have t2:ad.aD .geq (Int.ofNat i) (Int.ofNat bn)=false:=by subst ae;exact aAK ayu
 have gE:ad.er 24 24 (Int.ofNat i) bn=true:=fT ae axW;have gW:=pZ ae i 24;have gd:ad.hL (i*24) 24 N true=true:=by rw[b3];exact sX ae hi (j:=0) (n:=24) ax0
 have hK:ad.oZ N (i*24) 24=.d (.agg l[i].c24.cs):=by rw[b3];exact M3 ae hi
 clear b3;generalize l[i].c24=w at*;obtain⟨wn,aDx,uO,uP,na,qb,IF,⟨cY,cO,nR,aeh,aei,aej,aek,ael,aem,aen,aeo,aep,aeq,aer,aes,aeu⟩,aDy⟩:=w;generalize i*24=aD at*;cases hs;all_goals
  dsimp only[cy.st,iP,eD,cR]at aV⊢;refine af ?_
 all_goals (subst ae;exact bZ aV axV axV)
theorem aGA{m:cy}{ay:Bool}{l:List cX}(ak:aDi m ay l)(hs:Bool)(i:Nat)(hi:i<l.length):aM 28 [.ptr 0 0,.d (int (Int.ofNat i))] (m.st ay hs true) (.d (.agg [int l[i].k,int l[i].a,int l[i].b])) (m.st ay hs true):=by
 have aj:=aFY ak hs i hi;obtain⟨hm,b3,aI,au,cB⟩:=ak;obtain⟨ox,t,bn,N,ps,ns,S,gn,b0,b6,b4,P⟩:=m;dsimp only at b3 aI au cB;obtain rfl:ay=true:=cB.trans (aAk axW);refine aEn.kf (iP true hs true) λad ae Q aV=> ?_;obtain⟨bw,a2,a3⟩:=br.of ae hm.N;obtain⟨bJ,a6,cq⟩:=br.of ae hm.S;obtain⟨c1,c2,c3⟩:=br.of ae hm.b0;obtain⟨d1,d2,d3⟩:=br.of ae hm.b6;obtain⟨b',cr,dE⟩:=br.of ae hm.b4;obtain⟨de,dp,dF⟩:=lh.of ae hm.P;dsimp only at bw a2 a3 bJ a6 cq c1 c2 c3 d1 d2 d3 b' cr dE de dp dF;clear b3;generalize l[i]=w at*;obtain⟨wn,aDx,uO,uP,na,qb,bM,pl,aDy⟩:=w;unfold cX.c24 at aj;dsimp only at aj aV⊢;generalize bM.map dW=IF at*;generalize uO.map bD=rr at*;generalize pl.bB=C at*;obtain⟨cY,cO,nR,aeh,aei,aej,aek,ael,aem,aen,aeo,aep,aeq,aer,aes,aeu⟩:=C;cases hs;all_goals
  dsimp only[cy.st,iP,eD,cR]at aV aj⊢;refine af ?_
 all_goals (subst ae;exact bZ aV axV axV)
theorem aDL{m:cy}{ay:Bool}{l:List cX}(ak:aDi m ay l)(hs:Bool)(i:Nat)(hi:i<l.length)(h1:l[i].bq.length<=1073741824)(sh:l[i].bM.length<=1073741824)(hw:l[i].pl.w<=dJ):aM 8 [.ptr 0 0,.d (int (Int.ofNat i))] (m.st ay hs true) (.d (.agg l[i].c24.cs)) (m.st ay hs true):=by
 have aj:=aFY ak hs i hi;have aF:=aGu l[i].c24 (by show(l[i].bq.map bD).length<=_;rw[aAb];exact h1) (by show(l[i].bM.map dW).length<=_;rw[aAb];exact sh) (aGt _ l[i].pl (aAd _) hw);obtain⟨hm,b3,aI,au,cB⟩:=ak;obtain⟨ox,t,bn,N,ps,ns,S,gn,b0,b6,b4,P⟩:=m;dsimp only at b3 aI au cB;obtain rfl:ay=true:=cB.trans (aAk axW);refine U5.kf (iP true hs true) λad ae Q aV=> ?_;obtain⟨bw,a2,a3⟩:=br.of ae hm.N;obtain⟨bJ,a6,cq⟩:=br.of ae hm.S;obtain⟨c1,c2,c3⟩:=br.of ae hm.b0;obtain⟨d1,d2,d3⟩:=br.of ae hm.b6;obtain⟨b',cr,dE⟩:=br.of ae hm.b4;obtain⟨de,dp,dF⟩:=lh.of ae hm.P;dsimp only at bw a2 a3 bJ a6 cq c1 c2 c3 d1 d2 d3 b' cr dE de dp dF;clear b3 h1 sh hw;generalize l[i].c24=w at*;obtain⟨wn,aDx,uO,uP,na,qb,IF,⟨cY,cO,nR,aeh,aei,aej,aek,ael,aem,aen,aeo,aep,aeq,aer,aes,aeu⟩,aDy⟩:=w;cases hs;all_goals
  dsimp only[cy.st,iP,eD,cR]at aV aj⊢;refine af ?_
 all_goals (subst ae;exact bZ aV axV axV)
theorem aGB(k a b:Int)(h:aDh a b):aM 21 [.d (.agg [int k,int a,int b])] [] (.d (int (b-a+1))) []:=by
 obtain⟨h1,sh,av,aW⟩:=h;refine alS.cn λad ae Q aV=> ?_;have t1:ad.io .sub .i64 b a=b-a:=Mq ae axW axW;have t2:ad.io .add .i64 (b-a) 1=b-a+1:=o6 ae axW axW;generalize b-a+1=c at*;generalize b-a=d at*;refine af ?_;all_goals (subst ae;exact bZ aV axV axV)
def By(a:Int)(n:Nat):List Int:=(List.range n).map λk=>a+Int.ofNat k
theorem aDq(a:Int)(n:Nat):(By a n).length=n:=by unfold By;simp
theorem aFZ(a:Int)(n:Nat):By a (n+1)=By a n++[a+Int.ofNat n]:=by unfold By;rw[List.range_succ,aAy];rfl
def aDM(k a b:Int)(i:Int)(v:ah):ag:=pV [(1,.dT 1 0),(3,v),(4,.d (int i))] [(1,[.d (int k),.d (int a),.d (int b)])] []
theorem aGC(k a b:Int)(h:aDh a b):aM 29 [.d (.agg [int k,int a,int b])] [] (nR (By a (b-a+1).toNat)) []:=by
 obtain⟨h1,sh,av,aW⟩:=h;refine Gc.cn λad ae Q aV=> ?_;refine af ?_;refine⟨bX (λz:Nat×Int=>aDM k a b z.2 (nR (By a z.1))) (λz=>z.1<=(b-a+1).toNat/\z.2=a+Int.ofNat z.1) (λz=>(b-a+1).toNat-z.1),_,⟨(0,a),⟨aAa _,(Int.add_zero _).symm⟩,rfl,axV⟩,?_⟩;rintro _ _ ⟨⟨i,x⟩,⟨hi,ak⟩,rfl,rfl⟩;dsimp only at hi ak⊢;by_cases aA:i<(b-a+1).toNat
 .have t1:ad.aD .leq x b=true:=by simp only[aJ ae,aAh,aAi]at*;omega
  obtain⟨b',t6,afK⟩:∃y,ad.io .add .i64 x 1=y/\y=a+Int.ofNat (i+1):=⟨_,o6 ae (by simp only[aAh]at*;omega) (by simp only[aAh]at*;omega),by simp only[aAh]at*;omega⟩;have hs:=aFZ a i;rw[<-ak]at hs;have dF:ad.zW (lL (By a i)) [fc.d (int x)]=some (lL (By a (i+1))):=by subst ae;rw[hs];unfold lL;rw[aAy];rfl
  have lz:ad.lD i 1=i+1:=ax3;have sd:ad.zX 1 1 i 1 17592186044416=true:=azZ;have sh:nR (By a (i+1))=.raw 1 (i+1) (lL (By a (i+1))):=MY (aDq _ _);have bh:∀{st:ag},st=aDM k a b b' (nR (By a (i+1)))->∃m,m<(b-a+1).toNat-i/\bX (λz:Nat×Int=>aDM k a b z.2 (nR (By a z.1))) (λz=>z.1<=(b-a+1).toNat/\z.2=a+Int.ofNat z.1) (λz=>(b-a+1).toNat-z.1) m st:=λh=>ec (i+1,b') ⟨aA,afK⟩ (by show(b-a+1).toNat-(i+1)<_;omega) h;rw[sh]at bh;cases i with
  |zero=>
   have wb:lL (By a 1)=[fc.d (int x)]:=by rw[hs];rfl
   rw[wb]at bh;clear dF sh hs wb ak afK;rw[show nR (By a 0)=.own 1 []from rfl];refine af ?_;exact bh axV
  |succ j=>
   have wb:nR (By a (j+1))=.raw 1 (j+1) (lL (By a (j+1))):=MY (aDq _ _);rw[wb];clear wb sh hs hi ak afK;generalize lL (By a (j+1+1))=R2 at*;generalize lL (By a (j+1))=ac8 at*;generalize hf:j+1+1=k2 at*;generalize j+1=k1 at*;refine af ?_;exact bh axV
 .have t1:ad.aD .leq x b=false:=by simp only[aJ ae,aAh,aAp]at*;omega
  obtain rfl:i=(b-a+1).toNat:=axW;generalize ch:nR (By a (b-a+1).toNat)=v at*;obtain⟨n,ay⟩:∃n,(b-a+1).toNat=n+1:=⟨(b-a).toNat,axW⟩;have hv:v=.raw 1 (n+1) (lL (By a (n+1))):=by rw[<-ch,ay];exact MY (aDq _ _)
  subst hv;clear ak;generalize lL (By a (n+1))=R at*;generalize n+1=gG at*;refine af ?_;all_goals (subst ae;exact bZ aV axV axV)
def abi(f g k:Int):Bool:=decide (k<f)||decide (g<k)
theorem aF0(f g k:Int):aM 32 [.d (int k),.ptr 0 0,.ptr 1 0] [.box [.d (int f)],.box [.d (int g)]] (.d (.bool (abi f g k))) [.box [.d (int f)],.box [.d (int g)]]:=by
 unfold abi;refine W1.cn λad ae Q aV=> ?_;have t1:ad.aD .lss k f=decide (k<f):=ax3;have t2:ad.aD .gtr k g=decide (g<k):=ax3;generalize decide (k<f)=B at*;generalize decide (g<k)=C at*;cases B<;>cases C;all_goals refine af ?_
 all_goals (subst ae;exact bZ aV axV axV)
def aDr(a b:Nat):ah:=.func 32 [] [.ptr a 0,.ptr b 0]
def aGD(C:List ah)(n i:Nat)(f g:Int):ag:=cx [(0,.aN 0 0 n n 1),(1,aDr 1 2),(7,.d (int (Int.ofNat n))),(8,.d (int (Int.ofNat i)))] [.box C,.box [.d (int f)],.box [.d (int g)]]
theorem aGE(l:List Int)(n:Nat)(jb:l.length=n)(ay:n<=1073741824)(f g:Int)(P:Nat->Bool)(jF:∀i (h:i<l.length),abi f g l[i]=P i):
  ∃r:Int,oo n P r/\aM 55 [.aN 0 0 n n 1,aDr 1 2] [.box (bV l),.box [.d (int f)],.box [.d (int g)]] (.d (int r)) [.box (bV l),.box [.d (int f)],.box [.d (int g)]]:=by
 refine fK ?_;unfold aDr;refine Y0.jt [0] _ λad ae K ao=> ?_;obtain⟨f0,f1,f2⟩:=br.of ae (et l);have cR:∀i (h:i<l.length),(bV l)[i]?=some (.d (int l[i])):=λi h=>MP h;have aqF:=pb l;generalize bV l=C at*;refine af ?_;refine⟨bX (λi=>aGD C n i f g) (λi=>i<=n/\∀j,j<i->P j=false) (λi=>n-i),_,⟨0,⟨aAa _,λj h=>axW⟩,rfl,axV⟩,?_⟩;rintro _ _ ⟨i,⟨hi,hs⟩,rfl,rfl⟩;dsimp only at hi hs⊢;by_cases aA:i<n
 .have t1:=eT ae aA;have t2:ad.er 1 1 (Int.ofNat i) n=true:=fT ae aA;have t3:=lg ae i;have t4:ad.hL i 1 C true=true:=rh ae axW;have t5:=v7 ae (cR i axW);have t6:=cd ae (n:=i) axW;have aj:=aF0 f g (l[i]' axW);rw[jF i axW]at aj;have Ar:P i=true->oo n P (Int.ofNat i):=λh=>.inr ⟨i,aA,rfl,h,hs⟩;have x5:P i=false->∀j,j<i+1->P j=false:=λh j aK=>by
   rcases Nat.lt_succ_iff_lt_or_eq.1 aK with aK|rfl
   .exact hs j aK
   .exact h
  generalize (l[i]' axW)=x at*;generalize P i=b at*;cases b with
  |true=>
   refine af ?_;all_goals exact ao _ _ ⟨_,Ar rfl,rfl,axV⟩
  |false=>
   refine af ?_;all_goals exact fixF (i+1) ⟨aA,x5 rfl⟩
 .have t1:=eY ae aA;have aO:oo n P (-1):=.inl ⟨rfl,λj aK=>hs j axW⟩;refine af ?_;all_goals exact ao _ _ ⟨_,aO,rfl,axV⟩
def Pe(f g:Int)(l:List Int):List Int:=l.filter λk=>!abi f g k
theorem aF1{f g:Int}{l:List Int}(h:∀i (h:i<l.length),abi f g l[i]=false):Pe f g l=l:=List.filter_eq_self.2 λa bp=>by
 obtain⟨i,hi,rfl⟩:=aBs bp;rw[h i hi];rfl
theorem aF2(f g:Int)(l:List Int){j:Nat}(aK:j<l.length):Pe f g (l.take (j+1))=Pe f g (l.take j)++cond (abi f g l[j]) [] [l[j]]:=by
 unfold Pe;rw[aA9,aAj aK,aBC];show _++List.filter _ [l[j]]=_;congr 1;rw[List.filter_cons];cases abi f g l[j]<;>rfl
def aGF(C:List ah)(n i j:Nat)(f g:Int):ag:=cx [(0,.aN 0 0 n n 1),(1,aDr 1 2),(5,.d (int (Int.ofNat i))),(6,.d (int (Int.ofNat j)))] [.box C,.box [.d (int f)],.box [.d (int g)]]
theorem aGG(l:List Int)(n:Nat)(jb:l.length=n)(wb:0<n)(ay:n<=1073741824)(f g:Int):∃(i:Nat) (bC:List Int),(i<=n/\bC.length=n/\bC.take i=Pe f g l)/\aM 31 [.aN 0 0 n n 1,aDr 1 2] [.box (bV l),.box [.d (int f)],.box [.d (int g)]] (.aN 0 0 i n 1) [.box (bV bC),.box [.d (int f)],.box [.d (int g)]]:=by
 refine K7 ?_;obtain⟨r,ax,aj⟩:=aGE l n jb ay f g (λi=>abi f g (l.getD i 0)) λi h=>by rw[aAL,aAj h];rfl
 unfold aDr at*;refine U'.jt [0] _ λad ae K ao=> ?_;obtain⟨f0,f1,f2⟩:=br.of ae (et l);have aC:∀i (h:i<l.length),abi f g (l.getD i 0)=abi f g l[i]:=λi h=>by rw[aAL,aAj h];rfl
 rcases ax with⟨rfl,ax⟩|⟨k,aq,rfl,fQ,hf⟩
 .have t1:ad.aD .eql (-1) (-1)=true:=by simp_all[aJ]
  have fg:l.take n=Pe f g l:=by rw[aBa axW,aF1 λi h=>by rw[<-aC i h];exact ax i axW]
  replace ao:=λs h=>ao (.aN 0 0 n n 1) s ⟨n,l,⟨aAd _,jb,fg⟩,rfl,h⟩;clear ax aC;generalize bV l=C at*;refine af ?_;all_goals exact ao _ axV
 have t1:ad.aD .eql (Int.ofNat k) (-1)=false:=by simp only[aJ ae,aAp,aAh];omega
 have t6:=cd ae (n:=k) axW;have fg:l.take k=Pe f g (l.take (k+1)):=by
  rw[aF2 f g l axW,<-aC k axW];dsimp only at fQ;rw[fQ];show _=_++[];rw[aBN,aF1];intro i h;rw[aBq]at h;rw[List.getElem_take,<-aC i axW];exact hf i axW
 clear fQ hf aC;generalize acL:bV l=C at aj f0 f1 f2;obtain⟨k1,fQ⟩:∃m,m=k+1:=⟨_,rfl⟩;rw[<-fQ]at t6 fg;refine af ?_;refine⟨bX (λz:Nat×Nat×List ah=>aGF z.2.2 n z.1 z.2.1 f g) (λz=>∃ts:List Int,z.2.2=bV ts/\ts.length=n/\z.1<z.2.1/\z.2.1<=n/\ts.take z.1=Pe f g (l.take z.2.1)/\ts.drop z.2.1=l.drop z.2.1) (λz=>n-z.2.1),_,⟨(k,k1,C),⟨l,acL.symm,jb,by show k<k1;omega,by show k1<=n;omega,fg,rfl⟩,rfl,axV⟩,?_⟩;clear f0 f1 f2 t6 t1 aj acL fg;rintro _ _ ⟨⟨i,j,C⟩,⟨ts,hC,hB,eP,aK,hle,aji⟩,rfl,rfl⟩;dsimp only at hC eP aK hle aji⊢;obtain⟨f0,f1,f2⟩:=br.of ae (et ts);have aqF:=pb ts;rw[<-hC]at f0 f1 f2 aqF;by_cases aA:j<n
 .have ep:j<l.length:=jb▸aA;have awQ:j<ts.length:=hB▸aA;have t1:=eT ae aA;have t2:ad.er 1 1 (Int.ofNat j) n=true:=fT ae aA;have t3:=lg ae j;have t4:ad.hL j 1 C true=true:=rh ae axW;have ak:ts[j]=l[j]:=by
   have h:(ts.drop j)[0]?=(l.drop j)[0]?:=by rw[aji]
   rw[aBT,aBT,aAS,aAj axW,aAj axW]at h;exact aBO h
  have t5:ad.jS C j=.d (int l[j]):=by rw[<-ak];exact v7 ae (by rw[hC];exact MP axW)
  have t6:=cd ae (n:=j) axW;have aj:=aF0 f g l[j];have gW:ad.er 1 1 (Int.ofNat i) n=true:=fT ae axW;have gd:=lg ae i;have hK:ad.mR true i 1 C true=true:=vZ ae axW;have gY:ad.lC C i [.d (int l[j])]=some (bV (ts.set i l[j])):=by rw[sR ae,hC,AG]
  have kJ:=cd ae (n:=i) axW;obtain⟨g0,g1,g2⟩:=br.of ae (et (ts.set i l[j]));have jm:(ts.set i l[j]).length=n:=by rw[aBm];exact hB
  have asI:=aF2 f g l (j:=j) axW;have Jr:ts.drop (j+1)=l.drop (j+1):=by rw[<-aCt,<-aCt,aji]
  have nC:(ts.set i l[j]).drop (j+1)=l.drop (j+1):=by rw[List.drop_set_of_lt axW,Jr]
  have aDN:(ts.set i l[j]).take (i+1)=ts.take i++[l[j]]:=by rw[aA9,aAW axW,List.take_set_of_le (aAd _)];rfl
  clear ak;generalize (ts.set i l[j])=oU at*;generalize l[j]=x at*;generalize abi f g x=b at*;generalize gi:bV oU=d' at*;cases b with
  |true=>
   have aDO:ts.take i=Pe f g (l.take (j+1)):=by rw[asI,hle];exact(aBN _).symm
   clear asI aDN;refine af ?_;all_goals exact fixF (i,j+1,C) ⟨ts,hC,hB,Nat.lt_succ_of_lt eP,aA,aDO,Jr⟩
  |false=>
   have aDO:oU.take (i+1)=Pe f g (l.take (j+1)):=by rw[asI,aDN,hle];rfl
   clear asI aDN;refine af ?_;all_goals exact fixF (i+1,j+1,d') ⟨oU,gi.symm,jm,aC7 eP,aA,aDO,nC⟩
 .have t1:=eY ae aA;have gE:ad.pW true (Int.ofNat i) (Int.ofNat n) (Int.ofNat n) n=true:=ye ae axW (aAd _) (aAd _);have gW:ad.aD .eql (Int.ofNat i) (Int.ofNat n)=false:=ayb;have gd:=lg ae i;have hK:=uE ae n i;obtain⟨m,hm⟩:∃m,m=n-i:=⟨_,rfl⟩;rw[<-hm]at hK;have gY:ad.zU true i m 1 C=true:=acG ae axW;have kJ:ad.zV C i m [.d (int 0)]=some (bV (ts.take i++List.replicate m 0)):=by
   have h1:ad.zV C i m [.d (int 0)]=some (putCells C i (List.replicate m [ah.d (int 0)]).flatten):=ax3;have sh:(List.replicate m [ah.d (int 0)]).flatten=List.replicate m (ah.d (int 0)):=axX;rw[h1,sh,MG _ _ _ _ axW,aBr axW,aBN,hC];unfold bV;rw[aAy,List.map_take,List.map_replicate]
  have jm:(ts.take i++List.replicate m (0:Int)).length=n:=by rw[aAA,aBq,aDc];omega
  have aqG:(ts.take i++List.replicate m (0:Int)).take i=Pe f g l:=by
   rw[List.take_append_of_le_length azr,List.take_take,Nat.min_self,hle,aBa axW]
  obtain⟨g0,g1,g2⟩:=br.of ae (et (ts.take i++List.replicate m 0));generalize (ts.take i++List.replicate m (0:Int))=oU at*;replace ao:=λs h=>ao (.aN 0 0 i n 1) s ⟨i,oU,⟨axW,jm,aqG⟩,rfl,h⟩;generalize gi:bV oU=d' at*;have v1:ad.pW true 0 (Int.ofNat i) (Int.ofNat n) n=true:=ye (l:=0) ae axW axW (aAd _);have v2:ad.aD .eql 0 (Int.ofNat n)=false:=ayb;have v3:ad.l9 0 0 1=0:=lg ae 0;have v4:ad.ns (Int.ofNat i) 0=i:=uE ae i 0;have v5:ad.ns (Int.ofNat n) 0=n:=uE ae n 0;clear aqG hle aji;refine af ?_;all_goals exact ao _ axV
def Pd(s:aw)(k:Int):Go.aH.D:=.agg [.str s,int k]
def aGH(s:aw)(C:List ah)(i n j:Nat)(R:List Go.aH.D):ag:=cx [(0,.d (.str s)),(5,.own 2 R),(8,.aN 0 0 i n 1),(9,.d (int (Int.ofNat i))),(10,.d (int (Int.ofNat j)))] [.box C]
theorem aGI(s:aw)(l:List Int)(i n:Nat)(aI:l.length=n)(hi:i<=n)(ay:n<=33554432):aM 30 [.d (.str s),.aN 0 0 i n 1] [.box (bV l)] (.d (.list 2 ((l.take i).map (Pd s)))) [.box (bV l)]:=by
 refine aEp.kf [0] λad ae Q aV=> ?_;obtain⟨f0,f1,f2⟩:=br.of ae (et l);have cR:∀i (h:i<l.length),(bV l)[i]?=some (.d (int l[i])):=λi h=>MP h;have aqF:=pb l;generalize bV l=C at*;refine af ?_;refine⟨bX (λz:Nat×List Go.aH.D=>aGH s C i n z.1 z.2) (λz=>z.1<=i/\z.2=(l.take z.1).map (Pd s)) (λz=>i-z.1),_,⟨(0,[]),⟨aAa _,rfl⟩,rfl,axV⟩,?_⟩;rintro _ _ ⟨⟨j,R⟩,⟨aK,ch⟩,rfl,rfl⟩;dsimp only at aK ch⊢;by_cases aA:j<i
 .have t1:=eT ae aA;have t2:ad.er 1 1 (Int.ofNat j) i=true:=fT ae aA;have t3:=lg ae j;have t4:ad.hL j 1 C true=true:=rh ae axW;have t5:=v7 ae (cR j axW);have t6:=cd ae (n:=j) axW;have ng:(l.take (j+1)).map (Pd s)=ad.app R [.agg [.str s,int (l[j]' axW)]]:=by subst ae;rw[ch,aA9,aAj axW,aAy];rfl
  have sW:R.length<=33554432:=by rw[ch];simp;omega
  clear cR ch;generalize (l[j]' axW)=x at*;refine af ?_;all_goals exact fixF (j+1,_) ⟨aA,ng.symm⟩
 .have t1:=eY ae aA;obtain rfl:j=i:=axW;rw[<-ch]at aV;clear ch;refine af ?_;all_goals (subst ae;exact bZ aV axV axV)
def cX.ks(x:cX):List Int:=By x.a (x.b-x.a+1).toNat
def aF3(l:List cX)(v:aw)(f g:Int)(R:List Int):Prop:=(∃(i:Nat) (h:i<l.length),nS l v i true/\R=Pe f g l[i].ks)\/(nS l v 0 false/\R=[])
theorem aGJ{m:cy}{ay:Bool}{l:List cX}(ak:aDi m ay l)(hs:Bool)(v:aw)(f g:Int)(acu:∀i (h:i<l.length),aDh l[i].a l[i].b):∃R:List Int,aF3 l v f g R/\R.length<=512/\aM 11 [.ptr 0 0,.d (.str v),.d (int f),.d (int g)] (m.st ay hs true) (.d (.list 2 (R.map (Pd v)))) (m.st ay hs true):=by
 obtain⟨i,ok,gx,aj⟩:=G6 m ak.ok ay hs true l ak.N ak.bn (by have:=ak.wE;omega) ak.wb v;have hm:=ak.ok;cases ok with
 |false=>
  obtain rfl:i=0:=by rcases gx with⟨h,_⟩|⟨_,h,_⟩;cases h;exact h
  refine⟨[],.inr ⟨gx,rfl⟩,aAa _,?_⟩;clear ak gx;obtain⟨ox,t,bn,N,ps,ns,S,gn,b0,b6,b4,P⟩:=m;refine Ts.kf (iP ay hs true) λad ae Q aV=> ?_;obtain⟨bw,a2,a3⟩:=br.of ae hm.N;obtain⟨bJ,a6,cq⟩:=br.of ae hm.S;obtain⟨c1,c2,c3⟩:=br.of ae hm.b0;obtain⟨d1,d2,d3⟩:=br.of ae hm.b6;obtain⟨b',cr,dE⟩:=br.of ae hm.b4;obtain⟨de,dp,dF⟩:=lh.of ae hm.P;dsimp only at bw a2 a3 bJ a6 cq c1 c2 c3 d1 d2 d3 b' cr dE de dp dF;cases ay<;>cases hs;all_goals
   dsimp only[cy.st,iP,eD,cR]at aV aj⊢;refine af ?_
  all_goals (subst ae;exact bZ aV axV axV)
 |true=>
  have hi:i<l.length:=by rcases gx with⟨_,h,_⟩|⟨h,_⟩;exact h;cases h
  have aF:=aGA ak hs i hi;have aZ:=aGC l[i].k l[i].a l[i].b (acu i hi);obtain⟨s1,s2,kE,k5⟩:=acu i hi;refine⟨_,.inl ⟨i,hi,gx,rfl⟩,aAZ (aBu _ _) (by unfold cX.ks;rw[aDq];omega),?_⟩;obtain rfl:ay=true:=ak.ay.trans (aAk (by have:=ak.bn;omega));clear ak gx;have hlen:l[i].ks.length=(l[i].b-l[i].a+1).toNat:=aDq _ _;obtain⟨q,bC,⟨h1,sh,av⟩,bP⟩:=aGG l[i].ks _ hlen axW axW f g;have cK:=aGI v bC q _ sh h1 axW;rw[av]at cK;have wV:=et l[i].ks;have axJ:=et bC;have Io:=λ(ad:bm) (h:ad=bm.bU)=>ar5 h l[i].ks;change bG _ _ _ _ _ (nR l[i].ks) _ at aZ;obtain⟨n,ay⟩:∃n,(l[i].b-l[i].a+1).toNat=n+1:=⟨(l[i].b-l[i].a).toNat,axW⟩;rw[ay]at bP cK hlen;rw[MY hlen]at aZ;generalize n+1=gG at*;generalize (Pe f g l[i].ks).map (Pd v)=aGK at*;generalize lL l[i].ks=aG8 at*;generalize bV l[i].ks=C at*;generalize bV bC=awT at*;generalize l[i].k=db at*;generalize l[i].a=aG9 at*;generalize l[i].b=h' at*;clear acu s1 s2 kE k5 h1 sh av hlen ay;obtain⟨ox,t,bn,N,ps,ns,S,gn,b0,b6,b4,P⟩:=m;unfold aDr at*;refine Ts.kf (iP true hs true++[cond hs 10 9]) λad ae Q aV=> ?_;obtain⟨bw,a2,a3⟩:=br.of ae hm.N;obtain⟨bJ,a6,cq⟩:=br.of ae hm.S;obtain⟨c1,c2,c3⟩:=br.of ae hm.b0;obtain⟨d1,d2,d3⟩:=br.of ae hm.b6;obtain⟨b',cr,dE⟩:=br.of ae hm.b4;obtain⟨de,dp,dF⟩:=lh.of ae hm.P;dsimp only at bw a2 a3 bJ a6 cq c1 c2 c3 d1 d2 d3 b' cr dE de dp dF;obtain⟨f0,f1,f2⟩:=br.of ae wV;obtain⟨g0,g1,g2⟩:=br.of ae axJ;have gE:=Io ad ae;clear Io wV axJ;cases hs;all_goals
   dsimp only[cy.st,iP,eD,cR]at aV aj aF⊢;refine af ?_
  all_goals (subst ae;exact bZ aV axV axV)
def aro(l:List cX)(v:aw):Int:=match l.findIdx? (λx=>decide (x.n=v))with|some i=>Int.ofNat i|none=> -1
theorem aF4{l:List cX}{v:aw}{i:Nat}(h:nS l v i true):aro l v=Int.ofNat i:=by
 rcases h with⟨_,hi,h1,sh⟩|⟨h,_⟩
 .unfold aro;rw[(aB1 (p:=λx:cX=>decide (x.n=v))).2 ⟨hi,by simpa using h1,λj aK=>by simpa using sh j aK⟩]
 .cases h
theorem aGL{l:List cX}{v:aw}{i:Nat}(h:nS l v i false):aro l v= -1:=by
 rcases h with⟨h,_⟩|⟨_,_,h⟩
 .cases h
 .unfold aro;rw[List.findIdx?_eq_none_iff.2 λx ak=>by simpa using h x ak]
def BE(i k:Int):Go.aH.D:=.agg [int i,int k]
theorem aGM{m:cy}{ay:Bool}{l:List cX}(ak:aDi m ay l)(hs:Bool)(v:aw)(k:Int):aM 15 [.ptr 0 0,.d (Pd v k)] (m.st ay hs true) (.d (BE (aro l v) k)) (m.st ay hs true):=by
 obtain⟨i,ok,gx,aj⟩:=G6 m ak.ok ay hs true l ak.N ak.bn (by have:=ak.wE;omega) ak.wb v;have hm:=ak.ok;unfold Pd BE;have h:aro l v=cond ok (Int.ofNat i) (-1):=by
  cases ok with
  |true=>exact aF4 gx
  |false=>exact aGL gx
 rw[h];clear ak gx h;obtain⟨ox,t,bn,N,ps,ns,S,gn,b0,b6,b4,P⟩:=m;refine YL.kf (iP ay hs true) λad ae Q aV=> ?_;obtain⟨bw,a2,a3⟩:=br.of ae hm.N;obtain⟨bJ,a6,cq⟩:=br.of ae hm.S;obtain⟨c1,c2,c3⟩:=br.of ae hm.b0;obtain⟨d1,d2,d3⟩:=br.of ae hm.b6;obtain⟨b',cr,dE⟩:=br.of ae hm.b4;obtain⟨de,dp,dF⟩:=lh.of ae hm.P;dsimp only at bw a2 a3 bJ a6 cq c1 c2 c3 d1 d2 d3 b' cr dE de dp dF;cases ok<;>cases ay<;>cases hs;all_goals
  dsimp only[cy.st,iP,eD,cR]at aV aj⊢;refine af ?_
 all_goals (subst ae;exact bZ aV axV axV)
def aGN(m:cy)(ay hs:Bool)(L R:List Go.aH.D)(n i:Nat):ag:=cx [(0,.ptr 0 0),(5,.own 2 R),(8,.d (.list 2 L)),(9,.d (int (Int.ofNat n))),(10,.d (int (Int.ofNat i)))] (m.st ay hs true)
theorem aGO{m:cy}{ay:Bool}{l:List cX}(ak:aDi m ay l)(hs:Bool)(ps:List (aw×Int))(hp:ps.length<=33554432):aM 10 [.ptr 0 0,.d (.list 2 (ps.map λp=>Pd p.1 p.2))] (m.st ay hs true) (.d (.list 2 (ps.map λp=>BE (aro l p.1) p.2))) (m.st ay hs true):=by
 have aj:=λv k=>aGM ak hs v k;have hm:=ak.ok;clear ak;have bE:(ps.map λp=>Pd p.1 p.2).length=ps.length:=aAb _;have bY:∀i (h:i<ps.length),(ps.map λp=>Pd p.1 p.2)[i]?=some (Pd ps[i].1 ps[i].2):=λi h=>c7 h;generalize (ps.map λp=>Pd p.1 p.2)=L at*;obtain⟨ox,t,bn,N,dN,ns,S,gn,b0,b6,b4,P⟩:=m;refine aFr.kf (iP ay hs true) λad ae Q aV=> ?_;obtain⟨bw,a2,a3⟩:=br.of ae hm.N;obtain⟨bJ,a6,cq⟩:=br.of ae hm.S;obtain⟨c1,c2,c3⟩:=br.of ae hm.b0;obtain⟨d1,d2,d3⟩:=br.of ae hm.b6;obtain⟨b',cr,dE⟩:=br.of ae hm.b4;obtain⟨de,dp,dF⟩:=lh.of ae hm.P;dsimp only at bw a2 a3 bJ a6 cq c1 c2 c3 d1 d2 d3 b' cr dE de dp dF;obtain⟨n,sb⟩:∃n,n=ps.length:=⟨_,rfl⟩;have t0:ad.len L=n:=by subst ae;exact bE.trans sb.symm
 have aC:lM ay:=trivial;have fH:lM hs:=trivial;cases ay<;>cases hs;all_goals
  dsimp only[cy.st,iP,eD,cR]at aV aj⊢;refine af ?_;refine⟨bX (λz:Nat×List Go.aH.D=>aGN ⟨ox,t,bn,N,dN,ns,S,gn,b0,b6,b4,P⟩ (cS aC) (cS fH) L z.2 n z.1) (λz=>z.1<=n/\z.2=(ps.take z.1).map λp=>BE (aro l p.1) p.2) (λz=>n-z.1),_,⟨(0,[]),⟨aAa _,rfl⟩,rfl,axV⟩,?_⟩;rintro _ _ ⟨⟨j,R⟩,⟨aK,ch⟩,rfl,rfl⟩;dsimp only at aK ch⊢;by_cases aA:j<n
  .have aDo:j<ps.length:=sb▸aA;have t1:=eT ae aA;have t2:=cz ae (bY j aDo);have t6:=cd ae (n:=j) axW;have aF:=aj ps[j].1 ps[j].2;have ng:((ps.take (j+1)).map λp=>BE (aro l p.1) p.2)=ad.app R [BE (aro l ps[j].1) ps[j].2]:=by subst ae;rw[ch,aA9,aAj aDo,aAy];rfl
   have sW:R.length<=33554432:=by rw[ch];simp;omega
   clear bY ch aj;generalize aro l ps[j].1=aG' at*;generalize ps[j].1=v at*;generalize ps[j].2=k at*;unfold Pd BE at*;refine af ?_;all_goals exact fixF (j+1,_) ⟨aA,ng.symm⟩
  .have t1:=eY ae aA;rw[aBa axW]at ch;rw[<-ch]at aV;clear ch aj;refine af ?_;all_goals (subst ae;exact bZ aV axV axV)
def aGP(L:List Go.aH.D)(n i:Nat):ag:=cx [(0,.d (.list 2 L)),(1,.d (.list 2 L)),(12,.d (int (Int.ofNat n))),(13,.d (int (Int.ofNat i)))] []
theorem aGQ(ps:List (Int×Int))(hp:ps.length<=1073741824):aM 9 [.d (.list 2 (ps.map λp=>BE p.1 p.2)),.d (.list 2 (ps.map λp=>BE p.1 p.2))] [] (.d (.bool true)) []:=by
 have bE:(ps.map λp=>BE p.1 p.2).length=ps.length:=aAb _;have bY:∀i (h:i<ps.length),(ps.map λp=>BE p.1 p.2)[i]?=some (BE ps[i].1 ps[i].2):=λi h=>c7 h;generalize (ps.map λp=>BE p.1 p.2)=L at*;refine aES.cn λad ae Q aV=> ?_;obtain⟨n,sb⟩:∃n,n=ps.length:=⟨_,rfl⟩;have t0:ad.len L=n:=by subst ae;exact bE.trans sb.symm
 have gY:∀k:Int,ad.aD .neq k k=false:=λk=>az';have t3:=gY (Int.ofNat n);refine af ?_;refine⟨bX (λi:Nat=>aGP L n i) (λi=>i<=n) (λi=>n-i),_,⟨0,aAa _,rfl,axV⟩,?_⟩;rintro _ _ ⟨j,aK,rfl,rfl⟩;dsimp only at aK⊢;by_cases aA:j<n
 .have aDo:j<ps.length:=sb▸aA;have t1:=eT ae aA;have t2:=cz ae (bY j aDo);have t6:=cd ae (n:=j) axW;clear bY;generalize ps[j].1=v at*;generalize ps[j].2=k at*;have t4:ad.og [1,1] [int v,int k] [int v,int k]=some true:=C9 ae (by simp[cA]);unfold BE at*;refine af ?_;all_goals exact fixF (j+1) aA
 .have t1:=eY ae aA;refine af ?_;all_goals (subst ae;exact bZ aV axV axV)
def yG:Bool->Bool->Nat
 |true,true=>3
 |false,false=>1
 |_,_=>2
theorem aup(m:cy)(hm:m.Ok)(ay hs:Bool):aM 23 [.ptr 0 0] (m.st ay hs true) (.ptr (yG ay hs) 0) (m.st ay hs true):=by
 obtain⟨ox,t,bn,N,ps,ns,S,gn,b0,b6,b4,P⟩:=m;refine alU.kf (iP ay hs true) λad ae Q aV=> ?_;obtain⟨bw,a2,a3⟩:=br.of ae hm.N;obtain⟨bJ,a6,cq⟩:=br.of ae hm.S;obtain⟨c1,c2,c3⟩:=br.of ae hm.b0;obtain⟨d1,d2,d3⟩:=br.of ae hm.b6;obtain⟨b',cr,dE⟩:=br.of ae hm.b4;obtain⟨de,dp,dF⟩:=lh.of ae hm.P;dsimp only at bw a2 a3 bJ a6 cq c1 c2 c3 d1 d2 d3 b' cr dE de dp dF;cases ay<;>cases hs;all_goals
  dsimp only[cy.st,iP,eD,cR,yG]at aV⊢;refine af ?_
 all_goals (subst ae;exact bZ aV axV axV)
structure aDB(m:cy)(ay:Bool)(l:List cX):Prop extends aDi m ay l where
 bq:∀i (h:i<l.length),aDh l[i].a l[i].b
 aN:∀x∈l,x.bq.length<=1073741824/\x.bM.length<=1073741824/\x.pl.w<=dJ
 gn:m.gn=m.bn
def aDP(l:List cX)(z:Int):List (Int×Int):=match l[z.toNat]? with|some x=>x.ks.map λk=>(z,k)|none=>[]
theorem aDQ{l:List cX}{i:Nat}(hi:i<l.length):aDP l (Int.ofNat i)=l[i].ks.map λk=>(Int.ofNat i,k):=by
 show(match l[i]? with|some x=>_|none=>_)=_;rw[aAj hi]
def DO(l:List cX)(zs:List Int):List (Int×Int):=zs.flatMap (aDP l)
theorem aF5{l:List cX}{zs:List Int}{j i:Nat}(aK:j<zs.length)(aO:zs[j]=Int.ofNat i)(hi:i<l.length):DO l (zs.take (j+1))=DO l (zs.take j)++l[i].ks.map λk=>(Int.ofNat i,k):=by
 unfold DO;rw[aA9,aAj aK,aCW];congr 1;show List.flatMap _ [zs[j]]=_;rw[aO];simp only[aBw,List.flatMap_nil,aBN];exact aDQ hi
theorem aF6{l:List cX}{zs:List Int}{n:Nat}(acu:∀i (h:i<l.length),aDh l[i].a l[i].b)(aO:iw n (iota n) zs)(jb:l.length=n)(j:Nat):j<=n->(DO l (zs.take j)).length<=j*512:=by
 have qM:=aO.len;induction j with
 |zero=>intro _;exact aAd _
 |succ j ih=>
  intro aK;obtain⟨i,dw,n2⟩:=wh (aO.all _ (aAl (show j<zs.length by omega)));have hi:i<l.length:=axW;obtain⟨s1,s2,kE,k5⟩:=acu i hi;rw[aF5 axW n2 hi,aAA,aAb];have h1:=ih axW;have sh:l[i].ks.length=(l[i].b-l[i].a+1).toNat:=aDq _ _;omega
def aGR(m:cy)(ay hs:Bool)(Z R:List Go.aH.D)(n i:Nat):ag:=cx [(0,.ptr 0 0),(3,.own 2 R),(10,.d (.list 1 Z)),(11,.d (int (Int.ofNat n))),(12,.d (int (Int.ofNat i)))] (m.st ay hs true)
def aGS(m:cy)(ay hs:Bool)(Z R:List Go.aH.D)(n i:Nat)(z k a b x:Int):ag:=pV [(0,.ptr 0 0),(3,.own 2 R),(5,.d (int z)),(6,.dT 6 0),(7,.d (int x)),(10,.d (.list 1 Z)),(11,.d (int (Int.ofNat n))),(12,.d (int (Int.ofNat i)))] [(6,[.d (int k),.d (int a),.d (int b)])] (m.st ay hs true)
theorem aGT{m:cy}{ay:Bool}{l:List cX}(wa:aDB m ay l)(hs:Bool)(zs:List Int)(aO:iw m.bn (iota m.bn) zs)(ry:aM 24 [.ptr 0 0] [.box (cR 1 2 3 m.bn),.box m.b0,.box m.b6,.box m.b4] (.d (.list 1 (zs.map int))) [.box (cR 1 2 3 m.bn),.box m.b0,.box m.b6,.box m.b4]):
  aM 7 [.ptr 0 0] (m.st ay hs true) (.d (.list 2 ((DO l zs).map λp=>BE p.1 p.2))) (m.st ay hs true):=by
 have ak:=wa.1;have aj:=λi hi=>aDL ak hs i hi (wa.aN _ (aAl hi)).1 (wa.aN _ (aAl hi)).2.1 (wa.aN _ (aAl hi)).2.2;have aF:=aup m ak.ok ay hs;have hm:=ak.ok;have jb:=ak.bn;have au:=ak.wE;have acu:=wa.bq;have JH:=wa.gn;have agL:=ak.wb;clear wa ak;have bE:(zs.map int).length=zs.length:=aAb _;have bY:∀i (h:i<zs.length),(zs.map int)[i]?=some (int zs[i]):=λi h=>c7 h;have qM:=aO.len;generalize (zs.map int)=Z at*;obtain⟨ox,t,bn,N,dN,ns,S,gn,b0,b6,b4,P⟩:=m;dsimp only at jb au JH qM aO ry;subst JH;have aF8:=aF6 acu aO jb;refine YH.kf (iP ay hs true) λad ae Q aV=> ?_;obtain⟨bw,a2,a3⟩:=br.of ae hm.N;obtain⟨bJ,a6,cq⟩:=br.of ae hm.S;obtain⟨c1,c2,c3⟩:=br.of ae hm.b0;obtain⟨d1,d2,d3⟩:=br.of ae hm.b6;obtain⟨b',cr,dE⟩:=br.of ae hm.b4;obtain⟨de,dp,dF⟩:=lh.of ae hm.P;dsimp only at bw a2 a3 bJ a6 cq c1 c2 c3 d1 d2 d3 b' cr dE de dp dF;have t0:ad.len Z=gn:=by subst ae;exact bE.trans qM
 have aC:lM ay:=trivial;have fH:lM hs:=trivial;cases ay<;>cases hs;all_goals
  dsimp only[cy.st,iP,eD,cR,yG]at aV aj aF ry⊢;refine af ?_;refine⟨bX (λz:Nat×List Go.aH.D=>aGR ⟨ox,t,gn,N,dN,ns,S,gn,b0,b6,b4,P⟩ (cS aC) (cS fH) Z z.2 gn z.1) (λz=>z.1<=gn/\z.2=(DO l (zs.take z.1)).map λp=>BE p.1 p.2) (λz=>gn-z.1),_,⟨(0,[]),⟨aAa _,rfl⟩,rfl,axV⟩,?_⟩;clear ry aF;rintro _ _ ⟨⟨j,R⟩,⟨aK,ch⟩,rfl,rfl⟩;dsimp only at aK ch⊢;by_cases aA:j<gn
  .have aDR:j<zs.length:=qM.symm▸aA;obtain⟨i,dw,n2⟩:=wh (aO.all _ (aAl aDR));have hi:i<l.length:=axW;first
   |exact absurd (agL rfl▸hi) (aBh _)
   |skip
   all_goals
    have t1:=eT ae aA;have t2:=cz ae (bY j aDR);rw[n2]at t2;have t6:=cd ae (n:=j) axW;have aZ:=aj i hi;obtain⟨s1,s2,kE,k5⟩:=acu i hi;have jQ:=aF5 aDR n2 hi;have lY:=aF8 j axW;have j4:l[i].ks=By l[i].a (l[i].b-l[i].a+1).toNat:=rfl;rw[j4]at jQ;clear aj acu aF8 bY n2 j4;generalize l[i]=w at*;obtain⟨wn,aDx,uO,uP,na,qb,bM,pl,aDy⟩:=w;unfold cX.c24 at aZ;dsimp only at aZ s1 s2 kE k5 jQ;generalize bM.map dW=IF at*;generalize uO.map bD=rr at*;generalize pl.bB=C at*;obtain⟨cY,cO,nR,aeh,aei,aej,aek,ael,aem,aen,aeo,aep,aeq,aer,aes,aeu⟩:=C;refine af ?_;refine⟨bX (λz:(Nat×Int)×List Go.aH.D=>aGS ⟨ox,t,gn,N,dN,ns,S,gn,b0,b6,b4,P⟩ (cS aC) (cS fH) Z z.2 gn j (Int.ofNat i) uP na qb z.1.2) (λz=>z.1.1<=(qb-na+1).toNat/\z.1.2=na+Int.ofNat z.1.1/\z.2=R++((By na z.1.1).map λk=>BE (Int.ofNat i) k)) (λz=>(qb-na+1).toNat-z.1.1),_,⟨((0,na),R),⟨aAa _,(Int.add_zero _).symm,(aBN _).symm⟩,rfl,axV⟩,?_⟩;clear aZ;rintro _ _ ⟨⟨⟨q,x⟩,R2⟩,⟨aS,aF9,ng⟩,rfl,rfl⟩;dsimp only at aS aF9 ng⊢;have aHa:R2.length<=33554432:=by rw[ng,ch,aAA,aAb,aAb,aDq];omega
    by_cases Bz:q<(qb-na+1).toNat
    .have t1:ad.aD .leq x qb=true:=by simp only[aJ ae,aAh,aAi]at*;omega
     obtain⟨y,t6,wa⟩:∃y,ad.io .add .i64 x 1=y/\y=na+Int.ofNat (q+1):=⟨_,o6 ae (by simp only[aAh]at*;omega) (by simp only[aAh]at*;omega),by simp only[aAh]at*;omega⟩;have aDS:R++((By na (q+1)).map λk=>BE (Int.ofNat i) k)=ad.app R2 [BE (Int.ofNat i) x]:=by subst ae;rw[aFZ,<-aF9,ng,aAy,<-aBj];rfl
     unfold BE at*;clear jQ ch ng lY;refine af ?_;all_goals exact fixF ((q+1,y),_) ⟨Bz,wa,aDS.symm⟩
    .have t1:ad.aD .leq x qb=false:=by simp only[aJ ae,aAh,aAp]at*;omega
     obtain rfl:q=(qb-na+1).toNat:=axW;have aDS:R2=(DO l (zs.take (j+1))).map λp=>BE p.1 p.2:=by rw[jQ,aAy,aBE,ng,ch];rfl
     clear jQ ch ng lY;refine af ?_;all_goals exact fixF (j+1,_) ⟨aA,aDS⟩
  .have t1:=eY ae aA;rw[aBa axW]at ch;rw[<-ch]at aV;clear ch aj;refine af ?_;all_goals (subst ae;exact bZ aV axV axV)
end Go.Proofs.YthffhbakgmemaaaGreatDoor
