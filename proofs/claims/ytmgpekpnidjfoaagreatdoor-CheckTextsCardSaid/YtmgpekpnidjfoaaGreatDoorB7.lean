/- Part of texts_said. -/
import Derived.Test.YtmgpekpnidjfoaaGreatDoorB4
set_option maxRecDepth 100000
set_option maxHeartbeats 8000000
set_option linter.unusedSimpArgs false
set_option linter.unusedVariables false
namespace Go.Proofs.YtmgpekpnidjfoaaGreatDoor
open Go Go.aJ
attribute [local irreducible] bM
theorem vm{α:Type}(f:α->Nat)(l:List α){i:Nat}(h:i<l.length):fM f (l.take (i+1))=fM f (l.take i)+(200+f l[i]):=by
 rw[aAS,azQ h,aBa,qM];rfl
theorem tW{α:Type}(f:α->Nat):∀(l:List α) (i:Nat),fM f (l.take i)<=fM f l
 |[],i=>axt
 |x::l,0=>azF _
 |x::l,i+1=>by have:=tW f l i;show 200+f x+fM f (l.take i)<=200+f x+fM f l;omega
theorem xA{α:Type}(f:α->Nat)(l:List α){i:Nat}(h:i<l.length):f l[i]+200<=fM f l:=by
 have h1:=vm f l h;grind[tW]
theorem vn(ss:List ax)(sep:ax)(hs:sep.length<=100)(h:lens ss<=100000000000):∃s:ax,s.length+100*ss.length<=lens ss/\aM 46 [.d (.list 1 (ss.map .str)),.d (.str sep)] [] (.d (.str s)) []:=by
 have h1:=LR hs ss;have h2:=sd ss;exact⟨_,h1,E' exts.B1 exts.j (F7 ss) axs axs⟩
theorem qQ{α:Type}{l:List α}{a:α}{n:Nat}(h:l.length=n):(l++[a]).length=n+1:=axv
theorem apB(c:ef)(l:List (ax×ax))(ay:c.on=l.map fy)(hw:j6 l<=10000000000):∃s:ax,s.length<=j6 l/\aM 165 [.d (.agg c.cs)] [] (.d (.str s)) []:=by
 refine fL ?_;have bF:(l.map fy).length=l.length:=azG _;have cl:∀i (h:i<l.length),(l.map fy)[i]?=some (fy l[i]):=λi h=>dv h;rw[<-ay]at bF cl;clear ay;have vg:l.length<=j6 l:=lA _ _;obtain⟨c1,c2,c3,c4,c5,eN,bT,e1,c9,fr,fa,c12,eP,eT,eU,bB⟩:=c;dsimp only at*;generalize LZ:eP=L at*;refine W2.cr _ λad ae K ao=> ?_;refine ai ?_;refine⟨b6 (λz:Nat×List D=>cA [(3,.own 1 z.2),(7,.d (.list 2 L)),(8,.d (int (Int.ofNat (ad.len L)))),(9,.d (int (Int.ofNat z.1)))] []) (λz=>z.1<=l.length/\∃ss:List ax,z.2=ss.map .str/\ss.length=z.1/\lens ss<=j6 (l.take z.1)+3*z.1) λz=>l.length-z.1,_,⟨(0,[]),⟨azF _,[],rfl,rfl,azF _⟩,rfl,axr⟩,?_⟩;rintro _ _ ⟨⟨i,out⟩,⟨hi,ss,e8,aH,hs⟩,rfl,rfl⟩;dsimp only at hi aH hs e8⊢;have hm:=xq (l:=ss);have nZ:=sd ss;have zT:j6 (l.take i)<=j6 l:=tW (λx:(ax×ax)=>x.1.length+x.2.length) _ _;by_cases aB:i<l.length
 .have g1:ad.aF .lss (Int.ofNat i) (Int.ofNat (ad.len L))=true:=by simp_all[aI]
  have g2:=cV ae (cl i aB);have g3:=cv ae (n:=i) axs;have aC:j6 (l.take (i+1))=j6 (l.take i)+(200+(l[i].1.length+l[i].2.length)):=vm (λx:(ax×ax)=>x.1.length+x.2.length) l aB;have br:(l[i].1.length+l[i].2.length)+200<=j6 l:=xA (λx:(ax×ax)=>x.1.length+x.2.length) l aB;have kC:∀s:ax,s.length<=(l[i].1.length+l[i].2.length)+3->lens (ss++[s])<=j6 (l.take (i+1))+3*(i+1):=by
   intro s h;rw[se,aC];show lens ss+(200+s.length+0)<=_;omega
  rw[<-e8]at hm;clear aC;unfold fy at g2;generalize l[i]=x at*;obtain⟨b0,b7⟩:=x;dsimp only at*;have h1:ad.fG b0 [32,61,32]=true:=axH;have h2:ad.fG (ad.cR b0 [32,61,32]) b7=true:=axF;refine ai ?_;repeat' (split<;>refine ai ?_)
  exact fixF (i+1,ad.app out [.str (ad.cR (ad.cR b0 [32,61,32]) b7)]) ⟨aB,ss++[(ad.cR (ad.cR b0 [32,61,32]) b7)],axK,qQ aH,kC _ azp⟩
 .have e7:i=l.length:=by omega
  have g1:ad.aF .lss (Int.ofNat i) (Int.ofNat (ad.len L))=false:=axx;obtain⟨t,aC,aj⟩:=vn ss [44,32] axw axs;rw[<-e8]at aj;refine ai ?_;repeat' (split<;>refine ai ?_)
  exact ao _ _ ⟨t,axs,rfl,axr⟩
theorem apC(c:ef)(l:List (ax×ax×ax))(ay:c.ah=l.map eL)(hw:j7 l<=10000000000):∃s:ax,s.length<=j7 l/\aM 166 [.d (.agg c.cs)] [] (.d (.str s)) []:=by
 refine fL ?_;have bF:(l.map eL).length=l.length:=azG _;have cl:∀i (h:i<l.length),(l.map eL)[i]?=some (eL l[i]):=λi h=>dv h;rw[<-ay]at bF cl;clear ay;have vg:l.length<=j7 l:=lA _ _;obtain⟨c1,c2,c3,c4,c5,eN,bT,e1,c9,fr,fa,c12,eP,eT,eU,bB⟩:=c;dsimp only at*;generalize LZ:eT=L at*;refine TH.cr _ λad ae K ao=> ?_;refine ai ?_;refine⟨b6 (λz:Nat×List D=>cA [(3,.own 1 z.2),(7,.d (.list 3 L)),(8,.d (int (Int.ofNat (ad.len L)))),(9,.d (int (Int.ofNat z.1)))] []) (λz=>z.1<=l.length/\∃ss:List ax,z.2=ss.map .str/\ss.length=z.1/\lens ss<=j7 (l.take z.1)+6*z.1) λz=>l.length-z.1,_,⟨(0,[]),⟨azF _,[],rfl,rfl,azF _⟩,rfl,axr⟩,?_⟩;rintro _ _ ⟨⟨i,out⟩,⟨hi,ss,e8,aH,hs⟩,rfl,rfl⟩;dsimp only at hi aH hs e8⊢;have hm:=xq (l:=ss);have nZ:=sd ss;have zT:j7 (l.take i)<=j7 l:=tW (λx:(ax×ax×ax)=>x.1.length+x.2.1.length+x.2.2.length) _ _;by_cases aB:i<l.length
 .have g1:ad.aF .lss (Int.ofNat i) (Int.ofNat (ad.len L))=true:=by simp_all[aI]
  have g2:=cV ae (cl i aB);have g3:=cv ae (n:=i) axs;have aC:j7 (l.take (i+1))=j7 (l.take i)+(200+(l[i].1.length+l[i].2.1.length+l[i].2.2.length)):=vm (λx:(ax×ax×ax)=>x.1.length+x.2.1.length+x.2.2.length) l aB;have br:(l[i].1.length+l[i].2.1.length+l[i].2.2.length)+200<=j7 l:=xA (λx:(ax×ax×ax)=>x.1.length+x.2.1.length+x.2.2.length) l aB;have kC:∀s:ax,s.length<=(l[i].1.length+l[i].2.1.length+l[i].2.2.length)+6->lens (ss++[s])<=j7 (l.take (i+1))+6*(i+1):=by
   intro s h;rw[se,aC];show lens ss+(200+s.length+0)<=_;omega
  rw[<-e8]at hm;clear aC;unfold eL at g2;generalize l[i]=x at*;obtain⟨b0,b7,c7⟩:=x;dsimp only at*;have h1:ad.fG b0 [40]=true:=axH;have h2:ad.fG (ad.cR b0 [40]) b7=true:=axF;have av:ad.fG (ad.cR (ad.cR b0 [40]) b7) [41,32,97,115,32]=true:=axF;have aZ:ad.fG (ad.cR (ad.cR (ad.cR b0 [40]) b7) [41,32,97,115,32]) c7=true:=axF;refine ai ?_;repeat' (split<;>refine ai ?_)
  exact fixF (i+1,ad.app out [.str (ad.cR (ad.cR (ad.cR (ad.cR b0 [40]) b7) [41,32,97,115,32]) c7)]) ⟨aB,ss++[(ad.cR (ad.cR (ad.cR (ad.cR b0 [40]) b7) [41,32,97,115,32]) c7)],axK,qQ aH,kC _ azp⟩
 .have e7:i=l.length:=by omega
  have g1:ad.aF .lss (Int.ofNat i) (Int.ofNat (ad.len L))=false:=axx;obtain⟨t,aC,aj⟩:=vn ss [44,32] axw axs;rw[<-e8]at aj;refine ai ?_;repeat' (split<;>refine ai ?_)
  exact ao _ _ ⟨t,axs,rfl,axr⟩
theorem apD(c:ef)(l:List (ax×Bool))(ay:c.ob=l.map fA)(hw:j8 l<=10000000000):∃s:ax,s.length<=j8 l/\aM 167 [.d (.agg c.cs)] [] (.d (.str s)) []:=by
 refine fL ?_;have bF:(l.map fA).length=l.length:=azG _;have cl:∀i (h:i<l.length),(l.map fA)[i]?=some (fA l[i]):=λi h=>dv h;rw[<-ay]at bF cl;clear ay;have vg:l.length<=j8 l:=lA _ _;obtain⟨c1,c2,c3,c4,c5,eN,bT,e1,c9,fr,fa,c12,eP,eT,eU,bB⟩:=c;dsimp only at*;generalize LZ:eU=L at*;refine Y6.cr _ λad ae K ao=> ?_;refine ai ?_;refine⟨b6 (λz:Nat×List D=>cA [(3,.own 1 z.2),(8,.d (.list 2 L)),(9,.d (int (Int.ofNat (ad.len L)))),(10,.d (int (Int.ofNat z.1)))] []) (λz=>z.1<=l.length/\∃ss:List ax,z.2=ss.map .str/\ss.length=z.1/\lens ss<=j8 (l.take z.1)+5*z.1) λz=>l.length-z.1,_,⟨(0,[]),⟨azF _,[],rfl,rfl,azF _⟩,rfl,axr⟩,?_⟩;rintro _ _ ⟨⟨i,out⟩,⟨hi,ss,e8,aH,hs⟩,rfl,rfl⟩;dsimp only at hi aH hs e8⊢;have hm:=xq (l:=ss);have nZ:=sd ss;have zT:j8 (l.take i)<=j8 l:=tW (λx:(ax×Bool)=>x.1.length) _ _;by_cases aB:i<l.length
 .have g1:ad.aF .lss (Int.ofNat i) (Int.ofNat (ad.len L))=true:=by simp_all[aI]
  have g2:=cV ae (cl i aB);have g3:=cv ae (n:=i) axs;have aC:j8 (l.take (i+1))=j8 (l.take i)+(200+(l[i].1.length)):=vm (λx:(ax×Bool)=>x.1.length) l aB;have br:(l[i].1.length)+200<=j8 l:=xA (λx:(ax×Bool)=>x.1.length) l aB;have kC:∀s:ax,s.length<=(l[i].1.length)+5->lens (ss++[s])<=j8 (l.take (i+1))+5*(i+1):=by
   intro s h;rw[se,aC];show lens ss+(200+s.length+0)<=_;omega
  rw[<-e8]at hm;clear aC;unfold fA at g2;generalize l[i]=x at*;obtain⟨b0,b7⟩:=x;dsimp only at*;have h1:ad.fG b0 [32,100,111,119,110]=true:=axH;cases b7 with
  |true=>
   refine ai ?_;repeat' (split<;>refine ai ?_)
   exact fixF (i+1,ad.app out [.str (ad.cR b0 [32,100,111,119,110])]) ⟨aB,ss++[(ad.cR b0 [32,100,111,119,110])],axK,qQ aH,kC _ axx⟩
  |false=>
   refine ai ?_;repeat' (split<;>refine ai ?_)
   exact fixF (i+1,ad.app out [.str b0]) ⟨aB,ss++[b0],axK,qQ aH,kC _ axt⟩
 .have e7:i=l.length:=by omega
  have g1:ad.aF .lss (Int.ofNat i) (Int.ofNat (ad.len L))=false:=axx;obtain⟨t,aC,aj⟩:=vn ss [44,32] axw axs;rw[<-e8]at aj;refine ai ?_;repeat' (split<;>refine ai ?_)
  exact ao _ _ ⟨t,axs,rfl,axr⟩
theorem fZ{ad:bn}(h:ad=bn.bY){z n i:Nat}(hi:i<n):ad.ez z z (Int.ofNat i) n=true:=axx
theorem lB{ad:bn}(h:ad=bn.bY)(i:Nat):ad.lW 0 (Int.ofNat i) 1=i:=by
 simp_all[tG]
theorem sj{ad:bn}(h:ad=bn.bY){C:List ag}{i:Nat}(hi:i<C.length):ad.ic i 1 C true=true:=by
 rw[(tG h).2.1,azO axs];rfl
theorem vp{ad:bn}(h:ad=bn.bY){C:List ag}{i:Nat}(hi:i<C.length):ad.mB true i 1 C true=true:=by
 rw[(tG h).2.2.1,azO axs];rfl
theorem xB{ad:bn}(h:ad=bn.bY){C:List ag}{i:Nat}{x:D}(hi:C[i]?=some (.d x)):ad.j4 C i=.d x:=by
 subst h;show snap (C.getD i .undef)=_;rw[aAo,hi];rfl
theorem sk{ad:bn}(h:ad=bn.bY)(C:List ag)(i:Nat)(v:ag):ad.ln C i [v]=some (C.set i v):=axT
theorem tX{ad:bn}(h:ad=bn.bY)(a b:Nat):ad.ns (Int.ofNat a) (Int.ofNat b)=a-b:=axT
theorem xC{ad:bn}(h:ad=bn.bY){l m n c:Nat}(h1:l<=m)(h2:m<=n)(av:n<=c):ad.pE true (Int.ofNat l) (Int.ofNat m) (Int.ofNat n) c=true:=by
 simp_all[tG]
theorem abR{ad:bn}(h:ad=bn.bY){C:List ag}{o n:Nat}(hi:o+n<=C.length):ad.zh true o n 1 C=true:=by
 simp_all[tG]
def gy(ss:List ax):List ag:=ss.map λs=>.d (.str s)
theorem L1(ss:List ax):(gy ss).length=ss.length:=azG _
theorem l5(ss:List ax):Flat (gy ss):=λv hv=>azq
theorem abS{ss:List ax}{i:Nat}(h:i<ss.length):(gy ss)[i]?=some (.d (.str ss[i])):=by
 grind[gy]
theorem apE(ss:List ax)(i:Nat)(s:ax):(gy ss).set i (.d (.str s))=gy (ss.set i s):=by
 grind[gy,List.map_set]
theorem L2(v:ag):∀(n:Nat) (C:List ag) (i:Nat),i+n<=C.length->putCells C i (List.replicate n v)=C.take i++List.replicate n v++C.drop (i+n)
 |0,C,i,h=>by show C=_;simp
 |n+1,C,i,h=>by
  show putCells (C.set i v) (i+1) (List.replicate n v)=_;rw[L2 v n _ _ axv,aAS,aAq axs,List.take_set_of_le (azI _),List.drop_set_of_lt axs];grind
theorem abT(s:ax):aM 105 [.d (.str s)] [] (.d (.bool (decide (s=[])))) []:=by
 refine Vb.cw λad ae Q a8=> ?_;refine ai ?_;all_goals (subst ae;exact b5 a8 axr axr)
def apF(C:List ag)(n i:Nat):af:=cA [(0,.aS 0 0 n n 1),(1,.d (.fn 105)),(7,.d (int (Int.ofNat n))),(8,.d (int (Int.ofNat i)))] [.box C]
theorem apG(ss:List ax)(n:Nat)(k2:ss.length=n)(az:n<=1073741824):∃r:Int,(r= -1\/∃k:Nat,k<n/\r=Int.ofNat k)/\aM 160 [.aS 0 0 n n 1,.d (.fn 105)] [.box (gy ss)] (.d (int r)) [.box (gy ss)]:=by
 refine fL ?_;refine KN.jl [0] _ λad ae K ao=> ?_;have f0:=(l5 ss).refs ae;have f1:=(l5 ss).ok ae;have hC:=L1 ss;have c6:∀i (h:i<ss.length),(gy ss)[i]?=some (.d (.str ss[i])):=λi h=>abS h;generalize gy ss=C at*;refine ai ?_;refine⟨b6 (λi=>apF C n i) (λi=>i<=n) (λi=>n-i),_,⟨0,azF _,rfl,axr⟩,?_⟩;rintro _ _ ⟨i,hi,rfl,rfl⟩;dsimp only at hi⊢;by_cases aB:i<n
 .have t1:ad.aF .lss (Int.ofNat i) (Int.ofNat n)=true:=by simp_all[aI]
  have t2:ad.ez 1 1 (Int.ofNat i) n=true:=fZ ae aB;have t3:=lB ae i;have t4:ad.ic i 1 C true=true:=sj ae axs;have t5:=xB ae (c6 i axs);have t6:=cv ae (n:=i) axs;have aj:=abT (ss[i]' axs);generalize (ss[i]' axs)=x at*;generalize aq:decide (x=[])=b at*;cases b with
  |true=>
   refine ai ?_;grind
  |false=>
   refine ai ?_;repeat' (split<;>refine ai ?_)
   all_goals exact fixF (i+1) aB
 .have t1:ad.aF .lss (Int.ofNat i) (Int.ofNat n)=false:=by simp_all[aI]
  refine ai ?_;simp_all
theorem apH(ss:List ax)(i:Nat):lens (ss.take i)+lens (ss.drop i)=lens ss:=by
 rw[<-se,aCt]
theorem abU(s:ax)(ss:List ax):lens (s::ss)=200+s.length+lens ss:=rfl
theorem apI{ts:List ax}{i j:Nat}(eQ:i<j)(aL:j<ts.length):lens ((ts.set i ts[j]).take (i+1))+lens ((ts.set i ts[j]).drop (j+1))=lens (ts.take i)+lens (ts.drop j):=by
 rw[aAS,aAq axs,List.take_set_of_le (azI _),List.drop_set_of_lt axs,aAI aL,abU,se];show lens (ts.take i)+(200+ts[j].length+0)+_=_;omega
theorem abV{ts:List ax}{j:Nat}(aL:j<ts.length):lens (ts.drop (j+1))<=lens (ts.drop j):=by
 grind[List.drop_eq_getElem_cons,abU]
def apJ(C:List ag)(n i j:Nat):af:=cA [(0,.aS 0 0 n n 1),(1,.d (.fn 105)),(5,.d (int (Int.ofNat i))),(6,.d (int (Int.ofNat j)))] [.box C]
theorem apK(ss:List ax)(n:Nat)(k2:ss.length=n)(h0:0<n)(az:n<=1073741824):∃(i:Nat) (ss':List ax),i<=n/\ss'.length=n/\lens (ss'.take i)<=lens ss/\aM 104 [.aS 0 0 n n 1,.d (.fn 105)] [.box (gy ss)] (.aS 0 0 i n 1) [.box (gy ss')]:=by
 suffices h:∃r s',(∃(i:Nat) (ss':List ax),i<=n/\ss'.length=n/\lens (ss'.take i)<=lens ss/\r=.aS 0 0 i n 1/\s'=[.box (gy ss')])/\aM 104 [.aS 0 0 n n 1,.d (.fn 105)] [.box (gy ss)] r s' by
  grind
 obtain⟨r,aw,aj⟩:=apG ss n k2 az;refine U'.jl [0] _ λad ae K ao=> ?_;have f0:=(l5 ss).refs ae;have f1:=(l5 ss).ok ae;have f2:=(l5 ss).ren ae;rcases aw with rfl|⟨k,au,rfl⟩
 .have t1:ad.aF .eql (-1) (-1)=true:=by simp_all[aI]
  have fg:lens (ss.take n)<=lens ss:=axv;replace ao:=λs h=>ao (.aS 0 0 n n 1) s ⟨n,ss,azI _,k2,fg,rfl,h⟩;generalize gy ss=C at*;refine ai ?_;simp_all
 have t1:ad.aF .eql (Int.ofNat k) (-1)=false:=axx;have t6:=cv ae (n:=k) axs;have fg:lens (ss.take k)+lens (ss.drop (k+1))<=lens ss:=by grind[apH,abV]
 have kk:=ao;have apL:gy ss=gy ss:=rfl;generalize abW:gy ss=C at aj f0 f1 f2;obtain⟨bN,fe⟩:∃m,m=k+1:=⟨_,rfl⟩;rw[<-fe]at t6 fg;refine ai ?_;repeat' (split<;>refine ai ?_)
 refine⟨b6 (λz:Nat×Nat×List ag=>apJ z.2.2 n z.1 z.2.1) (λz=>∃ts:List ax,z.2.2=gy ts/\ts.length=n/\z.1<z.2.1/\z.2.1<=n/\lens (ts.take z.1)+lens (ts.drop z.2.1)<=lens ss) (λz=>n-z.2.1),_,⟨(k,bN,C),⟨ss,abW.symm,k2,axv,axv,fg⟩,rfl,axr⟩,?_⟩;clear f0 f1 f2 t6 t1 aj abW fg kk apL;rintro _ _ ⟨⟨i,j,C⟩,⟨ts,hC,hr,eQ,aL,hle⟩,rfl,rfl⟩;dsimp only at hC eQ aL hle⊢;have f0:=(l5 ts).refs ae;have f1:=(l5 ts).ok ae;have f2:=(l5 ts).ren ae;have apM:=L1 ts;rw[<-hC]at f0 f1 f2 apM;by_cases aB:j<n
 .have awm:j<ts.length:=by omega
  have t1:ad.aF .lss (Int.ofNat j) (Int.ofNat n)=true:=axx;have t2:ad.ez 1 1 (Int.ofNat j) n=true:=fZ ae aB;have t3:=lB ae j;have t4:ad.ic j 1 C true=true:=sj ae axs;have t5:ad.j4 C j=.d (.str (ts[j])):=by grind[xB,abS]
  have t6:=cv ae (n:=j) axs;have aj:=abT (ts[j]);have fR:ad.ez 1 1 (Int.ofNat i) n=true:=fZ ae axs;have fp:=lB ae i;have gd:ad.mB true i 1 C true=true:=vp ae axs;have gU:ad.ln C i [.d (.str (ts[j]))]=some (gy (ts.set i (ts[j]))):=by grind[sk,apE]
  have kW:=cv ae (n:=i) axs;have g0:=(l5 (ts.set i (ts[j]))).refs ae;have g1:=(l5 (ts.set i (ts[j]))).ok ae;have jh:(ts.set i (ts[j])).length=n:=axu;have awn:=apI (ts:=ts) eQ axs;have awo:=abV (ts:=ts) (j:=j) axs;generalize (ts.set i (ts[j]))=oA at*;generalize (ts[j])=x at*;generalize aq:decide (x=[])=b at*;generalize gg:gy oA=ea at*;cases b with
  |true=>
   refine ai ?_;repeat' (split<;>refine ai ?_)
   all_goals exact fixF (i,j+1,C) ⟨ts,hC,hr,axv,aB,axv⟩
  |false=>
   refine ai ?_;repeat' (split<;>refine ai ?_)
   all_goals exact fixF (i+1,j+1,ea) ⟨oA,gg.symm,jh,axu,aB,axu⟩
 .have t1:ad.aF .lss (Int.ofNat j) (Int.ofNat n)=false:=by simp_all[aI]
  have gb:ad.pE true (Int.ofNat i) (Int.ofNat n) (Int.ofNat n) n=true:=xC ae axs (azI _) (azI _);have fR:ad.aF .eql (Int.ofNat i) (Int.ofNat n)=false:=axI;have fp:=lB ae i;have gd:=tX ae n i;obtain⟨m,hm⟩:∃m,m=n-i:=⟨_,rfl⟩;rw[<-hm]at gd;have gU:ad.zh true i m 1 C=true:=abR ae axs;have kW:ad.zi C i m [.d (.str [])]=some (gy (ts.take i++List.replicate m [])):=by
   have h1:ad.zi C i m [.d (.str [])]=some (putCells C i (List.replicate m [ag.d (.str [])]).flatten):=axz;have h2:(List.replicate m [ag.d (.str [])]).flatten=List.replicate m (ag.d (.str [])):=axt;grind[L2,gy,List.drop_eq_nil_of_le,List.map_take,List.map_replicate]
  have jh:(ts.take i++List.replicate m ([]:ax)).length=n:=axv;have apN:lens ((ts.take i++List.replicate m ([]:ax)).take i)<=lens ss:=axv;have g1:=(l5 (ts.take i++List.replicate m [])).ok ae;generalize (ts.take i++List.replicate m ([]:ax))=oA at*;replace ao:=λs h=>ao (.aS 0 0 i n 1) s ⟨i,oA,axs,jh,apN,rfl,h⟩;generalize gg:gy oA=ea at*;have v1:ad.pE true 0 (Int.ofNat i) (Int.ofNat n) n=true:=xC (l:=0) ae axs axs (azI _);have v2:ad.aF .eql 0 (Int.ofNat n)=false:=axI;have v3:ad.lW 0 0 1=0:=lB ae 0;have v4:ad.ns (Int.ofNat i) 0=i:=tX ae i 0;have v5:ad.ns (Int.ofNat n) 0=n:=tX ae n 0;refine ai ?_;simp_all
theorem abX:∀ss:List ax,jr (gy ss)=some (ss.map D.str)
 |[]=>rfl
 |s::ss=>by
  show(match jr (gy ss)with|some xs=>some (D.str s::xs)|none=>none)=_;rw[abX ss];rfl
theorem apO(ss:List ax)(i n:Nat)(h:i<=n)(aH:ss.length=n):E9 [.box (gy ss)] (.aS 0 0 i n 1)=some (ss.take i):=by
 show(cond (Nat.ble i n&&Nat.ble (0+i) (gy ss).length) (match jr (((gy ss).drop 0).take i)with
   |some l=>aJ.fF l
   |none=>none) none)=_
 rw[aA4 h,aA4 (by grind[L1]),List.drop_zero];have h1:(gy ss).take i=gy (ss.take i):=by grind[gy,List.map_take]
 grind[abX,F7]
theorem Gf(ss:List ax)(n:Nat)(k2:ss.length=n)(h0:0<n)(az:n<=1073741824)(aH:lens ss<=100000000000):∃(s:ax) (C:List ag),s.length<=lens ss/\aM 60 [.aS 0 0 n n 1] [.box (gy ss)] (.d (.str s)) [.box C]:=by
 obtain⟨i,ss',hi,sP,hle,aj⟩:=apK ss n k2 h0 az;have h1:=LR (sep:=[32]) axw (ss'.take i);have h2:=sd (ss'.take i);have aD:=E' (P:=a1.prog) (gl:=gl) exts.B1 exts.j (sep:=[32]) (apO ss' i n hi sP) axs axs;generalize rY [32] (ss'.take i)=t at aD h1;refine⟨t,gy ss',axs,?_⟩;refine S0.lq [0] λad ae Q a8=> ?_;have f0:=(l5 ss).refs ae;have f1:=(l5 ss).ok ae;have f2:=(l5 ss).ren ae;have g0:=(l5 ss').refs ae;have g1:=(l5 ss').ok ae;have g2:=(l5 ss').ren ae;generalize gy ss=C at*;generalize gy ss'=awp at*;refine ai ?_;simp_all
theorem L3(a b:ax)(h:a.length+b.length<=90000000000):∃(s:ax) (C:List ag),s.length<=400+a.length+b.length/\aM 60 [.aS 0 0 2 2 1] [.box [.d (.str a),.d (.str b)]] (.d (.str s)) [.box C]:=by
 obtain⟨s,C,h1,h2⟩:=Gf [a,b] 2 rfl axw axw (by show 200+a.length+(200+b.length+0)<=_;omega);exact⟨s,C,by have h1:s.length<=200+a.length+(200+b.length+0):=h1;omega,h2⟩
theorem zU(a b c d:ax)(h:a.length+b.length+c.length+d.length<=90000000000):∃(s:ax) (C:List ag),s.length<=800+a.length+b.length+c.length+d.length/\aM 60 [.aS 0 0 4 4 1] [.box [.d (.str a),.d (.str b),.d (.str c),.d (.str d)]] (.d (.str s)) [.box C]:=by
 obtain⟨s,C,h1,h2⟩:=Gf [a,b,c,d] 4 rfl axw axw (by show 200+a.length+(200+b.length+(200+c.length+(200+d.length+0)))<=_;omega);exact⟨s,C,by have h1:s.length<=200+a.length+(200+b.length+(200+c.length+(200+d.length+0))):=h1;omega,h2⟩
theorem L4(a b c d e:ax)(h:a.length+b.length+c.length+d.length+e.length<=90000000000):∃(s:ax) (C:List ag),s.length<=1000+a.length+b.length+c.length+d.length+e.length/\aM 60 [.aS 0 0 5 5 1] [.box [.d (.str a),.d (.str b),.d (.str c),.d (.str d),.d (.str e)]] (.d (.str s)) [.box C]:=by
 obtain⟨s,C,h1,h2⟩:=Gf [a,b,c,d,e] 5 rfl axw axw (by show 200+a.length+(200+b.length+(200+c.length+(200+d.length+(200+e.length+0))))<=_;omega);exact⟨s,C,by have h1:s.length<=200+a.length+(200+b.length+(200+c.length+(200+d.length+(200+e.length+0)))):=h1;omega,h2⟩
theorem apP(c:ef)(xs:List aA)(ns:List ax)(ak:c.xs=aA.ds xs)(az:c.ns=ns.map .str)(ih:∀x∈xs,vf x)(hw:8*aA.ws xs+fH ns<=20000000000):∃s:ax,s.length<=8*aA.ws xs+fH ns/\aM 164 [.d (.agg c.cs)] [] (.d (.str s)) []:=by
 refine fL ?_;have bF:(aA.ds xs).length=xs.length:=aA.tK xs;have cl:∀i (h:i<xs.length),(aA.ds xs)[i]?=some (.agg xs[i].bT.cs):=by
  intro i h;rw[k0,aAK,azQ h];exact congrArg some (aA.mK _)
 have b9:(ns.map D.str).length=ns.length:=azG _;have zV:∀i (h:i<ns.length),(ns.map D.str)[i]?=some (D.str ns[i]):=λi h=>dv h;rw[<-ak]at bF cl;rw[<-az]at b9 zV;clear ak az;have qt:200*xs.length<=aA.ws xs:=by
  clear bF cl ih hw;induction xs with
  |nil=>simp
  |cons y l ih=>grind[aA.ws,aA.sf]
 obtain⟨c1,c2,c3,c4,c5,eN,bT,e1,c9,fr,N,L,eP,eT,eU,bB⟩:=c;dsimp only at*;refine Y4.cr _ λad ae K ao=> ?_;refine ai ?_;refine⟨b6 (λz:Nat×List D=>pD [(1,.dT 1 0),(3,.own 1 z.2),(8,.d (.list 7 L)),(9,.d (int (Int.ofNat (ad.len L)))),(10,.d (int (Int.ofNat z.1)))] [(1,(ef.cs ⟨c1,c2,c3,c4,c5,eN,bT,e1,c9,fr,N,L,eP,eT,eU,bB⟩).map .d)] []) (λz=>z.1<=xs.length/\∃ss:List ax,z.2=ss.map .str/\ss.length=z.1/\lens ss<=8*aA.ws (xs.take z.1)+fH (ns.take z.1)) λz=>xs.length-z.1,_,⟨(0,[]),⟨azF _,[],rfl,rfl,azF _⟩,rfl,axr⟩,?_⟩;rintro _ _ ⟨⟨i,out⟩,⟨hi,ss,e8,aH,hs⟩,rfl,rfl⟩;dsimp only at hi aH hs e8⊢;have hm:=xq (l:=ss);have nZ:=sd ss;have zT:fH (ns.take i)<=fH ns:=tW (λx:ax=>x.length) _ _;have apQ:aA.ws (xs.take i)<=aA.ws xs:=by
  grind[aA.xi,List.take_append_drop]
 by_cases aB:i<xs.length
 .have g1:ad.aF .lss (Int.ofNat i) (Int.ofNat (ad.len L))=true:=by simp_all[aI]
  have g2:=cV ae (cl i aB);have g3:=cv ae (n:=i) axs;obtain⟨t,aC,aj⟩:=ih xs[i] (azT aB);have awq:aA.ws (xs.take (i+1))=aA.ws (xs.take i)+xs[i].w:=by
   rw[aAS,azQ aB,aBa,aA.xi];rfl
  have awr:aA.ws (xs.take (i+1))<=aA.ws xs:=by
   grind[aA.xi,List.take_append_drop]
  rw[<-e8]at hm;have h1:ad.fG t [32,97,115,32]=true:=axH;by_cases uS:i<ns.length
  .have g4:ad.aF .lss (Int.ofNat i) (Int.ofNat (ad.len N))=true:=by simp_all[aI]
   have g5:=cV ae (zV i uS);have wR:fH (ns.take (i+1))=fH (ns.take i)+(200+ns[i].length):=vm (λx:ax=>x.length) ns uS;have ajM:ns[i].length+200<=fH ns:=xA (λx:ax=>x.length) ns uS;clear ih;generalize xs[i]=x at*;generalize x.bT=c at aj g2;generalize ns[i]=nm at*;have h2:ad.fG (ad.cR t [32,97,115,32]) nm=true:=axF;conv=>cbv
   repeat' ((first|refine bG ?_|refine bH ?_|simp -proj only[g1,g2,g3,g4,g5]|(split<;>(rename_i h;try simp only[h])))<;>conv=>cbv)
   exact eb (i+1,ad.app out [.str (ad.cR (ad.cR t [32,97,115,32]) nm)]) ⟨aB,ss++[ad.cR (ad.cR t [32,97,115,32]) nm],axK,qQ aH,by
    rw[se];show lens ss+(200+(ad.cR (ad.cR t [32,97,115,32]) nm).length+0)<=_;simp only[aI ae,az6,az0,aAz];omega⟩ (show xs.length-(i+1)<xs.length-i by omega) axr
  .have g4:ad.aF .lss (Int.ofNat i) (Int.ofNat (ad.len N))=false:=by simp_all[aI]
   have wR:fH (ns.take (i+1))=fH (ns.take i):=by grind[List.take_of_length_le]
   clear ih;generalize xs[i]=x at*;generalize x.bT=c at aj g2;have h2:ad.fG (ad.cR t [32,97,115,32]) []=true:=axx;refine ai ?_;repeat' (split<;>refine ai ?_)
   exact eb (i+1,ad.app out [.str (ad.cR (ad.cR t [32,97,115,32]) [])]) ⟨aB,ss++[ad.cR (ad.cR t [32,97,115,32]) []],axK,qQ aH,by
    rw[se];show lens ss+(200+(ad.cR (ad.cR t [32,97,115,32]) []).length+0)<=_;simp only[aI ae,az6,az0,aAz];omega⟩ (show xs.length-(i+1)<xs.length-i by omega) axr
 .have e7:i=xs.length:=by omega
  have g1:ad.aF .lss (Int.ofNat i) (Int.ofNat (ad.len L))=false:=axx;obtain⟨t,aC,aj⟩:=vn ss [44,32] axw axs;rw[<-e8]at aj;refine ai ?_;repeat' (split<;>refine ai ?_)
  exact ao _ _ ⟨t,axs,rfl,axr⟩
def CV(c:ef)(w:Nat):Prop:=∃s:ax,s.length<=8*w/\aM 63 [.d (.agg c.cs)] [] (.d (.str s)) []
theorem apR{c:ef}{w:Nat}(h:CV c w)(hw:w<=dS)(az:c.n.length<=w):∃s:ax,s.length<=8*w+2/\aM 162 [.d (.agg c.cs)] [] (.d (.str s)) []:=by
 obtain⟨t,aC,aj⟩:=h;unfold dS at hw;refine fL ?_;obtain⟨c1,c2,c3,c4,c5,eN,bT,e1,c9,fr,fa,c12,eP,eT,eU,bB⟩:=c;dsimp only at*;refine TF.cr _ λad ae K ao=> ?_;have h1:ad.fG [40] t=true:=axH;have h2:ad.fG (ad.cR [40] t) [41]=true:=axF;refine ai ?_;repeat' (split<;>refine ai ?_)
 .exact ao _ _ ⟨c2,axs,rfl,axr⟩
 all_goals exact ao _ _ ⟨_,axx,rfl,axr⟩
theorem apS(c:ef)(l:List ef)(br:c.a=l.map λx=>.agg x.cs){CW hb gX CX to tn rT sec:ax}
  (aj:aM 163 [.d (.agg (l0.cs ⟨c.cN,c.lk,c.ni,c.nj,c.nk,c.nn,c.dH⟩))] [] (.d (.str CW)) [])
  (aD:aM 164 [.d (.agg c.cs)] [] (.d (.str hb)) [])
  (aW:aM 165 [.d (.agg c.cs)] [] (.d (.str gX)) [])
  (bQ:aM 166 [.d (.agg c.cs)] [] (.d (.str CX)) [])
  (cK:aM 167 [.d (.agg c.cs)] [] (.d (.str to)) [])
  (dQ:aM 46 [.d (.list 1 c.ns),.d (.str [44,32])] [] (.d (.str tn)) [])
  (xu:aM 106 [.d (int c.cC)] [] (.d (.str rT)) [])
  (si:(l.length<=1/\sec=[])\/∃h:1<l.length,aM 162 [.d (.agg l[1].cs)] [] (.d (.str sec)) [])
  (aq:CW.length+hb.length+gX.length+CX.length+to.length+tn.length+rT.length+sec.length<=50000000000):
  ∃s:ax,s.length<=900+CW.length+hb.length+gX.length+CX.length+to.length+tn.length+rT.length+sec.length/\aM 107 [.d (.agg c.cs)] [] (.d (.str s)) []:=by
 obtain⟨s2,ea,h2,bS⟩:=L3 [119,104,101,114,101] CW axv;obtain⟨my,vq,av,dZ⟩:=L3 [107,101,101,112] hb axv;obtain⟨y1,aws,aZ,iP⟩:=zU [106,111,105,110] sec [111,110] gX axv;obtain⟨y2,awt,bW,ku⟩:=zU [108,101,102,116] sec [111,110] gX axv;obtain⟨y3,awu,dh,Bz⟩:=zU [103,114,111,117,112] tn [58] CX axv;obtain⟨y5,l0,h6,awv⟩:=L3 [117,110,105,111,110] sec axv;obtain⟨y4,aww,h7,awx⟩:=zU [102,105,114,115,116] rT [98,121] to axv;obtain⟨awy,awz,im,awA⟩:=zU [102,105,114,115,116] rT [] to axv;simp only[az0,aAz]at h2 av aZ bW dh h6 h7 im;refine fL ?_;have bF:(l.map λx=>D.agg x.cs).length=l.length:=azG _;have cl:∀i (h:i<l.length),(l.map λx=>D.agg x.cs)[i]?=some (.agg l[i].cs):=λi h=>dv h;rw[<-br]at bF cl;clear br;obtain⟨c1,c2,L,c4,c5,eN,bT,e1,c9,fr,fa,X,eP,eT,eU,bB⟩:=c;dsimp only at*;refine Te.cr _ λad ae K ao=> ?_;rcases si with⟨aH,rfl⟩|⟨aH,si⟩
 .have g1:ad.aF .gtr (Int.ofNat (ad.len L)) 1=false:=by simp only[aI ae,azM,az2];omega
  refine ai ?_;repeat' (split<;>refine ai ?_)
  all_goals exact ao _ _ ⟨_,by first|omega|(show 8<=_;omega),rfl,axr⟩
 .have g1:ad.aF .gtr (Int.ofNat (ad.len L)) 1=true:=by simp only[aI ae,azM,azN];omega
  have g2:=cV ae (cl 1 aH);have g3:ad.ez 16 16 1 (ad.len L)=true:=axx;generalize l[1]=y at*;obtain⟨cT,c8,du,iZ,s7,Bf,Jm,EJ,Jn,Jo,apT,apU,apV,apW,apX,apY⟩:=y;dsimp only[ef.cs]at g2 si;replace g2:ad.get L 1=_:=g2;refine ai ?_;repeat' (split<;>refine ai ?_)
  all_goals exact ao _ _ ⟨_,by first|omega|(show 8<=_;omega),rfl,axr⟩
theorem apZ(c:ef)(l:List ef)(B:Nat)(br:c.a=l.map λx=>.agg x.cs){ts:ax}(aD:aM 107 [.d (.agg c.cs)] [] (.d (.str ts)) [])
  (ih:∀h:0<l.length,∃nx:ax,nx.length+3+ts.length<=B/\aM 63 [.d (.agg l[0].cs)] [] (.d (.str nx)) []) (az:c.n.length<=B) (eD:B<=50000000000):
  ∃s:ax,s.length<=B/\aM 63 [.d (.agg c.cs)] [] (.d (.str s)) []:=by
 refine fL ?_;have bF:(l.map λx=>D.agg x.cs).length=l.length:=azG _;have cl:∀i (h:i<l.length),(l.map λx=>D.agg x.cs)[i]?=some (.agg l[i].cs):=λi h=>dv h;rw[<-br]at bF cl;clear br;obtain⟨c1,c2,L,c4,c5,eN,bT,e1,c9,fr,fa,X,eP,eT,eU,bB⟩:=c;dsimp only at*;refine UR.cr _ λad ae K ao=> ?_;by_cases aH:0<l.length
 .obtain⟨nx,aT,aj⟩:=ih aH;have g1:ad.aF .eql (Int.ofNat (ad.len L)) 0=false:=axI;have g2:=cV ae (cl 0 aH);have g3:ad.ez 16 16 0 (ad.len L)=true:=axx;have h1:ad.fG nx [32,124,32]=true:=axH;have h2:ad.fG (ad.cR nx [32,124,32]) ts=true:=axF;clear ih;generalize l[0]=y at*;obtain⟨cT,c8,du,iZ,s7,Bf,Jm,EJ,Jn,Jo,apT,apU,apV,apW,apX,apY⟩:=y;dsimp only[ef.cs]at g2 aj;replace g2:ad.get L 0=_:=g2;refine ai ?_;repeat' (split<;>refine ai ?_)
  .exact ao _ _ ⟨c2,az,rfl,axr⟩
  all_goals exact ao _ _ ⟨_,ax1,rfl,axr⟩
 .have g1:ad.aF .eql (Int.ofNat (ad.len L)) 0=true:=by simp_all[aI]
  refine ai ?_;repeat' (split<;>refine ai ?_)
  all_goals exact ao _ _ ⟨c2,az,rfl,axr⟩
theorem bk.ap0(y:bk):y.n.length<=y.w:=by
 obtain⟨k,nm,l,c,ns,xs,on,ah,ob,cC⟩:=y;show nm.length<=500+nm.length+_+_+_+_+_+_+_;omega
theorem bk.zN:∀{l:List bk} {y:bk},bk.mL l->y∈l->y.good
 |x::l,y,h,hy=>by
  rcases azY.1 hy with rfl|hy
  .exact h.1
  .exact bk.zN h.2 hy
theorem ap1:∀(n:Nat) (x:bk),x.w<=n->x.good->x.w<=dS->CV x.bB x.w:=by
 intro n;induction n with
 |zero=>
  intro x h;obtain⟨k,nm,l,c,ns,xs,on,ah,ob,cC⟩:=x;have h:500+nm.length+bk.ws l+c.w+fH ns+aA.ws xs+j6 on+j7 ah+j8 ob<=0:=h;omega
 |succ n ih=>
  intro x h aE hw;have ak:x=.mk x.k x.n x.l x.c x.ns x.xs x.on x.ah x.ob x.cC:=ayi;have hW:x.w=500+x.n.length+bk.ws x.l+x.c.w+fH x.ns+aA.ws x.xs+j6 x.on+j7 x.ah+j8 x.ob:=ayi;have ff:dF x.cC/\x.c.good/\aA.mL x.xs/\bk.mL x.l:=by cases x;exact aE
  clear ak;obtain⟨g1,g2,g3,g4⟩:=ff;unfold dS at hw;have apQ:∀y∈x.xs,y.w<=aA.ws x.xs:=λy hy=>xt hy;obtain⟨CW,h1,aj⟩:=abv _ x.c (azI _) g2 axJ;obtain⟨hb,h2,aD⟩:=apP x.bB x.xs x.ns rfl rfl (λy hy=>abv _ y (azI _) (zN g3 hy) axJ) axs;obtain⟨gX,av,aW⟩:=apB x.bB x.on rfl axs;obtain⟨CX,aZ,bQ⟩:=apC x.bB x.ah rfl axs;obtain⟨to,bW,cK⟩:=apD x.bB x.ob rfl axs;obtain⟨tn,dh,dQ⟩:=vn x.ns [44,32] axw (by show fH x.ns<=_;omega);replace dh:tn.length+100*x.ns.length<=fH x.ns:=dh;obtain⟨rT,h6,xu⟩:=CF g1;have aT:∀y∈x.l,y.w<=bk.ws x.l->CV y.bB y.w:=λy hy PI=>ih y axs (bk.zN g4 hy) axJ;have br:x.bB.a=(x.l.map bk.bB).map λx=>.agg x.cs:=by
   show bk.ds x.l=_;rw[bk.k0,aBd];rfl
  have ap2:(x.l=[]\/∃a r,x.l=a::r/\a.w<=bk.ws x.l/\(r=[]\/∃b fJ,r=b::fJ/\a.w+b.w<=bk.ws x.l)):=by
   match x.l with
   |[]=>simp
   |[a]=>exact .inr ⟨a,[],rfl,by show a.w<=a.w+0;omega,.inl rfl⟩
   |a::b::r=>grind[bk.ws]
  have key:∀(sec:ax) (w1:Nat),sec.length<=8*w1+2->w1<=bk.ws x.l->((x.l.map bk.bB).length<=1/\sec=[]\/∃h:1<(x.l.map bk.bB).length,aM 162 [.d (.agg (x.l.map bk.bB)[1].cs)] [] (.d (.str sec)) [])->
    (∀(h:0<(x.l.map bk.bB).length),∃w0,w0+w1<=bk.ws x.l/\CV (x.l.map bk.bB)[0] w0)->CV x.bB x.w:=by
   intro sec w1 hs s3 si ap3;obtain⟨ts,hr,abB⟩:=apS x.bB (x.l.map bk.bB) br aj aD aW bQ cK dQ xu si axs;refine apZ x.bB (x.l.map bk.bB) (8*x.w) br abB (λh=> ?_) (by show x.n.length<=_;omega) axs;obtain⟨w0,mv,nx,awB,awC⟩:=ap3 h;grind
  rcases ap2 with aH|⟨a,r,aH,ap4,aw|⟨b,fJ,aw,vr⟩⟩
  .refine key [] 0 axt axs (.inl ⟨axu,rfl⟩) λh=> ?_;grind
  .subst aw;refine key [] 0 axt axs (.inl ⟨axv,rfl⟩) λh=>⟨a.w,axs,?_⟩;grind
  .subst aw;obtain⟨sec,hs,si⟩:=apR (aT b (by rw[aH];simp) axs) axJ b.ap0;refine key sec b.w hs axs (.inr ⟨by rw[aH];simp,?_⟩) λh=>⟨a.w,vr,?_⟩
   .simp only[aH,aAh,aCe,aCE];omega
   .have:=aT a axv ap4;simp only[aH,aAh,aCE];omega
theorem ap5(a b c d e f g:ax)(h:a.length+b.length+c.length+d.length+e.length+f.length+g.length<=90000000000):∃(s:ax) (C:List ag),s.length<=1400+a.length+b.length+c.length+d.length+e.length+f.length+g.length/\aM 60 [.aS 0 0 7 7 1] [.box [.d (.str a),.d (.str b),.d (.str c),.d (.str d),.d (.str e),.d (.str f),.d (.str g)]] (.d (.str s)) [.box C]:=by
 obtain⟨s,C,h1,h2⟩:=Gf [a,b,c,d,e,f,g] 7 rfl axw axw (by show 200+a.length+(200+b.length+(200+c.length+(200+d.length+(200+e.length+(200+f.length+(200+g.length+0))))))<=_;omega);exact⟨s,C,by have h1:s.length<=200+a.length+(200+b.length+(200+c.length+(200+d.length+(200+e.length+(200+f.length+(200+g.length+0)))))):=h1;omega,h2⟩
theorem eX{ad:bn}(h:ad=bn.bY):(∀a b,ad.aF .eql a b=decide (a=b))/\(∀a b,ad.aF .lss a b=decide (a<b))/\(∀a b,ad.aF .geq a b=decide (b<=a))/\(∀a b,ad.aF .gtr a b=decide (b<a)):=by subst h;exact⟨λ_ _=>rfl,λ_ _=>rfl,λ_ _=>rfl,λ_ _=>rfl⟩
theorem Gg{ad:bn}(h:ad=bn.bY){z k:Nat}{i:Int}(h1:0<=i)(h2:i<k):ad.ez z z i k=true:=axx
theorem ap6(c:kZ)(h1:dF c.s1)(h2:dF c.s2):∃s:ax,s.length<=60/\aM 61 [.d (.agg c.cs)] [] (.d (.str s)) []:=by
 refine fL ?_;obtain⟨t1,l1,aj⟩:=CF h1;obtain⟨t2,l2,aD⟩:=CF h2;obtain⟨k,n,L,db,s1,s2,I,⟨c1,c2,c3,c4,c5,eN,bT,e1,c9,fr,fa,c12,eP,eT,eU,bB⟩,fY,ms⟩:=c;dsimp only at*;refine S1.cr _ λad ae K ao=> ?_;have hlen:ad.len [.str [],.str [104,111,117,114,108,121],.str [100,97,105,108,121],.str [119,101,101,107,108,121],.str [109,111,110,116,104,108,121],.str [115,116,97,116,105,99]]=6:=by rw[xr ae];rfl
 by_cases br:db<1
 .have p1:ad.aF .lss db 1=true:=by rw[(eX ae).2.1];simp_all
  refine ai ?_;repeat' (split<;>refine ai ?_)
  all_goals exact ao _ _ ⟨[],azF _,rfl,axr⟩
 have p1:ad.aF .lss db 1=false:=ayK;by_cases aq:6<=db
 .have ey:ad.aF .geq db (Int.ofNat 6)=true:=by rw[(eX ae).2.2.1];simp_all
  conv=>cbv
  repeat' ((first|refine bG ?_|refine bH ?_|simp -proj only[p1,ey,hlen]|(split<;>(rename_i h;try simp only[h])))<;>conv=>cbv)
  all_goals exact ao _ _ ⟨[],azF _,rfl,axr⟩
 have ey:ad.aF .geq db (Int.ofNat 6)=false:=by rw[(eX ae).2.2.1];simp_all
 have hs:db=1\/db=2\/db=3\/db=4\/db=5:=axs;have aE:ad.ez 1 1 db 6=true:=Gg ae axs axs;have key:∀w:ax,ad.get [.str [],.str [104,111,117,114,108,121],.str [100,97,105,108,121],.str [119,101,101,107,108,121],.str [109,111,110,116,104,108,121],.str [115,116,97,116,105,99]] db=.str w->w.length<=7->u5 ad [] (fK a1.prog gl) gl KB [.d (.agg (kZ.cs ⟨k,n,L,db,s1,s2,I,⟨c1,c2,c3,c4,c5,eN,bT,e1,c9,fr,fa,c12,eP,eT,eU,bB⟩,fY,ms⟩))] [] K:=by
  intro w hw vg;have q1:ad.fG w [32]=true:=axH;have bK:ad.fG (ad.cR w [32]) t1=true:=axF;have cI:ad.fG (ad.cR (ad.cR w [32]) t1) [46,46]=true:=axF;have ep:ad.fG (ad.cR (ad.cR (ad.cR w [32]) t1) [46,46]) t2=true:=axF;conv=>cbv
  repeat' ((first|refine bG ?_|refine bH ?_|simp -proj only[p1,ey,hlen,hw]|(split<;>(rename_i h;try simp only[h])))<;>conv=>cbv)
  all_goals exact ao _ _ ⟨_,ax1,rfl,axr⟩
 rcases hs with rfl|rfl|rfl|rfl|rfl
 .simp_all[nY]
 .simp_all[nY]
 .simp_all[nY]
 all_goals simp_all[nY]
theorem ap7(z:iV)(aQ:z.good)(aH:z.a.length+z.b.length<=10000000000):∃s:ax,s.length<=1030+z.a.length+z.b.length/\aM 62 [.d (eg z)] [] (.d (.str s)) []:=by
 refine fL ?_;obtain⟨t1,l1,aj⟩:=CF aQ.2;obtain⟨a,db,nm,b⟩:=z;dsimp only at*;refine S2.cr _ λad ae K ao=> ?_;have hlen:ad.len [.str [],.str [115,97,109,101],.str [108,97,115,116],.str [115,104,105,102,116],.str [119,105,116,104,105,110],.str [97,108,108]]=6:=by simp_all[xr]
 by_cases br:db<1
 .have p1:ad.aF .lss db 1=true:=by rw[(eX ae).2.1];simp_all
  refine ai ?_;repeat' (split<;>refine ai ?_)
  all_goals exact ao _ _ ⟨[],azF _,rfl,axr⟩
 have p1:ad.aF .lss db 1=false:=ayK;by_cases aq:6<=db
 .have ey:ad.aF .geq db (Int.ofNat 6)=true:=by rw[(eX ae).2.2.1];simp_all
  conv=>cbv
  repeat' ((first|refine bG ?_|refine bH ?_|simp -proj only[p1,ey,hlen]|(split<;>(rename_i h;try simp only[h])))<;>conv=>cbv)
  all_goals exact ao _ _ ⟨[],azF _,rfl,axr⟩
 have ey:ad.aF .geq db (Int.ofNat 6)=false:=by rw[(eX ae).2.2.1];simp_all
 have hs:db=1\/db=2\/db=3\/db=4\/db=5:=axs;have aE:ad.ez 1 1 db 6=true:=Gg ae axs axs;have key:∀w:ax,ad.get [.str [],.str [115,97,109,101],.str [108,97,115,116],.str [115,104,105,102,116],.str [119,105,116,104,105,110],.str [97,108,108]] db=.str w->w.length<=6->u5 ad [] (fK a1.prog gl) gl KC [.d (.agg [.str a,int db,int nm,.str b])] [] K:=by
  intro w hw vg;obtain⟨s1,ny,q1,w1⟩:=L4 a w t1 [97,115] b axv;obtain⟨s2,ea,bK,bS⟩:=L4 a w [] [97,115] b axv;simp only[az0,aAz]at q1 bK;conv=>cbv
  repeat' ((first|refine bG ?_|refine bH ?_|simp -proj only[p1,ey,hlen,hw]|(split<;>(rename_i h;try simp only[h])))<;>conv=>cbv)
  all_goals exact ao _ _ ⟨_,axs,rfl,axr⟩
 rcases hs with rfl|rfl|rfl|rfl|rfl
 .exact key [115,97,109,101] ayu axw
 .exact key [108,97,115,116] ayu axw
 .exact key [115,104,105,102,116] ayu axw
 .exact key [119,105,116,104,105,110] ayu axw
 .exact key [97,108,108] ayu axw
theorem ap8(c:kZ)(l:List (ax×Int))(gX:ax)(ay:c.bw=l.map bD)(au:c.k=1)(hw:j' l+c.n.length<=10000000000)(hp:gX.length<=60)(Gh:aM 61 [.d (.agg c.cs)] [] (.d (.str gX)) []):∃s:ax,s.length<=1000+c.n.length+j' l/\aM 29 [.d (.agg c.cs)] [] (.d (.str s)) []:=by
 refine fL ?_;have bF:(l.map bD).length=l.length:=azG _;have cl:∀i (h:i<l.length),(l.map bD)[i]?=some (bD l[i]):=λi h=>dv h;rw[<-ay]at bF cl;clear ay;have vg:l.length<=j' l:=lA _ _;obtain⟨k,n,L,db,s1,s2,I,⟨c1,c2,c3,c4,c5,eN,bT,e1,c9,fr,fa,c12,eP,eT,eU,bB⟩,fY,ms⟩:=c;dsimp only at*;subst au;refine FE.cr _ λad ae K ao=> ?_;have p0:ad.aF .eql 1 1=true:=axC;refine ai ?_;refine⟨b6 (λz:Nat×List D=>pD [(1,.dT 1 0),(3,.own 1 z.2),(14,.d (.list 2 L)),(15,.d (int (Int.ofNat (ad.len L)))),(16,.d (int (Int.ofNat z.1)))] [(1,(kZ.cs ⟨1,n,L,db,s1,s2,I,⟨c1,c2,c3,c4,c5,eN,bT,e1,c9,fr,fa,c12,eP,eT,eU,bB⟩,fY,ms⟩).map .d)] []) (λz=>z.1<=l.length/\∃ss:List ax,z.2=ss.map .str/\ss.length=z.1/\lens ss<=j' (l.take z.1)+5*z.1) λz=>l.length-z.1,_,⟨(0,[]),⟨azF _,[],rfl,rfl,azF _⟩,rfl,axr⟩,?_⟩;rintro _ _ ⟨⟨i,out⟩,⟨hi,ss,e8,aH,hs⟩,rfl,rfl⟩;dsimp only at hi aH hs e8⊢;have hm:=xq (l:=ss);have nZ:=sd ss;have zT:j' (l.take i)<=j' l:=tW (λx:ax×Int=>x.1.length) _ _;by_cases aB:i<l.length
 .have g1:ad.aF .lss (Int.ofNat i) (Int.ofNat (ad.len L))=true:=by simp_all[aI]
  have g2:=cV ae (cl i aB);have g3:=cv ae (n:=i) axs;have aC:j' (l.take (i+1))=j' (l.take i)+(200+l[i].1.length):=vm (λx:ax×Int=>x.1.length) l aB;have br:l[i].1.length+200<=j' l:=xA (λx:ax×Int=>x.1.length) l aB;have kC:∀s:ax,s.length<=l[i].1.length+5->lens (ss++[s])<=j' (l.take (i+1))+5*(i+1):=by
   intro s h;rw[se,aC];show lens ss+(200+s.length+0)<=_;omega
  rw[<-e8]at hm;clear aC;unfold bD at g2;generalize l[i]=x at*;obtain⟨b0,ty⟩:=x;dsimp only at*;have hlen:ad.len [.str [105,110,116],.str [116,101,120,116]]=2:=by grind[xr]
  have h1:ad.fG b0 [32]=true:=axH;have h2:ad.fG (ad.cR b0 [32]) [105,110,116]=true:=axF;have av:ad.fG (ad.cR b0 [32]) [116,101,120,116]=true:=axF;have jd:ad.ez 1 1 0 2=true:=Gg ae axw axw;have bN:ad.ez 1 1 1 2=true:=Gg ae axw axw;have cz:ad.get [.str [105,110,116],.str [116,101,120,116]] 0=.str [105,110,116]:=by grind[nY]
  have gM:ad.get [.str [105,110,116],.str [116,101,120,116]] 1=.str [116,101,120,116]:=by simp_all[nY]
  have nL:ad.io .sub .i64 1 1=0:=axA;have qq:ad.io .sub .i64 2 1=1:=axA;have Bh:ad.aF .lss 2 1=false:=ayv;by_cases q1:2<ty
  .have p1:ad.aF .gtr ty 2=true:=by rw[(eX ae).2.2.2];simp_all
   conv=>cbv
   repeat' ((first|refine bG ?_|refine bH ?_|simp -proj only[g1,g2,g3,p1,hlen,bN,gM,qq,Bh]|(split<;>(rename_i h;try simp only[h])))<;>conv=>cbv)
   exact fixF (i+1,ad.app out [.str (ad.cR (ad.cR b0 [32]) [116,101,120,116])]) ⟨aB,ss++[ad.cR (ad.cR b0 [32]) [116,101,120,116]],axK,qQ aH,kC _ axx⟩
  have p1:ad.aF .gtr ty 2=false:=by rw[(eX ae).2.2.2];simp_all
  by_cases bK:ty=2
  .subst bK;conv=>cbv
   repeat' ((first|refine bG ?_|refine bH ?_|simp -proj only[g1,g2,g3,p1,hlen,bN,gM,qq,Bh]|(split<;>(rename_i h;try simp only[h])))<;>conv=>cbv)
   exact fixF (i+1,ad.app out [.str (ad.cR (ad.cR b0 [32]) [116,101,120,116])]) ⟨aB,ss++[ad.cR (ad.cR b0 [32]) [116,101,120,116]],axK,qQ aH,kC _ axx⟩
  by_cases cI:ty<1
  .have ey:ad.aF .lss ty 1=true:=by rw[(eX ae).2.1];simp_all
   conv=>cbv
   repeat' ((first|refine bG ?_|refine bH ?_|simp -proj only[g1,g2,g3,p1,ey,hlen,jd,cz,nL]|(split<;>(rename_i h;try simp only[h])))<;>conv=>cbv)
   exact fixF (i+1,ad.app out [.str (ad.cR (ad.cR b0 [32]) [105,110,116])]) ⟨aB,ss++[ad.cR (ad.cR b0 [32]) [105,110,116]],axK,qQ aH,kC _ axx⟩
  .obtain rfl:ty=1:=by omega
   have ey:ad.aF .lss 1 1=false:=ayv;conv=>cbv
   repeat' ((first|refine bG ?_|refine bH ?_|simp -proj only[g1,g2,g3,p1,ey,hlen,jd,cz,nL]|(split<;>(rename_i h;try simp only[h])))<;>conv=>cbv)
   exact fixF (i+1,ad.app out [.str (ad.cR (ad.cR b0 [32]) [105,110,116])]) ⟨aB,ss++[ad.cR (ad.cR b0 [32]) [105,110,116]],axK,qQ aH,kC _ axx⟩
 .have e7:i=l.length:=by omega
  have g1:ad.aF .lss (Int.ofNat i) (Int.ofNat (ad.len L))=false:=axx;obtain⟨t,aC,aj⟩:=vn ss [44,32] axw axs;rw[<-e8]at aj;have h1:ad.fG [40] t=true:=axH;have h2:ad.fG (ad.cR [40] t) [41]=true:=axF;have av:(ad.cR (ad.cR [40] t) [41]).length=t.length+2:=axx;obtain⟨s,C,q1,w1⟩:=zU [115,111,117,114,99,101] n (ad.cR (ad.cR [40] t) [41]) gX (by grind[List.length_cons]);simp only[az0,aAz]at q1;have aZ:ad.fG s [59,10]=true:=axH;have bW:(ad.cR s [59,10]).length<=1000+n.length+j' l:=ax1;refine ai ?_;repeat' (split<;>refine ai ?_)
  all_goals exact ao _ _ ⟨_,bW,rfl,axr⟩
theorem ap9(c:kZ)(l:List iV)(gX nx:ax)(aE:∀z∈l,z.good)(ay:c.b1=l.map eg)(au:c.k=2)(hw:jM l+c.n.length+nx.length<=10000000000)(hp:gX.length<=60)(Gh:aM 61 [.d (.agg c.cs)] [] (.d (.str gX)) [])(eq:aM 63 [.d (.agg c.pl.cs)] [] (.d (.str nx)) []):∃s:ax,s.length<=1500+c.n.length+7*jM l+nx.length/\aM 29 [.d (.agg c.cs)] [] (.d (.str s)) []:=by
 refine fL ?_;have bF:(l.map eg).length=l.length:=azG _;have cl:∀i (h:i<l.length),(l.map eg)[i]?=some (eg l[i]):=λi h=>dv h;rw[<-ay]at bF cl;clear ay;have vg:l.length<=jM l:=lA _ _;obtain⟨k,n,S,db,s1,s2,L,⟨c1,c2,c3,c4,c5,eN,bT,e1,c9,fr,fa,c12,eP,eT,eU,bB⟩,fY,ms⟩:=c;dsimp only at*;subst au;refine FE.cr _ λad ae K ao=> ?_;have p0:ad.aF .eql 2 1=false:=axC;have ap':ad.aF .eql 2 2=true:=axC;refine ai ?_;refine⟨b6 (λz:Nat×List D=>pD [(1,.dT 1 0),(6,.own 1 z.2),(50,.d (.list 4 L)),(51,.d (int (Int.ofNat (ad.len L)))),(52,.d (int (Int.ofNat z.1)))] [(1,(kZ.cs ⟨2,n,S,db,s1,s2,L,⟨c1,c2,c3,c4,c5,eN,bT,e1,c9,fr,fa,c12,eP,eT,eU,bB⟩,fY,ms⟩).map .d)] []) (λz=>z.1<=l.length/\∃ss:List ax,z.2=ss.map .str/\ss.length=z.1/\lens ss<=7*jM (l.take z.1)) λz=>l.length-z.1,_,⟨(0,[]),⟨azF _,[],rfl,rfl,azF _⟩,rfl,axr⟩,?_⟩;rintro _ _ ⟨⟨i,out⟩,⟨hi,ss,e8,aH,hs⟩,rfl,rfl⟩;dsimp only at hi aH hs e8⊢;have hm:=xq (l:=ss);have nZ:=sd ss;have zT:jM (l.take i)<=jM l:=tW (λx:iV=>x.a.length+x.b.length) _ _;by_cases aB:i<l.length
 .have g1:ad.aF .lss (Int.ofNat i) (Int.ofNat (ad.len L))=true:=by simp_all[aI]
  have g2:=cV ae (cl i aB);have g3:=cv ae (n:=i) axs;have aC:jM (l.take (i+1))=jM (l.take i)+(200+(l[i].a.length+l[i].b.length)):=vm (λx:iV=>x.a.length+x.b.length) l aB;have br:l[i].a.length+l[i].b.length+200<=jM l:=xA (λx:iV=>x.a.length+x.b.length) l aB;obtain⟨t,pb,aj⟩:=ap7 l[i] (aE _ (azT aB)) axs;have kC:lens (ss++[t])<=7*jM (l.take (i+1)):=by
   rw[se,aC];show lens ss+(200+t.length+0)<=_;omega
  rw[<-e8]at hm;clear aC aE;unfold eg at g2 aj;generalize l[i]=x at*;obtain⟨b0,b7,c7,iy⟩:=x;dsimp only at*;refine ai ?_;repeat' (split<;>refine ai ?_)
  exact fixF (i+1,ad.app out [.str t]) ⟨aB,ss++[t],axK,qQ aH,kC⟩
 .have e7:i=l.length:=by omega
  have g1:ad.aF .lss (Int.ofNat i) (Int.ofNat (ad.len L))=false:=axx;obtain⟨t,aC,aj⟩:=vn ss [44,32] axw axs;rw[<-e8]at aj;obtain⟨s,C,q1,w1⟩:=ap5 [97,115,115,101,116] n gX [102,114,111,109] t [100,111] nx axv;simp only[az0,aAz]at q1;have aZ:ad.fG s [59,10]=true:=axH;have bW:(ad.cR s [59,10]).length<=1500+n.length+7*jM l+nx.length:=ax1;dsimp only[ef.cs]at eq;refine ai ?_;repeat' (split<;>refine ai ?_)
  all_goals exact ao _ _ ⟨_,bW,rfl,axr⟩
theorem aqa(c:kZ)(l:List ax)(ay:c.ms=l.map .str)(h1:c.k≠1)(h2:c.k≠2)(hw:c.fY.length<=1000000000/\fH l+c.n.length<=10000000000):∃s:ax,s.length<=1100+c.n.length+2*c.fY.length+fH l/\aM 29 [.d (.agg c.cs)] [] (.d (.str s)) []:=by
 refine fL ?_;obtain⟨yS,aL,aj⟩:=vn l [44,32] axw (by show fH l<=_;omega);replace aL:yS.length+100*l.length<=fH l:=aL;rw[<-ay]at aj;have aD:=Lq c.fY;obtain⟨aqb,hv,aW⟩:=abt 2 0 c.fY axs dF.zero;unfold pL at aW;obtain⟨s,C,q1,w1⟩:=L4 [115,99,104,101,100,117,108,101] c.n aqb [109,97,107,101,115] yS axv;simp only[az0,aAz]at q1;obtain⟨k,n,S,db,s1,s2,L,⟨c1,c2,c3,c4,c5,eN,bT,e1,c9,fr,fa,c12,eP,eT,eU,bB⟩,fY,ms⟩:=c;dsimp only at*;refine FE.cr _ λad ae K ao=> ?_;have p0:ad.aF .eql k 1=false:=axC;have ap':ad.aF .eql k 2=false:=axC;have aZ:ad.fG s [59,10]=true:=axH;have bW:(ad.cR s [59,10]).length<=1100+n.length+2*fY.length+fH l:=ax1;refine ai ?_;repeat' (split<;>refine ai ?_)
 all_goals exact ao _ _ ⟨_,bW,rfl,axr⟩
theorem aqc(x:cQ)(aE:x.Good)(hw:x.w<=dS):∃s:ax,s.length<=8*x.w/\aM 29 [.d (.agg x.d'.cs)] [] (.d (.str s)) []:=by
 have hW:x.w=1000+x.n.length+j' x.bw+jM x.b1+x.pl.w+x.fY.length+fH x.ms:=rfl;unfold dS at hw;obtain⟨gX,hp,Gh⟩:=ap6 x.d' aE.s1 aE.s2;by_cases h1:x.k=1
 .obtain⟨s,hs,e⟩:=ap8 x.d' x.bw gX rfl h1 (by show _+x.n.length<=_;omega) hp Gh;exact⟨s,by have hs:s.length<=1000+x.n.length+j' x.bw:=hs;omega,e⟩
 by_cases h2:x.k=2
 .obtain⟨nx,aT,eq⟩:=ap1 _ x.pl (azI _) aE.pl axJ;obtain⟨s,hs,e⟩:=ap9 x.d' x.b1 gX nx aE.b1 rfl h2 (by show _+x.n.length+_<=_;omega) hp Gh eq;exact⟨s,by have hs:s.length<=1500+x.n.length+7*jM x.b1+nx.length:=hs;omega,e⟩
 .obtain⟨s,hs,e⟩:=aqa x.d' x.ms rfl h1 h2 (by show x.fY.length<=_/\_+x.n.length<=_;omega);exact⟨s,by have hs:s.length<=1100+x.n.length+2*x.fY.length+fH x.ms:=hs;omega,e⟩
def aqd(L:List D)(bs:ax)(n i:Nat):af:=cA [(0,.d (.list 25 L)),(4,.ptr 0 0),(10,.d (.list 25 L)),(11,.d (int (Int.ofNat n))),(12,.d (int (Int.ofNat i)))] [.hM 94 5 bs]
theorem aqe(bs x:ax)(h:bs.length+x.length<=140737488355328):aM 28 [.ptr 0 0,.d (.str x)] [.hM 94 5 bs] (.tuple [.d (.int .i64 x.length),.d .ig]) [.hM 94 5 (bs++x)]:=R5 exts.oy exts.w rfl h
theorem aqf(bs:ax):aM 30 [.ptr 0 0] [.hM 94 5 bs] (.d (.str bs)) [.hM 94 5 bs]:=R6 exts.cs exts.s rfl
theorem abY(l:List cQ)(aE:∀x∈l,x.Good)(hw:iD l<=dS):∃(t:ax) (e:Int),(e=0->t.length<=8*iD l/\∃a:Int,aM 7 [.d (.str t)] [] (.tuple [.d (.list 25 (l.map cQ.d)),.d (int a),.d (int 0)]) [])/\aM 8 [.d (.list 25 (l.map cQ.d))] [] (.tuple [.d (.str t),.d (int e)]) []:=by
 refine Ky ?_;have bF:(l.map cQ.d).length=l.length:=azG _;have cl:∀i (h:i<l.length),(l.map cQ.d)[i]?=some (.agg l[i].d'.cs):=λi h=>dv h;have heq:∀l2:List cQ,iD l2<=dS->∃b:Bool,(b=true->l2=l)/\aM 31 [.d (.list 25 (l2.map cQ.d)),.d (.list 25 (l.map cQ.d)),.d (.fn 32)] [] (.d (.bool b)) []:=λl2 h=>aoz l2 l h;have vg:l.length<=iD l:=lA _ _;have jH:=hw;unfold dS at hw;refine Uv.cr _ λad ae K ao=> ?_;generalize LZ:l.map cQ.d=L at*;refine ai ?_;refine⟨b6 (λz:Nat×ax=>aqd L z.2 (ad.len L) z.1) (λz=>z.1<=l.length/\z.2.length<=8*iD (l.take z.1)) λz=>l.length-z.1,_,⟨(0,[]),⟨azF _,azF _⟩,rfl,axr⟩,?_⟩;rintro _ _ ⟨⟨i,bs⟩,⟨hi,aq⟩,rfl,rfl⟩;dsimp only at hi aq⊢;have zT:iD (l.take i)<=iD l:=tW cQ.w _ _;by_cases aB:i<l.length
 .have g1:ad.aF .lss (Int.ofNat i) (Int.ofNat (ad.len L))=true:=by simp_all[aI]
  have g2:=cV ae (cl i aB);have g3:=cv ae (n:=i) axs;have aC:iD (l.take (i+1))=iD (l.take i)+(200+l[i].w):=vm cQ.w l aB;have br:l[i].w+200<=iD l:=xA cQ.w l aB;obtain⟨t,pb,aj⟩:=aqc l[i] (aE _ (azT aB)) axs;have aD:=aqe bs t axs;have jg:(bs++t).length<=8*iD (l.take (i+1)):=axv;generalize ((t.length:Nat):Int)=tl at aD;clear aE heq cl;generalize l[i].d'=c at aj g2;generalize ko:bs++t=bt at*;obtain⟨k,n,S,db,s1,s2,I,⟨c1,c2,c3,c4,c5,eN,bT,e1,c9,fr,fa,c12,eP,eT,eU,bB⟩,fY,ms⟩:=c;dsimp only[kZ.cs]at*;refine ai ?_;repeat' (split<;>refine ai ?_)
  all_goals exact fixF (i+1,bt) ⟨aB,jg⟩
 .have e7:i=l.length:=by omega
  have g1:ad.aF .lss (Int.ofNat i) (Int.ofNat (ad.len L))=false:=axx;have aj:=aqf bs;obtain⟨l2,a,e,⟨vt,uY,awD,awE⟩,aD⟩:=abo bs;obtain⟨b,aqg,aW⟩:=heq l2 axJ;have fg:b=true->e=0->bs.length<=8*iD l/\∃a:Int,aM 7 [.d (.str bs)] [] (.tuple [.d (.list 25 L),.d (int a),.d (int 0)]) []:=λgZ he=>⟨axs,a,axu⟩;clear heq aqg;generalize l2.map cQ.d=iX at*;cases p1:ad.aF .neq e 0 with
  |true=>
   refine ai ?_;repeat' (split<;>refine ai ?_)
   all_goals exact ao _ _ ⟨[],20,λh=>absurd h axw,rfl,axr⟩
  |false=>
   have he:e=0:=axx;cases b with
   |false=>
    refine ai ?_;repeat' (split<;>refine ai ?_)
    all_goals exact ao _ _ ⟨[],20,λh=>absurd h axw,rfl,axr⟩
   |true=>
    have fg:=fg rfl he;refine ai ?_;repeat' (split<;>refine ai ?_)
    all_goals exact ao _ _ ⟨bs,0,λ_=>fg,rfl,axr⟩
end Go.Proofs.YtmgpekpnidjfoaaGreatDoor
