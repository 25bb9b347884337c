/- Part of ranges_said. -/
import Derived.Test.YthffhbakgmemaaaGreatDoorB4
set_option maxRecDepth 100000
set_option maxHeartbeats 8000000
set_option linter.unusedSimpArgs false
set_option linter.unusedVariables false
namespace Go.Proofs.YthffhbakgmemaaaGreatDoor
open Go Go.aH
attribute [local irreducible] bG
theorem Az(l:List (aw×Int))(v:aw)(aI:l.length<=1073741824):∃(i:Int) (ok:Bool),(ok=true->∃(k:Nat) (h:k<l.length),i=Int.ofNat k/\l[k].1=v)/\(ok=false->∀x∈l,x.1≠v)/\aM 290 [.d (.list 2 (l.map bD)),.d (.str v)] [] (.tuple [.d (int i),.d (.bool ok)]) []:=by
 suffices h:∃r s',(∃(i:Int) (ok:Bool),(ok=true->∃(k:Nat) (h:k<l.length),i=Int.ofNat k/\l[k].1=v)/\(ok=false->∀x∈l,x.1≠v)/\r=.tuple [.d (int i),.d (.bool ok)]/\s'=[])/\aM 290 [.d (.list 2 (l.map bD)),.d (.str v)] [] r s' by
  grind
 obtain⟨r,ax,aj⟩:=aoZ l 315 v (λi=>decide (l[i]?.map Prod.fst=some v)) aI (λi h=>by
  simp_all[ao1])
 generalize l.map bD=L at*;refine aFH.cu _ λad ae K ao=> ?_;rcases ax with⟨rfl,h1⟩|⟨k,aq,rfl,h1,_⟩
 .have t1:ad.aD .geq (-1) 0=false:=by simp only[aJ ae];decide
  refine af ?_;refine ao _ _ ⟨_,false,(λh=>ax2),(λ_ x ak=> ?_),rfl,axV⟩;grind[List.getElem_of_mem]
 .have t1:ad.aD .geq (Int.ofNat k) 0=true:=by simp only[aJ ae,aAi];simp
  have t2:ad.aD .lss (Int.ofNat k) 0=false:=azR;refine af ?_;refine ao _ _ ⟨_,true,(λ_=>⟨k,aq,?_,?_⟩),(λh=>ax2),rfl,axV⟩;all_goals grind
theorem aps(k:Int):∃l:List (aw×List Int×Int),l.length<=13/\aM 333 [.d (int k)] [] (.d (.list 3 (l.map jw))) []:=by
 refine fK ?_;refine aFh.cu _ λad ae K ao=> ?_;refine af ?_;repeat' (split<;>refine af ?_)
 .exact ao _ _ ⟨[([45],[1],1),([110,111,116],[0],1)],ax0,rfl,axV⟩
 .exact ao _ _ ⟨[([43],[1,1],1),([45],[1,1],1),([42],[1,1],1),([47],[1,1],1),([37],[1,1],1),([61],[-1,-1],1),([33,61],[-1,-1],1),([60],[-1,-1],1),([60,61],[-1,-1],1),([62],[-1,-1],1),([62,61],[-1,-1],1),([97,110,100],[0,0],1),([111,114],[0,0],1)],ax0,rfl,axV⟩
 .exact ao _ _ ⟨[([108,101,110],[2],1),([97,98,115],[1],1),([105,115,110,117,108,108],[0],1),([99,97,116],[2,2],2),([101,105,116,104,101,114],[-1,-1],-1),([105,102],[0,-1,-1],-1)],ax0,rfl,axV⟩
 .exact ao _ _ ⟨[],ax0,rfl,axV⟩
theorem acq{ad:bm}(h:ad=bm.bU)(L:List D)(M:List Int):∃c:Bool,ad.aD .eql (Int.ofNat (ad.len L)) (Int.ofNat (ad.len (M.map int)))=c/\(c=true->L.length=M.length):=by
 subst h
 exact⟨_,rfl,λh=>by
  have sh:Int.ofNat L.length=Int.ofNat (M.map int).length:=of_decide_eq_true h;grind⟩
theorem acr(c:mj):∃(r:aw×List Int×Int) (ok:Bool),(ok=true->c.l.length=r.2.1.length)/\aM 311 [.d (.agg c.cs)] [] (.tuple [.d (jw r),.d (.bool ok)]) []:=by
 suffices h:∃xD s',(∃(r:aw×List Int×Int) (ok:Bool),(ok=true->c.l.length=r.2.1.length)/\xD=.tuple [.d (jw r),.d (.bool ok)]/\s'=[])/\aM 311 [.d (.agg c.cs)] [] xD s' by
  grind
 obtain⟨l,aI,aj⟩:=aps c.k;have mz:∀v,∃r:Int,(r= -1\/∃(k:Nat) (h:k<l.length),r=Int.ofNat k)/\aM 334 [.d (.list 3 (l.map jw)),.func 335 [] [.ptr 0 0]] [.box [.d (.str v)]] (.d (int r)) [.box [.d (.str v)]]:=λv=>by
  obtain⟨r,ax,e⟩:=ao0 l 335 v (λi=>decide (l[i]?.map Prod.fst=some v)) axW (λi h=>by
   have:=ao2 l[i] v;rw[aAj h];simpa using this)
  rcases ax with⟨rfl,h1⟩|⟨k,aq,rfl,h1,_⟩
  all_goals grind
 have bY:∀i (h:i<l.length),(l.map jw)[i]?=some (jw l[i]):=λi h=>c7 h;have bE:(l.map jw).length=l.length:=aAb _;generalize l.map jw=L at*;obtain⟨bN,h1,aF⟩:=mz c.op;obtain⟨b5,sh,aZ⟩:=mz c.n;refine aD6.cu _ λad ae K ao=> ?_;obtain⟨bJ,t1,q1⟩:=uy ae c.k 5;have Gq:ad.aD .lss (-1) 0=true:=ax4;have kW:∀k:Nat,ad.aD .lss (Int.ofNat k) 0=false:=λk=>azR;cases bJ with
 |true=>
  rcases sh with rfl|⟨k,aq,rfl⟩
  .conv=>cbv
   repeat ((first|refine cZ ?_|refine c6 ?_|simp -proj only[t1,Gq]);conv=>cbv)
   try trivial
   exact ao _ _ ⟨([],[],0),false,(λh=>ax2),rfl,axV⟩
  .have t3:=cz ae (bY k aq);unfold jw at t3;generalize l[k]=x at*;obtain⟨a6,t4,bF⟩:=acq ae c.l x.2.1;obtain⟨b',cr,dE⟩:=x;dsimp only at t3 t4 bF;generalize b7:cr.map int=M at*;conv=>cbv
   repeat ((first|refine cZ ?_|refine c6 ?_|simp -proj only[t1,kW,t3,t4]);conv=>cbv)
   try trivial
   exact ao _ _ ⟨(b',cr,dE),a6,bF,by rw[jw,b7],axV⟩
 |false=>
  rcases h1 with rfl|⟨k,aq,rfl⟩
  .refine af ?_;exact ao _ _ ⟨([],[],0),false,(λh=>ax2),rfl,axV⟩
  .have t3:=cz ae (bY k aq);unfold jw at t3;generalize l[k]=x at*;obtain⟨a6,t4,bF⟩:=acq ae c.l x.2.1;obtain⟨b',cr,dE⟩:=x;dsimp only at t3 t4 bF;generalize b7:cr.map int=M at*;conv=>cbv
   repeat ((first|refine cZ ?_|refine c6 ?_|simp -proj only[t1,kW,t3,t4]);conv=>cbv)
   try trivial
   exact ao _ _ ⟨(b',cr,dE),a6,bF,by rw[jw,b7],axV⟩
noncomputable def x9(c:mj):aw×List Int×Int:=Classical.choose (acr c)
theorem acs(c:mj):∃ok:Bool,(ok=true->c.l.length=(x9 c).2.1.length)/\aM 311 [.d (.agg c.cs)] [] (.tuple [.d (jw (x9 c)),.d (.bool ok)]) []:=aC9 (acr c)
theorem apt(c:mj)(az:c.eL.length<=1073741824):∃ok:Bool,(ok=true->c.k≠1->c.k≠2->c.l.length=(x9 c).2.1.length)/\aM 310 [.d (.agg c.cs)] [] (.d (.bool ok)) []:=by
 obtain⟨ok,ax,aj⟩:=acs c;obtain⟨b,aF⟩:=acf c.gy c.vi c.eL az;have aZ:=L4;suffices h:∃xD s',(∃(o:Bool),(o=true->c.k≠1->c.k≠2->ok=true)/\xD=.d (.bool o)/\s'=[])/\aM 310 [.d (.agg c.cs)] [] xD s' by
  grind
 clear ax az;generalize x9 c=r at*;obtain⟨bN,b5,dq⟩:=r;unfold jw at aj;generalize b5.map int=M at*;refine YF.cu _ λad ae K ao=> ?_;obtain⟨cq,t3,av⟩:=acj ae c.gy c.vi c.eL 0 0 [];have JX:ad.og [1,1,2] (int c.gy::List.take 2 [int c.vi,.str c.eL]) (int 0::List.take 2 [int 0,.str []])=some cq:=t3;clear av;obtain⟨k1,t1,q1⟩:=uy ae c.k 1;obtain⟨k2,t2,bF⟩:=uy ae c.k 2;cases k1 with
 |true=>
  have aq:=q1 rfl;clear q1 bF;refine af ?_;repeat' (split<;>refine af ?_)
  all_goals exact ao _ _ ⟨_,(λ_ g=>absurd aq g),rfl,axV⟩
 |false=>
 clear q1;cases k2 with
 |true=>
  have aq:=bF rfl;clear bF;refine af ?_;repeat' (split<;>refine af ?_)
  all_goals exact ao _ _ ⟨_,(λ_ _ g=>absurd aq g),rfl,axV⟩
 |false=>
 clear bF;cases ok with
 |false=>
  refine af ?_;exact ao _ _ ⟨false,(λh=>ax2),rfl,axV⟩
 |true=>
  refine af ?_;repeat' (split<;>refine af ?_)
  all_goals exact ao _ _ ⟨_,(λ_ _ _=>rfl),rfl,axV⟩
theorem uA{α:Type}{S:α->ag}{J:α->Prop}{sC:α->Nat}{st:ag}{n:Nat}(g:ag->α)(FN:J (g st))(apu:sC (g st)<n)(he:st=S (g st)):∃m,m<n/\bX S J sC m st:=ec (g st) FN apu he
def Mz(st:ag)(k:Nat):Int:=match st.aR k with|.d (.int _ n)=>n|_=>0
def apv(W H:List D)(n:Nat)(t:Int)(i:Nat):ag:=cx [(0,.d (.list 1 W)),(6,.d (int t)),(9,.d (.list 1 H)),(10,.d (int (Int.ofNat n))),(11,.d (int (Int.ofNat i)))] []
theorem apw(w v:List Int)(hw:v.length<=w.length)(aI:w.length<=1073741824):∃(t:Int) (ok:Bool),aM 312 [.d (.list 1 (w.map int)),.d (.list 1 (v.map int))] [] (.tuple [.d (int t),.d (.bool ok)]) []:=by
 suffices hh:∃r s',(∃(t:Int) (ok:Bool),r=.tuple [.d (int t),.d (.bool ok)]/\s'=[])/\aM 312 [.d (.list 1 (w.map int)),.d (.list 1 (v.map int))] [] r s' by
  grind
 have NO:(w.map int).length=w.length:=aAb _;have eW:(v.map int).length=v.length:=aAb _;have apx:∀i (h:i<w.length),(w.map int)[i]?=some (int w[i]):=λi h=>c7 h;have apy:∀i (hi:i<v.length),(v.map int)[i]?=some (int v[i]):=λi hi=>c7 hi;generalize w.map int=W at*;generalize v.map int=H at*;refine aFf.cu _ λad ae K ao=> ?_;refine af ?_;refine⟨bX (λz:Int×Nat=>apv W H (ad.len H) z.1 z.2) (λz=>z.2<=v.length) λz=>v.length-z.2,_,⟨(0,0),aAa _,rfl,axV⟩,?_⟩;rintro _ _ ⟨⟨t,i⟩,hi,rfl,rfl⟩;dsimp only at hi⊢;by_cases aA:i<v.length
 .have t2:ad.aD .lss (Int.ofNat i) (Int.ofNat (ad.len H))=true:=by simp_all[aJ]
  have fF:i<w.length:=axW;have t3:=cz ae (apy i aA);have t4:=cz ae (apx i fF);have t5:=cd ae (n:=i) axW;generalize v[i]=x at*;generalize w[i]=y at*;refine af ?_;repeat' (split<;>refine af ?_)
  all_goals first|exact uA (λst=>(Mz st 6,i+1)) aA (show v.length-(i+1)<v.length-i by omega) axV|exact ao _ _ ⟨_,_,rfl,axV⟩
 .have t2:ad.aD .lss (Int.ofNat i) (Int.ofNat (ad.len H))=false:=by simp_all[aJ]
  refine af ?_;exact ao _ _ ⟨_,_,rfl,axV⟩
def Dn(x:aB):Prop:=∃n:Int,aM 285 [.d (.agg x.bQ.cs)] [] (.d (int n)) []
def apz(L:List D)(n:Nat)(z:Int)(i:Nat):ag:=cx [(3,.d (int z)),(7,.d (.list 7 L)),(8,.d (int (Int.ofNat n))),(9,.d (int (Int.ofNat i)))] []
theorem apA(x:aB)(aI:x.l.length<=1073741824)(ih:∀y∈x.l,Dn y):Dn x:=by
 have ak:x.bQ.l=x.l.map λx=>.agg x.bQ.cs:=by rw[<-aB.ld];cases x;rfl
 generalize x.l=l at*;unfold Dn;have bE:(l.map λx=>D.agg x.bQ.cs).length=l.length:=aAb _;have bY:∀i (h:i<l.length),(l.map λx=>D.agg x.bQ.cs)[i]?=some (.agg l[i].bQ.cs):=λi h=>c7 h;rw[<-ak]at bE bY;clear ak;generalize x.bQ=c at*;obtain⟨c1,c2,c3,c4,c5,eI,L⟩:=c;dsimp only at bE bY⊢;refine gZ ?_;refine UW.cu _ λad ae K ao=> ?_;refine af ?_;refine⟨bX (λz:Int×Nat=>apz L (ad.len L) z.1 z.2) (λz=>z.2<=l.length) λz=>l.length-z.2,_,⟨(1,0),aAa _,rfl,axV⟩,?_⟩;rintro _ _ ⟨⟨z,i⟩,hi,rfl,rfl⟩;dsimp only at hi⊢;by_cases aA:i<l.length
 .have t2:ad.aD .lss (Int.ofNat i) (Int.ofNat (ad.len L))=true:=by simp_all[aJ]
  have t3:=cz ae (bY i aA);have t5:=cd ae (n:=i) axW;obtain⟨m,aj⟩:=ih l[i] (aAl aA);generalize l[i].bQ=y at*;refine af ?_;exact fixF (ad.io .add .i64 z m,i+1) aA
 .have t2:ad.aD .lss (Int.ofNat i) (Int.ofNat (ad.len L))=false:=by simp_all[aJ]
  refine af ?_;exact ao _ _ ⟨_,rfl,axV⟩
def Dp(x:bk):Prop:=∃n:Int,aM 157 [.d (.agg x.bB.cs)] [] (.d (int n)) []
def apB(L:List D)(n:Nat)(z:Int)(i:Nat):ag:=cx [(3,.d (int z)),(7,.d (.list 16 L)),(8,.d (int (Int.ofNat n))),(9,.d (int (Int.ofNat i)))] []
theorem apC(x:bk)(aI:x.l.length<=1073741824)(ih:∀y∈x.l,Dp y):Dp x:=by
 have ak:x.bB.a=x.l.map λx=>.agg x.bB.cs:=by rw[<-bk.ld];cases x;rfl
 generalize x.l=l at*;unfold Dp;have bE:(l.map λx=>D.agg x.bB.cs).length=l.length:=aAb _;have bY:∀i (h:i<l.length),(l.map λx=>D.agg x.bB.cs)[i]?=some (.agg l[i].bB.cs):=λi h=>c7 h;rw[<-ak]at bE bY;clear ak;generalize x.bB=c at*;obtain⟨c1,c2,L,c4,c5,eI,bQ,e0,c9,fj,e9,c12,eN,eR,eS,bB⟩:=c;dsimp only at bE bY⊢;refine gZ ?_;refine q7.cu _ λad ae K ao=> ?_;refine af ?_;refine⟨bX (λz:Int×Nat=>apB L (ad.len L) z.1 z.2) (λz=>z.2<=l.length) λz=>l.length-z.2,_,⟨(1,0),aAa _,rfl,axV⟩,?_⟩;rintro _ _ ⟨⟨z,i⟩,hi,rfl,rfl⟩;dsimp only at hi⊢;by_cases aA:i<l.length
 .have t2:ad.aD .lss (Int.ofNat i) (Int.ofNat (ad.len L))=true:=by simp_all[aJ]
  have t3:=cz ae (bY i aA);have t5:=cd ae (n:=i) axW;obtain⟨m,aj⟩:=ih l[i] (aAl aA);generalize l[i].bB=y at*;refine af ?_;exact fixF (ad.io .add .i64 z m,i+1) aA
 .have t2:ad.aD .lss (Int.ofNat i) (Int.ofNat (ad.len L))=false:=by simp_all[aJ]
  refine af ?_;exact ao _ _ ⟨_,rfl,axV⟩
def GM(x:aB):Prop:=∀(bq:List (aw×Int)),bq.length<=1073741824->∀d:Int,∃t e:Int,aM 286 [.d (.agg x.bQ.cs),.d (.list 2 (bq.map bD)),.d (int d)] [] (.tuple [.d (int t),.d (int e)]) []
def apD(c:mj)(S L:List D)(d:Int)(H:List D)(n i:Nat):ag:=pV [(1,.d (.list 2 S)),(2,.d (int d)),(3,.dT 3 0),(10,.own 1 H),(52,.d (.list 7 L)),(53,.d (int (Int.ofNat n))),(54,.d (int (Int.ofNat i)))] [(3,[.d (int c.k),.d (.str c.n),.d (int c.gy),.d (int c.vi),.d (.str c.eL),.d (.str c.op),.d (.list 7 L)])] []
theorem apE(x:aB)(hv:x.eL.length<=1073741824)(aI:x.l.length<=1073741824)(ih:∀y∈x.l,GM y):GM x:=by
 intro bq acu d;have ak:x.bQ.l=x.l.map λx=>.agg x.bQ.cs:=by rw[<-aB.ld];cases x;rfl
 have tj:x.bQ.eL.length<=1073741824:=by cases x;exact hv
 generalize x.l=l at*;have bE:(l.map λx=>D.agg x.bQ.cs).length=l.length:=aAb _;have bY:∀i (h:i<l.length),(l.map λx=>D.agg x.bQ.cs)[i]?=some (.agg l[i].bQ.cs):=λi h=>c7 h;rw[<-ak]at bE bY;clear ak hv;generalize x.bQ=c at*;obtain⟨fo,nr,aj⟩:=apt c tj;obtain⟨awH,u3,aF⟩:=acs c;obtain⟨fi,apF,mn,-,aZ⟩:=Az bq c.n acu;have hQ:∀i (h:i<l.length),∃t e:Int,aM 286 [.d (.agg l[i].bQ.cs),.d (.list 2 (bq.map bD)),.d (int (IntKind.i64.wrap (d+1)))] [] (.tuple [.d (int t),.d (int e)]) []:=λi h=>ih l[i] (aAl h) bq acu _;have fit:∀v:List Int,v.length=l.length->l.length=(x9 c).2.1.length->∃(t:Int) (ok:Bool),aM 312 [.d (.list 1 ((x9 c).2.1.map int)),.d (.list 1 (v.map int))] [] (.tuple [.d (int t),.d (.bool ok)]) []:=λv h1 sh=>apw _ v axW axW;have jR:∀i (h:i<bq.length),(bq.map bD)[i]?=some (bD bq[i]):=λi h=>c7 h;have ey:(bq.map bD).length=bq.length:=aAb _;generalize bq.map bD=S at*;clear ih u3;rw[bE]at nr;generalize x9 c=r at*;obtain⟨bN,b5,dq⟩:=r;dsimp only at nr fit;unfold jw at aF;dsimp only at aF;generalize b7:b5.map int=M at*;obtain⟨c1,c2,c3,c4,c5,eI,L⟩:=c;dsimp only at bE bY nr tj aZ⊢;refine uk ?_;refine aEJ.cu _ λad ae K ao=> ?_;have nY:∀a b,IntKind.i64.wrap (a+b)=ad.io .add .i64 a b:=λa b=>ay9;rw[nY]at hQ;obtain⟨g1,t1,q1⟩:=uy ae c1 2;obtain⟨g2,t2,bF⟩:=uy ae c1 1;cases fo with
 |false=>
  refine af ?_;repeat' (split<;>refine af ?_)
  all_goals exact ao _ _ ⟨_,_,rfl,axV⟩
 |true=>
 cases g1 with
 |true=>
  conv=>cbv
  repeat' ((first|refine cZ ?_|refine c6 ?_|simp -proj only[t1,t2]|(split<;>(rename_i h;try simp only[h])))<;>conv=>cbv)
  all_goals exact ao _ _ ⟨_,_,rfl,axV⟩
 |false=>
 cases g2 with
 |true=>
  cases apF with
  |false=>
   conv=>cbv
   repeat' ((first|refine cZ ?_|refine c6 ?_|simp -proj only[t1,t2]|(split<;>(rename_i h;try simp only[h])))<;>conv=>cbv)
   all_goals exact ao _ _ ⟨_,_,rfl,axV⟩
  |true=>
   obtain⟨k,aq,rfl,-⟩:=mn rfl;have t3:=cz ae (jR k aq);unfold bD at t3;conv=>cbv
   repeat' ((first|refine cZ ?_|refine c6 ?_|simp -proj only[t1,t2,t3]|(split<;>(rename_i h;try simp only[h])))<;>conv=>cbv)
   all_goals exact ao _ _ ⟨_,_,rfl,axV⟩
 |false=>
 clear aZ mn jR;have gG:c1≠1:=λh=>by subst h;simp only[aJ ae]at t2;simp_all
 have ic:c1≠2:=λh=>by subst h;simp only[aJ ae]at t1;grind
 have hlen:=nr rfl gG ic;clear q1 bF nr gG ic;have fit:=λv h=>fit v h hlen;cases t4:ad.aD .gtr d 32 with
 |true=>
  refine af ?_;exact ao _ _ ⟨_,_,rfl,axV⟩
 |false=>
 refine af ?_;refine⟨bX (λz:List Int×Nat=>apD ⟨c1,c2,c3,c4,c5,eI,L⟩ S L d (z.1.map int) (ad.len L) z.2) (λz=>z.2<=l.length/\z.1.length=z.2) λz=>l.length-z.2,_,⟨([],0),⟨aAa _,rfl⟩,rfl,axV⟩,?_⟩;rintro _ _ ⟨⟨H,i⟩,⟨hi,eW⟩,rfl,rfl⟩;dsimp only at hi eW⊢;by_cases aA:i<l.length
 .have t5:ad.aD .lss (Int.ofNat i) (Int.ofNat (ad.len L))=true:=by simp only[aJ ae,aAh,aAi];omega
  have t6:=cz ae (bY i aA);have t7:=cd ae (n:=i) axW;obtain⟨t,e,bP⟩:=hQ i aA;have t8:ad.app (H.map int) [int t]=(H++[t]).map int:=ayi;have jx:(H++[t]).length=i+1:=axZ;have hm:(H.map int).length=i:=axZ;generalize aO:(H++[t])=gh at*;generalize gw:gh.map int=qe at*;generalize H.map int=H1 at*;generalize l[i].bQ=y at*;clear fit hQ;refine af ?_;repeat' (split<;>refine af ?_)
  .exact ao _ _ ⟨_,_,rfl,axV⟩
  .subst gw;exact fixF (gh,i+1) ⟨aA,jx⟩
 .have t5:ad.aD .lss (Int.ofNat i) (Int.ofNat (ad.len L))=false:=by simp only[aJ ae,aAh,aAp];omega
  obtain⟨t,o,cK⟩:=fit H axW;generalize H.map int=H1 at*;clear fit hQ;refine af ?_;repeat' (split<;>refine af ?_)
  all_goals exact ao _ _ ⟨_,_,rfl,axV⟩
theorem MA:∀l:List aB,l.length<=aB.ws l
 |[]=>aAd _
 |x::l=>by have:=x.sP;have:=MA l;show l.length+1<=x.w+aB.ws l;omega
theorem apG:∀(n:Nat) (x:aB),x.w<=n->x.w<=dJ->GM x/\Dn x:=by
 intro n;induction n with
 |zero=>grind[aB.sP]
 |succ n ih=>
  intro x h hw;have h1:x.l.length<=1073741824/\x.eL.length<=1073741824:=by
   obtain⟨k,nm,gy,vi,eL,op,l⟩:=x;have sh:=MA l;have av:200+nm.length+eL.length+op.length+aB.ws l<=dJ:=hw;unfold dJ at av;show l.length<=_/\eL.length<=_;omega
  have sh:∀y∈x.l,GM y/\Dn y:=λy wa=>by
   have aA:y.w+200<=x.w:=by
    obtain⟨k,nm,gy,vi,eL,op,l⟩:=x;have:=x8 (l:=l) wa;show _<=200+nm.length+eL.length+op.length+aB.ws l;omega
   grind
  exact⟨apE x h1.2 h1.1 λy wa=>(sh y wa).1,apA x h1.1 λy wa=>(sh y wa).2⟩
theorem acv(c:Int):∃b:Bool,aM 235 [.d (.int .u8 c)] [] (.d (.bool b)) []:=by
 refine gZ ?_;refine Wz.cu _ λad ae K ao=> ?_;refine af ?_;repeat' (split<;>refine af ?_)
 all_goals exact ao _ _ ⟨_,rfl,axV⟩
theorem apH(c:Int):∃b:Bool,aM 236 [.d (.int .u8 c)] [] (.d (.bool b)) []:=by
 refine gZ ?_;obtain⟨b,aj⟩:=acv c;refine WB.cu _ λad ae K ao=> ?_;cases b;all_goals
  refine af ?_;repeat' (split<;>refine af ?_)
  all_goals exact ao _ _ ⟨_,rfl,axV⟩
def apI(L:List D)(n i:Nat):ag:=cx [(19,.d (.list 1 L)),(20,.d (int (Int.ofNat n))),(21,.d (int (Int.ofNat i)))] []
theorem apJ(s:aw):∃b:Bool,aM 197 [.d (.str s)] [] (.d (.bool b)) []:=by
 refine gZ ?_;refine Uy.cu _ λad ae K ao=> ?_;obtain⟨g1,t1,q1⟩:=Av ae s [];obtain⟨bJ,aj⟩:=acv (ad.CD s 0).toNat;cases g1 with
 |true=>
  refine af ?_;exact ao _ _ ⟨_,rfl,axV⟩
 |false=>
 have hs:0<s.length:=by
  rcases s with _|⟨a,s⟩
  all_goals simp_all[aJ]
 clear q1;cases t2:ad.aD .gtr (Int.ofNat (ad.ev s)) 16 with
 |true=>
  refine af ?_;exact ao _ _ ⟨_,rfl,axV⟩
 |false=>
 have dR:s.length<=16:=azS;cases bJ with
 |false=>
  refine af ?_;exact ao _ _ ⟨_,rfl,axV⟩
 |true=>
 have au:ad.h' s=s.map gk:=ax1;have bE:(ad.h' s).length=s.length:=axY;have bY:∀i (h:i<s.length),(ad.h' s)[i]?=some (gk s[i]):=λi h=>axY;clear au;refine af ?_;refine⟨bX (λi=>apI (ad.h' s) (ad.len (ad.h' s)) i) (λz=>z<=s.length) λz=>s.length-z,_,⟨0,aAa _,rfl,axV⟩,?_⟩;generalize ad.h' s=L at*;rintro _ _ ⟨i,hi,rfl,rfl⟩;dsimp only at hi⊢;by_cases aA:i<s.length
 .have t5:ad.aD .lss (Int.ofNat i) (Int.ofNat (ad.len L))=true:=by simp_all[aJ]
  have t6:=cz ae (bY i aA);have t7:=cd ae (n:=i) axW;unfold gk at t6;generalize (s[i].toNat:Int)=c at*;obtain⟨a6,aF⟩:=apH c;cases a6 with
  |false=>
   refine af ?_;exact ao _ _ ⟨_,rfl,axV⟩
  |true=>
   refine af ?_;exact fixF (i+1) aA
 .have t5:ad.aD .lss (Int.ofNat i) (Int.ofNat (ad.len L))=false:=by simp_all[aJ]
  refine af ?_;exact ao _ _ ⟨_,rfl,axV⟩
theorem awI{ad:bm}(h:ad=bm.bU)(L:List D)(k:Int)(op:BinOp):∃c:Bool,ad.aD op (Int.ofNat (ad.len L)) k=c:=⟨_,rfl⟩
def uB(es:List (D×ah)):Prop:=∀e∈es,(∃t,e.1=.str t)/\e.2=.d (.bool true)
theorem uB.flat{es:List (D×ah)}(h:uB es):o0 es:=λe he=>⟨_,(h e he).2⟩
theorem uB.look{ad:bm}(ae:ad=bm.bU){es:List (D×ah)}(h:uB es)(s:aw):∃o,ad.xP false [2] (.str s) es=some o/\(o=none\/o=some (.d (.bool true))):=by
 subst ae;show ∃o,sy false [2] (.str s) es=some o/\_;unfold sy;rcases CN s es 0 (λe he=>(h e he).1)with h1|⟨j,h1,sh⟩
 .simp_all
 .rw[sh];have aK:0+j<es.length:=axW;simp only[aAj aK];exact⟨_,rfl,.inr (by rw[(h _ (aAl aK)).2])⟩
theorem uB.put{ad:bm}(ae:ad=bm.bU){es:List (D×ah)}(h:uB es)(s:aw):∃l',ad.xQ false [2] (.str s) (.d (.bool true)) es=some l'/\uB l':=by
 subst ae;show ∃l',q6 false [2] (.str s) (.d (.bool true)) es=some l'/\_;unfold q6;rcases CN s es 0 (λe he=>(h e he).1)with h1|⟨j,h1,sh⟩
 .rw[h1];refine⟨_,rfl,λe he=> ?_⟩;rcases aAT.1 he with he|he
  .exact h e he
  simp_all
 .rw[sh];refine⟨_,rfl,λe he=> ?_⟩;rcases aB3 he with he|rfl
  .exact h e he
  simp
def apK(L:List D)(n i:Nat)(es:List (D×ah)):ag:=cx [(3,.map 0),(15,.d (.list 2 L)),(16,.d (int (Int.ofNat n))),(17,.d (int (Int.ofNat i)))] [.map es]
theorem rb(l:List (aw×Int)):∃e:Int,(e=0->l.length<=16)/\aM 144 [.d (.list 2 (l.map bD))] [] (.d (int e)) []:=by
 refine fK ?_;have bE:(l.map bD).length=l.length:=aAb _;have bY:∀i (h:i<l.length),(l.map bD)[i]?=some (bD l[i]):=λi h=>c7 h;generalize l.map bD=L at*;refine Zw.jt [0] _ λad ae K ao=> ?_;cases t1:ad.aD .eql (Int.ofNat (ad.len L)) 0 with
 |true=>
  refine af ?_;simp_all
 |false=>
 cases t2:ad.aD .gtr (Int.ofNat (ad.len L)) 16 with
 |true=>
  refine af ?_;simp_all
 |false=>
 have aI:l.length<=16:=azS;have wb:uB []:=λe he=>axZ;have f0:=wb.flat.refs ae;have f1:=wb.flat.ok ae;refine af ?_;refine⟨bX (λz:Nat×List (D×ah)=>apK L (ad.len L) z.1 z.2) (λz=>z.1<=l.length/\uB z.2) λz=>l.length-z.1,_,⟨(0,[]),⟨aAa _,wb⟩,rfl,axV⟩,?_⟩;rintro _ _ ⟨⟨i,es⟩,⟨hi,hm⟩,rfl,rfl⟩;dsimp only at hi hm⊢;clear f0 f1 wb;have f0:=hm.flat.refs ae;have f1:=hm.flat.ok ae;have f2:=hm.flat.ren ae;by_cases aA:i<l.length
 .have t5:ad.aD .lss (Int.ofNat i) (Int.ofNat (ad.len L))=true:=by simp_all[aJ]
  have t6:=cz ae (bY i aA);have t7:=cd ae (n:=i) axW;unfold bD at t6;generalize l[i]=x at*;obtain⟨b',cr⟩:=x;dsimp only at t6;obtain⟨b,aj⟩:=apJ b';obtain⟨o,g1,bd⟩:=hm.look ae b';obtain⟨l',g2,acw⟩:=hm.put ae b';have f3:=acw.flat.ok ae;cases b with
  |false=>
   refine af ?_;simp_all
  |true=>
  rcases bd with rfl|rfl
  .refine af ?_;repeat' (split<;>refine af ?_)
   all_goals first|exact fixF (i+1,l') ⟨aA,acw⟩|simp_all
  .refine af ?_;repeat' (split<;>refine af ?_)
   all_goals simp_all
 .have t5:ad.aD .lss (Int.ofNat i) (Int.ofNat (ad.len L))=false:=by simp_all[aJ]
  refine af ?_;simp_all
def apL(L:List D)(v:D)(n i:Nat):ag:=cx [(0,.d (.list 1 L)),(1,.d v),(7,.d (int (Int.ofNat n))),(8,.d (int (Int.ofNat i)))] []
theorem apM(l:List aw)(v:aw)(aI:l.length<=1073741824):∃r:Int,aM 336 [.d (.list 1 (l.map D.str)),.d (D.str v)] [] (.d (int r)) []:=by
 refine gZ ?_;have bE:(l.map D.str).length=l.length:=aAb _;have bY:∀i (h:i<l.length),(l.map D.str)[i]?=some (D.str l[i]):=λi h=>c7 h;generalize l.map D.str=L at*;refine aFl.cu _ λad ae K ao=> ?_;refine af ?_;refine⟨bX (apL L (D.str v) (ad.len L)) (λi=>i<=l.length) λi=>l.length-i,_,⟨0,aAa _,rfl,axV⟩,?_⟩;rintro _ _ ⟨i,hi,rfl,rfl⟩;dsimp only at hi⊢;by_cases aA:i<l.length
 .have t2:ad.aD .lss (Int.ofNat i) (Int.ofNat (ad.len L))=true:=by simp_all[aJ]
  have t3:=cz ae (bY i aA);have t5:=cd ae (n:=i) axW;generalize l[i]=x at*;refine af ?_;repeat' (split<;>refine af ?_)
  .exact ao _ _ ⟨_,rfl,axV⟩
  .exact fixF (i+1) aA
 .have t2:ad.aD .lss (Int.ofNat i) (Int.ofNat (ad.len L))=false:=by simp_all[aJ]
  refine af ?_;exact ao _ _ ⟨_,rfl,axV⟩
theorem apN(l:List aw)(v:aw)(aI:l.length<=1073741824):∃b:Bool,aM 316 [.d (.list 1 (l.map D.str)),.d (D.str v)] [] (.d (.bool b)) []:=by
 refine gZ ?_;obtain⟨r,aj⟩:=apM l v aI;generalize l.map D.str=L at*;refine aD8.cu _ λad ae K ao=> ?_;refine af ?_;exact ao _ _ ⟨_,rfl,axV⟩
def apO(L:List D)(v:D)(n i:Nat):ag:=cx [(0,.d (.list 1 L)),(1,.d v),(7,.d (int (Int.ofNat n))),(8,.d (int (Int.ofNat i)))] []
theorem apP(l:List Int)(v:Int)(aI:l.length<=1073741824):∃r:Int,aM 313 [.d (.list 1 (l.map int)),.d (int v)] [] (.d (int r)) []:=by
 refine gZ ?_;have bE:(l.map int).length=l.length:=aAb _;have bY:∀i (h:i<l.length),(l.map int)[i]?=some (int l[i]):=λi h=>c7 h;generalize l.map int=L at*;refine aFJ.cu _ λad ae K ao=> ?_;refine af ?_;refine⟨bX (apO L (int v) (ad.len L)) (λi=>i<=l.length) λi=>l.length-i,_,⟨0,aAa _,rfl,axV⟩,?_⟩;rintro _ _ ⟨i,hi,rfl,rfl⟩;dsimp only at hi⊢;by_cases aA:i<l.length
 .have t2:ad.aD .lss (Int.ofNat i) (Int.ofNat (ad.len L))=true:=by simp_all[aJ]
  have t3:=cz ae (bY i aA);have t5:=cd ae (n:=i) axW;generalize l[i]=x at*;refine af ?_;repeat' (split<;>refine af ?_)
  .exact ao _ _ ⟨_,rfl,axV⟩
  .exact fixF (i+1) aA
 .have t2:ad.aD .lss (Int.ofNat i) (Int.ofNat (ad.len L))=false:=by simp_all[aJ]
  refine af ?_;exact ao _ _ ⟨_,rfl,axV⟩
theorem apQ(l:List Int)(v:Int)(aI:l.length<=1073741824):∃b:Bool,aM 287 [.d (.list 1 (l.map int)),.d (int v)] [] (.d (.bool b)) []:=by
 refine gZ ?_;obtain⟨r,aj⟩:=apP l v aI;generalize l.map int=L at*;refine aFb.cu _ λad ae K ao=> ?_;refine af ?_;exact ao _ _ ⟨_,rfl,axV⟩
theorem apR(L:List D)(aI:L.length<=1073741824):aM 50 [.d (.list 2 L)] [] (.d (.list 2 L)) []:=by
 cases L with
 |nil=>
  refine TN.cn λad ae Q aV=> ?_;conv=>cbv
  subst ae;refine⟨?_,?_⟩;all_goals first|exact bZ aV axV axV|exact⟨axV,bZ aV axV axV⟩
 |cons x L=>
  refine TN.cn λad ae Q aV=> ?_;have sh:L.length+1<=1073741824:=aI;refine af ?_
  (subst ae;exact bZ aV axV axV)
theorem awJ(L:List D)(aI:L.length<=1073741824):aM 51 [.d (.list 4 L)] [] (.d (.list 4 L)) []:=by
 cases L with
 |nil=>
  refine YX.cn λad ae Q aV=> ?_;conv=>cbv
  subst ae;refine⟨?_,?_⟩;all_goals first|exact bZ aV axV axV|exact⟨axV,bZ aV axV axV⟩
 |cons x L=>
  refine YX.cn λad ae Q aV=> ?_;have sh:L.length+1<=1073741824:=aI;refine af ?_
  (subst ae;exact bZ aV axV axV)
theorem awK(L:List D)(aI:L.length<=1073741824):aM 74 [.d (.list 1 L)] [] (.d (.list 1 L)) []:=by
 cases L with
 |nil=>
  refine Xa.cn λad ae Q aV=> ?_;conv=>cbv
  subst ae;refine⟨?_,?_⟩;all_goals first|exact bZ aV axV axV|exact⟨axV,bZ aV axV axV⟩
 |cons x L=>
  refine Xa.cn λad ae Q aV=> ?_;have sh:L.length+1<=1073741824:=aI;refine af ?_
  (subst ae;exact bZ aV axV axV)
theorem awL(L:List D)(aI:L.length<=1073741824):aM 75 [.d (.list 2 L)] [] (.d (.list 2 L)) []:=by
 cases L with
 |nil=>
  refine Zd.cn λad ae Q aV=> ?_;conv=>cbv
  subst ae;refine⟨?_,?_⟩;all_goals first|exact bZ aV axV axV|exact⟨axV,bZ aV axV axV⟩
 |cons x L=>
  refine Zd.cn λad ae Q aV=> ?_;have sh:L.length+1<=1073741824:=aI;refine af ?_
  (subst ae;exact bZ aV axV axV)
theorem awM(L:List D)(aI:L.length<=1073741824):aM 76 [.d (.list 3 L)] [] (.d (.list 3 L)) []:=by
 cases L with
 |nil=>
  refine Vy.cn λad ae Q aV=> ?_;conv=>cbv
  subst ae;refine⟨?_,?_⟩;all_goals first|exact bZ aV axV axV|exact⟨axV,bZ aV axV axV⟩
 |cons x L=>
  refine Vy.cn λad ae Q aV=> ?_;have sh:L.length+1<=1073741824:=aI;refine af ?_
  (subst ae;exact bZ aV axV axV)
theorem awN(L:List D)(aI:L.length<=1073741824):aM 77 [.d (.list 2 L)] [] (.d (.list 2 L)) []:=by
 cases L with
 |nil=>
  refine VA.cn λad ae Q aV=> ?_;conv=>cbv
  subst ae;refine⟨?_,?_⟩;all_goals first|exact bZ aV axV axV|exact⟨axV,bZ aV axV axV⟩
 |cons x L=>
  refine VA.cn λad ae Q aV=> ?_;have sh:L.length+1<=1073741824:=aI;refine af ?_
  (subst ae;exact bZ aV axV axV)
def apS(L H:List D)(n i:Nat):ag:=cx [(3,.own 1 H),(6,.d (.list 2 L)),(7,.d (int (Int.ofNat n))),(8,.d (int (Int.ofNat i)))] []
theorem apT(l:List (aw×Int))(aI:l.length<=1073741824):∃m:List Int,m.length=l.length/\aM 288 [.d (.list 2 (l.map bD))] [] (.d (.list 1 (m.map int))) []:=by
 refine fK ?_;have bE:(l.map bD).length=l.length:=aAb _;have bY:∀i (h:i<l.length),(l.map bD)[i]?=some (bD l[i]):=λi h=>c7 h;generalize l.map bD=L at*;refine Yv.cu _ λad ae K ao=> ?_;refine af ?_;refine⟨bX (λz:List Int×Nat=>apS L (z.1.map int) (ad.len L) z.2) (λz=>z.2<=l.length/\z.1.length=z.2) λz=>l.length-z.2,_,⟨([],0),⟨aAa _,rfl⟩,rfl,axV⟩,?_⟩;rintro _ _ ⟨⟨H,i⟩,⟨hi,eW⟩,rfl,rfl⟩;dsimp only at hi eW⊢;by_cases aA:i<l.length
 .have t2:ad.aD .lss (Int.ofNat i) (Int.ofNat (ad.len L))=true:=by simp_all[aJ]
  have t3:=cz ae (bY i aA);have t5:=cd ae (n:=i) axW;unfold bD at t3;generalize l[i]=x at*;obtain⟨b',t⟩:=x;dsimp only at t3;have t8:ad.app (H.map int) [int t]=(H++[t]).map int:=ax1;have jx:(H++[t]).length=i+1:=axY;have hm:(H.map int).length=i:=axY;generalize aO:(H++[t])=gh at*;generalize gw:gh.map int=qe at*;generalize H.map int=H1 at*;refine af ?_;subst gw;exact fixF (gh,i+1) ⟨aA,jx⟩
 .have t2:ad.aD .lss (Int.ofNat i) (Int.ofNat (ad.len L))=false:=by simp_all[aJ]
  generalize aO:H.map int=H1 at*;refine af ?_;exact ao _ _ ⟨H,axW,by rw[aO],axV⟩
theorem apU(x:aw×aw×aw)(l:List (aw×Int))(aI:l.length<=1073741824):∃t e:Int,aM 291 [.d (eM x),.d (.list 2 (l.map bD))] [] (.tuple [.d (int t),.d (int e)]) []:=by
 refine uk ?_;obtain⟨b',cr,dE⟩:=x;unfold eM;dsimp only;obtain⟨b,aj⟩:=apN [[99,111,117,110,116],[115,117,109],[109,105,110],[109,97,120]] b' ax0;obtain⟨i,ok,hi,-,aF⟩:=Az l cr aI;have jR:∀i (h:i<l.length),(l.map bD)[i]?=some (bD l[i]):=λi h=>c7 h;have ey:(l.map bD).length=l.length:=aAb _;generalize l.map bD=S at*;change bG _ _ _ [.d (.list 1 [.str [99,111,117,110,116],.str [115,117,109],.str [109,105,110],.str [109,97,120]]),_] _ _ _ at aj;refine aFd.cu _ λad ae K ao=> ?_;cases ok with
 |false=>
  cases b;all_goals
   refine af ?_;repeat' (split<;>refine af ?_)
   all_goals exact ao _ _ ⟨_,_,rfl,axV⟩
 |true=>
  obtain⟨k,aq,rfl,-⟩:=hi rfl;have t3:=cz ae (jR k aq);unfold bD at t3;cases b;all_goals
   refine af ?_;repeat' (split<;>refine af ?_)
   all_goals exact ao _ _ ⟨_,_,rfl,axV⟩
theorem acx(x:aB)(hw:x.w<=dJ)(l:List (aw×Int)):∃t e:Int,aM 244 [.d (.agg x.bQ.cs),.d (.list 2 (l.map bD))] [] (.tuple [.d (int t),.d (int e)]) []:=by
 refine uk ?_;obtain⟨ty,n,aF⟩:=apG x.w x (aAd _) hw;obtain⟨e,h1,aj⟩:=rb l;have av:e=0->∃t e:Int,aM 286 [.d (.agg x.bQ.cs),.d (.list 2 (l.map bD)),.d (int 1)] [] (.tuple [.d (int t),.d (int e)]) []:=λh=>ty l axW 1;clear ty h1 hw;generalize l.map bD=L at*;generalize x.bQ=c at*;refine aEF.cu _ λad ae K ao=> ?_;cases t1:ad.aD .neq e 0 with
 |true=>
  refine af ?_;exact ao _ _ ⟨_,_,rfl,axV⟩
 |false=>
  have he:e=0:=ax1;obtain⟨t,aZ,av⟩:=av he;refine af ?_;repeat' (split<;>refine af ?_)
  all_goals exact ao _ _ ⟨_,_,rfl,axV⟩
def apV(S:D):ag:=cx [(0,.d (.list 1 [])),(1,.func 281 [] [.ptr 0 0]),(7,.d (int 0)),(8,.d (int 0))] [.box [.d S]]
theorem apW(S:List D):aM 308 [.d (.list 1 []),.func 281 [] [.ptr 0 0]] [.box [.d (.list 2 S)]] (.d (int (-1))) [.box [.d (.list 2 S)]]:=by
 refine aap.cn λad ae Q aV=> ?_;have t1:ad.len []=0:=ax1;refine af ?_;refine⟨bX (λ_:Unit=>apV (.list 2 S)) (λ_=>True) (λ_=>0),_,⟨(),trivial,rfl,axV⟩,?_⟩;rintro _ _ ⟨_,_,rfl,rfl⟩;have t2:ad.aD .lss 0 0=false:=ax1;refine af ?_
 (subst ae;exact bZ aV axX axV)
theorem apX(S:List D):aM 280 [.d (.list 1 []),.func 281 [] [.ptr 0 0]] [.box [.d (.list 2 S)]] (.d (.bool false)) [.box [.d (.list 2 S)]]:=by
 have aj:=apW S;refine Yr.cn λad ae Q aV=> ?_;have t1:ad.aD .geq (-1) 0=false:=ax1;refine af ?_
 (subst ae;exact bZ aV axX axV)
theorem apY(l:List (aw×Int)):∃e:Int,(e=0->l.length<=16)/\aM 241 [.d (.list 2 (l.map bD)),.d (.list 1 [])] [] (.d (int e)) []:=by
 refine fK ?_;obtain⟨e,h1,aj⟩:=rb l;generalize l.map bD=L at*;have aF:=apX L;refine aDZ.cu _ λad ae K ao=> ?_;cases t1:ad.aD .neq e 0 with
 |true=>
  have he:e≠0:=ax1;refine af ?_;exact ao _ _ ⟨e,(λh=>absurd h he),rfl,axV⟩
 |false=>
  have he:e=0:=ax1;have aI:=h1 he;refine af ?_;repeat' (split<;>refine af ?_)
  all_goals exact ao _ _ ⟨_,(λ_=>aI),rfl,axV⟩
def apZ:ag:=cx [(0,.d (.list 1 [])),(1,.d (.fn 243)),(5,.d (int (-1)))] []
theorem ap0:aM 242 [.d (.list 1 []),.d (.fn 243)] [] (.d (.bool true)) []:=by
 refine aD1.cn λad ae Q aV=> ?_;have t1:ad.len []=0:=ax1;have t2:ad.io .sub .i64 (Int.ofNat 0) 1= -1:=ayz;refine af ?_;refine⟨bX (λ_:Unit=>apZ) (λ_=>True) (λ_=>0),_,⟨(),trivial,rfl,axV⟩,?_⟩;rintro _ _ ⟨_,_,rfl,rfl⟩;have t3:ad.aD .gtr (-1) 0=false:=ax1;refine af ?_
 (subst ae;exact bZ aV axX axV)
theorem ap1(l:List (aw×Int)):∃e:Int,(e=0->l.length<=16)/\aM 204 [.d (.agg [.list 2 (l.map bD),.list 1 []])] [] (.d (int e)) []:=by
 refine fK ?_;obtain⟨e,h1,aj⟩:=apY l;have aF:=ap0;generalize l.map bD=L at*;refine Z1.cu _ λad ae K ao=> ?_;cases t1:ad.aD .neq e 0 with
 |true=>
  have he:e≠0:=ax1;refine af ?_;exact ao _ _ ⟨e,(λh=>absurd h he),rfl,axV⟩
 |false=>
  have he:e=0:=ax1;have aI:=h1 he;refine af ?_;exact ao _ _ ⟨_,(λ_=>aI),rfl,axV⟩
def jV(x:aw×List (aw×Int)):D:=.agg [.str x.1,.list 2 (x.2.map bD),.list 1 []]
theorem ap2(l:List (aw×List (aw×Int)))(f:Nat)(v:aw)(P:Nat->Bool)(aI:l.length<=1073741824)
  (bh:∀i (h:i<l.length),aM f [.d (jV l[i]),.ptr 0 0] [.box [.d (.str v)]] (.d (.bool (P i))) [.box [.d (.str v)]]):
  ∃r:Int,oo l.length P r/\aM 239 [.d (.list 3 (l.map jV)),.func f [] [.ptr 0 0]] [.box [.d (.str v)]] (.d (int r)) [.box [.d (.str v)]]:=by
 refine fK ?_;have bE:(l.map jV).length=l.length:=aAb _;have bY:∀i (h:i<l.length),(l.map jV)[i]?=some (jV l[i]):=λi h=>c7 h;generalize l.map jV=L at*;refine aE6.cu _ λad ae K ao=> ?_;refine af ?_;refine⟨bX (Mv 3 f L (.str v) (ad.len L)) (λi=>i<=l.length/\∀j,j<i->P j=false) λi=>l.length-i,_,⟨0,⟨aAa _,λj h=>axW⟩,rfl,axV⟩,?_⟩;rintro _ _ ⟨i,⟨hi,hs⟩,rfl,rfl⟩;dsimp only at hi hs⊢;by_cases aA:i<l.length
 .have t2:ad.aD .lss (Int.ofNat i) (Int.ofNat (ad.len L))=true:=by simp_all[aJ]
  have t3:=cz ae (bY i aA);have t5:=cd ae (n:=i) axW;have aj:=bh i aA;have Ar:P i=true->oo l.length P (Int.ofNat i):=λh=>.inr ⟨i,aA,rfl,h,hs⟩;have x5:P i=false->∀j,j<i+1->P j=false:=λh j aK=>axZ;unfold jV at*;clear bh;generalize l[i]=x at*;generalize x.2.map bD=M at*;generalize P i=b at*;cases b with
  |true=>
   refine af ?_;exact ao _ _ ⟨_,Ar rfl,rfl,axV⟩
  |false=>
   refine af ?_;exact fixF (i+1) ⟨aA,x5 rfl⟩
 .have t2:ad.aD .lss (Int.ofNat i) (Int.ofNat (ad.len L))=false:=by simp_all[aJ]
  have ay:oo l.length P (-1):=.inl ⟨rfl,λj aK=>hs j axW⟩;refine af ?_;exact ao _ _ ⟨-1,ay,rfl,axV⟩
theorem ap3(x:aw×List (aw×Int))(v:aw):aM 240 [.d (jV x),.ptr 0 0] [.box [.d (.str v)]] (.d (.bool (decide (x.1=v)))) [.box [.d (.str v)]]:=by
 unfold jV;refine aE8.cn λad ae Q aV=> ?_;have t1:ad.bq .eql x.1 v=decide (x.1=v):=ax1;generalize decide (x.1=v)=b at*;generalize x.2.map bD=L at*;refine af ?_
 (subst ae;exact bZ aV axX axV)
theorem ap4(l:List (aw×List (aw×Int)))(v:aw)(aI:l.length<=1073741824):∃(bq:List (aw×Int)) (ok:Bool),aM 203 [.d (.list 3 (l.map jV)),.d (.str v)] [] (.tuple [.d (.agg [.list 2 (bq.map bD),.list 1 []]),.d (.bool ok)]) []:=by
 refine uk ?_
 obtain⟨r,ax,aj⟩:=ap2 l 240 v (λi=>decide (l[i]?.map Prod.fst=some v)) aI (λi h=>by
  have:=ap3 l[i] v;rw[aAj h];simpa using this)
 have bY:∀i (h:i<l.length),(l.map jV)[i]?=some (jV l[i]):=λi h=>c7 h;have bE:(l.map jV).length=l.length:=aAb _;generalize l.map jV=L at*;refine al4.cu _ λad ae K ao=> ?_;rcases ax with⟨rfl,h1⟩|⟨k,aq,rfl,h1,_⟩
 .have t1:ad.aD .lss (-1) 0=true:=by simp_all[aJ]
  refine af ?_;exact ao _ _ ⟨[],false,rfl,axV⟩
 .have t1:ad.aD .lss (Int.ofNat k) 0=false:=by simp only[aJ ae,aAp];simp
  have t3:=cz ae (bY k aq);unfold jV at t3;generalize b7:(l[k].2.map bD)=M at*;refine af ?_;exact ao _ _ ⟨l[k].2,true,aye,axV⟩
def ap5(S T O:List D)(n i:Nat):ag:=cx [(1,.d (.list 2 S)),(2,.d (.list 2 T)),(18,.d (.list 2 O)),(19,.d (int (Int.ofNat n))),(20,.d (int (Int.ofNat i)))] []
theorem ap6(p:ef)(on:List (aw×aw))(hp:p.on=on.map fx)(bd:on.length<=1073741824)(l m:List (aw×Int))(aI:l.length<=1073741824)(hm:m.length<=1073741824):∃e:Int,aM 247 [.d (.agg p.cs),.d (.list 2 (l.map bD)),.d (.list 2 (m.map bD))] [] (.d (int e)) []:=by
 refine gZ ?_;have f1:=λv=>Az l v aI;have f2:=λv=>Az m v hm;have LF:∀i (h:i<l.length),(l.map bD)[i]?=some (bD l[i]):=λi h=>c7 h;have LG:∀i (h:i<m.length),(m.map bD)[i]?=some (bD m[i]):=λi h=>c7 h;have CX:∀i (h:i<on.length),(on.map fx)[i]?=some (fx on[i]):=λi h=>c7 h;have acy:(l.map bD).length=l.length:=aAb _;have uC:(m.map bD).length=m.length:=aAb _;have ap7:(on.map fx).length=on.length:=aAb _;generalize l.map bD=S at*;generalize m.map bD=T at*;generalize on.map fx=O at*;obtain⟨c1,c2,c3,c4,c5,eI,bQ,e0,c9,fj,e9,c12,eN,eR,eS,bB⟩:=p;dsimp only at hp⊢;subst hp;refine amh.cu _ λad ae K ao=> ?_;cases t0:ad.aD .eql (Int.ofNat (ad.len eN)) 0 with
 |true=>
  refine af ?_;exact ao _ _ ⟨_,rfl,axV⟩
 |false=>
 refine af ?_;refine⟨bX (ap5 S T eN (ad.len eN)) (λi=>i<=on.length) λi=>on.length-i,_,⟨0,aAa _,rfl,axV⟩,?_⟩;rintro _ _ ⟨i,hi,rfl,rfl⟩;dsimp only at hi⊢;by_cases aA:i<on.length
 .have t2:ad.aD .lss (Int.ofNat i) (Int.ofNat (ad.len eN))=true:=by simp only[aJ ae,aAh,aAi];omega
  have t3:=cz ae (CX i aA);have t5:=cd ae (n:=i) axW;unfold fx at t3;generalize on[i]=x at*;obtain⟨b',cr⟩:=x;dsimp only at t3;obtain⟨i1,bJ,g1,-,aj⟩:=f1 b';obtain⟨i2,a6,g2,-,aF⟩:=f2 cr;clear f1 f2;cases bJ with
  |false=>
   cases a6;all_goals
    refine af ?_;exact ao _ _ ⟨_,rfl,axV⟩
  |true=>
  cases a6 with
  |false=>
   refine af ?_;exact ao _ _ ⟨_,rfl,axV⟩
  |true=>
   obtain⟨k1,h1,rfl,-⟩:=g1 rfl;obtain⟨k2,sh,rfl,-⟩:=g2 rfl;have t6:=cz ae (LF k1 h1);have t7:=cz ae (LG k2 sh);unfold bD at t6 t7;clear g1 g2;refine af ?_;repeat' (split<;>refine af ?_)
   all_goals first|exact ao _ _ ⟨_,rfl,axV⟩|exact fixF (i+1) aA
 .have t2:ad.aD .lss (Int.ofNat i) (Int.ofNat (ad.len eN))=false:=by simp only[aJ ae,aAh,aAp];omega
  refine af ?_;exact ao _ _ ⟨_,rfl,axV⟩
def ap8(S O:List D)(n i:Nat):ag:=cx [(1,.d (.list 2 S)),(13,.d (.list 2 O)),(14,.d (int (Int.ofNat n))),(15,.d (int (Int.ofNat i)))] []
theorem ap9(p:ef)(ob:List (aw×Bool))(hp:p.ob=ob.map fy)(bd:ob.length<=1073741824)(l:List (aw×Int))(aI:l.length<=1073741824):∃e:Int,aM 249 [.d (.agg p.cs),.d (.list 2 (l.map bD))] [] (.d (int e)) []:=by
 refine gZ ?_;have f1:=λv=>Az l v aI;have CX:∀i (h:i<ob.length),(ob.map fy)[i]?=some (fy ob[i]):=λi h=>c7 h;have ap7:(ob.map fy).length=ob.length:=aAb _;generalize l.map bD=S at*;generalize ob.map fy=O at*;obtain⟨c1,c2,c3,c4,c5,eI,bQ,e0,c9,fj,e9,c12,eN,eR,eS,bB⟩:=p;dsimp only at hp⊢;subst hp;refine ami.cu _ λad ae K ao=> ?_;cases t0:ad.aD .lss bB 0 with
 |true=>
  refine af ?_;exact ao _ _ ⟨_,rfl,axV⟩
 |false=>
 refine af ?_;refine⟨bX (ap8 S eS (ad.len eS)) (λi=>i<=ob.length) λi=>ob.length-i,_,⟨0,aAa _,rfl,axV⟩,?_⟩;rintro _ _ ⟨i,hi,rfl,rfl⟩;dsimp only at hi⊢;by_cases aA:i<ob.length
 .have t2:ad.aD .lss (Int.ofNat i) (Int.ofNat (ad.len eS))=true:=by simp only[aJ ae,aAh,aAi];omega
  have t3:=cz ae (CX i aA);have t5:=cd ae (n:=i) axW;unfold fy at t3;generalize ob[i]=x at*;obtain⟨b',cr⟩:=x;dsimp only at t3;obtain⟨i1,bJ,g1,-,aj⟩:=f1 b';clear f1 g1;cases bJ;all_goals
   refine af ?_;first|exact fixF (i+1) aA|exact ao _ _ ⟨_,rfl,axV⟩
 .have t2:ad.aD .lss (Int.ofNat i) (Int.ofNat (ad.len eS))=false:=by simp only[aJ ae,aAh,aAp];omega
  refine af ?_;exact ao _ _ ⟨_,rfl,axV⟩
theorem MB{ad:bm}(ae:ad=bm.bU)(H:List (aw×Int))(n:aw)(t:Int):ad.app (H.map bD) [.agg [.str n,int t]]=(H++[(n,t)]).map bD:=ayi
theorem re{α:Type}{l:List α}{a:α}{i:Nat}(h:l.length=i):(l++[a]).length=i+1:=axY
def ap'(c:ef)(S H:List D)(n i:Nat):ag:=pV [(1,.d (.list 2 S)),(2,.dT 2 0),(6,.own 2 H),(19,.d (.list 7 c.xs)),(20,.d (int (Int.ofNat n))),(21,.d (int (Int.ofNat i)))] [(2,c.v)] []
theorem aqa(p:ef)(ns:List aw)(xs:List aB)(ay:p.ns=ns.map .str)(ak:p.xs=xs.map λx=>.agg x.bQ.cs)(qO:xs.length<=1073741824)(hw:∀x∈xs,x.w<=dJ)(l:List (aw×Int)):
  ∃(bq:List (aw×Int)) (e:Int),aM 245 [.d (.agg p.cs),.d (.list 2 (l.map bD))] [] (.tuple [.d (.list 2 (bq.map bD)),.d (int e)]) []:=by
 refine uk ?_;have f1:∀x∈xs,∃t e:Int,aM 244 [.d (.agg x.bQ.cs),.d (.list 2 (l.map bD))] [] (.tuple [.d (int t),.d (int e)]) []:=λx ak=>acx x (hw x ak) l;have g1:∀i (h:i<ns.length),(ns.map D.str)[i]?=some (.str ns[i]):=λi h=>c7 h;have g2:∀i (h:i<xs.length),(xs.map λx=>D.agg x.bQ.cs)[i]?=some (.agg xs[i].bQ.cs):=λi h=>c7 h;have acy:(ns.map D.str).length=ns.length:=aAb _;have uC:(xs.map λx=>D.agg x.bQ.cs).length=xs.length:=aAb _;generalize ns.map D.str=N at*;generalize (xs.map λx=>D.agg x.bQ.cs)=X at*;generalize l.map bD=S at*;obtain⟨c1,c2,c3,c4,c5,eI,bQ,e0,c9,fj,e9,c12,eN,eR,eS,bB⟩:=p;dsimp only at ay ak⊢;subst ay ak;refine aD3.cu _ λad ae K ao=> ?_;cases t0:ad.aD .neq (Int.ofNat (ad.len e9)) (Int.ofNat (ad.len c12))with
 |true=>
  refine af ?_;exact ao _ _ ⟨[],_,rfl,axV⟩
 |false=>
 have hlen:ns.length=xs.length:=by simp only[aJ ae,aAh,aBf,aAi]at t0;omega
 refine af ?_;refine⟨bX (λz:List (aw×Int)×Nat=>ap' ⟨c1,c2,c3,c4,c5,eI,bQ,e0,c9,fj,e9,c12,eN,eR,eS,bB⟩ S (z.1.map bD) (ad.len c12) z.2) (λz=>z.2<=xs.length/\z.1.length=z.2) λz=>xs.length-z.2,_,⟨([],0),⟨aAa _,rfl⟩,rfl,axV⟩,?_⟩;rintro _ _ ⟨⟨H,i⟩,⟨hi,eW⟩,rfl,rfl⟩;dsimp only at hi eW⊢;by_cases aA:i<xs.length
 .have t2:ad.aD .lss (Int.ofNat i) (Int.ofNat (ad.len c12))=true:=by simp_all[aJ]
  have t3:=cz ae (g2 i aA);have pN:i<ns.length:=axW;obtain⟨nm,kk⟩:∃nm,nm=ns[i]:=⟨_,rfl⟩;have t4:=cz ae (g1 i pN);rw[<-kk]at t4;clear kk;have t5:=cd ae (n:=i) axW;obtain⟨t,e,aj⟩:=f1 xs[i] (aAl aA);clear f1;have t8:=MB ae H nm t;have jx:=re (a:=(nm,t)) eW;have hm:(H.map bD).length=i:=axY;generalize aO:(H++[(nm,t)])=gh at*;generalize gw:gh.map bD=qe at*;generalize H.map bD=H1 at*;generalize xs[i].bQ=y at*;refine af ?_;repeat' (split<;>refine af ?_)
  all_goals first|exact ao _ _ ⟨[],_,rfl,axV⟩|(subst gw;exact fixF (gh,i+1) ⟨aA,jx⟩)
 .have t2:ad.aD .lss (Int.ofNat i) (Int.ofNat (ad.len c12))=false:=by simp_all[aJ]
  obtain⟨m,hm,aF⟩:=apT H axW;obtain⟨b,aZ⟩:=apQ m 0 axW;generalize aO:H.map bD=H1 at*;generalize m.map int=M at*;refine af ?_;repeat' (split<;>refine af ?_)
  all_goals first|exact ao _ _ ⟨[],_,rfl,axV⟩|exact ao _ _ ⟨H,_,by rw[aO],axV⟩
def aqb(c:ef)(S H:List D)(n i:Nat):ag:=pV [(1,.d (.list 2 S)),(2,.dT 2 0),(6,.own 2 H),(16,.d (.list 1 c.ns)),(17,.d (int (Int.ofNat n))),(18,.d (int (Int.ofNat i)))] [(2,c.v)] []
def aqc(S H A:List D)(n i:Nat):ag:=cx [(1,.d (.list 2 S)),(6,.own 2 H),(39,.d (.list 3 A)),(40,.d (int (Int.ofNat n))),(41,.d (int (Int.ofNat i)))] []
theorem aqd(p:ef)(ns:List aw)(ai:List (aw×aw×aw))(ay:p.ns=ns.map .str)(bp:p.ai=ai.map eM)(sb:ns.length<=1073741824)(xh:ai.length<=1073741824)(l:List (aw×Int))(aI:l.length<=1073741824):
  ∃(bq:List (aw×Int)) (e:Int),aM 248 [.d (.agg p.cs),.d (.list 2 (l.map bD))] [] (.tuple [.d (.list 2 (bq.map bD)),.d (int e)]) []:=by
 refine uk ?_;have f1:=λv=>Az l v aI;have f2:=λx=>apU x l aI;have g0:∀i (h:i<l.length),(l.map bD)[i]?=some (bD l[i]):=λi h=>c7 h;have g1:∀i (h:i<ns.length),(ns.map D.str)[i]?=some (.str ns[i]):=λi h=>c7 h;have g2:∀i (h:i<ai.length),(ai.map eM)[i]?=some (eM ai[i]):=λi h=>c7 h;have x':(l.map bD).length=l.length:=aAb _;have acy:(ns.map D.str).length=ns.length:=aAb _;have uC:(ai.map eM).length=ai.length:=aAb _;generalize ns.map D.str=N at*;generalize ai.map eM=X at*;generalize l.map bD=S at*;obtain⟨c1,c2,c3,c4,c5,eI,bQ,e0,c9,fj,e9,c12,eN,eR,eS,bB⟩:=p;dsimp only at ay bp⊢;subst ay bp;refine Ye.cu _ λad ae K ao=> ?_;refine af ?_;refine⟨bX (λz:List (aw×Int)×Nat=>aqb ⟨c1,c2,c3,c4,c5,eI,bQ,e0,c9,fj,e9,c12,eN,eR,eS,bB⟩ S (z.1.map bD) (ad.len e9) z.2) (λz=>z.2<=ns.length/\z.1.length=z.2) λz=>ns.length-z.2,_,⟨([],0),⟨aAa _,rfl⟩,rfl,axV⟩,?_⟩;rintro _ _ ⟨⟨H,i⟩,⟨hi,eW⟩,rfl,rfl⟩;dsimp only at hi eW⊢;by_cases aA:i<ns.length
 .have t2:ad.aD .lss (Int.ofNat i) (Int.ofNat (ad.len e9))=true:=by simp only[aJ ae,aAh,aAi];omega
  have t4:=cz ae (g1 i aA);have t5:=cd ae (n:=i) axW;obtain⟨k,ok,aq,-,aj⟩:=f1 ns[i];clear f1 f2;generalize ns[i]=nm at*;cases ok with
  |false=>
   generalize H.map bD=H1 at*;refine af ?_;exact ao _ _ ⟨[],_,rfl,axV⟩
  |true=>
   obtain⟨k,qI,rfl,-⟩:=aq rfl;have t6:=cz ae (g0 k qI);obtain⟨de,FP⟩:∃y,y=l[k].1:=⟨_,rfl⟩;obtain⟨dp,CA⟩:∃y,y=l[k].2:=⟨_,rfl⟩;unfold bD at t6;rw[<-FP,<-CA]at t6;clear FP CA;have t8:=MB ae H de dp;have jx:=re (a:=(de,dp)) eW;have hm:(H.map bD).length=i:=axY;generalize aO:(H++[(de,dp)])=gh at*;generalize gw:gh.map bD=qe at*;generalize H.map bD=H1 at*;clear aq;refine af ?_
   (subst gw;exact fixF (gh,i+1) ⟨aA,jx⟩)
 .have t2:ad.aD .lss (Int.ofNat i) (Int.ofNat (ad.len e9))=false:=by simp only[aJ ae,aAh,aAp];omega
  have au:H.length<=ns.length:=axW;generalize aO:H.map bD=H1 at*;refine af ?_;subst aO;clear eW hi aA t2;refine⟨bX (λz:List (aw×Int)×Nat=>aqc S (z.1.map bD) eR (ad.len eR) z.2) (λz=>z.2<=ai.length/\z.1.length<=ns.length+z.2) λz=>ai.length-z.2,_,⟨(H,0),⟨aAa _,au⟩,rfl,axV⟩,?_⟩;clear au;rintro _ _ ⟨⟨H,i⟩,⟨hi,eW⟩,rfl,rfl⟩;dsimp only at hi eW⊢;by_cases aA:i<ai.length
  .have t2:ad.aD .lss (Int.ofNat i) (Int.ofNat (ad.len eR))=true:=by simp only[aJ ae,aAh,aAi];omega
   have t4:=cz ae (g2 i aA);have t5:=cd ae (n:=i) axW;obtain⟨t,e,aj⟩:=f2 ai[i];clear f1 f2;unfold eM at*;obtain⟨y,wa⟩:∃y,y=ai[i]:=⟨_,rfl⟩;rw[<-wa]at t4 aj;clear wa;obtain⟨de,dp,dF⟩:=y;dsimp only at t4 aj;have t8:=MB ae H dF t;have jx:=re (a:=(dF,t)) (rfl:H.length=_);have hm:(H.map bD).length=H.length:=aAb _;generalize aO:(H++[(dF,t)])=gh at*;generalize gw:gh.map bD=qe at*;generalize H.map bD=H1 at*;refine af ?_;repeat' (split<;>refine af ?_)
   all_goals first|exact ao _ _ ⟨[],_,rfl,axV⟩|(subst gw;exact fixF (gh,i+1) ⟨aA,axZ⟩)
  .have t2:ad.aD .lss (Int.ofNat i) (Int.ofNat (ad.len eR))=false:=by simp only[aJ ae,aAh,aAp];omega
   generalize aO:H.map bD=H1 at*;refine af ?_;exact ao _ _ ⟨H,_,by rw[aO],axV⟩
def aqe:Prop:=∀n:Nat,n<=1048576->aM 289 [.own 2 [],.d (int (Int.ofNat n))] [] (.gJ 2) []
theorem GN:aqe:=λ_ ay=>alM Gf amK ay
def GO(A B:List D)(s:Int)(i:Nat):ag:=cx [(0,.d (.list 1 [.list 2 A,.list 2 B])),(3,.d (int s)),(9,.d (.list 1 [.list 2 A,.list 2 B])),(10,.d (int 2)),(11,.d (int (Int.ofNat i)))] []
def GQ(A B:List D)(v:ah)(i:Nat):ag:=cx [(6,v),(25,.d (.list 1 [.list 2 A,.list 2 B])),(26,.d (int 2)),(27,.d (int (Int.ofNat i)))] []
def vV{α:Type}(x y z:α):Nat->α
 |0=>x
 |1=>y
 |_=>z
theorem aqf(x y:D)(A B:List D)(hA:A.length<=1000)(eJ:B.length<=1000):aM 246 [.d (.list 1 [.list 2 [],.list 2 []])] [] (.d (.list 2 ([]++[]))) []:=by
 obtain⟨a,bp⟩:∃a,[].length=a:=⟨_,rfl⟩;obtain⟨b,au⟩:∃b,[].length=b:=⟨_,rfl⟩;have pF:a<=1001:=axZ;have dY:b<=1001:=axW;obtain⟨c,az⟩:∃c,c=a+b:=⟨_,rfl⟩;have aj:=GN c axW;refine aDv.cn λad ae Q aV=> ?_;have gE:ad.len [.list 2 [],.list 2 []]=2:=ax1;have gW:ad.get [.list 2 [],.list 2 []] (Int.ofNat 0)=.list 2 []:=ayz;have gd:ad.get [.list 2 [],.list 2 []] (Int.ofNat 1)=.list 2 []:=ax1;have jE:ad.len []=a:=ax1;have ya:ad.len []=b:=by simp only[aJ ae];exact au
 have hK:ad.io .add .i64 0 (Int.ofNat (ad.len []))=Int.ofNat a:=ay';have gY:ad.io .add .i64 (Int.ofNat a) (Int.ofNat (ad.len []))=Int.ofNat c:=axZ;clear jE ya;have kJ:∀k:Nat,ad.aD .lss (Int.ofNat k) 0=false:=λk=>ax1;have jH:ad.aD .lss (Int.ofNat 0) 2=true:=ax4;have u8:ad.aD .lss (Int.ofNat 1) 2=true:=ax1;have nF:ad.aD .lss (Int.ofNat 2) 2=false:=ax1;have vK:=cd ae (n:=0) axW;have xS:=cd ae (n:=1) axW;clear bp au az;refine af ?_;refine⟨bX (λi=>GO [] [] (vV 0 (Int.ofNat a) (Int.ofNat c) i) i) (λi=>i<=2) (λi=>2-i),_,⟨0,axW,rfl,axV⟩,?_⟩;rintro _ _ ⟨i,hi,rfl,rfl⟩;have av:i=0\/i=1\/i=2:=axW;rcases av with rfl|rfl|rfl
 .refine af ?_;exact ec 1 axW ax0 axV
 .refine af ?_;exact ec 2 axW ax0 axV
 .refine af ?_;refine⟨bX (λi=>GQ [] [] (vV (.gJ 2) (.gJ 2) (.gJ 2) i) i) (λi=>i<=2) (λi=>2-i),_,⟨0,axW,rfl,axV⟩,?_⟩;rintro _ _ ⟨i,hi,rfl,rfl⟩;have av:i=0\/i=1\/i=2:=axW;rcases av with rfl|rfl|rfl
  .refine af ?_;exact ec 1 axW ax0 axV
  .refine af ?_;exact ec 2 axW ax0 axV
  .refine af ?_
   (subst ae;exact bZ aV axX axV)
theorem aqg(x y:D)(A B:List D)(hA:A.length<=1000)(eJ:B.length<=1000):aM 246 [.d (.list 1 [.list 2 [],.list 2 (y::B)])] [] (.d (.list 2 ([]++(y::B)))) []:=by
 obtain⟨a,bp⟩:∃a,[].length=a:=⟨_,rfl⟩;obtain⟨b,au⟩:∃b,(y::B).length=b:=⟨_,rfl⟩;have pF:a<=1001:=axZ;have dY:b<=1001:=axZ;obtain⟨c,az⟩:∃c,c=a+b:=⟨_,rfl⟩;have aj:=GN c axW;refine aDv.cn λad ae Q aV=> ?_;have gE:ad.len [.list 2 [],.list 2 (y::B)]=2:=ax1;have gW:ad.get [.list 2 [],.list 2 (y::B)] (Int.ofNat 0)=.list 2 []:=ayz;have gd:ad.get [.list 2 [],.list 2 (y::B)] (Int.ofNat 1)=.list 2 (y::B):=ax1;have jE:ad.len []=a:=by simp only[aJ ae];exact bp
 have ya:ad.len (y::B)=b:=ax1;have hK:ad.io .add .i64 0 (Int.ofNat (ad.len []))=Int.ofNat a:=ay';have gY:ad.io .add .i64 (Int.ofNat a) (Int.ofNat (ad.len (y::B)))=Int.ofNat c:=by
  grind[o6]
 clear jE ya;have kJ:∀k:Nat,ad.aD .lss (Int.ofNat k) 0=false:=λk=>ax1;have jH:ad.aD .lss (Int.ofNat 0) 2=true:=ax4;have u8:ad.aD .lss (Int.ofNat 1) 2=true:=ax1;have nF:ad.aD .lss (Int.ofNat 2) 2=false:=ax1;have vK:=cd ae (n:=0) axW;have xS:=cd ae (n:=1) axW;clear bp au az;refine af ?_;refine⟨bX (λi=>GO [] (y::B) (vV 0 (Int.ofNat a) (Int.ofNat c) i) i) (λi=>i<=2) (λi=>2-i),_,⟨0,axW,rfl,axV⟩,?_⟩;rintro _ _ ⟨i,hi,rfl,rfl⟩;have av:i=0\/i=1\/i=2:=axW;rcases av with rfl|rfl|rfl
 .refine af ?_;exact ec 1 axW ax0 axV
 .refine af ?_;exact ec 2 axW ax0 axV
 .refine af ?_;refine⟨bX (λi=>GQ [] (y::B) (vV (.gJ 2) (.gJ 2) (.own 2 (y::B)) i) i) (λi=>i<=2) (λi=>2-i),_,⟨0,axW,rfl,axV⟩,?_⟩;rintro _ _ ⟨i,hi,rfl,rfl⟩;have av:i=0\/i=1\/i=2:=axW;rcases av with rfl|rfl|rfl
  .refine af ?_;exact ec 1 axW ax0 axV
  .refine af ?_;exact ec 2 axW ax0 axV
  .refine af ?_
   (subst ae;exact bZ aV axX axV)
theorem aqh(x y:D)(A B:List D)(hA:A.length<=1000)(eJ:B.length<=1000):aM 246 [.d (.list 1 [.list 2 (x::A),.list 2 []])] [] (.d (.list 2 ((x::A)++[]))) []:=by
 obtain⟨a,bp⟩:∃a,(x::A).length=a:=⟨_,rfl⟩;obtain⟨b,au⟩:∃b,[].length=b:=⟨_,rfl⟩;have pF:a<=1001:=axZ;have dY:b<=1001:=axZ;obtain⟨c,az⟩:∃c,c=a+b:=⟨_,rfl⟩;have aj:=GN c axW;refine aDv.cn λad ae Q aV=> ?_;have gE:ad.len [.list 2 (x::A),.list 2 []]=2:=ax1;have gW:ad.get [.list 2 (x::A),.list 2 []] (Int.ofNat 0)=.list 2 (x::A):=ayz;have gd:ad.get [.list 2 (x::A),.list 2 []] (Int.ofNat 1)=.list 2 []:=ax1;have jE:ad.len (x::A)=a:=ax1;have ya:ad.len []=b:=by simp only[aJ ae];exact au
 have hK:ad.io .add .i64 0 (Int.ofNat (ad.len (x::A)))=Int.ofNat a:=ay';have gY:ad.io .add .i64 (Int.ofNat a) (Int.ofNat (ad.len []))=Int.ofNat c:=by
  grind[o6]
 clear jE ya;have kJ:∀k:Nat,ad.aD .lss (Int.ofNat k) 0=false:=λk=>ax1;have jH:ad.aD .lss (Int.ofNat 0) 2=true:=ax4;have u8:ad.aD .lss (Int.ofNat 1) 2=true:=ax1;have nF:ad.aD .lss (Int.ofNat 2) 2=false:=ax1;have vK:=cd ae (n:=0) axW;have xS:=cd ae (n:=1) axW;clear bp au az;refine af ?_;refine⟨bX (λi=>GO (x::A) [] (vV 0 (Int.ofNat a) (Int.ofNat c) i) i) (λi=>i<=2) (λi=>2-i),_,⟨0,axW,rfl,axV⟩,?_⟩;rintro _ _ ⟨i,hi,rfl,rfl⟩;have av:i=0\/i=1\/i=2:=axW;rcases av with rfl|rfl|rfl
 .refine af ?_;exact ec 1 axW ax0 axV
 .refine af ?_;exact ec 2 axW ax0 axV
 .refine af ?_;refine⟨bX (λi=>GQ (x::A) [] (vV (.gJ 2) (.own 2 (x::A)) (.own 2 (ad.app (x::A) [])) i) i) (λi=>i<=2) (λi=>2-i),_,⟨0,axW,rfl,axV⟩,?_⟩;rintro _ _ ⟨i,hi,rfl,rfl⟩;have av:i=0\/i=1\/i=2:=axW;rcases av with rfl|rfl|rfl
  .refine af ?_;exact ec 1 axW ax0 axV
  .refine af ?_;exact ec 2 axW ax0 axV
  .refine af ?_
   (subst ae;exact bZ aV axV axV)
theorem aqi(x y:D)(A B:List D)(hA:A.length<=1000)(eJ:B.length<=1000):aM 246 [.d (.list 1 [.list 2 (x::A),.list 2 (y::B)])] [] (.d (.list 2 ((x::A)++(y::B)))) []:=by
 obtain⟨a,bp⟩:∃a,(x::A).length=a:=⟨_,rfl⟩;obtain⟨b,au⟩:∃b,(y::B).length=b:=⟨_,rfl⟩;have pF:a<=1001:=axZ;have dY:b<=1001:=axZ;obtain⟨c,az⟩:∃c,c=a+b:=⟨_,rfl⟩;have aj:=GN c axW;refine aDv.cn λad ae Q aV=> ?_;have gE:ad.len [.list 2 (x::A),.list 2 (y::B)]=2:=ax1;have gW:ad.get [.list 2 (x::A),.list 2 (y::B)] (Int.ofNat 0)=.list 2 (x::A):=ax1;have gd:ad.get [.list 2 (x::A),.list 2 (y::B)] (Int.ofNat 1)=.list 2 (y::B):=ax1;have jE:ad.len (x::A)=a:=ax1;have ya:ad.len (y::B)=b:=ax1;have hK:ad.io .add .i64 0 (Int.ofNat (ad.len (x::A)))=Int.ofNat a:=ay';have gY:ad.io .add .i64 (Int.ofNat a) (Int.ofNat (ad.len (y::B)))=Int.ofNat c:=by
  grind[o6]
 clear jE ya;have kJ:∀k:Nat,ad.aD .lss (Int.ofNat k) 0=false:=λk=>ax1;have jH:ad.aD .lss (Int.ofNat 0) 2=true:=ax1;have u8:ad.aD .lss (Int.ofNat 1) 2=true:=ax1;have nF:ad.aD .lss (Int.ofNat 2) 2=false:=ax1;have vK:=cd ae (n:=0) axW;have xS:=cd ae (n:=1) axW;clear bp au az;refine af ?_;refine⟨bX (λi=>GO (x::A) (y::B) (vV 0 (Int.ofNat a) (Int.ofNat c) i) i) (λi=>i<=2) (λi=>2-i),_,⟨0,axW,rfl,axV⟩,?_⟩;rintro _ _ ⟨i,hi,rfl,rfl⟩;have av:i=0\/i=1\/i=2:=axW;rcases av with rfl|rfl|rfl
 .refine af ?_;exact ec 1 axW ax0 axV
 .refine af ?_;exact ec 2 axW ax0 axV
 .refine af ?_;refine⟨bX (λi=>GQ (x::A) (y::B) (vV (.gJ 2) (.own 2 (x::A)) (.own 2 (ad.app (x::A) (y::B))) i) i) (λi=>i<=2) (λi=>2-i),_,⟨0,axW,rfl,axV⟩,?_⟩;rintro _ _ ⟨i,hi,rfl,rfl⟩;have av:i=0\/i=1\/i=2:=axW;rcases av with rfl|rfl|rfl
  .refine af ?_;exact ec 1 axW ax0 axV
  .refine af ?_;exact ec 2 axW ax0 axV
  .refine af ?_
   (subst ae;exact bZ aV axV axV)
theorem aqj(A B:List D)(hA:A.length<=1000)(eJ:B.length<=1000):aM 246 [.d (.list 1 [.list 2 A,.list 2 B])] [] (.d (.list 2 (A++B))) []:=by
 cases A with
 |nil=>cases B with
  |nil=>exact aqf .dP .dP [] [] ax0 ax0
  |cons y B=>exact aqg .dP y [] B ax0 axZ
 |cons x A=>
  have awO:A.length+1<=1000:=hA;cases B with
  |nil=>exact aqh x .dP A [] axW ax0
  |cons y B=>grind[aqi]
theorem aqk(l m:List (aw×Int))(aI:l.length<=1073741824):∃b:Bool,aM 137 [.d (.list 2 (l.map bD)),.d (.list 2 (m.map bD))] [] (.d (.bool b)) []:=by
 refine gZ ?_;obtain⟨b,-,aj⟩:=ace l m aI;generalize l.map bD=L at*;generalize m.map bD=M at*;refine Zr.cu _ λad ae K ao=> ?_;refine af ?_;exact ao _ _ ⟨_,rfl,axV⟩
theorem aql(x:bk)(hw:x.w<=dJ)(a:List (aw×Int))(rest:List D)(bp:a.length<=16)
  (ax:(x.k=4\/x.k=5\/x.k=7)->∃b:List (aw×Int),b.length<=16/\rest=[.list 2 (b.map bD)]):
  ∃(bq:List (aw×Int)) (e:Int),aM 205 [.d (.agg x.bB.cs),.d (.list 1 (.list 2 (a.map bD)::rest))] [] (.tuple [.d (.list 2 (bq.map bD)),.d (int e)]) []:=by
 refine uk ?_;obtain⟨k,n,l,⟨cH,k3,mW,mX,mY,mZ,dH⟩,ns,xs,on,ai,ob,cD⟩:=x;have jN:500+n.length+bk.ws l+(aB.mk cH k3 mW mX mY mZ dH).w+fw ns+aB.ws xs+kg on+kh ai+ki ob<=dJ:=hw;have w1:ns.length<=fw ns:=lJ _ _;have bW:on.length<=kg on:=lJ _ _;have fb:ai.length<=kh ai:=lJ _ _;have jP:ob.length<=ki ob:=lJ _ _;have oc:=MA xs;have B9:dJ=1000000000:=rfl;obtain⟨gE,v1,aj⟩:=acx (aB.mk cH k3 mW mX mY mZ dH) axW a;obtain⟨s2,v2,aF⟩:=aqa (bk.mk k n l (aB.mk cH k3 mW mX mY mZ dH) ns xs on ai ob cD).bB ns xs rfl (aB.ld xs) axW (λx ak=>by have:=x8 ak;omega) a;obtain⟨kE,v3,aZ⟩:=aqd (bk.mk k n l (aB.mk cH k3 mW mX mY mZ dH) ns xs on ai ob cD).bB ns ai rfl rfl axW axW a axW;obtain⟨v5,cK⟩:=ap9 (bk.mk k n l (aB.mk cH k3 mW mX mY mZ dH) ns xs on ai ob cD).bB ob rfl axW a axW;have f4:=λ(b:List (aw×Int)) (au:b.length<=16)=>ap6 (bk.mk k n l (aB.mk cH k3 mW mX mY mZ dH) ns xs on ai ob cD).bB on rfl axW a b axW axW;have f6:=λ(b:List (aw×Int))=>aqk a b axW;have f7:=λ(b:List (aw×Int)) (au:b.length<=16)=>aqj (a.map bD) (b.map bD) axZ axZ;have kL:∀b:List (aw×Int),a.map bD++b.map bD=(a++b).map bD:=λb=>(aAy).symm;change bG _ _ _ [.d (.agg (mj.cs ⟨cH,k3,mW,mX,mY,mZ,aB.ds dH⟩)),_] _ _ _ at aj;change bG _ _ _ [.d (.agg (ef.cs ⟨k,n,bk.ds l,cH,k3,mW,mX,mY,mZ,aB.ds dH,ns.map .str,aB.ds xs,on.map fx,ai.map eM,ob.map fy,cD⟩)),_] _ _ _ at aF aZ cK;change ∀(b:List (aw×Int)),b.length<=16->∃e:Int,bG _ _ _ [.d (.agg (ef.cs ⟨k,n,bk.ds l,cH,k3,mW,mX,mY,mZ,aB.ds dH,ns.map .str,aB.ds xs,on.map fx,ai.map eM,ob.map fy,cD⟩)),_,_] _ _ _ at f4;change ∃r s',_/\bG _ _ _ [.d (.agg (ef.cs ⟨k,n,bk.ds l,cH,k3,mW,mX,mY,mZ,aB.ds dH,ns.map .str,aB.ds xs,on.map fx,ai.map eM,ob.map fy,cD⟩)),_] _ _ _;change (k=4\/k=5\/k=7)->_ at ax;clear hw jN w1 bW fb jP oc B9;generalize bk.ds l=b' at*;generalize aB.ds dH=cr at*;generalize ns.map D.str=dE at*;generalize aB.ds xs=nA at*;generalize on.map fx=xk at*;generalize ai.map eM=tK at*;generalize ob.map fy=K6 at*;generalize hA:a.map bD=A at*;generalize jW:s2.map bD=kM at*;generalize acz:kE.map bD=awP at*;refine UE.cu _ λad ae K ao=> ?_;have acA:ad.get (.list 2 A::rest) 0=.list 2 A:=ayz;by_cases aq:k=4\/k=5\/k=7
 .obtain⟨b,au,rfl⟩:=ax aq;obtain⟨v4,bP⟩:=f4 b au;obtain⟨v6,dO⟩:=f6 b;have vU:=f7 b au;have kL:=kL b;clear f4 f6 f7 ax;generalize b.map bD=B at*;generalize hC:A++B=C at*;have cY:ad.get [.list 2 A,.list 2 B] 1=.list 2 B:=ax1;conv=>cbv
  repeat' ((first|refine cZ ?_|refine c6 ?_|simp -proj only[acA,cY]|(split<;>(rename_i h;try simp only[h])))<;>conv=>cbv)
  all_goals first|exact ao _ _ ⟨a,_,by rw[hA],axV⟩|exact ao _ _ ⟨s2,_,by rw[jW],axV⟩|exact ao _ _ ⟨kE,_,by rw[acz],axV⟩|exact ao _ _ ⟨a++b,_,by rw[<-kL],axV⟩|exact ao _ _ ⟨[],_,rfl,axV⟩
 .clear f4 f6 f7 kL ax;have jn:ad.aD .eql k 4=false:=ax1;have qL:ad.aD .eql k 5=false:=ax1;have I7:ad.aD .eql k 7=false:=ax1;conv=>cbv
  repeat' ((first|refine cZ ?_|refine c6 ?_|simp -proj only[acA,jn,qL,I7]|(split<;>(rename_i h;try simp only[h])))<;>conv=>cbv)
  all_goals first|exact ao _ _ ⟨a,_,by rw[hA],axV⟩|exact ao _ _ ⟨s2,_,by rw[jW],axV⟩|exact ao _ _ ⟨kE,_,by rw[acz],axV⟩|exact ao _ _ ⟨[],_,rfl,axV⟩
end Go.Proofs.YthffhbakgmemaaaGreatDoor
