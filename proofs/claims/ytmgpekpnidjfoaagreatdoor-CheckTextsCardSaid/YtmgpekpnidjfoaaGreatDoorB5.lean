/- Part of texts_said. -/
import Derived.Test.YtmgpekpnidjfoaaGreatDoorB4
set_option maxRecDepth 100000
set_option maxHeartbeats 8000000
set_option linter.unusedSimpArgs false
set_option linter.unusedVariables false
namespace Go.Proofs.YtmgpekpnidjfoaaGreatDoor
open Go Go.aJ
attribute [local irreducible] bM
theorem zS(l:List (ax×Int))(v:ax)(aH:l.length<=1073741824):∃(i:Int) (ok:Bool),(ok=true->∃(k:Nat) (h:k<l.length),i=Int.ofNat k/\l[k].1=v)/\(ok=false->∀x∈l,x.1≠v)/\aM 258 [.d (.list 2 (l.map bD)),.d (.str v)] [] (.tuple [.d (int i),.d (.bool ok)]) []:=by
 suffices h:∃r s',(∃(i:Int) (ok:Bool),(ok=true->∃(k:Nat) (h:k<l.length),i=Int.ofNat k/\l[k].1=v)/\(ok=false->∀x∈l,x.1≠v)/\r=.tuple [.d (int i),.d (.bool ok)]/\s'=[])/\aM 258 [.d (.list 2 (l.map bD)),.d (.str v)] [] r s' by
  grind
 obtain⟨r,aw,aj⟩:=an9 l 284 v (λi=>decide (l[i]?.map Prod.fst=some v)) aH (λi h=>by
  simp_all[aoa])
 generalize l.map bD=L at*;refine VO.cr _ λad ae K ao=> ?_;rcases aw with⟨rfl,h1⟩|⟨k,au,rfl,h1,_⟩
 .have t1:ad.aF .geq (-1) 0=false:=by simp only[aI ae];decide
  refine ai ?_;refine ao _ _ ⟨_,false,(λh=>axy),(λ_ x ak=> ?_),rfl,axr⟩;grind[List.getElem_of_mem]
 .have t1:ad.aF .geq (Int.ofNat k) 0=true:=by simp only[aI ae,azN];simp
  have t2:ad.aF .lss (Int.ofNat k) 0=false:=azn;refine ai ?_;refine ao _ _ ⟨_,true,(λ_=>⟨k,au,?_,?_⟩),(λh=>axy),rfl,axr⟩;all_goals grind
theorem aoA(k:Int):∃l:List (ax×List Int×Int),l.length<=13/\aM 296 [.d (int k)] [] (.d (.list 3 (l.map jm))) []:=by
 refine fL ?_;refine V1.cr _ λad ae K ao=> ?_;refine ai ?_;repeat' (split<;>refine ai ?_)
 .exact ao _ _ ⟨[([45],[1],1),([110,111,116],[0],1)],axw,rfl,axr⟩
 .exact ao _ _ ⟨[([43],[1,1],1),([45],[1,1],1),([42],[1,1],1),([47],[1,1],1),([37],[1,1],1),([61],[-1,-1],1),([33,61],[-1,-1],1),([60],[-1,-1],1),([60,61],[-1,-1],1),([62],[-1,-1],1),([62,61],[-1,-1],1),([97,110,100],[0,0],1),([111,114],[0,0],1)],axw,rfl,axr⟩
 .exact ao _ _ ⟨[([108,101,110],[2],1),([97,98,115],[1],1),([105,115,110,117,108,108],[0],1),([99,97,116],[2,2],2),([101,105,116,104,101,114],[-1,-1],-1),([105,102],[0,-1,-1],-1)],axw,rfl,axr⟩
 .exact ao _ _ ⟨[],axw,rfl,axr⟩
theorem abD{ad:bn}(h:ad=bn.bY)(L:List D)(M:List Int):∃c:Bool,ad.aF .eql (Int.ofNat (ad.len L)) (Int.ofNat (ad.len (M.map int)))=c/\(c=true->L.length=M.length):=by
 subst h;exact⟨_,rfl,λh=>by
  have h2:Int.ofNat L.length=Int.ofNat (M.map int).length:=of_decide_eq_true h;grind⟩
theorem abE(c:l0):∃(r:ax×List Int×Int) (ok:Bool),(ok=true->c.l.length=r.2.1.length)/\aM 280 [.d (.agg c.cs)] [] (.tuple [.d (jm r),.d (.bool ok)]) []:=by
 suffices h:∃wW s',(∃(r:ax×List Int×Int) (ok:Bool),(ok=true->c.l.length=r.2.1.length)/\wW=.tuple [.d (jm r),.d (.bool ok)]/\s'=[])/\aM 280 [.d (.agg c.cs)] [] wW s' by
  grind
 obtain⟨l,aH,aj⟩:=aoA c.k;have ma:∀v,∃r:Int,(r= -1\/∃(k:Nat) (h:k<l.length),r=Int.ofNat k)/\aM 297 [.d (.list 3 (l.map jm)),.func 298 [] [.ptr 0 0]] [.box [.d (.str v)]] (.d (int r)) [.box [.d (.str v)]]:=λv=>by
  obtain⟨r,aw,e⟩:=an' l 298 v (λi=>decide (l[i]?.map Prod.fst=some v)) axs (λi h=>by
   have:=aob l[i] v;rw[azQ h];simpa using this)
  rcases aw with⟨rfl,h1⟩|⟨k,au,rfl,h1,_⟩
  all_goals grind
 have cl:∀i (h:i<l.length),(l.map jm)[i]?=some (jm l[i]):=λi h=>dv h;have bF:(l.map jm).length=l.length:=azG _;generalize l.map jm=L at*;obtain⟨bU,h1,aD⟩:=ma c.op;obtain⟨b4,h2,aW⟩:=ma c.n;refine Uj.cr _ λad ae K ao=> ?_;obtain⟨bq,t1,q1⟩:=tR ae c.k 5;have FR:ad.aF .lss (-1) 0=true:=axA;have kM:∀k:Nat,ad.aF .lss (Int.ofNat k) 0=false:=λk=>azn;cases bq with
 |true=>
  rcases h2 with rfl|⟨k,au,rfl⟩
  .conv=>cbv
   repeat ((first|refine bG ?_|refine bH ?_|simp -proj only[t1,FR]);conv=>cbv)
   try trivial
   exact ao _ _ ⟨([],[],0),false,(λh=>axy),rfl,axr⟩
  .have t3:=cV ae (cl k au);unfold jm at t3;generalize l[k]=x at*;obtain⟨aR,t4,bK⟩:=abD ae c.l x.2.1;obtain⟨b0,b7,c7⟩:=x;dsimp only at t3 t4 bK;generalize cd:b7.map int=M at*;conv=>cbv
   repeat ((first|refine bG ?_|refine bH ?_|simp -proj only[t1,kM,t3,t4]);conv=>cbv)
   try trivial
   exact ao _ _ ⟨(b0,b7,c7),aR,bK,by rw[jm,cd],axr⟩
 |false=>
  rcases h1 with rfl|⟨k,au,rfl⟩
  .refine ai ?_;exact ao _ _ ⟨([],[],0),false,(λh=>axy),rfl,axr⟩
  .have t3:=cV ae (cl k au);unfold jm at t3;generalize l[k]=x at*;obtain⟨aR,t4,bK⟩:=abD ae c.l x.2.1;obtain⟨b0,b7,c7⟩:=x;dsimp only at t3 t4 bK;generalize cd:b7.map int=M at*;conv=>cbv
   repeat ((first|refine bG ?_|refine bH ?_|simp -proj only[t1,kM,t3,t4]);conv=>cbv)
   try trivial
   exact ao _ _ ⟨(b0,b7,c7),aR,bK,by rw[jm,cd],axr⟩
noncomputable def xv(c:l0):ax×List Int×Int:=Classical.choose (abE c)
theorem abF(c:l0):∃ok:Bool,(ok=true->c.l.length=(xv c).2.1.length)/\aM 280 [.d (.agg c.cs)] [] (.tuple [.d (jm (xv c)),.d (.bool ok)]) []:=aCC (abE c)
theorem aoB(c:l0)(ay:c.eK.length<=1073741824):∃ok:Bool,(ok=true->c.k≠1->c.k≠2->c.l.length=(xv c).2.1.length)/\aM 279 [.d (.agg c.cs)] [] (.d (.bool ok)) []:=by
 obtain⟨ok,aw,aj⟩:=abF c;obtain⟨b,aD⟩:=abr c.gx c.vi c.eK ay;have aW:=Lr;suffices h:∃wW s',(∃(o:Bool),(o=true->c.k≠1->c.k≠2->ok=true)/\wW=.d (.bool o)/\s'=[])/\aM 279 [.d (.agg c.cs)] [] wW s' by
  grind
 clear aw ay;generalize xv c=r at*;obtain⟨bU,b4,dm⟩:=r;unfold jm at aj;generalize b4.map int=M at*;refine VU.cr _ λad ae K ao=> ?_;obtain⟨bO,t3,av⟩:=abw ae c.gx c.vi c.eK 0 0 [];have Jp:ad.oF [1,1,2] (int c.gx::List.take 2 [int c.vi,.str c.eK]) (int 0::List.take 2 [int 0,.str []])=some bO:=t3;clear av;obtain⟨bN,t1,q1⟩:=tR ae c.k 1;obtain⟨cz,t2,bK⟩:=tR ae c.k 2;cases bN with
 |true=>
  have au:=q1 rfl;clear q1 bK;refine ai ?_;repeat' (split<;>refine ai ?_)
  all_goals exact ao _ _ ⟨_,(λ_ g=>absurd au g),rfl,axr⟩
 |false=>
 clear q1;cases cz with
 |true=>
  have au:=bK rfl;clear bK;refine ai ?_;repeat' (split<;>refine ai ?_)
  all_goals exact ao _ _ ⟨_,(λ_ _ g=>absurd au g),rfl,axr⟩
 |false=>
 clear bK;cases ok with
 |false=>
  refine ai ?_;repeat' (split<;>refine ai ?_)
  all_goals exact ao _ _ ⟨false,(λh=>axy),rfl,axr⟩
 |true=>
  refine ai ?_;repeat' (split<;>refine ai ?_)
  all_goals exact ao _ _ ⟨_,(λ_ _ _=>rfl),rfl,axr⟩
theorem tS{α:Type}{S:α->af}{J:α->Prop}{r2:α->Nat}{st:af}{n:Nat}(g:af->α)(Fa:J (g st))(aoC:r2 (g st)<n)(he:st=S (g st)):∃m,m<n/\b6 S J r2 m st:=eb (g st) Fa aoC he
def LU(st:af)(k:Nat):Int:=match st.aP k with|.d (.int _ n)=>n|_=>0
def aoD(W H:List D)(n:Nat)(t:Int)(i:Nat):af:=cA [(0,.d (.list 1 W)),(6,.d (int t)),(9,.d (.list 1 H)),(10,.d (int (Int.ofNat n))),(11,.d (int (Int.ofNat i)))] []
theorem aoE(w v:List Int)(hw:v.length<=w.length)(aH:w.length<=1073741824):∃(t:Int) (ok:Bool),aM 281 [.d (.list 1 (w.map int)),.d (.list 1 (v.map int))] [] (.tuple [.d (int t),.d (.bool ok)]) []:=by
 suffices hh:∃r s',(∃(t:Int) (ok:Bool),r=.tuple [.d (int t),.d (.bool ok)]/\s'=[])/\aM 281 [.d (.list 1 (w.map int)),.d (.list 1 (v.map int))] [] r s' by
  grind
 have hW:(w.map int).length=w.length:=azG _;have eR:(v.map int).length=v.length:=azG _;have aoF:∀i (h:i<w.length),(w.map int)[i]?=some (int w[i]):=λi h=>dv h;have aoG:∀i (hi:i<v.length),(v.map int)[i]?=some (int v[i]):=λi hi=>dv hi;generalize w.map int=W at*;generalize v.map int=H at*;refine Ul.cr _ λad ae K ao=> ?_;refine ai ?_;refine⟨b6 (λz:Int×Nat=>aoD W H (ad.len H) z.1 z.2) (λz=>z.2<=v.length) λz=>v.length-z.2,_,⟨(0,0),azF _,rfl,axr⟩,?_⟩;rintro _ _ ⟨⟨t,i⟩,hi,rfl,rfl⟩;dsimp only at hi⊢;by_cases aB:i<v.length
 .have t2:ad.aF .lss (Int.ofNat i) (Int.ofNat (ad.len H))=true:=by simp_all[aI]
  have fE:i<w.length:=axs;have t3:=cV ae (aoG i aB);have t4:=cV ae (aoF i fE);have t5:=cv ae (n:=i) axs;generalize v[i]=x at*;generalize w[i]=y at*;refine ai ?_;repeat' (split<;>refine ai ?_)
  all_goals first|exact tS (λst=>(LU st 6,i+1)) aB (show v.length-(i+1)<v.length-i by omega) axr|exact ao _ _ ⟨_,_,rfl,axr⟩
 .have t2:ad.aF .lss (Int.ofNat i) (Int.ofNat (ad.len H))=false:=by simp_all[aI]
  refine ai ?_;exact ao _ _ ⟨_,_,rfl,axr⟩
def CT(x:aA):Prop:=∃n:Int,aM 253 [.d (.agg x.bT.cs)] [] (.d (int n)) []
def aoH(L:List D)(n:Nat)(z:Int)(i:Nat):af:=cA [(3,.d (int z)),(7,.d (.list 7 L)),(8,.d (int (Int.ofNat n))),(9,.d (int (Int.ofNat i)))] []
theorem aoI(x:aA)(aH:x.l.length<=1073741824)(ih:∀y∈x.l,CT y):CT x:=by
 have ak:x.bT.l=x.l.map λx=>.agg x.bT.cs:=by rw[<-aA.k0];cases x;rfl
 generalize x.l=l at*;unfold CT;have bF:(l.map λx=>D.agg x.bT.cs).length=l.length:=azG _;have cl:∀i (h:i<l.length),(l.map λx=>D.agg x.bT.cs)[i]?=some (.agg l[i].bT.cs):=λi h=>dv h;rw[<-ak]at bF cl;clear ak;generalize x.bT=c at*;obtain⟨c1,c2,c3,c4,c5,eN,L⟩:=c;dsimp only at bF cl⊢;refine gV ?_;refine VK.cr _ λad ae K ao=> ?_;refine ai ?_;refine⟨b6 (λz:Int×Nat=>aoH L (ad.len L) z.1 z.2) (λz=>z.2<=l.length) λz=>l.length-z.2,_,⟨(1,0),azF _,rfl,axr⟩,?_⟩;rintro _ _ ⟨⟨z,i⟩,hi,rfl,rfl⟩;dsimp only at hi⊢;by_cases aB:i<l.length
 .have t2:ad.aF .lss (Int.ofNat i) (Int.ofNat (ad.len L))=true:=by simp_all[aI]
  have t3:=cV ae (cl i aB);have t5:=cv ae (n:=i) axs;obtain⟨m,aj⟩:=ih l[i] (azT aB);generalize l[i].bT=y at*;refine ai ?_;exact fixF (ad.io .add .i64 z m,i+1) aB
 .have t2:ad.aF .lss (Int.ofNat i) (Int.ofNat (ad.len L))=false:=by simp_all[aI]
  refine ai ?_;exact ao _ _ ⟨_,rfl,axr⟩
def CU(x:bk):Prop:=∃n:Int,aM 145 [.d (.agg x.bB.cs)] [] (.d (int n)) []
def aoJ(L:List D)(n:Nat)(z:Int)(i:Nat):af:=cA [(3,.d (int z)),(7,.d (.list 16 L)),(8,.d (int (Int.ofNat n))),(9,.d (int (Int.ofNat i)))] []
theorem aoK(x:bk)(aH:x.l.length<=1073741824)(ih:∀y∈x.l,CU y):CU x:=by
 have ak:x.bB.a=x.l.map λx=>.agg x.bB.cs:=by rw[<-bk.k0];cases x;rfl
 generalize x.l=l at*;unfold CU;have bF:(l.map λx=>D.agg x.bB.cs).length=l.length:=azG _;have cl:∀i (h:i<l.length),(l.map λx=>D.agg x.bB.cs)[i]?=some (.agg l[i].bB.cs):=λi h=>dv h;rw[<-ak]at bF cl;clear ak;generalize x.bB=c at*;obtain⟨c1,c2,L,c4,c5,eN,bT,e1,c9,fr,fa,c12,eP,eT,eU,bB⟩:=c;dsimp only at bF cl⊢;refine gV ?_;refine Tx.cr _ λad ae K ao=> ?_;refine ai ?_;refine⟨b6 (λz:Int×Nat=>aoJ L (ad.len L) z.1 z.2) (λz=>z.2<=l.length) λz=>l.length-z.2,_,⟨(1,0),azF _,rfl,axr⟩,?_⟩;rintro _ _ ⟨⟨z,i⟩,hi,rfl,rfl⟩;dsimp only at hi⊢;by_cases aB:i<l.length
 .have t2:ad.aF .lss (Int.ofNat i) (Int.ofNat (ad.len L))=true:=by simp_all[aI]
  have t3:=cV ae (cl i aB);have t5:=cv ae (n:=i) axs;obtain⟨m,aj⟩:=ih l[i] (azT aB);generalize l[i].bB=y at*;refine ai ?_;exact fixF (ad.io .add .i64 z m,i+1) aB
 .have t2:ad.aF .lss (Int.ofNat i) (Int.ofNat (ad.len L))=false:=by simp_all[aI]
  refine ai ?_;exact ao _ _ ⟨_,rfl,axr⟩
def Gb(x:aA):Prop:=∀(bw:List (ax×Int)),bw.length<=1073741824->∀d:Int,∃t e:Int,aM 254 [.d (.agg x.bT.cs),.d (.list 2 (bw.map bD)),.d (int d)] [] (.tuple [.d (int t),.d (int e)]) []
def aoL(c:l0)(S L:List D)(d:Int)(H:List D)(n i:Nat):af:=pD [(1,.d (.list 2 S)),(2,.d (int d)),(3,.dT 3 0),(10,.own 1 H),(52,.d (.list 7 L)),(53,.d (int (Int.ofNat n))),(54,.d (int (Int.ofNat i)))] [(3,[.d (int c.k),.d (.str c.n),.d (int c.gx),.d (int c.vi),.d (.str c.eK),.d (.str c.op),.d (.list 7 L)])] []
theorem aoM(x:aA)(hv:x.eK.length<=1073741824)(aH:x.l.length<=1073741824)(ih:∀y∈x.l,Gb y):Gb x:=by
 intro bw abG d;have ak:x.bT.l=x.l.map λx=>.agg x.bT.cs:=by rw[<-aA.k0];cases x;rfl
 have sK:x.bT.eK.length<=1073741824:=by cases x;exact hv
 generalize x.l=l at*;have bF:(l.map λx=>D.agg x.bT.cs).length=l.length:=azG _;have cl:∀i (h:i<l.length),(l.map λx=>D.agg x.bT.cs)[i]?=some (.agg l[i].bT.cs):=λi h=>dv h;rw[<-ak]at bF cl;clear ak hv;generalize x.bT=c at*;obtain⟨fo,oi,aj⟩:=aoB c sK;obtain⟨awd,yd,aD⟩:=abF c;obtain⟨fi,aoN,tT,-,aW⟩:=zS bw c.n abG;have hK:∀i (h:i<l.length),∃t e:Int,aM 254 [.d (.agg l[i].bT.cs),.d (.list 2 (bw.map bD)),.d (int (IntKind.i64.wrap (d+1)))] [] (.tuple [.d (int t),.d (int e)]) []:=λi h=>ih l[i] (azT h) bw abG _;have fit:∀v:List Int,v.length=l.length->l.length=(xv c).2.1.length->∃(t:Int) (ok:Bool),aM 281 [.d (.list 1 ((xv c).2.1.map int)),.d (.list 1 (v.map int))] [] (.tuple [.d (int t),.d (.bool ok)]) []:=λv h1 h2=>aoE _ v axs axs;have lV:∀i (h:i<bw.length),(bw.map bD)[i]?=some (bD bw[i]):=λi h=>dv h;have eM:(bw.map bD).length=bw.length:=azG _;generalize bw.map bD=S at*;clear ih yd;rw[bF]at oi;generalize xv c=r at*;obtain⟨bU,b4,dm⟩:=r;dsimp only at oi fit;unfold jm at aD;dsimp only at aD;generalize cd:b4.map int=M at*;obtain⟨c1,c2,c3,c4,c5,eN,L⟩:=c;dsimp only at bF cl oi sK aW⊢;refine tI ?_;refine Ub.cr _ λad ae K ao=> ?_;have pq:∀a b,IntKind.i64.wrap (a+b)=ad.io .add .i64 a b:=λa b=>ayH;rw[pq]at hK;obtain⟨g1,t1,q1⟩:=tR ae c1 2;obtain⟨g2,t2,bK⟩:=tR ae c1 1;cases fo with
 |false=>
  refine ai ?_;repeat' (split<;>refine ai ?_)
  all_goals exact ao _ _ ⟨_,_,rfl,axr⟩
 |true=>
 cases g1 with
 |true=>
  conv=>cbv
  repeat' ((first|refine bG ?_|refine bH ?_|simp -proj only[t1,t2]|(split<;>(rename_i h;try simp only[h])))<;>conv=>cbv)
  all_goals exact ao _ _ ⟨_,_,rfl,axr⟩
 |false=>
 cases g2 with
 |true=>
  cases aoN with
  |false=>
   conv=>cbv
   repeat' ((first|refine bG ?_|refine bH ?_|simp -proj only[t1,t2]|(split<;>(rename_i h;try simp only[h])))<;>conv=>cbv)
   all_goals exact ao _ _ ⟨_,_,rfl,axr⟩
  |true=>
   obtain⟨k,au,rfl,-⟩:=tT rfl;have t3:=cV ae (lV k au);unfold bD at t3;conv=>cbv
   repeat' ((first|refine bG ?_|refine bH ?_|simp -proj only[t1,t2,t3]|(split<;>(rename_i h;try simp only[h])))<;>conv=>cbv)
   all_goals exact ao _ _ ⟨_,_,rfl,axr⟩
 |false=>
 clear aW tT lV;have kq:c1≠1:=λh=>by subst h;simp only[aI ae]at t2;simp_all
 have jF:c1≠2:=λh=>by subst h;simp only[aI ae]at t1;grind
 have hlen:=oi rfl kq jF;clear q1 bK oi kq jF;have fit:=λv h=>fit v h hlen;cases t4:ad.aF .gtr d 32 with
 |true=>
  refine ai ?_;all_goals exact ao _ _ ⟨_,_,rfl,axr⟩
 |false=>
 refine ai ?_;refine⟨b6 (λz:List Int×Nat=>aoL ⟨c1,c2,c3,c4,c5,eN,L⟩ S L d (z.1.map int) (ad.len L) z.2) (λz=>z.2<=l.length/\z.1.length=z.2) λz=>l.length-z.2,_,⟨([],0),⟨azF _,rfl⟩,rfl,axr⟩,?_⟩;rintro _ _ ⟨⟨H,i⟩,⟨hi,eR⟩,rfl,rfl⟩;dsimp only at hi eR⊢;by_cases aB:i<l.length
 .have t5:ad.aF .lss (Int.ofNat i) (Int.ofNat (ad.len L))=true:=by simp only[aI ae,azM,azN];omega
  have t6:=cV ae (cl i aB);have t7:=cv ae (n:=i) axs;obtain⟨t,e,bQ⟩:=hK i aB;have t8:ad.app (H.map int) [int t]=(H++[t]).map int:=axR;have jn:(H++[t]).length=i+1:=axv;have hm:(H.map int).length=i:=axv;generalize aQ:(H++[t])=gf at*;generalize gu:gf.map int=pU at*;generalize H.map int=H1 at*;generalize l[i].bT=y at*;clear fit hK;refine ai ?_;repeat' (split<;>refine ai ?_)
  .exact ao _ _ ⟨_,_,rfl,axr⟩
  .subst gu;exact fixF (gf,i+1) ⟨aB,jn⟩
 .have t5:ad.aF .lss (Int.ofNat i) (Int.ofNat (ad.len L))=false:=by simp only[aI ae,azM,az2];omega
  obtain⟨t,o,cK⟩:=fit H axs;generalize H.map int=H1 at*;clear fit hK;refine ai ?_;repeat' (split<;>refine ai ?_)
  all_goals exact ao _ _ ⟨_,_,rfl,axr⟩
theorem LV:∀l:List aA,l.length<=aA.ws l
 |[]=>azI _
 |x::l=>by have:=x.sf;have:=LV l;show l.length+1<=x.w+aA.ws l;omega
theorem aoO:∀(n:Nat) (x:aA),x.w<=n->x.w<=dS->Gb x/\CT x:=by
 intro n;induction n with
 |zero=>grind[aA.sf]
 |succ n ih=>
  intro x h hw;have h1:x.l.length<=1073741824/\x.eK.length<=1073741824:=by
   obtain⟨k,nm,gx,vi,eK,op,l⟩:=x;have h2:=LV l;have av:200+nm.length+eK.length+op.length+aA.ws l<=dS:=hw;unfold dS at av;show l.length<=_/\eK.length<=_;omega
  have h2:∀y∈x.l,Gb y/\CT y:=λy hy=>by
   have aB:y.w+200<=x.w:=by
    obtain⟨k,nm,gx,vi,eK,op,l⟩:=x;have:=xt (l:=l) hy;show _<=200+nm.length+eK.length+op.length+aA.ws l;omega
   grind
  exact⟨aoM x h1.2 h1.1 λy hy=>(h2 y hy).1,aoI x h1.1 λy hy=>(h2 y hy).2⟩
theorem abH(c:Int):∃b:Bool,aM 128 [.d (.int .u8 c)] [] (.d (.bool b)) []:=by
 refine gV ?_;refine Tq.cr _ λad ae K ao=> ?_;refine ai ?_;repeat' (split<;>refine ai ?_)
 all_goals exact ao _ _ ⟨_,rfl,axr⟩
theorem aoP(c:Int):∃b:Bool,aM 129 [.d (.int .u8 c)] [] (.d (.bool b)) []:=by
 refine gV ?_;obtain⟨b,aj⟩:=abH c;refine YJ.cr _ λad ae K ao=> ?_;cases b;all_goals
  refine ai ?_;repeat' (split<;>refine ai ?_)
  all_goals exact ao _ _ ⟨_,rfl,axr⟩
def aoQ(L:List D)(n i:Nat):af:=cA [(19,.d (.list 1 L)),(20,.d (int (Int.ofNat n))),(21,.d (int (Int.ofNat i)))] []
theorem aoR(s:ax):∃b:Bool,aM 81 [.d (.str s)] [] (.d (.bool b)) []:=by
 refine gV ?_;refine Wt.cr _ λad ae K ao=> ?_;obtain⟨g1,t1,q1⟩:=zO ae s [];obtain⟨bq,aj⟩:=abH (ad.B8 s 0).toNat;cases g1 with
 |true=>
  refine ai ?_;repeat' (split<;>refine ai ?_)
  all_goals exact ao _ _ ⟨_,rfl,axr⟩
 |false=>
 have hs:0<s.length:=by
  rcases s with _|⟨a,s⟩
  all_goals simp_all[aI]
 clear q1;cases t2:ad.aF .gtr (Int.ofNat (ad.eu s)) 16 with
 |true=>
  refine ai ?_;repeat' (split<;>refine ai ?_)
  all_goals exact ao _ _ ⟨_,rfl,axr⟩
 |false=>
 have dW:s.length<=16:=azo;cases bq with
 |false=>
  refine ai ?_;repeat' (split<;>refine ai ?_)
  all_goals exact ao _ _ ⟨_,rfl,axr⟩
 |true=>
 have aq:ad.h3 s=s.map gj:=axx;have bF:(ad.h3 s).length=s.length:=axu;have cl:∀i (h:i<s.length),(ad.h3 s)[i]?=some (gj s[i]):=λi h=>axu;clear aq;refine ai ?_;refine⟨b6 (λi=>aoQ (ad.h3 s) (ad.len (ad.h3 s)) i) (λz=>z<=s.length) λz=>s.length-z,_,⟨0,azF _,rfl,axr⟩,?_⟩;generalize ad.h3 s=L at*;rintro _ _ ⟨i,hi,rfl,rfl⟩;dsimp only at hi⊢;by_cases aB:i<s.length
 .have t5:ad.aF .lss (Int.ofNat i) (Int.ofNat (ad.len L))=true:=by simp_all[aI]
  have t6:=cV ae (cl i aB);have t7:=cv ae (n:=i) axs;unfold gj at t6;generalize (s[i].toNat:Int)=c at*;obtain⟨aR,aD⟩:=aoP c;cases aR with
  |false=>
   refine ai ?_;repeat' (split<;>refine ai ?_)
   exact ao _ _ ⟨_,rfl,axr⟩
  |true=>
   refine ai ?_;repeat' (split<;>refine ai ?_)
   exact fixF (i+1) aB
 .have t5:ad.aF .lss (Int.ofNat i) (Int.ofNat (ad.len L))=false:=by simp_all[aI]
  refine ai ?_;repeat' (split<;>refine ai ?_)
  all_goals exact ao _ _ ⟨_,rfl,axr⟩
theorem awe{ad:bn}(h:ad=bn.bY)(L:List D)(k:Int)(op:BinOp):∃c:Bool,ad.aF op (Int.ofNat (ad.len L)) k=c:=⟨_,rfl⟩
def tU(es:List (D×ag)):Prop:=∀e∈es,(∃t,e.1=.str t)/\e.2=.d (.bool true)
theorem tU.flat{es:List (D×ag)}(h:tU es):oG es:=λe he=>⟨_,(h e he).2⟩
theorem tU.look{ad:bn}(ae:ad=bn.bY){es:List (D×ag)}(h:tU es)(s:ax):∃o,ad.zl false [2] (.str s) es=some o/\(o=none\/o=some (.d (.bool true))):=by
 subst ae;show ∃o,u4 false [2] (.str s) es=some o/\_;unfold u4;rcases Cg s es 0 (λe he=>(h e he).1)with h1|⟨j,h1,h2⟩
 .simp_all
 .rw[h2];have aL:0+j<es.length:=axs;simp only[azQ aL];exact⟨_,rfl,.inr (by rw[(h _ (azT aL)).2])⟩
theorem tU.put{ad:bn}(ae:ad=bn.bY){es:List (D×ag)}(h:tU es)(s:ax):∃lX,ad.zm false [2] (.str s) (.d (.bool true)) es=some lX/\tU lX:=by
 subst ae;show ∃lX,tF false [2] (.str s) (.d (.bool true)) es=some lX/\_;unfold tF;rcases Cg s es 0 (λe he=>(h e he).1)with h1|⟨j,h1,h2⟩
 .rw[h1];refine⟨_,rfl,λe he=> ?_⟩;rcases aAu.1 he with he|he
  .exact h e he
  simp_all
 .rw[h2];refine⟨_,rfl,λe he=> ?_⟩;rcases aBr he with he|rfl
  .exact h e he
  simp
def aoS(L:List D)(n i:Nat)(es:List (D×ag)):af:=cA [(3,.map 0),(15,.d (.list 2 L)),(16,.d (int (Int.ofNat n))),(17,.d (int (Int.ofNat i)))] [.map es]
theorem qO(l:List (ax×Int)):∃e:Int,(e=0->l.length<=16)/\aM 45 [.d (.list 2 (l.map bD))] [] (.d (int e)) []:=by
 refine fL ?_;have bF:(l.map bD).length=l.length:=azG _;have cl:∀i (h:i<l.length),(l.map bD)[i]?=some (bD l[i]):=λi h=>dv h;generalize l.map bD=L at*;refine Wi.jl [0] _ λad ae K ao=> ?_;cases t1:ad.aF .eql (Int.ofNat (ad.len L)) 0 with
 |true=>
  refine ai ?_;simp_all
 |false=>
 cases t2:ad.aF .gtr (Int.ofNat (ad.len L)) 16 with
 |true=>
  refine ai ?_;simp_all
 |false=>
 have aH:l.length<=16:=azo;have h0:tU []:=λe he=>axv;have f0:=h0.flat.refs ae;have f1:=h0.flat.ok ae;refine ai ?_;refine⟨b6 (λz:Nat×List (D×ag)=>aoS L (ad.len L) z.1 z.2) (λz=>z.1<=l.length/\tU z.2) λz=>l.length-z.1,_,⟨(0,[]),⟨azF _,h0⟩,rfl,axr⟩,?_⟩;rintro _ _ ⟨⟨i,es⟩,⟨hi,hm⟩,rfl,rfl⟩;dsimp only at hi hm⊢;clear f0 f1 h0;have f0:=hm.flat.refs ae;have f1:=hm.flat.ok ae;have f2:=hm.flat.ren ae;by_cases aB:i<l.length
 .have t5:ad.aF .lss (Int.ofNat i) (Int.ofNat (ad.len L))=true:=by simp_all[aI]
  have t6:=cV ae (cl i aB);have t7:=cv ae (n:=i) axs;unfold bD at t6;generalize l[i]=x at*;obtain⟨b0,b7⟩:=x;dsimp only at t6;obtain⟨b,aj⟩:=aoR b0;obtain⟨o,g1,bb⟩:=hm.look ae b0;obtain⟨lX,g2,abI⟩:=hm.put ae b0;have f3:=abI.flat.ok ae;cases b with
  |false=>
   refine ai ?_;simp_all
  |true=>
  rcases bb with rfl|rfl
  .refine ai ?_;repeat' (split<;>refine ai ?_)
   all_goals first|exact fixF (i+1,lX) ⟨aB,abI⟩|simp_all
  .refine ai ?_;repeat' (split<;>refine ai ?_)
   all_goals simp_all
 .have t5:ad.aF .lss (Int.ofNat i) (Int.ofNat (ad.len L))=false:=by simp_all[aI]
  refine ai ?_;simp_all
def aoT(L:List D)(v:D)(n i:Nat):af:=cA [(0,.d (.list 1 L)),(1,.d v),(7,.d (int (Int.ofNat n))),(8,.d (int (Int.ofNat i)))] []
theorem aoU(l:List ax)(v:ax)(aH:l.length<=1073741824):∃r:Int,aM 299 [.d (.list 1 (l.map D.str)),.d (D.str v)] [] (.d (int r)) []:=by
 refine gV ?_;have bF:(l.map D.str).length=l.length:=azG _;have cl:∀i (h:i<l.length),(l.map D.str)[i]?=some (D.str l[i]):=λi h=>dv h;generalize l.map D.str=L at*;refine V3.cr _ λad ae K ao=> ?_;refine ai ?_;refine⟨b6 (aoT L (D.str v) (ad.len L)) (λi=>i<=l.length) λi=>l.length-i,_,⟨0,azF _,rfl,axr⟩,?_⟩;rintro _ _ ⟨i,hi,rfl,rfl⟩;dsimp only at hi⊢;by_cases aB:i<l.length
 .have t2:ad.aF .lss (Int.ofNat i) (Int.ofNat (ad.len L))=true:=by simp_all[aI]
  have t3:=cV ae (cl i aB);have t5:=cv ae (n:=i) axs;generalize l[i]=x at*;refine ai ?_;repeat' (split<;>refine ai ?_)
  .exact ao _ _ ⟨_,rfl,axr⟩
  .exact fixF (i+1) aB
 .have t2:ad.aF .lss (Int.ofNat i) (Int.ofNat (ad.len L))=false:=by simp_all[aI]
  refine ai ?_;exact ao _ _ ⟨_,rfl,axr⟩
theorem aoV(l:List ax)(v:ax)(aH:l.length<=1073741824):∃b:Bool,aM 285 [.d (.list 1 (l.map D.str)),.d (D.str v)] [] (.d (.bool b)) []:=by
 refine gV ?_;obtain⟨r,aj⟩:=aoU l v aH;generalize l.map D.str=L at*;refine XJ.cr _ λad ae K ao=> ?_;refine ai ?_;exact ao _ _ ⟨_,rfl,axr⟩
def aoW(L:List D)(v:D)(n i:Nat):af:=cA [(0,.d (.list 1 L)),(1,.d v),(7,.d (int (Int.ofNat n))),(8,.d (int (Int.ofNat i)))] []
theorem aoX(l:List Int)(v:Int)(aH:l.length<=1073741824):∃r:Int,aM 282 [.d (.list 1 (l.map int)),.d (int v)] [] (.d (int r)) []:=by
 refine gV ?_;have bF:(l.map int).length=l.length:=azG _;have cl:∀i (h:i<l.length),(l.map int)[i]?=some (int l[i]):=λi h=>dv h;generalize l.map int=L at*;refine Zs.cr _ λad ae K ao=> ?_;refine ai ?_;refine⟨b6 (aoW L (int v) (ad.len L)) (λi=>i<=l.length) λi=>l.length-i,_,⟨0,azF _,rfl,axr⟩,?_⟩;rintro _ _ ⟨i,hi,rfl,rfl⟩;dsimp only at hi⊢;by_cases aB:i<l.length
 .have t2:ad.aF .lss (Int.ofNat i) (Int.ofNat (ad.len L))=true:=by simp_all[aI]
  have t3:=cV ae (cl i aB);have t5:=cv ae (n:=i) axs;generalize l[i]=x at*;refine ai ?_;repeat' (split<;>refine ai ?_)
  .exact ao _ _ ⟨_,rfl,axr⟩
  .exact fixF (i+1) aB
 .have t2:ad.aF .lss (Int.ofNat i) (Int.ofNat (ad.len L))=false:=by simp_all[aI]
  refine ai ?_;exact ao _ _ ⟨_,rfl,axr⟩
theorem aoY(l:List Int)(v:Int)(aH:l.length<=1073741824):∃b:Bool,aM 255 [.d (.list 1 (l.map int)),.d (int v)] [] (.d (.bool b)) []:=by
 refine gV ?_;obtain⟨r,aj⟩:=aoX l v aH;generalize l.map int=L at*;refine VM.cr _ λad ae K ao=> ?_;refine ai ?_;exact ao _ _ ⟨_,rfl,axr⟩
theorem aoZ(L:List D)(aH:L.length<=1073741824):aM 78 [.d (.list 2 L)] [] (.d (.list 2 L)) []:=by
 cases L with
 |nil=>
  refine KO.cw λad ae Q a8=> ?_;conv=>cbv
  subst ae;refine⟨?_,?_⟩;all_goals first|exact b5 a8 axr axr|exact⟨axr,b5 a8 axr axr⟩
 |cons x L=>
  refine KO.cw λad ae Q a8=> ?_;have h2:L.length+1<=1073741824:=aH;refine ai ?_;all_goals (subst ae;exact b5 a8 axr axr)
theorem awf(L:List D)(aH:L.length<=1073741824):aM 79 [.d (.list 4 L)] [] (.d (.list 4 L)) []:=by
 cases L with
 |nil=>
  refine KJ.cw λad ae Q a8=> ?_;conv=>cbv
  subst ae;refine⟨?_,?_⟩;all_goals first|exact b5 a8 axr axr|exact⟨axr,b5 a8 axr axr⟩
 |cons x L=>
  refine KJ.cw λad ae Q a8=> ?_;have h2:L.length+1<=1073741824:=aH;refine ai ?_;all_goals (subst ae;exact b5 a8 axr axr)
theorem awg(L:List D)(aH:L.length<=1073741824):aM 124 [.d (.list 1 L)] [] (.d (.list 1 L)) []:=by
 cases L with
 |nil=>
  refine KE.cw λad ae Q a8=> ?_;conv=>cbv
  subst ae;refine⟨?_,?_⟩;all_goals first|exact b5 a8 axr axr|exact⟨axr,b5 a8 axr axr⟩
 |cons x L=>
  refine KE.cw λad ae Q a8=> ?_;have h2:L.length+1<=1073741824:=aH;refine ai ?_;all_goals (subst ae;exact b5 a8 axr axr)
theorem awh(L:List D)(aH:L.length<=1073741824):aM 125 [.d (.list 2 L)] [] (.d (.list 2 L)) []:=by
 cases L with
 |nil=>
  refine KZ.cw λad ae Q a8=> ?_;conv=>cbv
  subst ae;refine⟨?_,?_⟩;all_goals first|exact b5 a8 axr axr|exact⟨axr,b5 a8 axr axr⟩
 |cons x L=>
  refine KZ.cw λad ae Q a8=> ?_;have h2:L.length+1<=1073741824:=aH;refine ai ?_;all_goals (subst ae;exact b5 a8 axr axr)
theorem awi(L:List D)(aH:L.length<=1073741824):aM 126 [.d (.list 3 L)] [] (.d (.list 3 L)) []:=by
 cases L with
 |nil=>
  refine KP.cw λad ae Q a8=> ?_;conv=>cbv
  subst ae;refine⟨?_,?_⟩;all_goals first|exact b5 a8 axr axr|exact⟨axr,b5 a8 axr axr⟩
 |cons x L=>
  refine KP.cw λad ae Q a8=> ?_;have h2:L.length+1<=1073741824:=aH;refine ai ?_;all_goals (subst ae;exact b5 a8 axr axr)
theorem awj(L:List D)(aH:L.length<=1073741824):aM 127 [.d (.list 2 L)] [] (.d (.list 2 L)) []:=by
 cases L with
 |nil=>
  refine KL.cw λad ae Q a8=> ?_;conv=>cbv
  subst ae;refine⟨?_,?_⟩;all_goals first|exact b5 a8 axr axr|exact⟨axr,b5 a8 axr axr⟩
 |cons x L=>
  refine KL.cw λad ae Q a8=> ?_;have h2:L.length+1<=1073741824:=aH;refine ai ?_;all_goals (subst ae;exact b5 a8 axr axr)
def ao0(L H:List D)(n i:Nat):af:=cA [(3,.own 1 H),(6,.d (.list 2 L)),(7,.d (int (Int.ofNat n))),(8,.d (int (Int.ofNat i)))] []
theorem ao1(l:List (ax×Int))(aH:l.length<=1073741824):∃m:List Int,m.length=l.length/\aM 256 [.d (.list 2 (l.map bD))] [] (.d (.list 1 (m.map int))) []:=by
 refine fL ?_;have bF:(l.map bD).length=l.length:=azG _;have cl:∀i (h:i<l.length),(l.map bD)[i]?=some (bD l[i]):=λi h=>dv h;generalize l.map bD=L at*;refine XE.cr _ λad ae K ao=> ?_;refine ai ?_;refine⟨b6 (λz:List Int×Nat=>ao0 L (z.1.map int) (ad.len L) z.2) (λz=>z.2<=l.length/\z.1.length=z.2) λz=>l.length-z.2,_,⟨([],0),⟨azF _,rfl⟩,rfl,axr⟩,?_⟩;rintro _ _ ⟨⟨H,i⟩,⟨hi,eR⟩,rfl,rfl⟩;dsimp only at hi eR⊢;by_cases aB:i<l.length
 .have t2:ad.aF .lss (Int.ofNat i) (Int.ofNat (ad.len L))=true:=by simp_all[aI]
  have t3:=cV ae (cl i aB);have t5:=cv ae (n:=i) axs;unfold bD at t3;generalize l[i]=x at*;obtain⟨b0,t⟩:=x;dsimp only at t3;have t8:ad.app (H.map int) [int t]=(H++[t]).map int:=axx;have jn:(H++[t]).length=i+1:=axu;have hm:(H.map int).length=i:=axu;generalize aQ:(H++[t])=gf at*;generalize gu:gf.map int=pU at*;generalize H.map int=H1 at*;refine ai ?_;subst gu;exact fixF (gf,i+1) ⟨aB,jn⟩
 .have t2:ad.aF .lss (Int.ofNat i) (Int.ofNat (ad.len L))=false:=by simp_all[aI]
  generalize aQ:H.map int=H1 at*;refine ai ?_;exact ao _ _ ⟨H,axs,by rw[aQ],axr⟩
theorem ao2(x:ax×ax×ax)(l:List (ax×Int))(aH:l.length<=1073741824):∃t e:Int,aM 259 [.d (eL x),.d (.list 2 (l.map bD))] [] (.tuple [.d (int t),.d (int e)]) []:=by
 refine tI ?_;obtain⟨b0,b7,c7⟩:=x;unfold eL;dsimp only;obtain⟨b,aj⟩:=aoV [[99,111,117,110,116],[115,117,109],[109,105,110],[109,97,120]] b0 axw;obtain⟨i,ok,hi,-,aD⟩:=zS l b7 aH;have lV:∀i (h:i<l.length),(l.map bD)[i]?=some (bD l[i]):=λi h=>dv h;have eM:(l.map bD).length=l.length:=azG _;generalize l.map bD=S at*;change bM _ _ _ [.d (.list 1 [.str [99,111,117,110,116],.str [115,117,109],.str [109,105,110],.str [109,97,120]]),_] _ _ _ at aj;refine Ud.cr _ λad ae K ao=> ?_;cases ok with
 |false=>
  cases b;all_goals
   refine ai ?_;repeat' (split<;>refine ai ?_)
   all_goals exact ao _ _ ⟨_,_,rfl,axr⟩
 |true=>
  obtain⟨k,au,rfl,-⟩:=hi rfl;have t3:=cV ae (lV k au);unfold bD at t3;cases b;all_goals
   refine ai ?_;repeat' (split<;>refine ai ?_)
   all_goals exact ao _ _ ⟨_,_,rfl,axr⟩
theorem abJ(x:aA)(hw:x.w<=dS)(l:List (ax×Int)):∃t e:Int,aM 213 [.d (.agg x.bT.cs),.d (.list 2 (l.map bD))] [] (.tuple [.d (int t),.d (int e)]) []:=by
 refine tI ?_;obtain⟨ty,n,aD⟩:=aoO x.w x (azI _) hw;obtain⟨e,h1,aj⟩:=qO l;have av:e=0->∃t e:Int,aM 254 [.d (.agg x.bT.cs),.d (.list 2 (l.map bD)),.d (int 1)] [] (.tuple [.d (int t),.d (int e)]) []:=λh=>ty l axs 1;clear ty h1 hw;generalize l.map bD=L at*;generalize x.bT=c at*;refine Zm.cr _ λad ae K ao=> ?_;cases t1:ad.aF .neq e 0 with
 |true=>
  refine ai ?_;repeat' (split<;>refine ai ?_)
  all_goals exact ao _ _ ⟨_,_,rfl,axr⟩
 |false=>
  have he:e=0:=axx;obtain⟨t,aW,av⟩:=av he;refine ai ?_;repeat' (split<;>refine ai ?_)
  all_goals exact ao _ _ ⟨_,_,rfl,axr⟩
def ao3(S:D):af:=cA [(0,.d (.list 1 [])),(1,.func 249 [] [.ptr 0 0]),(7,.d (int 0)),(8,.d (int 0))] [.box [.d S]]
theorem ao4(S:List D):aM 276 [.d (.list 1 []),.func 249 [] [.ptr 0 0]] [.box [.d (.list 2 S)]] (.d (int (-1))) [.box [.d (.list 2 S)]]:=by
 refine XG.cw λad ae Q a8=> ?_;have t1:ad.len []=0:=axx;refine ai ?_;refine⟨b6 (λ_:Unit=>ao3 (.list 2 S)) (λ_=>True) (λ_=>0),_,⟨(),trivial,rfl,axr⟩,?_⟩;rintro _ _ ⟨_,_,rfl,rfl⟩;have t2:ad.aF .lss 0 0=false:=axx;refine ai ?_;all_goals (subst ae;exact b5 a8 axt axr)
theorem ao5(S:List D):aM 248 [.d (.list 1 []),.func 249 [] [.ptr 0 0]] [.box [.d (.list 2 S)]] (.d (.bool false)) [.box [.d (.list 2 S)]]:=by
 have aj:=ao4 S;refine T'.cw λad ae Q a8=> ?_;have t1:ad.aF .geq (-1) 0=false:=axx;refine ai ?_;all_goals (subst ae;exact b5 a8 axt axr)
theorem ao6(l:List (ax×Int)):∃e:Int,(e=0->l.length<=16)/\aM 210 [.d (.list 2 (l.map bD)),.d (.list 1 [])] [] (.d (int e)) []:=by
 refine fL ?_;obtain⟨e,h1,aj⟩:=qO l;generalize l.map bD=L at*;have aD:=ao5 L;refine VC.cr _ λad ae K ao=> ?_;cases t1:ad.aF .neq e 0 with
 |true=>
  have he:e≠0:=axx;refine ai ?_;repeat' (split<;>refine ai ?_)
  all_goals exact ao _ _ ⟨e,(λh=>absurd h he),rfl,axr⟩
 |false=>
  have he:e=0:=axx;have aH:=h1 he;refine ai ?_;repeat' (split<;>refine ai ?_)
  all_goals exact ao _ _ ⟨_,(λ_=>aH),rfl,axr⟩
def ao7:af:=cA [(0,.d (.list 1 [])),(1,.d (.fn 212)),(5,.d (int (-1)))] []
theorem ao8:aM 211 [.d (.list 1 []),.d (.fn 212)] [] (.d (.bool true)) []:=by
 refine Xo.cw λad ae Q a8=> ?_;have t1:ad.len []=0:=axx;have t2:ad.io .sub .i64 (Int.ofNat 0) 1= -1:=ax8;refine ai ?_;refine⟨b6 (λ_:Unit=>ao7) (λ_=>True) (λ_=>0),_,⟨(),trivial,rfl,axr⟩,?_⟩;rintro _ _ ⟨_,_,rfl,rfl⟩;have t3:ad.aF .gtr (-1) 0=false:=axx;refine ai ?_;all_goals (subst ae;exact b5 a8 axt axr)
theorem ao9(l:List (ax×Int)):∃e:Int,(e=0->l.length<=16)/\aM 182 [.d (.agg [.list 2 (l.map bD),.list 1 []])] [] (.d (int e)) []:=by
 refine fL ?_;obtain⟨e,h1,aj⟩:=ao6 l;have aD:=ao8;generalize l.map bD=L at*;refine Zb.cr _ λad ae K ao=> ?_;cases t1:ad.aF .neq e 0 with
 |true=>
  have he:e≠0:=axx;refine ai ?_;repeat' (split<;>refine ai ?_)
  all_goals exact ao _ _ ⟨e,(λh=>absurd h he),rfl,axr⟩
 |false=>
  have he:e=0:=axx;have aH:=h1 he;refine ai ?_;repeat' (split<;>refine ai ?_)
  all_goals exact ao _ _ ⟨_,(λ_=>aH),rfl,axr⟩
def jN(x:ax×List (ax×Int)):D:=.agg [.str x.1,.list 2 (x.2.map bD),.list 1 []]
theorem ao'(l:List (ax×List (ax×Int)))(f:Nat)(v:ax)(P:Nat->Bool)(aH:l.length<=1073741824)
  (bm:∀i (h:i<l.length),aM f [.d (jN l[i]),.ptr 0 0] [.box [.d (.str v)]] (.d (.bool (P i))) [.box [.d (.str v)]]):
  ∃r:Int,nX l.length P r/\aM 208 [.d (.list 3 (l.map jN)),.func f [] [.ptr 0 0]] [.box [.d (.str v)]] (.d (int r)) [.box [.d (.str v)]]:=by
 refine fL ?_;have bF:(l.map jN).length=l.length:=azG _;have cl:∀i (h:i<l.length),(l.map jN)[i]?=some (jN l[i]):=λi h=>dv h;generalize l.map jN=L at*;refine VA.cr _ λad ae K ao=> ?_;refine ai ?_;refine⟨b6 (LQ 3 f L (.str v) (ad.len L)) (λi=>i<=l.length/\∀j,j<i->P j=false) λi=>l.length-i,_,⟨0,⟨azF _,λj h=>axs⟩,rfl,axr⟩,?_⟩;rintro _ _ ⟨i,⟨hi,hs⟩,rfl,rfl⟩;dsimp only at hi hs⊢;by_cases aB:i<l.length
 .have t2:ad.aF .lss (Int.ofNat i) (Int.ofNat (ad.len L))=true:=by simp_all[aI]
  have t3:=cV ae (cl i aB);have t5:=cv ae (n:=i) axs;have aj:=bm i aB;have zM:P i=true->nX l.length P (Int.ofNat i):=λh=>.inr ⟨i,aB,rfl,h,hs⟩;have xp:P i=false->∀j,j<i+1->P j=false:=λh j aL=>axv;unfold jN at*;clear bm;generalize l[i]=x at*;generalize x.2.map bD=M at*;generalize P i=b at*;cases b with
  |true=>
   refine ai ?_;exact ao _ _ ⟨_,zM rfl,rfl,axr⟩
  |false=>
   refine ai ?_;exact fixF (i+1) ⟨aB,xp rfl⟩
 .have t2:ad.aF .lss (Int.ofNat i) (Int.ofNat (ad.len L))=false:=by simp_all[aI]
  have az:nX l.length P (-1):=.inl ⟨rfl,λj aL=>hs j axs⟩;refine ai ?_;repeat' (split<;>refine ai ?_)
  exact ao _ _ ⟨-1,az,rfl,axr⟩
theorem apa(x:ax×List (ax×Int))(v:ax):aM 209 [.d (jN x),.ptr 0 0] [.box [.d (.str v)]] (.d (.bool (decide (x.1=v)))) [.box [.d (.str v)]]:=by
 unfold jN;refine T1.cw λad ae Q a8=> ?_;have t1:ad.bw .eql x.1 v=decide (x.1=v):=axx;generalize decide (x.1=v)=b at*;generalize x.2.map bD=L at*;refine ai ?_;all_goals (subst ae;exact b5 a8 axt axr)
theorem apb(l:List (ax×List (ax×Int)))(v:ax)(aH:l.length<=1073741824):∃(bw:List (ax×Int)) (ok:Bool),aM 181 [.d (.list 3 (l.map jN)),.d (.str v)] [] (.tuple [.d (.agg [.list 2 (bw.map bD),.list 1 []]),.d (.bool ok)]) []:=by
 refine tI ?_;obtain⟨r,aw,aj⟩:=ao' l 209 v (λi=>decide (l[i]?.map Prod.fst=some v)) aH (λi h=>by
  have:=apa l[i] v;rw[azQ h];simpa using this)
 have cl:∀i (h:i<l.length),(l.map jN)[i]?=some (jN l[i]):=λi h=>dv h;have bF:(l.map jN).length=l.length:=azG _;generalize l.map jN=L at*;refine TU.cr _ λad ae K ao=> ?_;rcases aw with⟨rfl,h1⟩|⟨k,au,rfl,h1,_⟩
 .have t1:ad.aF .lss (-1) 0=true:=by simp_all[aI]
  refine ai ?_;exact ao _ _ ⟨[],false,rfl,axr⟩
 .have t1:ad.aF .lss (Int.ofNat k) 0=false:=by simp only[aI ae,az2];simp
  have t3:=cV ae (cl k au);unfold jN at t3;generalize cd:(l[k].2.map bD)=M at*;refine ai ?_;exact ao _ _ ⟨l[k].2,true,axL,axr⟩
def apc(S T O:List D)(n i:Nat):af:=cA [(1,.d (.list 2 S)),(2,.d (.list 2 T)),(18,.d (.list 2 O)),(19,.d (int (Int.ofNat n))),(20,.d (int (Int.ofNat i)))] []
theorem apd(p:ef)(on:List (ax×ax))(hp:p.on=on.map fy)(bb:on.length<=1073741824)(l m:List (ax×Int))(aH:l.length<=1073741824)(hm:m.length<=1073741824):∃e:Int,aM 216 [.d (.agg p.cs),.d (.list 2 (l.map bD)),.d (.list 2 (m.map bD))] [] (.d (int e)) []:=by
 refine gV ?_;have f1:=λv=>zS l v aH;have f2:=λv=>zS m v hm;have K4:∀i (h:i<l.length),(l.map bD)[i]?=some (bD l[i]):=λi h=>dv h;have K5:∀i (h:i<m.length),(m.map bD)[i]?=some (bD m[i]):=λi h=>dv h;have Cr:∀i (h:i<on.length),(on.map fy)[i]?=some (fy on[i]):=λi h=>dv h;have abK:(l.map bD).length=l.length:=azG _;have tV:(m.map bD).length=m.length:=azG _;have ape:(on.map fy).length=on.length:=azG _;generalize l.map bD=S at*;generalize m.map bD=T at*;generalize on.map fy=O at*;obtain⟨c1,c2,c3,c4,c5,eN,bT,e1,c9,fr,fa,c12,eP,eT,eU,bB⟩:=p;dsimp only at hp⊢;subst hp;refine VE.cr _ λad ae K ao=> ?_;cases t0:ad.aF .eql (Int.ofNat (ad.len eP)) 0 with
 |true=>
  refine ai ?_;repeat' (split<;>refine ai ?_)
  all_goals exact ao _ _ ⟨_,rfl,axr⟩
 |false=>
 refine ai ?_;refine⟨b6 (apc S T eP (ad.len eP)) (λi=>i<=on.length) λi=>on.length-i,_,⟨0,azF _,rfl,axr⟩,?_⟩;rintro _ _ ⟨i,hi,rfl,rfl⟩;dsimp only at hi⊢;by_cases aB:i<on.length
 .have t2:ad.aF .lss (Int.ofNat i) (Int.ofNat (ad.len eP))=true:=by simp only[aI ae,azM,azN];omega
  have t3:=cV ae (Cr i aB);have t5:=cv ae (n:=i) axs;unfold fy at t3;generalize on[i]=x at*;obtain⟨b0,b7⟩:=x;dsimp only at t3;obtain⟨hF,bq,g1,-,aj⟩:=f1 b0;obtain⟨i2,aR,g2,-,aD⟩:=f2 b7;clear f1 f2;cases bq with
  |false=>
   cases aR;all_goals
    refine ai ?_;repeat' (split<;>refine ai ?_)
    all_goals exact ao _ _ ⟨_,rfl,axr⟩
  |true=>
  cases aR with
  |false=>
   refine ai ?_;repeat' (split<;>refine ai ?_)
   all_goals exact ao _ _ ⟨_,rfl,axr⟩
  |true=>
   obtain⟨bN,h1,rfl,-⟩:=g1 rfl;obtain⟨cz,h2,rfl,-⟩:=g2 rfl;have t6:=cV ae (K4 bN h1);have t7:=cV ae (K5 cz h2);unfold bD at t6 t7;clear g1 g2;refine ai ?_;repeat' (split<;>refine ai ?_)
   all_goals first|exact ao _ _ ⟨_,rfl,axr⟩|exact fixF (i+1) aB
 .have t2:ad.aF .lss (Int.ofNat i) (Int.ofNat (ad.len eP))=false:=by simp only[aI ae,azM,az2];omega
  refine ai ?_;repeat' (split<;>refine ai ?_)
  all_goals exact ao _ _ ⟨_,rfl,axr⟩
def apf(S O:List D)(n i:Nat):af:=cA [(1,.d (.list 2 S)),(13,.d (.list 2 O)),(14,.d (int (Int.ofNat n))),(15,.d (int (Int.ofNat i)))] []
theorem apg(p:ef)(ob:List (ax×Bool))(hp:p.ob=ob.map fA)(bb:ob.length<=1073741824)(l:List (ax×Int))(aH:l.length<=1073741824):∃e:Int,aM 218 [.d (.agg p.cs),.d (.list 2 (l.map bD))] [] (.d (int e)) []:=by
 refine gV ?_;have f1:=λv=>zS l v aH;have Cr:∀i (h:i<ob.length),(ob.map fA)[i]?=some (fA ob[i]):=λi h=>dv h;have ape:(ob.map fA).length=ob.length:=azG _;generalize l.map bD=S at*;generalize ob.map fA=O at*;obtain⟨c1,c2,c3,c4,c5,eN,bT,e1,c9,fr,fa,c12,eP,eT,eU,bB⟩:=p;dsimp only at hp⊢;subst hp;refine VG.cr _ λad ae K ao=> ?_;cases t0:ad.aF .lss bB 0 with
 |true=>
  refine ai ?_;repeat' (split<;>refine ai ?_)
  all_goals exact ao _ _ ⟨_,rfl,axr⟩
 |false=>
 refine ai ?_;refine⟨b6 (apf S eU (ad.len eU)) (λi=>i<=ob.length) λi=>ob.length-i,_,⟨0,azF _,rfl,axr⟩,?_⟩;rintro _ _ ⟨i,hi,rfl,rfl⟩;dsimp only at hi⊢;by_cases aB:i<ob.length
 .have t2:ad.aF .lss (Int.ofNat i) (Int.ofNat (ad.len eU))=true:=by simp only[aI ae,azM,azN];omega
  have t3:=cV ae (Cr i aB);have t5:=cv ae (n:=i) axs;unfold fA at t3;generalize ob[i]=x at*;obtain⟨b0,b7⟩:=x;dsimp only at t3;obtain⟨hF,bq,g1,-,aj⟩:=f1 b0;clear f1 g1;cases bq;all_goals
   refine ai ?_;repeat' (split<;>refine ai ?_)
   all_goals first|exact fixF (i+1) aB|exact ao _ _ ⟨_,rfl,axr⟩
 .have t2:ad.aF .lss (Int.ofNat i) (Int.ofNat (ad.len eU))=false:=by simp only[aI ae,azM,az2];omega
  refine ai ?_;repeat' (split<;>refine ai ?_)
  all_goals exact ao _ _ ⟨_,rfl,axr⟩
theorem LW{ad:bn}(ae:ad=bn.bY)(H:List (ax×Int))(n:ax)(t:Int):ad.app (H.map bD) [.agg [.str n,int t]]=(H++[(n,t)]).map bD:=axR
theorem qP{α:Type}{l:List α}{a:α}{i:Nat}(h:l.length=i):(l++[a]).length=i+1:=axu
def aph(c:ef)(S H:List D)(n i:Nat):af:=pD [(1,.d (.list 2 S)),(2,.dT 2 0),(6,.own 2 H),(19,.d (.list 7 c.xs)),(20,.d (int (Int.ofNat n))),(21,.d (int (Int.ofNat i)))] [(2,c.v)] []
theorem apj(p:ef)(ns:List ax)(xs:List aA)(az:p.ns=ns.map .str)(ak:p.xs=xs.map λx=>.agg x.bT.cs)(qt:xs.length<=1073741824)(hw:∀x∈xs,x.w<=dS)(l:List (ax×Int)):
  ∃(bw:List (ax×Int)) (e:Int),aM 214 [.d (.agg p.cs),.d (.list 2 (l.map bD))] [] (.tuple [.d (.list 2 (bw.map bD)),.d (int e)]) []:=by
 refine tI ?_;have f1:∀x∈xs,∃t e:Int,aM 213 [.d (.agg x.bT.cs),.d (.list 2 (l.map bD))] [] (.tuple [.d (int t),.d (int e)]) []:=λx ak=>abJ x (hw x ak) l;have g1:∀i (h:i<ns.length),(ns.map D.str)[i]?=some (.str ns[i]):=λi h=>dv h;have g2:∀i (h:i<xs.length),(xs.map λx=>D.agg x.bT.cs)[i]?=some (.agg xs[i].bT.cs):=λi h=>dv h;have abK:(ns.map D.str).length=ns.length:=azG _;have tV:(xs.map λx=>D.agg x.bT.cs).length=xs.length:=azG _;generalize ns.map D.str=N at*;generalize (xs.map λx=>D.agg x.bT.cs)=X at*;generalize l.map bD=S at*;obtain⟨c1,c2,c3,c4,c5,eN,bT,e1,c9,fr,fa,c12,eP,eT,eU,bB⟩:=p;dsimp only at az ak⊢;subst az ak;refine T3.cr _ λad ae K ao=> ?_;cases t0:ad.aF .neq (Int.ofNat (ad.len fa)) (Int.ofNat (ad.len c12))with
 |true=>
  refine ai ?_;repeat' (split<;>refine ai ?_)
  all_goals exact ao _ _ ⟨[],_,rfl,axr⟩
 |false=>
 have hlen:ns.length=xs.length:=by simp only[aI ae,azM,aAF,azN]at t0;omega
 refine ai ?_;refine⟨b6 (λz:List (ax×Int)×Nat=>aph ⟨c1,c2,c3,c4,c5,eN,bT,e1,c9,fr,fa,c12,eP,eT,eU,bB⟩ S (z.1.map bD) (ad.len c12) z.2) (λz=>z.2<=xs.length/\z.1.length=z.2) λz=>xs.length-z.2,_,⟨([],0),⟨azF _,rfl⟩,rfl,axr⟩,?_⟩;rintro _ _ ⟨⟨H,i⟩,⟨hi,eR⟩,rfl,rfl⟩;dsimp only at hi eR⊢;by_cases aB:i<xs.length
 .have t2:ad.aF .lss (Int.ofNat i) (Int.ofNat (ad.len c12))=true:=by simp_all[aI]
  have t3:=cV ae (g2 i aB);have po:i<ns.length:=axs;obtain⟨nm,oO⟩:∃nm,nm=ns[i]:=⟨_,rfl⟩;have t4:=cV ae (g1 i po);rw[<-oO]at t4;clear oO;have t5:=cv ae (n:=i) axs;obtain⟨t,e,aj⟩:=f1 xs[i] (azT aB);clear f1;have t8:=LW ae H nm t;have jn:=qP (a:=(nm,t)) eR;have hm:(H.map bD).length=i:=axu;generalize aQ:(H++[(nm,t)])=gf at*;generalize gu:gf.map bD=pU at*;generalize H.map bD=H1 at*;generalize xs[i].bT=y at*;refine ai ?_;repeat' (split<;>refine ai ?_)
  all_goals first|exact ao _ _ ⟨[],_,rfl,axr⟩|(subst gu;exact fixF (gf,i+1) ⟨aB,jn⟩)
 .have t2:ad.aF .lss (Int.ofNat i) (Int.ofNat (ad.len c12))=false:=by simp_all[aI]
  obtain⟨m,hm,aD⟩:=ao1 H axs;obtain⟨b,aW⟩:=aoY m 0 axs;generalize aQ:H.map bD=H1 at*;generalize m.map int=M at*;refine ai ?_;repeat' (split<;>refine ai ?_)
  all_goals first|exact ao _ _ ⟨[],_,rfl,axr⟩|exact ao _ _ ⟨H,_,by rw[aQ],axr⟩
def apk(c:ef)(S H:List D)(n i:Nat):af:=pD [(1,.d (.list 2 S)),(2,.dT 2 0),(6,.own 2 H),(16,.d (.list 1 c.ns)),(17,.d (int (Int.ofNat n))),(18,.d (int (Int.ofNat i)))] [(2,c.v)] []
def apl(S H A:List D)(n i:Nat):af:=cA [(1,.d (.list 2 S)),(6,.own 2 H),(39,.d (.list 3 A)),(40,.d (int (Int.ofNat n))),(41,.d (int (Int.ofNat i)))] []
theorem apm(p:ef)(ns:List ax)(ah:List (ax×ax×ax))(az:p.ns=ns.map .str)(br:p.ah=ah.map eL)(s4:ns.length<=1073741824)(yI:ah.length<=1073741824)(l:List (ax×Int))(aH:l.length<=1073741824):
  ∃(bw:List (ax×Int)) (e:Int),aM 217 [.d (.agg p.cs),.d (.list 2 (l.map bD))] [] (.tuple [.d (.list 2 (bw.map bD)),.d (int e)]) []:=by
 refine tI ?_;have f1:=λv=>zS l v aH;have f2:=λx=>ao2 x l aH;have g0:∀i (h:i<l.length),(l.map bD)[i]?=some (bD l[i]):=λi h=>dv h;have g1:∀i (h:i<ns.length),(ns.map D.str)[i]?=some (.str ns[i]):=λi h=>dv h;have g2:∀i (h:i<ah.length),(ah.map eL)[i]?=some (eL ah[i]):=λi h=>dv h;have xw:(l.map bD).length=l.length:=azG _;have abK:(ns.map D.str).length=ns.length:=azG _;have tV:(ah.map eL).length=ah.length:=azG _;generalize ns.map D.str=N at*;generalize ah.map eL=X at*;generalize l.map bD=S at*;obtain⟨c1,c2,c3,c4,c5,eN,bT,e1,c9,fr,fa,c12,eP,eT,eU,bB⟩:=p;dsimp only at az br⊢;subst az br;refine Xr.cr _ λad ae K ao=> ?_;refine ai ?_;refine⟨b6 (λz:List (ax×Int)×Nat=>apk ⟨c1,c2,c3,c4,c5,eN,bT,e1,c9,fr,fa,c12,eP,eT,eU,bB⟩ S (z.1.map bD) (ad.len fa) z.2) (λz=>z.2<=ns.length/\z.1.length=z.2) λz=>ns.length-z.2,_,⟨([],0),⟨azF _,rfl⟩,rfl,axr⟩,?_⟩;rintro _ _ ⟨⟨H,i⟩,⟨hi,eR⟩,rfl,rfl⟩;dsimp only at hi eR⊢;by_cases aB:i<ns.length
 .have t2:ad.aF .lss (Int.ofNat i) (Int.ofNat (ad.len fa))=true:=by simp only[aI ae,azM,azN];omega
  have t4:=cV ae (g1 i aB);have t5:=cv ae (n:=i) axs;obtain⟨k,ok,au,-,aj⟩:=f1 ns[i];clear f1 f2;generalize ns[i]=nm at*;cases ok with
  |false=>
   generalize H.map bD=H1 at*;refine ai ?_;repeat' (split<;>refine ai ?_)
   all_goals exact ao _ _ ⟨[],_,rfl,axr⟩
  |true=>
   obtain⟨k,qo,rfl,-⟩:=au rfl;have t6:=cV ae (g0 k qo);obtain⟨cT,Fc⟩:∃y,y=l[k].1:=⟨_,rfl⟩;obtain⟨c8,B5⟩:∃y,y=l[k].2:=⟨_,rfl⟩;unfold bD at t6;rw[<-Fc,<-B5]at t6;clear Fc B5;have t8:=LW ae H cT c8;have jn:=qP (a:=(cT,c8)) eR;have hm:(H.map bD).length=i:=axu;generalize aQ:(H++[(cT,c8)])=gf at*;generalize gu:gf.map bD=pU at*;generalize H.map bD=H1 at*;clear au;refine ai ?_;repeat' (split<;>refine ai ?_)
   all_goals (subst gu;exact fixF (gf,i+1) ⟨aB,jn⟩)
 .have t2:ad.aF .lss (Int.ofNat i) (Int.ofNat (ad.len fa))=false:=by simp only[aI ae,azM,az2];omega
  have aq:H.length<=ns.length:=axs;generalize aQ:H.map bD=H1 at*;refine ai ?_;subst aQ;clear eR hi aB t2;refine⟨b6 (λz:List (ax×Int)×Nat=>apl S (z.1.map bD) eT (ad.len eT) z.2) (λz=>z.2<=ah.length/\z.1.length<=ns.length+z.2) λz=>ah.length-z.2,_,⟨(H,0),⟨azF _,aq⟩,rfl,axr⟩,?_⟩;clear aq;rintro _ _ ⟨⟨H,i⟩,⟨hi,eR⟩,rfl,rfl⟩;dsimp only at hi eR⊢;by_cases aB:i<ah.length
  .have t2:ad.aF .lss (Int.ofNat i) (Int.ofNat (ad.len eT))=true:=by simp only[aI ae,azM,azN];omega
   have t4:=cV ae (g2 i aB);have t5:=cv ae (n:=i) axs;obtain⟨t,e,aj⟩:=f2 ah[i];clear f1 f2;unfold eL at*;obtain⟨y,hy⟩:∃y,y=ah[i]:=⟨_,rfl⟩;rw[<-hy]at t4 aj;clear hy;obtain⟨cT,c8,du⟩:=y;dsimp only at t4 aj;have t8:=LW ae H du t;have jn:=qP (a:=(du,t)) (rfl:H.length=_);have hm:(H.map bD).length=H.length:=azG _;generalize aQ:(H++[(du,t)])=gf at*;generalize gu:gf.map bD=pU at*;generalize H.map bD=H1 at*;refine ai ?_;repeat' (split<;>refine ai ?_)
   all_goals first|exact ao _ _ ⟨[],_,rfl,axr⟩|(subst gu;exact fixF (gf,i+1) ⟨aB,axv⟩)
  .have t2:ad.aF .lss (Int.ofNat i) (Int.ofNat (ad.len eT))=false:=by simp only[aI ae,azM,az2];omega
   generalize aQ:H.map bD=H1 at*;refine ai ?_;repeat' (split<;>refine ai ?_)
   all_goals exact ao _ _ ⟨H,_,by rw[aQ],axr⟩
def apn:Prop:=∀n:Nat,n<=1048576->aM 257 [.own 2 [],.d (int (Int.ofNat n))] [] (.gE 2) []
theorem Gc:apn:=λ_ az=>aky FH alW az
def Gd(A B:List D)(s:Int)(i:Nat):af:=cA [(0,.d (.list 1 [.list 2 A,.list 2 B])),(3,.d (int s)),(9,.d (.list 1 [.list 2 A,.list 2 B])),(10,.d (int 2)),(11,.d (int (Int.ofNat i)))] []
def Ge(A B:List D)(v:ag)(i:Nat):af:=cA [(6,v),(25,.d (.list 1 [.list 2 A,.list 2 B])),(26,.d (int 2)),(27,.d (int (Int.ofNat i)))] []
def vj{α:Type}(x y z:α):Nat->α
 |0=>x
 |1=>y
 |_=>z
theorem apo(x y:D)(A B:List D)(hA:A.length<=1000)(eD:B.length<=1000):aM 215 [.d (.list 1 [.list 2 [],.list 2 []])] [] (.d (.list 2 ([]++[]))) []:=by
 obtain⟨a,br⟩:∃a,[].length=a:=⟨_,rfl⟩;obtain⟨b,aq⟩:∃b,[].length=b:=⟨_,rfl⟩;have pd:a<=1001:=axv;have dP:b<=1001:=axs;obtain⟨c,ay⟩:∃c,c=a+b:=⟨_,rfl⟩;have aj:=Gc c axs;refine Cq.cw λad ae Q a8=> ?_;have gb:ad.len [.list 2 [],.list 2 []]=2:=axx;have fR:ad.get [.list 2 [],.list 2 []] (Int.ofNat 0)=.list 2 []:=ax8;have fp:ad.get [.list 2 [],.list 2 []] (Int.ofNat 1)=.list 2 []:=axx;have jy:ad.len []=a:=axx;have xx:ad.len []=b:=by simp only[aI ae];exact aq
 have gd:ad.io .add .i64 0 (Int.ofNat (ad.len []))=Int.ofNat a:=ayJ;have gU:ad.io .add .i64 (Int.ofNat a) (Int.ofNat (ad.len []))=Int.ofNat c:=axv;clear jy xx;have kW:∀k:Nat,ad.aF .lss (Int.ofNat k) 0=false:=λk=>axx;have qK:ad.aF .lss (Int.ofNat 0) 2=true:=axA;have u8:ad.aF .lss (Int.ofNat 1) 2=true:=axx;have tC:ad.aF .lss (Int.ofNat 2) 2=false:=axx;have Fz:=cv ae (n:=0) axs;have FA:=cv ae (n:=1) axs;clear br aq ay;refine ai ?_;refine⟨b6 (λi=>Gd [] [] (vj 0 (Int.ofNat a) (Int.ofNat c) i) i) (λi=>i<=2) (λi=>2-i),_,⟨0,axs,rfl,axr⟩,?_⟩;rintro _ _ ⟨i,hi,rfl,rfl⟩;have av:i=0\/i=1\/i=2:=axs;rcases av with rfl|rfl|rfl
 .refine ai ?_;exact eb 1 axs axw axr
 .refine ai ?_;exact eb 2 axs axw axr
 .refine ai ?_;refine⟨b6 (λi=>Ge [] [] (vj (.gE 2) (.gE 2) (.gE 2) i) i) (λi=>i<=2) (λi=>2-i),_,⟨0,axs,rfl,axr⟩,?_⟩;rintro _ _ ⟨i,hi,rfl,rfl⟩;have av:i=0\/i=1\/i=2:=axs;rcases av with rfl|rfl|rfl
  .refine ai ?_;exact eb 1 axs axw axr
  .refine ai ?_;exact eb 2 axs axw axr
  .refine ai ?_;all_goals (subst ae;exact b5 a8 axt axr)
theorem apq(x y:D)(A B:List D)(hA:A.length<=1000)(eD:B.length<=1000):aM 215 [.d (.list 1 [.list 2 [],.list 2 (y::B)])] [] (.d (.list 2 ([]++(y::B)))) []:=by
 obtain⟨a,br⟩:∃a,[].length=a:=⟨_,rfl⟩;obtain⟨b,aq⟩:∃b,(y::B).length=b:=⟨_,rfl⟩;have pd:a<=1001:=axv;have dP:b<=1001:=axv;obtain⟨c,ay⟩:∃c,c=a+b:=⟨_,rfl⟩;have aj:=Gc c axs;refine Cq.cw λad ae Q a8=> ?_;have gb:ad.len [.list 2 [],.list 2 (y::B)]=2:=axx;have fR:ad.get [.list 2 [],.list 2 (y::B)] (Int.ofNat 0)=.list 2 []:=ax8;have fp:ad.get [.list 2 [],.list 2 (y::B)] (Int.ofNat 1)=.list 2 (y::B):=axx;have jy:ad.len []=a:=by simp only[aI ae];exact br
 have xx:ad.len (y::B)=b:=axx;have gd:ad.io .add .i64 0 (Int.ofNat (ad.len []))=Int.ofNat a:=ayJ;have gU:ad.io .add .i64 (Int.ofNat a) (Int.ofNat (ad.len (y::B)))=Int.ofNat c:=by
  grind[oN]
 clear jy xx;have kW:∀k:Nat,ad.aF .lss (Int.ofNat k) 0=false:=λk=>axx;have qK:ad.aF .lss (Int.ofNat 0) 2=true:=axA;have u8:ad.aF .lss (Int.ofNat 1) 2=true:=axx;have tC:ad.aF .lss (Int.ofNat 2) 2=false:=axx;have Fz:=cv ae (n:=0) axs;have FA:=cv ae (n:=1) axs;clear br aq ay;refine ai ?_;refine⟨b6 (λi=>Gd [] (y::B) (vj 0 (Int.ofNat a) (Int.ofNat c) i) i) (λi=>i<=2) (λi=>2-i),_,⟨0,axs,rfl,axr⟩,?_⟩;rintro _ _ ⟨i,hi,rfl,rfl⟩;have av:i=0\/i=1\/i=2:=axs;rcases av with rfl|rfl|rfl
 .refine ai ?_;exact eb 1 axs axw axr
 .refine ai ?_;exact eb 2 axs axw axr
 .refine ai ?_;refine⟨b6 (λi=>Ge [] (y::B) (vj (.gE 2) (.gE 2) (.own 2 (y::B)) i) i) (λi=>i<=2) (λi=>2-i),_,⟨0,axs,rfl,axr⟩,?_⟩;rintro _ _ ⟨i,hi,rfl,rfl⟩;have av:i=0\/i=1\/i=2:=axs;rcases av with rfl|rfl|rfl
  .refine ai ?_;exact eb 1 axs axw axr
  .refine ai ?_;exact eb 2 axs axw axr
  .refine ai ?_;all_goals (subst ae;exact b5 a8 axt axr)
theorem apr(x y:D)(A B:List D)(hA:A.length<=1000)(eD:B.length<=1000):aM 215 [.d (.list 1 [.list 2 (x::A),.list 2 []])] [] (.d (.list 2 ((x::A)++[]))) []:=by
 obtain⟨a,br⟩:∃a,(x::A).length=a:=⟨_,rfl⟩;obtain⟨b,aq⟩:∃b,[].length=b:=⟨_,rfl⟩;have pd:a<=1001:=axv;have dP:b<=1001:=axv;obtain⟨c,ay⟩:∃c,c=a+b:=⟨_,rfl⟩;have aj:=Gc c axs;refine Cq.cw λad ae Q a8=> ?_;have gb:ad.len [.list 2 (x::A),.list 2 []]=2:=axx;have fR:ad.get [.list 2 (x::A),.list 2 []] (Int.ofNat 0)=.list 2 (x::A):=ax8;have fp:ad.get [.list 2 (x::A),.list 2 []] (Int.ofNat 1)=.list 2 []:=axx;have jy:ad.len (x::A)=a:=axx;have xx:ad.len []=b:=by simp only[aI ae];exact aq
 have gd:ad.io .add .i64 0 (Int.ofNat (ad.len (x::A)))=Int.ofNat a:=ayJ;have gU:ad.io .add .i64 (Int.ofNat a) (Int.ofNat (ad.len []))=Int.ofNat c:=by
  grind[oN]
 clear jy xx;have kW:∀k:Nat,ad.aF .lss (Int.ofNat k) 0=false:=λk=>axx;have qK:ad.aF .lss (Int.ofNat 0) 2=true:=axA;have u8:ad.aF .lss (Int.ofNat 1) 2=true:=axx;have tC:ad.aF .lss (Int.ofNat 2) 2=false:=axx;have Fz:=cv ae (n:=0) axs;have FA:=cv ae (n:=1) axs;clear br aq ay;refine ai ?_;refine⟨b6 (λi=>Gd (x::A) [] (vj 0 (Int.ofNat a) (Int.ofNat c) i) i) (λi=>i<=2) (λi=>2-i),_,⟨0,axs,rfl,axr⟩,?_⟩;rintro _ _ ⟨i,hi,rfl,rfl⟩;have av:i=0\/i=1\/i=2:=axs;rcases av with rfl|rfl|rfl
 .refine ai ?_;exact eb 1 axs axw axr
 .refine ai ?_;exact eb 2 axs axw axr
 .refine ai ?_;refine⟨b6 (λi=>Ge (x::A) [] (vj (.gE 2) (.own 2 (x::A)) (.own 2 (ad.app (x::A) [])) i) i) (λi=>i<=2) (λi=>2-i),_,⟨0,axs,rfl,axr⟩,?_⟩;rintro _ _ ⟨i,hi,rfl,rfl⟩;have av:i=0\/i=1\/i=2:=axs;rcases av with rfl|rfl|rfl
  .refine ai ?_;exact eb 1 axs axw axr
  .refine ai ?_;exact eb 2 axs axw axr
  .refine ai ?_;all_goals (subst ae;exact b5 a8 axr axr)
theorem aps(x y:D)(A B:List D)(hA:A.length<=1000)(eD:B.length<=1000):aM 215 [.d (.list 1 [.list 2 (x::A),.list 2 (y::B)])] [] (.d (.list 2 ((x::A)++(y::B)))) []:=by
 obtain⟨a,br⟩:∃a,(x::A).length=a:=⟨_,rfl⟩;obtain⟨b,aq⟩:∃b,(y::B).length=b:=⟨_,rfl⟩;have pd:a<=1001:=axv;have dP:b<=1001:=axv;obtain⟨c,ay⟩:∃c,c=a+b:=⟨_,rfl⟩;have aj:=Gc c axs;refine Cq.cw λad ae Q a8=> ?_;have gb:ad.len [.list 2 (x::A),.list 2 (y::B)]=2:=axx;have fR:ad.get [.list 2 (x::A),.list 2 (y::B)] (Int.ofNat 0)=.list 2 (x::A):=axx;have fp:ad.get [.list 2 (x::A),.list 2 (y::B)] (Int.ofNat 1)=.list 2 (y::B):=axx;have jy:ad.len (x::A)=a:=axx;have xx:ad.len (y::B)=b:=axx;have gd:ad.io .add .i64 0 (Int.ofNat (ad.len (x::A)))=Int.ofNat a:=ayJ;have gU:ad.io .add .i64 (Int.ofNat a) (Int.ofNat (ad.len (y::B)))=Int.ofNat c:=by
  grind[oN]
 clear jy xx;have kW:∀k:Nat,ad.aF .lss (Int.ofNat k) 0=false:=λk=>axx;have qK:ad.aF .lss (Int.ofNat 0) 2=true:=axx;have u8:ad.aF .lss (Int.ofNat 1) 2=true:=axx;have tC:ad.aF .lss (Int.ofNat 2) 2=false:=axx;have Fz:=cv ae (n:=0) axs;have FA:=cv ae (n:=1) axs;clear br aq ay;refine ai ?_;refine⟨b6 (λi=>Gd (x::A) (y::B) (vj 0 (Int.ofNat a) (Int.ofNat c) i) i) (λi=>i<=2) (λi=>2-i),_,⟨0,axs,rfl,axr⟩,?_⟩;rintro _ _ ⟨i,hi,rfl,rfl⟩;have av:i=0\/i=1\/i=2:=axs;rcases av with rfl|rfl|rfl
 .refine ai ?_;exact eb 1 axs axw axr
 .refine ai ?_;exact eb 2 axs axw axr
 .refine ai ?_;refine⟨b6 (λi=>Ge (x::A) (y::B) (vj (.gE 2) (.own 2 (x::A)) (.own 2 (ad.app (x::A) (y::B))) i) i) (λi=>i<=2) (λi=>2-i),_,⟨0,axs,rfl,axr⟩,?_⟩;rintro _ _ ⟨i,hi,rfl,rfl⟩;have av:i=0\/i=1\/i=2:=axs;rcases av with rfl|rfl|rfl
  .refine ai ?_;exact eb 1 axs axw axr
  .refine ai ?_;exact eb 2 axs axw axr
  .refine ai ?_;all_goals (subst ae;exact b5 a8 axr axr)
theorem apt(A B:List D)(hA:A.length<=1000)(eD:B.length<=1000):aM 215 [.d (.list 1 [.list 2 A,.list 2 B])] [] (.d (.list 2 (A++B))) []:=by
 cases A with
 |nil=>cases B with
  |nil=>exact apo .dO .dO [] [] axw axw
  |cons y B=>exact apq .dO y [] B axw axv
 |cons x A=>
  have awk:A.length+1<=1000:=hA;cases B with
  |nil=>exact apr x .dO A [] axs axw
  |cons y B=>grind[aps]
theorem apu(l m:List (ax×Int))(aH:l.length<=1073741824):∃b:Bool,aM 66 [.d (.list 2 (l.map bD)),.d (.list 2 (m.map bD))] [] (.d (.bool b)) []:=by
 refine gV ?_;obtain⟨b,-,aj⟩:=abq l m aH;generalize l.map bD=L at*;generalize m.map bD=M at*;refine KX.cr _ λad ae K ao=> ?_;refine ai ?_;exact ao _ _ ⟨_,rfl,axr⟩
theorem apv(x:bk)(hw:x.w<=dS)(a:List (ax×Int))(rest:List D)(br:a.length<=16)
  (aw:(x.k=4\/x.k=5\/x.k=7)->∃b:List (ax×Int),b.length<=16/\rest=[.list 2 (b.map bD)]):
  ∃(bw:List (ax×Int)) (e:Int),aM 183 [.d (.agg x.bB.cs),.d (.list 1 (.list 2 (a.map bD)::rest))] [] (.tuple [.d (.list 2 (bw.map bD)),.d (int e)]) []:=by
 refine tI ?_;obtain⟨k,n,l,⟨cN,lk,ni,nj,nk,nn,dH⟩,ns,xs,on,ah,ob,cC⟩:=x;have jH:500+n.length+bk.ws l+(aA.mk cN lk ni nj nk nn dH).w+fH ns+aA.ws xs+j6 on+j7 ah+j8 ob<=dS:=hw;have w1:ns.length<=fH ns:=lA _ _;have bS:on.length<=j6 on:=lA _ _;have dZ:ah.length<=j7 ah:=lA _ _;have iP:ob.length<=j8 ob:=lA _ _;have ku:=LV xs;have Bz:dS=1000000000:=rfl;obtain⟨gb,v1,aj⟩:=abJ (aA.mk cN lk ni nj nk nn dH) axs a;obtain⟨s2,v2,aD⟩:=apj (bk.mk k n l (aA.mk cN lk ni nj nk nn dH) ns xs on ah ob cC).bB ns xs rfl (aA.k0 xs) axs (λx ak=>by have:=xt ak;omega) a;obtain⟨my,v3,aW⟩:=apm (bk.mk k n l (aA.mk cN lk ni nj nk nn dH) ns xs on ah ob cC).bB ns ah rfl rfl axs axs a axs;obtain⟨v5,cK⟩:=apg (bk.mk k n l (aA.mk cN lk ni nj nk nn dH) ns xs on ah ob cC).bB ob rfl axs a axs;have f4:=λ(b:List (ax×Int)) (aq:b.length<=16)=>apd (bk.mk k n l (aA.mk cN lk ni nj nk nn dH) ns xs on ah ob cC).bB on rfl axs a b axs axs;have f6:=λ(b:List (ax×Int))=>apu a b axs;have f7:=λ(b:List (ax×Int)) (aq:b.length<=16)=>apt (a.map bD) (b.map bD) axv axv;have kC:∀b:List (ax×Int),a.map bD++b.map bD=(a++b).map bD:=λb=>(az5).symm;change bM _ _ _ [.d (.agg (l0.cs ⟨cN,lk,ni,nj,nk,nn,aA.ds dH⟩)),_] _ _ _ at aj;change bM _ _ _ [.d (.agg (ef.cs ⟨k,n,bk.ds l,cN,lk,ni,nj,nk,nn,aA.ds dH,ns.map .str,aA.ds xs,on.map fy,ah.map eL,ob.map fA,cC⟩)),_] _ _ _ at aD aW cK;change ∀(b:List (ax×Int)),b.length<=16->∃e:Int,bM _ _ _ [.d (.agg (ef.cs ⟨k,n,bk.ds l,cN,lk,ni,nj,nk,nn,aA.ds dH,ns.map .str,aA.ds xs,on.map fy,ah.map eL,ob.map fA,cC⟩)),_,_] _ _ _ at f4;change ∃r s',_/\bM _ _ _ [.d (.agg (ef.cs ⟨k,n,bk.ds l,cN,lk,ni,nj,nk,nn,aA.ds dH,ns.map .str,aA.ds xs,on.map fy,ah.map eL,ob.map fA,cC⟩)),_] _ _ _;change (k=4\/k=5\/k=7)->_ at aw;clear hw jH w1 bS dZ iP ku Bz;generalize bk.ds l=b0 at*;generalize aA.ds dH=b7 at*;generalize ns.map D.str=c7 at*;generalize aA.ds xs=iy at*;generalize on.map fy=wF at*;generalize ah.map eL=ov at*;generalize ob.map fA=xc at*;generalize hA:a.map bD=A at*;generalize jO:s2.map bD=kD at*;generalize abL:my.map bD=awl at*;refine Zd.cr _ λad ae K ao=> ?_;have abM:ad.get (.list 2 A::rest) 0=.list 2 A:=ax8;by_cases au:k=4\/k=5\/k=7
 .obtain⟨b,aq,rfl⟩:=aw au;obtain⟨v4,bQ⟩:=f4 b aq;obtain⟨v6,dQ⟩:=f6 b;have xu:=f7 b aq;have kC:=kC b;clear f4 f6 f7 aw;generalize b.map bD=B at*;generalize hC:A++B=C at*;have cY:ad.get [.list 2 A,.list 2 B] 1=.list 2 B:=axx;conv=>cbv
  repeat' ((first|refine bG ?_|refine bH ?_|simp -proj only[abM,cY]|(split<;>(rename_i h;try simp only[h])))<;>conv=>cbv)
  all_goals first|exact ao _ _ ⟨a,_,by rw[hA],axr⟩|exact ao _ _ ⟨s2,_,by rw[jO],axr⟩|exact ao _ _ ⟨my,_,by rw[abL],axr⟩|exact ao _ _ ⟨a++b,_,by rw[<-kC],axr⟩|exact ao _ _ ⟨[],_,rfl,axr⟩
 .clear f4 f6 f7 kC aw;have nL:ad.aF .eql k 4=false:=axx;have qq:ad.aF .eql k 5=false:=axx;have Ip:ad.aF .eql k 7=false:=axx;conv=>cbv
  repeat' ((first|refine bG ?_|refine bH ?_|simp -proj only[abM,nL,qq,Ip]|(split<;>(rename_i h;try simp only[h])))<;>conv=>cbv)
  all_goals first|exact ao _ _ ⟨a,_,by rw[hA],axr⟩|exact ao _ _ ⟨s2,_,by rw[jO],axr⟩|exact ao _ _ ⟨my,_,by rw[abL],axr⟩|exact ao _ _ ⟨[],_,rfl,axr⟩
end Go.Proofs.YtmgpekpnidjfoaaGreatDoor
