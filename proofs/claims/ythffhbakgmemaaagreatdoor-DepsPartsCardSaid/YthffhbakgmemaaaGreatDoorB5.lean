/- Part of parts_said. -/
import Derived.Test.YthffhbakgmemaaaGreatDoorB4
set_option maxRecDepth 100000
set_option maxHeartbeats 8000000
set_option linter.unusedSimpArgs false
set_option linter.unusedVariables false
namespace Go.Proofs.YthffhbakgmemaaaGreatDoor
open Go Go.aG
attribute [local irreducible] bD
theorem Bd(l:List (ax×Int))(v:ax)(j:l.length<=1073741824):∃(i:Int) (a:Bool),(a=true->∃(k:Nat) (h:k<l.length),i=Int.ofNat k/\l[k].1=v)/\(a=false->∀x∈l,x.1≠v)/\aL 290 [.d (.list 2 (l.map bF)),.d (.str v)] [] (.tuple [.d (int i),.d (.bool a)]) []:=by
 suffices h:∃r f,(∃(i:Int) (a:Bool),(a=true->∃(k:Nat) (h:k<l.length),i=Int.ofNat k/\l[k].1=v)/\(a=false->∀x∈l,x.1≠v)/\r=.tuple [.d (int i),.d (.bool a)]/\f=[])/\aL 290 [.d (.list 2 (l.map bF)),.d (.str v)] [] r f by
  grind
 obtain⟨r,g,aj⟩:=aqa l 315 v (λi=>decide (l[i]?.map Prod.fst=some v)) j (λi h=>by
  simp_all[aqc])
 generalize l.map bF=L at*;refine abJ.cn _ λc ae K d=> ?_;rcases g with⟨rfl,h1⟩|⟨k,hk,rfl,h1,_⟩
 .have t1:c.aB .geq (-1) 0=false:=by simp only[aH ae];decide
  refine ak ?_;refine d _ _ ⟨_,false,(λh=>aAb),(λ_ x m=> ?_),rfl,az5⟩;grind[List.getElem_of_mem]
 .have t1:c.aB .geq (Int.ofNat k) 0=true:=by simp only[aH ae,aCA];simp
  have t2:c.aB .lss (Int.ofNat k) 0=false:=aCd;refine ak ?_;refine d _ _ ⟨_,true,(λ_=>⟨k,hk,?_,?_⟩),(λh=>aAb),rfl,az5⟩;all_goals grind
theorem aqz(k:Int):∃l:List (ax×List Int×Int),l.length<=13/\aL 333 [.d (int k)] [] (.d (.list 3 (l.map jO))) []:=by
 refine eW ?_;refine ZK.cn _ λc ae K a=> ?_;refine ak ?_;repeat' (split<;>refine ak ?_)
 .exact a _ _ ⟨[([45],[1],1),([110,111,116],[0],1)],az',rfl,az5⟩
 .exact a _ _ ⟨[([43],[1,1],1),([45],[1,1],1),([42],[1,1],1),([47],[1,1],1),([37],[1,1],1),([61],[-1,-1],1),([33,61],[-1,-1],1),([60],[-1,-1],1),([60,61],[-1,-1],1),([62],[-1,-1],1),([62,61],[-1,-1],1),([97,110,100],[0,0],1),([111,114],[0,0],1)],az',rfl,az5⟩
 .exact a _ _ ⟨[([108,101,110],[2],1),([97,98,115],[1],1),([105,115,110,117,108,108],[0],1),([99,97,116],[2,2],2),([101,105,116,104,101,114],[-1,-1],-1),([105,102],[0,-1,-1],-1)],az',rfl,az5⟩
 .exact a _ _ ⟨[],az',rfl,az5⟩
theorem adB{a:bd}(h:a=bd.bU)(L:List D)(M:List Int):∃c:Bool,a.aB .eql (Int.ofNat (a.len L)) (Int.ofNat (a.len (M.map int)))=c/\(c=true->L.length=M.length):=by
 subst h
 exact⟨_,rfl,λh=>by
  have d:Int.ofNat L.length=Int.ofNat (M.map int).length:=of_decide_eq_true h;grind⟩
theorem adC(c:j3):∃(r:ax×List Int×Int) (a:Bool),(a=true->c.l.length=r.2.1.length)/\aL 311 [.d (.agg c.cs)] [] (.tuple [.d (jO r),.d (.bool a)]) []:=by
 suffices h:∃p o,(∃(r:ax×List Int×Int) (a:Bool),(a=true->c.l.length=r.2.1.length)/\p=.tuple [.d (jO r),.d (.bool a)]/\o=[])/\aL 311 [.d (.agg c.cs)] [] p o by
  grind
 obtain⟨l,u,aj⟩:=aqz c.k;have n:∀v,∃r:Int,(r= -1\/∃(k:Nat) (h:k<l.length),r=Int.ofNat k)/\aL 334 [.d (.list 3 (l.map jO)),.func 335 [] [.ptr 0 0]] [.box [.d (.str v)]] (.d (int r)) [.box [.d (.str v)]]:=λv=>by
  obtain⟨r,t,e⟩:=aqb l 335 v (λi=>decide (l[i]?.map Prod.fst=some v)) az6 (λi h=>by
   have:=aqd l[i] v;rw[aCB h];simpa using this)
  rcases t with⟨rfl,h1⟩|⟨k,hk,rfl,h1,_⟩
  all_goals grind
 have j:∀i (h:i<l.length),(l.map jO)[i]?=some (jO l[i]):=λi h=>cY h;have w:(l.map jO).length=l.length:=aCv _;generalize l.map jO=L at*;obtain⟨b7,h1,aC⟩:=n c.op;obtain⟨cq,af,aX⟩:=n c.n;refine V2.cn _ λg ae K d=> ?_;obtain⟨bq,t1,q1⟩:=va ae c.k 5;have s:g.aB .lss (-1) 0=true:=aAd;have m:∀k:Nat,g.aB .lss (Int.ofNat k) 0=false:=λk=>aCd;cases bq with
 |true=>
  rcases af with rfl|⟨k,hk,rfl⟩
  .conv=>cbv
   repeat ((first|refine dD ?_|refine dE ?_|simp -proj only[t1,s]);conv=>cbv)
   try trivial
   exact d _ _ ⟨([],[],0),false,(λh=>aAb),rfl,az5⟩
  .have t3:=cH ae (j k hk);unfold jO at t3;generalize l[k]=x at*;obtain⟨aT,t4,bG⟩:=adB ae c.l x.2.1;obtain⟨bP,bZ,cx⟩:=x;dsimp only at t3 t4 bG;generalize f:bZ.map int=M at*;conv=>cbv
   repeat ((first|refine dD ?_|refine dE ?_|simp -proj only[t1,m,t3,t4]);conv=>cbv)
   try trivial
   exact d _ _ ⟨(bP,bZ,cx),aT,bG,by rw[jO,f],az5⟩
 |false=>
  rcases h1 with rfl|⟨k,hk,rfl⟩
  .refine ak ?_;exact d _ _ ⟨([],[],0),false,(λh=>aAb),rfl,az5⟩
  .have t3:=cH ae (j k hk);unfold jO at t3;generalize l[k]=x at*;obtain⟨aT,t4,bG⟩:=adB ae c.l x.2.1;obtain⟨bP,bZ,cx⟩:=x;dsimp only at t3 t4 bG;generalize f:bZ.map int=M at*;conv=>cbv
   repeat ((first|refine dD ?_|refine dE ?_|simp -proj only[t1,m,t3,t4]);conv=>cbv)
   try trivial
   exact d _ _ ⟨(bP,bZ,cx),aT,bG,by rw[jO,f],az5⟩
noncomputable def yI(c:j3):ax×List Int×Int:=Classical.choose (adC c)
theorem adD(c:j3):∃a:Bool,(a=true->c.l.length=(yI c).2.1.length)/\aL 311 [.d (.agg c.cs)] [] (.tuple [.d (jO (yI c)),.d (.bool a)]) []:=aEv (adC c)
theorem aqA(c:j3)(j:c.eB.length<=1073741824):∃a:Bool,(a=true->c.k≠1->c.k≠2->c.l.length=(yI c).2.1.length)/\aL 310 [.d (.agg c.cs)] [] (.d (.bool a)) []:=by
 obtain⟨a,m,aj⟩:=adD c;obtain⟨b,aC⟩:=acF c.fY c.vi c.eB j;have aX:=M0;suffices h:∃l k,(∃(o:Bool),(o=true->c.k≠1->c.k≠2->a=true)/\l=.d (.bool o)/\k=[])/\aL 310 [.d (.agg c.cs)] [] l k by
  grind
 clear m j;generalize yI c=r at*;obtain⟨b7,cq,dG⟩:=r;unfold jO at aj;generalize cq.map int=M at*;refine V0.cn _ λn ae K d=> ?_;obtain⟨b3,t3,av⟩:=adv ae c.fY c.vi c.eB 0 0 [];have KP:n.lD [1,1,2] (int c.fY::List.take 2 [int c.vi,.str c.eB]) (int 0::List.take 2 [int 0,.str []])=some b3:=t3;clear av;obtain⟨p,t1,q1⟩:=va ae c.k 1;obtain⟨s,t2,bG⟩:=va ae c.k 2;cases p with
 |true=>
  have f:=q1 rfl;clear q1 bG;refine ak ?_;repeat' (split<;>refine ak ?_)
  all_goals exact d _ _ ⟨_,(λ_ g=>absurd f g),rfl,az5⟩
 |false=>
 clear q1;cases s with
 |true=>
  have f:=bG rfl;clear bG;refine ak ?_;repeat' (split<;>refine ak ?_)
  all_goals exact d _ _ ⟨_,(λ_ _ g=>absurd f g),rfl,az5⟩
 |false=>
 clear bG;cases a with
 |false=>
  refine ak ?_;exact d _ _ ⟨false,(λh=>aAb),rfl,az5⟩
 |true=>
  refine ak ?_;repeat' (split<;>refine ak ?_)
  all_goals exact d _ _ ⟨_,(λ_ _ _=>rfl),rfl,az5⟩
theorem vb{a:Type}{S:a->ag}{J:a->Prop}{μ:a->Nat}{st:ag}{n:Nat}(g:ag->a)(c:J (g st))(d:μ (g st)<n)(f:st=S (g st)):∃m,m<n/\bX S J μ m st:=ea (g st) c d f
def Nv(st:ag)(k:Nat):Int:=match st.aR k with|.d (.int _ n)=>n|_=>0
def aqC(W H:List D)(n:Nat)(t:Int)(i:Nat):ag:=cA [(0,.d (.list 1 W)),(6,.d (int t)),(9,.d (.list 1 H)),(10,.d (int (Int.ofNat n))),(11,.d (int (Int.ofNat i)))] []
theorem aqD(w v:List Int)(u:v.length<=w.length)(p:w.length<=1073741824):∃(t:Int) (d:Bool),aL 312 [.d (.list 1 (w.map int)),.d (.list 1 (v.map int))] [] (.tuple [.d (int t),.d (.bool d)]) []:=by
 suffices hh:∃r j,(∃(t:Int) (d:Bool),r=.tuple [.d (int t),.d (.bool d)]/\j=[])/\aL 312 [.d (.list 1 (w.map int)),.d (.list 1 (v.map int))] [] r j by
  grind
 have A:(w.map int).length=w.length:=aCv _;have s:(v.map int).length=v.length:=aCv _;have k:∀i (h:i<w.length),(w.map int)[i]?=some (int w[i]):=λi h=>cY h;have l:∀i (c:i<v.length),(v.map int)[i]?=some (int v[i]):=λi c=>cY c;generalize w.map int=W at*;generalize v.map int=H at*;refine ZI.cn _ λa ae K f=> ?_;refine ak ?_;refine⟨bX (λz:Int×Nat=>aqC W H (a.len H) z.1 z.2) (λz=>z.2<=v.length) λz=>v.length-z.2,_,⟨(0,0),aCu _,rfl,az5⟩,?_⟩;rintro _ _ ⟨⟨t,i⟩,c,rfl,rfl⟩;dsimp only at c⊢;by_cases g:i<v.length
 .have t2:a.aB .lss (Int.ofNat i) (Int.ofNat (a.len H))=true:=by simp_all[aH]
  have m:i<w.length:=az6;have t3:=cH ae (l i g);have t4:=cH ae (k i m);have t5:=b9 ae (n:=i) az6;generalize v[i]=x at*;generalize w[i]=y at*;refine ak ?_;repeat' (split<;>refine ak ?_)
  all_goals first|exact vb (λo=>(Nv o 6,i+1)) g (show v.length-(i+1)<v.length-i by omega) az5|exact f _ _ ⟨_,_,rfl,az5⟩
 .have t2:a.aB .lss (Int.ofNat i) (Int.ofNat (a.len H))=false:=by simp_all[aH]
  refine ak ?_;exact f _ _ ⟨_,_,rfl,az5⟩
def D0(x:aD):Prop:=∃n:Int,aL 285 [.d (.agg x.bQ.cs)] [] (.d (int n)) []
def aqG(L:List D)(n:Nat)(z:Int)(i:Nat):ag:=cA [(3,.d (int z)),(7,.d (.list 7 L)),(8,.d (int (Int.ofNat n))),(9,.d (int (Int.ofNat i)))] []
theorem aqH(x:aD)(r:x.l.length<=1073741824)(p:∀y∈x.l,D0 y):D0 x:=by
 have g:x.bQ.l=x.l.map λx=>.agg x.bQ.cs:=aBO;generalize x.l=l at*;unfold D0;have j:(l.map λx=>D.agg x.bQ.cs).length=l.length:=aCv _;have f:∀i (h:i<l.length),(l.map λx=>D.agg x.bQ.cs)[i]?=some (.agg l[i].bQ.cs):=λi h=>cY h;rw[<-g]at j f;clear g;generalize x.bQ=c at*;obtain⟨c1,c2,c3,s,t,u,L⟩:=c;dsimp only at j f⊢;refine hb ?_;refine abH.cn _ λa ae K k=> ?_;refine ak ?_;refine⟨bX (λz:Int×Nat=>aqG L (a.len L) z.1 z.2) (λz=>z.2<=l.length) λz=>l.length-z.2,_,⟨(1,0),aCu _,rfl,az5⟩,?_⟩;rintro _ _ ⟨⟨z,i⟩,o,rfl,rfl⟩;dsimp only at o⊢;by_cases d:i<l.length
 .have t2:a.aB .lss (Int.ofNat i) (Int.ofNat (a.len L))=true:=by simp_all[aH]
  have t3:=cH ae (f i d);have t5:=b9 ae (n:=i) az6;obtain⟨m,aj⟩:=p l[i] (aCC d);generalize l[i].bQ=y at*;refine ak ?_;exact fixF (a.io .add .i64 z m,i+1) d
 .have t2:a.aB .lss (Int.ofNat i) (Int.ofNat (a.len L))=false:=by simp_all[aH]
  refine ak ?_;exact k _ _ ⟨_,rfl,az5⟩
def D1(x:bj):Prop:=∃n:Int,aL 157 [.d (.agg x.bz.cs)] [] (.d (int n)) []
def aqI(L:List D)(n:Nat)(z:Int)(i:Nat):ag:=cA [(3,.d (int z)),(7,.d (.list 16 L)),(8,.d (int (Int.ofNat n))),(9,.d (int (Int.ofNat i)))] []
theorem aqJ(x:bj)(r:x.l.length<=1073741824)(p:∀y∈x.l,D1 y):D1 x:=by
 have g:x.bz.a=x.l.map λx=>.agg x.bz.cs:=by rw[<-bj.kn];cases x;rfl
 generalize x.l=l at*;unfold D1;have j:(l.map λx=>D.agg x.bz.cs).length=l.length:=aCv _;have f:∀i (h:i<l.length),(l.map λx=>D.agg x.bz.cs)[i]?=some (.agg l[i].bz.cs):=λi h=>cY h;rw[<-g]at j f;clear g;generalize x.bz=c at*;obtain⟨c1,c2,L,v,w,C,s,H,A,B,J,u,E,F,G,t⟩:=c;dsimp only at j f⊢;refine hb ?_;refine aa1.cn _ λa ae K k=> ?_;refine ak ?_;refine⟨bX (λz:Int×Nat=>aqI L (a.len L) z.1 z.2) (λz=>z.2<=l.length) λz=>l.length-z.2,_,⟨(1,0),aCu _,rfl,az5⟩,?_⟩;rintro _ _ ⟨⟨z,i⟩,o,rfl,rfl⟩;dsimp only at o⊢;by_cases d:i<l.length
 .have t2:a.aB .lss (Int.ofNat i) (Int.ofNat (a.len L))=true:=by simp_all[aH]
  have t3:=cH ae (f i d);have t5:=b9 ae (n:=i) az6;obtain⟨m,aj⟩:=p l[i] (aCC d);generalize l[i].bz=y at*;refine ak ?_;exact fixF (a.io .add .i64 z m,i+1) d
 .have t2:a.aB .lss (Int.ofNat i) (Int.ofNat (a.len L))=false:=by simp_all[aH]
  refine ak ?_;exact k _ _ ⟨_,rfl,az5⟩
def HE(x:aD):Prop:=∀(a:List (ax×Int)),a.length<=1073741824->∀d:Int,∃t e:Int,aL 286 [.d (.agg x.bQ.cs),.d (.list 2 (a.map bF)),.d (int d)] [] (.tuple [.d (int t),.d (int e)]) []
def aqK(c:j3)(S L:List D)(d:Int)(H:List D)(n i:Nat):ag:=lZ [(1,.d (.list 2 S)),(2,.d (int d)),(3,.dw 3 0),(10,.own 1 H),(52,.d (.list 7 L)),(53,.d (int (Int.ofNat n))),(54,.d (int (Int.ofNat i)))] [(3,[.d (int c.k),.d (.str c.n),.d (int c.fY),.d (int c.vi),.d (.str c.eB),.d (.str c.op),.d (.list 7 L)])] []
theorem aqL(x:aD)(B:x.eB.length<=1073741824)(aE:x.l.length<=1073741824)(E:∀y∈x.l,HE y):HE x:=by
 intro f J d;have w:x.bQ.l=x.l.map λx=>.agg x.bQ.cs:=aBO;have K:x.bQ.eB.length<=1073741824:=by cases x;exact B
 generalize x.l=l at*;have u:(l.map λx=>D.agg x.bQ.cs).length=l.length:=aCv _;have s:∀i (h:i<l.length),(l.map λx=>D.agg x.bQ.cs)[i]?=some (.agg l[i].bQ.cs):=λi h=>cY h;rw[<-w]at u s;clear w B;generalize x.bQ=c at*;obtain⟨V,m,aj⟩:=aqA c K;obtain⟨aN,vJ,aC⟩:=adD c;obtain⟨fi,P,N,-,aX⟩:=Bd f c.n J;have o:∀i (h:i<l.length),∃t e:Int,aL 286 [.d (.agg l[i].bQ.cs),.d (.list 2 (f.map bF)),.d (int (IntKind.i64.wrap (d+1)))] [] (.tuple [.d (int t),.d (int e)]) []:=λi h=>E l[i] (aCC h) f J _;have k:∀v:List Int,v.length=l.length->l.length=(yI c).2.1.length->∃(t:Int) (ok:Bool),aL 312 [.d (.list 1 ((yI c).2.1.map int)),.d (.list 1 (v.map int))] [] (.tuple [.d (int t),.d (.bool ok)]) []:=λv h1 af=>aqD _ v az6 az6;have G:∀i (h:i<f.length),(f.map bF)[i]?=some (bF f[i]):=λi h=>cY h;have eI:(f.map bF).length=f.length:=aCv _;generalize f.map bF=S at*;clear E vJ;rw[u]at m;generalize yI c=r at*;obtain⟨b7,cq,dG⟩:=r;dsimp only at m k;unfold jO at aC;dsimp only at aC;generalize ck:cq.map int=M at*;obtain⟨c1,c2,c3,Q,R,U,L⟩:=c;dsimp only at u s m K aX⊢;refine wC ?_;refine XZ.cn _ λg ae aI j=> ?_;have mX:∀a b,IntKind.i64.wrap (a+b)=g.io .add .i64 a b:=λa b=>aBo;rw[mX]at o;obtain⟨g1,t1,q1⟩:=va ae c1 2;obtain⟨g2,t2,bG⟩:=va ae c1 1;cases V with
 |false=>
  refine ak ?_;repeat' (split<;>refine ak ?_)
  all_goals exact j _ _ ⟨_,_,rfl,az5⟩
 |true=>
 cases g1 with
 |true=>
  conv=>cbv
  repeat' ((first|refine dD ?_|refine dE ?_|simp -proj only[t1,t2]|(split<;>(rename_i h;try simp only[h])))<;>conv=>cbv)
  all_goals exact j _ _ ⟨_,_,rfl,az5⟩
 |false=>
 cases g2 with
 |true=>
  cases P with
  |false=>
   conv=>cbv
   repeat' ((first|refine dD ?_|refine dE ?_|simp -proj only[t1,t2]|(split<;>(rename_i h;try simp only[h])))<;>conv=>cbv)
   all_goals exact j _ _ ⟨_,_,rfl,az5⟩
  |true=>
   obtain⟨aB,hk,rfl,-⟩:=N rfl;have t3:=cH ae (G aB hk);unfold bF at t3;conv=>cbv
   repeat' ((first|refine dD ?_|refine dE ?_|simp -proj only[t1,t2,t3]|(split<;>(rename_i h;try simp only[h])))<;>conv=>cbv)
   all_goals exact j _ _ ⟨_,_,rfl,az5⟩
 |false=>
 clear aX N G;have C:c1≠1:=λh=>by subst h;simp only[aH ae]at t2;simp_all
 have F:c1≠2:=λh=>by subst h;simp only[aH ae]at t1;grind
 have ar:=m rfl C F;clear q1 bG m C F;have k:=λv h=>k v h ar;cases t4:g.aB .gtr d 32 with
 |true=>
  refine ak ?_;exact j _ _ ⟨_,_,rfl,az5⟩
 |false=>
 refine ak ?_;refine⟨bX (λz:List Int×Nat=>aqK ⟨c1,c2,c3,Q,R,U,L⟩ S L d (z.1.map int) (g.len L) z.2) (λz=>z.2<=l.length/\z.1.length=z.2) λz=>l.length-z.2,_,⟨([],0),⟨aCu _,rfl⟩,rfl,az5⟩,?_⟩;rintro _ _ ⟨⟨H,i⟩,⟨Z,Y⟩,rfl,rfl⟩;dsimp only at Z Y⊢;by_cases p:i<l.length
 .have t5:g.aB .lss (Int.ofNat i) (Int.ofNat (g.len L))=true:=by simp only[aH ae,aCy,aCA];omega
  have t6:=cH ae (s i p);have t7:=b9 ae (n:=i) az6;obtain⟨t,e,bR⟩:=o i p;have t8:g.app (H.map int) [int t]=(H++[t]).map int:=aAt;have jP:(H++[t]).length=i+1:=az9;have hm:(H.map int).length=i:=az9;generalize aM:(H++[t])=A at*;generalize X:A.map int=qG at*;generalize H.map int=H1 at*;generalize l[i].bQ=y at*;clear k o;refine ak ?_;repeat' (split<;>refine ak ?_)
  .exact j _ _ ⟨_,_,rfl,az5⟩
  .subst X;exact fixF (A,i+1) ⟨p,jP⟩
 .have t5:g.aB .lss (Int.ofNat i) (Int.ofNat (g.len L))=false:=by simp only[aH ae,aCy,aCE];omega
  obtain⟨t,aP,cF⟩:=k H az6;generalize H.map int=H1 at*;clear k o;refine ak ?_;repeat' (split<;>refine ak ?_)
  all_goals exact j _ _ ⟨_,_,rfl,az5⟩
theorem D2:∀l:List aD,l.length<=aD.ws l
 |[]=>aCw _
 |x::l=>by have:=x.rQ;have:=D2 l;show l.length+1<=x.w+aD.ws l;omega
theorem aqN:∀(n:Nat) (x:aD),x.w<=n->x.w<=dr->HE x/\D0 x:=by
 intro n;induction n with
 |zero=>grind[aD.rQ]
 |succ n ih=>
  intro x h o;have h1:x.l.length<=1073741824/\x.eB.length<=1073741824:=by
   obtain⟨k,f,m,p,c,g,l⟩:=x;have d:=D2 l;have j:200+f.length+c.length+g.length+aD.ws l<=dr:=o;unfold dr at j;show l.length<=_/\c.length<=_;omega
  have d:∀y∈x.l,HE y/\D0 y:=λy a=>by
   have r:y.w+200<=x.w:=by
    obtain⟨k,f,m,p,c,g,l⟩:=x;have:=u' (l:=l) a;show _<=200+f.length+c.length+g.length+aD.ws l;omega
   grind
  exact⟨aqL x h1.2 h1.1 λy a=>(d y a).1,aqH x h1.1 λy a=>(d y a).2⟩
theorem adE(c:Int):∃b:Bool,aL 235 [.d (.int .u8 c)] [] (.d (.bool b)) []:=by
 refine hb ?_;refine XG.cn _ λd ae K a=> ?_;refine ak ?_;repeat' (split<;>refine ak ?_)
 all_goals exact a _ _ ⟨_,rfl,az5⟩
theorem aqO(c:Int):∃b:Bool,aL 236 [.d (.int .u8 c)] [] (.d (.bool b)) []:=by
 refine hb ?_;obtain⟨b,aj⟩:=adE c;refine XI.cn _ λd ae K a=> ?_;cases b;all_goals
  refine ak ?_;repeat' (split<;>refine ak ?_)
  all_goals exact a _ _ ⟨_,rfl,az5⟩
def aqP(L:List D)(n i:Nat):ag:=cA [(19,.d (.list 1 L)),(20,.d (int (Int.ofNat n))),(21,.d (int (Int.ofNat i)))] []
theorem aqQ(s:ax):∃b:Bool,aL 197 [.d (.str s)] [] (.d (.bool b)) []:=by
 refine hb ?_;refine Xs.cn _ λd ae K f=> ?_;obtain⟨g1,t1,q1⟩:=A' ae s [];obtain⟨bq,aj⟩:=adE (d.wx s 0).toNat;cases g1 with
 |true=>
  refine ak ?_;exact f _ _ ⟨_,rfl,az5⟩
 |false=>
 have o:0<s.length:=by
  rcases s with _|⟨a,s⟩
  all_goals simp_all[aH]
 clear q1;cases t2:d.aB .gtr (Int.ofNat (d.dK s)) 16 with
 |true=>
  refine ak ?_;exact f _ _ ⟨_,rfl,az5⟩
 |false=>
 have m:s.length<=16:=aCe;cases bq with
 |false=>
  refine ak ?_;exact f _ _ ⟨_,rfl,az5⟩
 |true=>
 have au:d.gI s=s.map fO:=aAa;have l:(d.gI s).length=s.length:=az8;have j:∀i (h:i<s.length),(d.gI s)[i]?=some (fO s[i]):=λi h=>az8;clear au;refine ak ?_;refine⟨bX (λi=>aqP (d.gI s) (d.len (d.gI s)) i) (λz=>z<=s.length) λz=>s.length-z,_,⟨0,aCu _,rfl,az5⟩,?_⟩;generalize d.gI s=L at*;rintro _ _ ⟨i,k,rfl,rfl⟩;dsimp only at k⊢;by_cases g:i<s.length
 .have t5:d.aB .lss (Int.ofNat i) (Int.ofNat (d.len L))=true:=by simp_all[aH]
  have t6:=cH ae (j i g);have t7:=b9 ae (n:=i) az6;unfold fO at t6;generalize (s[i].toNat:Int)=c at*;obtain⟨aT,aC⟩:=aqO c;cases aT with
  |false=>
   refine ak ?_;exact f _ _ ⟨_,rfl,az5⟩
  |true=>
   refine ak ?_;exact fixF (i+1) g
 .have t5:d.aB .lss (Int.ofNat i) (Int.ofNat (d.len L))=false:=by simp_all[aH]
  refine ak ?_;exact f _ _ ⟨_,rfl,az5⟩
theorem ayQ{a:bd}(h:a=bd.bU)(L:List D)(k:Int)(op:BinOp):∃c:Bool,a.aB op (Int.ofNat (a.len L)) k=c:=⟨_,rfl⟩
def vd(es:List (D×ah)):Prop:=∀e∈es,(∃t,e.1=.str t)/\e.2=.d (.bool true)
theorem vd.flat{es:List (D×ah)}(h:vd es):po es:=λe a=>⟨_,(h e a).2⟩
theorem vd.look{c:bd}(d:c=bd.bU){es:List (D×ah)}(h:vd es)(s:ax):∃o,c.yr false [2] (.str s) es=some o/\(o=none\/o=some (.d (.bool true))):=by
 subst d;show ∃o,tc false [2] (.str s) es=some o/\_;unfold tc;rcases Dm s es 0 (λe g=>(h e g).1)with h1|⟨j,h1,f⟩
 .simp_all
 .rw[f];have a:0+j<es.length:=az6;simp only[aCB a];exact⟨_,rfl,.inr (by rw[(h _ (aCC a)).2])⟩
theorem vd.put{c:bd}(d:c=bd.bU){es:List (D×ah)}(h:vd es)(s:ax):∃a,c.yt false [2] (.str s) (.d (.bool true)) es=some a/\vd a:=by
 subst d;show ∃a,rL false [2] (.str s) (.d (.bool true)) es=some a/\_;unfold rL;rcases Dm s es 0 (λe he=>(h e he).1)with h1|⟨j,h1,f⟩
 .rw[h1];refine⟨_,rfl,λe he=> ?_⟩;rcases aC9.1 he with he|he
  .exact h e he
  simp_all
 .rw[f];refine⟨_,rfl,λe he=> ?_⟩;rcases aD7 he with he|rfl
  .exact h e he
  simp
def aqR(L:List D)(n i:Nat)(es:List (D×ah)):ag:=cA [(3,.map 0),(15,.d (.list 2 L)),(16,.d (int (Int.ofNat n))),(17,.d (int (Int.ofNat i)))] [.map es]
theorem rR(l:List (ax×Int)):∃e:Int,(e=0->l.length<=16)/\aL 144 [.d (.list 2 (l.map bF))] [] (.d (int e)) []:=by
 refine eW ?_;have s:(l.map bF).length=l.length:=aCv _;have g:∀i (h:i<l.length),(l.map bF)[i]?=some (bF l[i]):=λi h=>cY h;generalize l.map bF=L at*;refine YQ.iX [0] _ λa ae K r=> ?_;cases t1:a.aB .eql (Int.ofNat (a.len L)) 0 with
 |true=>
  refine ak ?_;simp_all
 |false=>
 cases t2:a.aB .gtr (Int.ofNat (a.len L)) 16 with
 |true=>
  refine ak ?_;simp_all
 |false=>
 have p:l.length<=16:=aCe;have bB:vd []:=λe u=>az9;have f0:=bB.flat.refs ae;have f1:=bB.flat.ok ae;refine ak ?_;refine⟨bX (λz:Nat×List (D×ah)=>aqR L (a.len L) z.1 z.2) (λz=>z.1<=l.length/\vd z.2) λz=>l.length-z.1,_,⟨(0,[]),⟨aCu _,bB⟩,rfl,az5⟩,?_⟩;rintro _ _ ⟨⟨i,t⟩,⟨k,c⟩,rfl,rfl⟩;dsimp only at k c⊢;clear f0 f1 bB;have f0:=c.flat.refs ae;have f1:=c.flat.ok ae;have f2:=c.flat.ren ae;by_cases f:i<l.length
 .have t5:a.aB .lss (Int.ofNat i) (Int.ofNat (a.len L))=true:=by simp_all[aH]
  have t6:=cH ae (g i f);have t7:=b9 ae (n:=i) az6;unfold bF at t6;generalize l[i]=x at*;obtain⟨bP,bZ⟩:=x;dsimp only at t6;obtain⟨b,aj⟩:=aqQ bP;obtain⟨o,g1,j⟩:=c.look ae bP;obtain⟨m,g2,d⟩:=c.put ae bP;have f3:=d.flat.ok ae;cases b with
  |false=>
   refine ak ?_;simp_all
  |true=>
  rcases j with rfl|rfl
  .refine ak ?_;repeat' (split<;>refine ak ?_)
   all_goals first|exact fixF (i+1,m) ⟨f,d⟩|simp_all
  .refine ak ?_;repeat' (split<;>refine ak ?_)
   all_goals simp_all
 .have t5:a.aB .lss (Int.ofNat i) (Int.ofNat (a.len L))=false:=by simp_all[aH]
  refine ak ?_;simp_all
def aqS(L:List D)(v:D)(n i:Nat):ag:=cA [(0,.d (.list 1 L)),(1,.d v),(7,.d (int (Int.ofNat n))),(8,.d (int (Int.ofNat i)))] []
theorem aqT(l:List ax)(v:ax)(j:l.length<=1073741824):∃r:Int,aL 336 [.d (.list 1 (l.map D.str)),.d (D.str v)] [] (.d (int r)) []:=by
 refine hb ?_;have k:(l.map D.str).length=l.length:=aCv _;have f:∀i (h:i<l.length),(l.map D.str)[i]?=some (D.str l[i]):=λi h=>cY h;generalize l.map D.str=L at*;refine ZO.cn _ λa ae K c=> ?_;refine ak ?_;refine⟨bX (aqS L (D.str v) (a.len L)) (λi=>i<=l.length) λi=>l.length-i,_,⟨0,aCu _,rfl,az5⟩,?_⟩;rintro _ _ ⟨i,g,rfl,rfl⟩;dsimp only at g⊢;by_cases d:i<l.length
 .have t2:a.aB .lss (Int.ofNat i) (Int.ofNat (a.len L))=true:=by simp_all[aH]
  have t3:=cH ae (f i d);have t5:=b9 ae (n:=i) az6;generalize l[i]=x at*;refine ak ?_;repeat' (split<;>refine ak ?_)
  .exact c _ _ ⟨_,rfl,az5⟩
  .exact fixF (i+1) d
 .have t2:a.aB .lss (Int.ofNat i) (Int.ofNat (a.len L))=false:=by simp_all[aH]
  refine ak ?_;exact c _ _ ⟨_,rfl,az5⟩
theorem aqU(l:List ax)(v:ax)(a:l.length<=1073741824):∃b:Bool,aL 316 [.d (.list 1 (l.map D.str)),.d (D.str v)] [] (.d (.bool b)) []:=by
 refine hb ?_;obtain⟨r,aj⟩:=aqT l v a;generalize l.map D.str=L at*;refine V4.cn _ λd ae K c=> ?_;refine ak ?_;exact c _ _ ⟨_,rfl,az5⟩
def aqV(L:List D)(v:D)(n i:Nat):ag:=cA [(0,.d (.list 1 L)),(1,.d v),(7,.d (int (Int.ofNat n))),(8,.d (int (Int.ofNat i)))] []
theorem aqW(l:List Int)(v:Int)(j:l.length<=1073741824):∃r:Int,aL 313 [.d (.list 1 (l.map int)),.d (int v)] [] (.d (int r)) []:=by
 refine hb ?_;have k:(l.map int).length=l.length:=aCv _;have f:∀i (h:i<l.length),(l.map int)[i]?=some (int l[i]):=λi h=>cY h;generalize l.map int=L at*;refine abM.cn _ λa ae K c=> ?_;refine ak ?_;refine⟨bX (aqV L (int v) (a.len L)) (λi=>i<=l.length) λi=>l.length-i,_,⟨0,aCu _,rfl,az5⟩,?_⟩;rintro _ _ ⟨i,g,rfl,rfl⟩;dsimp only at g⊢;by_cases d:i<l.length
 .have t2:a.aB .lss (Int.ofNat i) (Int.ofNat (a.len L))=true:=by simp_all[aH]
  have t3:=cH ae (f i d);have t5:=b9 ae (n:=i) az6;generalize l[i]=x at*;refine ak ?_;repeat' (split<;>refine ak ?_)
  .exact c _ _ ⟨_,rfl,az5⟩
  .exact fixF (i+1) d
 .have t2:a.aB .lss (Int.ofNat i) (Int.ofNat (a.len L))=false:=by simp_all[aH]
  refine ak ?_;exact c _ _ ⟨_,rfl,az5⟩
theorem aqX(l:List Int)(v:Int)(a:l.length<=1073741824):∃b:Bool,aL 287 [.d (.list 1 (l.map int)),.d (int v)] [] (.d (.bool b)) []:=by
 refine hb ?_;obtain⟨r,aj⟩:=aqW l v a;generalize l.map int=L at*;refine ZA.cn _ λd ae K c=> ?_;refine ak ?_;exact c _ _ ⟨_,rfl,az5⟩
theorem adG(L:List D)(c:L.length<=1073741824):aL 50 [.d (.list 2 L)] [] (.d (.list 2 L)) []:=by
 cases L with
 |nil=>
  refine Ma.ct λd ae Q a=> ?_;conv=>cbv
  subst ae;refine⟨?_,?_⟩;all_goals first|exact bS a az5 az5|exact⟨az5,bS a az5 az5⟩
 |cons x L=>
  refine Ma.ct λd ae Q a=> ?_;have af:L.length+1<=1073741824:=c;refine ak ?_
  (subst ae;exact bS a az5 az5)
theorem aqY(L:List D)(c:L.length<=1073741824):aL 51 [.d (.list 4 L)] [] (.d (.list 4 L)) []:=by
 cases L with
 |nil=>
  refine L4.ct λd ae Q a=> ?_;conv=>cbv
  subst ae;refine⟨?_,?_⟩;all_goals first|exact bS a az5 az5|exact⟨az5,bS a az5 az5⟩
 |cons x L=>
  refine L4.ct λd ae Q a=> ?_;have af:L.length+1<=1073741824:=c;refine ak ?_
  (subst ae;exact bS a az5 az5)
theorem aqZ(L:List D)(c:L.length<=1073741824):aL 74 [.d (.list 1 L)] [] (.d (.list 1 L)) []:=by
 cases L with
 |nil=>
  refine Mt.ct λd ae Q a=> ?_;conv=>cbv
  subst ae;refine⟨?_,?_⟩;all_goals first|exact bS a az5 az5|exact⟨az5,bS a az5 az5⟩
 |cons x L=>
  refine Mt.ct λd ae Q a=> ?_;have af:L.length+1<=1073741824:=c;refine ak ?_
  (subst ae;exact bS a az5 az5)
theorem aq0(L:List D)(c:L.length<=1073741824):aL 75 [.d (.list 2 L)] [] (.d (.list 2 L)) []:=by
 cases L with
 |nil=>
  refine Mj.ct λd ae Q a=> ?_;conv=>cbv
  subst ae;refine⟨?_,?_⟩;all_goals first|exact bS a az5 az5|exact⟨az5,bS a az5 az5⟩
 |cons x L=>
  refine Mj.ct λd ae Q a=> ?_;have af:L.length+1<=1073741824:=c;refine ak ?_
  (subst ae;exact bS a az5 az5)
theorem aq1(L:List D)(c:L.length<=1073741824):aL 76 [.d (.list 3 L)] [] (.d (.list 3 L)) []:=by
 cases L with
 |nil=>
  refine Mc.ct λd ae Q a=> ?_;conv=>cbv
  subst ae;refine⟨?_,?_⟩;all_goals first|exact bS a az5 az5|exact⟨az5,bS a az5 az5⟩
 |cons x L=>
  refine Mc.ct λd ae Q a=> ?_;have af:L.length+1<=1073741824:=c;refine ak ?_
  (subst ae;exact bS a az5 az5)
theorem aq2(L:List D)(c:L.length<=1073741824):aL 77 [.d (.list 2 L)] [] (.d (.list 2 L)) []:=by
 cases L with
 |nil=>
  refine L6.ct λd ae Q a=> ?_;conv=>cbv
  subst ae;refine⟨?_,?_⟩;all_goals first|exact bS a az5 az5|exact⟨az5,bS a az5 az5⟩
 |cons x L=>
  refine L6.ct λd ae Q a=> ?_;have af:L.length+1<=1073741824:=c;refine ak ?_
  (subst ae;exact bS a az5 az5)
def aq3(L H:List D)(n i:Nat):ag:=cA [(3,.own 1 H),(6,.d (.list 2 L)),(7,.d (int (Int.ofNat n))),(8,.d (int (Int.ofNat i)))] []
theorem aq4(l:List (ax×Int))(s:l.length<=1073741824):∃m:List Int,m.length=l.length/\aL 288 [.d (.list 2 (l.map bF))] [] (.d (.list 1 (m.map int))) []:=by
 refine eW ?_;have u:(l.map bF).length=l.length:=aCv _;have j:∀i (h:i<l.length),(l.map bF)[i]?=some (bF l[i]):=λi h=>cY h;generalize l.map bF=L at*;refine ZC.cn _ λa ae K g=> ?_;refine ak ?_;refine⟨bX (λz:List Int×Nat=>aq3 L (z.1.map int) (a.len L) z.2) (λz=>z.2<=l.length/\z.1.length=z.2) λz=>l.length-z.2,_,⟨([],0),⟨aCu _,rfl⟩,rfl,az5⟩,?_⟩;rintro _ _ ⟨⟨H,i⟩,⟨p,o⟩,rfl,rfl⟩;dsimp only at p o⊢;by_cases d:i<l.length
 .have t2:a.aB .lss (Int.ofNat i) (Int.ofNat (a.len L))=true:=by simp_all[aH]
  have t3:=cH ae (j i d);have t5:=b9 ae (n:=i) az6;unfold bF at t3;generalize l[i]=x at*;obtain⟨bP,t⟩:=x;dsimp only at t3;have t8:a.app (H.map int) [int t]=(H++[t]).map int:=aAa;have r:(H++[t]).length=i+1:=az8;have v:(H.map int).length=i:=az8;generalize c:(H++[t])=f at*;generalize k:f.map int=w at*;generalize H.map int=H1 at*;refine ak ?_;subst k;exact fixF (f,i+1) ⟨d,r⟩
 .have t2:a.aB .lss (Int.ofNat i) (Int.ofNat (a.len L))=false:=by simp_all[aH]
  generalize c:H.map int=H1 at*;refine ak ?_;exact g _ _ ⟨H,az6,by rw[c],az5⟩
theorem aq5(x:ax×ax×ax)(l:List (ax×Int))(c:l.length<=1073741824):∃t e:Int,aL 291 [.d (eK x),.d (.list 2 (l.map bF))] [] (.tuple [.d (int t),.d (int e)]) []:=by
 refine wC ?_;obtain⟨bP,bZ,cx⟩:=x;unfold eK;dsimp only;obtain⟨b,aj⟩:=aqU [[99,111,117,110,116],[115,117,109],[109,105,110],[109,97,120]] bP az';obtain⟨i,j,d,-,aC⟩:=Bd l bZ c;have g:∀i (h:i<l.length),(l.map bF)[i]?=some (bF l[i]):=λi h=>cY h;have n:(l.map bF).length=l.length:=aCv _;generalize l.map bF=S at*;change bD _ _ _ [.d (.list 1 [.str [99,111,117,110,116],.str [115,117,109],.str [109,105,110],.str [109,97,120]]),_] _ _ _ at aj;refine ZE.cn _ λm ae K a=> ?_;cases j with
 |false=>
  cases b;all_goals
   refine ak ?_;repeat' (split<;>refine ak ?_)
   all_goals exact a _ _ ⟨_,_,rfl,az5⟩
 |true=>
  obtain⟨k,f,rfl,-⟩:=d rfl;have t3:=cH ae (g k f);unfold bF at t3;cases b;all_goals
   refine ak ?_;repeat' (split<;>refine ak ?_)
   all_goals exact a _ _ ⟨_,_,rfl,az5⟩
theorem adH(x:aD)(d:x.w<=dr)(l:List (ax×Int)):∃t e:Int,aL 244 [.d (.agg x.bQ.cs),.d (.list 2 (l.map bF))] [] (.tuple [.d (int t),.d (int e)]) []:=by
 refine wC ?_;obtain⟨f,n,aC⟩:=aqN x.w x (aCw _) d;obtain⟨e,h1,aj⟩:=rR l;have av:e=0->∃t e:Int,aL 286 [.d (.agg x.bQ.cs),.d (.list 2 (l.map bF)),.d (int 1)] [] (.tuple [.d (int t),.d (int e)]) []:=λh=>f l az6 1;clear f h1 d;generalize l.map bF=L at*;generalize x.bQ=c at*;refine XM.cn _ λg ae K a=> ?_;cases t1:g.aB .neq e 0 with
 |true=>
  refine ak ?_;exact a _ _ ⟨_,_,rfl,az5⟩
 |false=>
  have j:e=0:=aAa;obtain⟨t,aX,av⟩:=av j;refine ak ?_;repeat' (split<;>refine ak ?_)
  all_goals exact a _ _ ⟨_,_,rfl,az5⟩
def aq6(S:D):ag:=cA [(0,.d (.list 1 [])),(1,.func 281 [] [.ptr 0 0]),(7,.d (int 0)),(8,.d (int 0))] [.box [.d S]]
theorem aq7(S:List D):aL 308 [.d (.list 1 []),.func 281 [] [.ptr 0 0]] [.box [.d (.list 2 S)]] (.d (int (-1))) [.box [.d (.list 2 S)]]:=by
 refine X3.ct λa ae Q c=> ?_;have t1:a.len []=0:=aAa;refine ak ?_;refine⟨bX (λ_:Unit=>aq6 (.list 2 S)) (λ_=>True) (λ_=>0),_,⟨(),trivial,rfl,az5⟩,?_⟩;rintro _ _ ⟨_,_,rfl,rfl⟩;have t2:a.aB .lss 0 0=false:=aAa;refine ak ?_
 (subst ae;exact bS c az7 az5)
theorem aq8(S:List D):aL 280 [.d (.list 1 []),.func 281 [] [.ptr 0 0]] [.box [.d (.list 2 S)]] (.d (.bool false)) [.box [.d (.list 2 S)]]:=by
 have aj:=aq7 S;refine abF.ct λc ae Q a=> ?_;have t1:c.aB .geq (-1) 0=false:=aAa;refine ak ?_
 (subst ae;exact bS a az7 az5)
theorem aq9(l:List (ax×Int)):∃e:Int,(e=0->l.length<=16)/\aL 241 [.d (.list 2 (l.map bF)),.d (.list 1 [])] [] (.d (int e)) []:=by
 refine eW ?_;obtain⟨e,h1,aj⟩:=rR l;generalize l.map bF=L at*;have aC:=aq8 L;refine VE.cn _ λf ae K c=> ?_;cases t1:f.aB .neq e 0 with
 |true=>
  have a:e≠0:=aAa;refine ak ?_;exact c _ _ ⟨e,(λh=>absurd h a),rfl,az5⟩
 |false=>
  have a:e=0:=aAa;have d:=h1 a;refine ak ?_;repeat' (split<;>refine ak ?_)
  all_goals exact c _ _ ⟨_,(λ_=>d),rfl,az5⟩
def aq':ag:=cA [(0,.d (.list 1 [])),(1,.d (.fn 243)),(5,.d (int (-1)))] []
theorem ara:aL 242 [.d (.list 1 []),.d (.fn 243)] [] (.d (.bool true)) []:=by
 refine VG.ct λa ae Q c=> ?_;have t1:a.len []=0:=aAa;have t2:a.io .sub .i64 (Int.ofNat 0) 1= -1:=aAK;refine ak ?_;refine⟨bX (λ_:Unit=>aq') (λ_=>True) (λ_=>0),_,⟨(),trivial,rfl,az5⟩,?_⟩;rintro _ _ ⟨_,_,rfl,rfl⟩;have t3:a.aB .gtr (-1) 0=false:=aAa;refine ak ?_
 (subst ae;exact bS c az7 az5)
theorem arb(l:List (ax×Int)):∃e:Int,(e=0->l.length<=16)/\aL 204 [.d (.agg [.list 2 (l.map bF),.list 1 []])] [] (.d (int e)) []:=by
 refine eW ?_;obtain⟨e,h1,aj⟩:=aq9 l;have aC:=ara;generalize l.map bF=L at*;refine Vs.cn _ λf ae K c=> ?_;cases t1:f.aB .neq e 0 with
 |true=>
  have a:e≠0:=aAa;refine ak ?_;exact c _ _ ⟨e,(λh=>absurd h a),rfl,az5⟩
 |false=>
  have a:e=0:=aAa;have d:=h1 a;refine ak ?_;exact c _ _ ⟨_,(λ_=>d),rfl,az5⟩
def kp(x:ax×List (ax×Int)):D:=.agg [.str x.1,.list 2 (x.2.map bF),.list 1 []]
theorem arc(l:List (ax×List (ax×Int)))(f:Nat)(v:ax)(P:Nat->Bool)(w:l.length<=1073741824)
  (k:∀i (h:i<l.length),aL f [.d (kp l[i]),.ptr 0 0] [.box [.d (.str v)]] (.d (.bool (P i))) [.box [.d (.str v)]]):
  ∃r:Int,mI l.length P r/\aL 239 [.d (.list 3 (l.map kp)),.func f [] [.ptr 0 0]] [.box [.d (.str v)]] (.d (int r)) [.box [.d (.str v)]]:=by
 refine eW ?_;have z:(l.map kp).length=l.length:=aCv _;have p:∀i (h:i<l.length),(l.map kp)[i]?=some (kp l[i]):=λi h=>cY h;generalize l.map kp=L at*;refine Zs.cn _ λa ae K g=> ?_;refine ak ?_;refine⟨bX (Nr 3 f L (.str v) (a.len L)) (λi=>i<=l.length/\∀j,j<i->P j=false) λi=>l.length-i,_,⟨0,⟨aCu _,λj h=>az6⟩,rfl,az5⟩,?_⟩;rintro _ _ ⟨i,⟨s,d⟩,rfl,rfl⟩;dsimp only at s d⊢;by_cases c:i<l.length
 .have t2:a.aB .lss (Int.ofNat i) (Int.ofNat (a.len L))=true:=by simp_all[aH]
  have t3:=cH ae (p i c);have t5:=b9 ae (n:=i) az6;have aj:=k i c;have u:P i=true->mI l.length P (Int.ofNat i):=λh=>.inr ⟨i,c,rfl,h,d⟩;have t:P i=false->∀j,j<i+1->P j=false:=λh j m=>az9;unfold kp at*;clear k;generalize l[i]=x at*;generalize x.2.map bF=M at*;generalize P i=b at*;cases b with
  |true=>
   refine ak ?_;exact g _ _ ⟨_,u rfl,rfl,az5⟩
  |false=>
   refine ak ?_;exact fixF (i+1) ⟨c,t rfl⟩
 .have t2:a.aB .lss (Int.ofNat i) (Int.ofNat (a.len L))=false:=by simp_all[aH]
  have o:mI l.length P (-1):=.inl ⟨rfl,λj m=>d j az6⟩;refine ak ?_;exact g _ _ ⟨-1,o,rfl,az5⟩
theorem ard(x:ax×List (ax×Int))(v:ax):aL 240 [.d (kp x),.ptr 0 0] [.box [.d (.str v)]] (.d (.bool (decide (x.1=v)))) [.box [.d (.str v)]]:=by
 unfold kp;refine Zu.ct λc ae Q a=> ?_;have t1:c.bm .eql x.1 v=decide (x.1=v):=aAa;generalize decide (x.1=v)=b at*;generalize x.2.map bF=L at*;refine ak ?_
 (subst ae;exact bS a az7 az5)
theorem arf(l:List (ax×List (ax×Int)))(v:ax)(f:l.length<=1073741824):∃(j:List (ax×Int)) (m:Bool),aL 203 [.d (.list 3 (l.map kp)),.d (.str v)] [] (.tuple [.d (.agg [.list 2 (j.map bF),.list 1 []]),.d (.bool m)]) []:=by
 refine wC ?_
 obtain⟨r,d,aj⟩:=arc l 240 v (λi=>decide (l[i]?.map Prod.fst=some v)) f (λi h=>by
  have:=ard l[i] v;rw[aCB h];simpa using this)
 have g:∀i (h:i<l.length),(l.map kp)[i]?=some (kp l[i]):=λi h=>cY h;have n:(l.map kp).length=l.length:=aCv _;generalize l.map kp=L at*;refine Xy.cn _ λa ae K c=> ?_;rcases d with⟨rfl,h1⟩|⟨k,hk,rfl,h1,_⟩
 .have t1:a.aB .lss (-1) 0=true:=by simp_all[aH]
  refine ak ?_;exact c _ _ ⟨[],false,rfl,az5⟩
 .have t1:a.aB .lss (Int.ofNat k) 0=false:=by simp only[aH ae,aCE];simp
  have t3:=cH ae (g k hk);unfold kp at t3;generalize ck:(l[k].2.map bF)=M at*;refine ak ?_;exact c _ _ ⟨l[k].2,true,aAp,az5⟩
def arh(S T O:List D)(n i:Nat):ag:=cA [(1,.d (.list 2 S)),(2,.d (.list 2 T)),(18,.d (.list 2 O)),(19,.d (int (Int.ofNat n))),(20,.d (int (Int.ofNat i)))] []
theorem ari(p:dO)(a:List (ax×ax))(hp:p.on=a.map fm)(z:a.length<=1073741824)(l m:List (ax×Int))(j:l.length<=1073741824)(o:m.length<=1073741824):∃e:Int,aL 247 [.d (.agg p.cs),.d (.list 2 (l.map bF)),.d (.list 2 (m.map bF))] [] (.d (int e)) []:=by
 refine hb ?_;have f1:=λv=>Bd l v j;have f2:=λv=>Bd m v o;have MD:∀i (h:i<l.length),(l.map bF)[i]?=some (bF l[i]):=λi h=>cY h;have ME:∀i (h:i<m.length),(m.map bF)[i]?=some (bF m[i]):=λi h=>cY h;have Dy:∀i (h:i<a.length),(a.map fm)[i]?=some (fm a[i]):=λi h=>cY h;have t:(l.map bF).length=l.length:=aCv _;have R:(m.map bF).length=m.length:=aCv _;have u:(a.map fm).length=a.length:=aCv _;generalize l.map bF=S at*;generalize m.map bF=T at*;generalize a.map fm=O at*;obtain⟨c1,c2,c3,C,E,H,w,M,F,G,N,B,f,J,L,A⟩:=p;dsimp only at hp⊢;subst hp;refine XP.cn _ λc ae K d=> ?_;cases t0:c.aB .eql (Int.ofNat (c.len f)) 0 with
 |true=>
  refine ak ?_;exact d _ _ ⟨_,rfl,az5⟩
 |false=>
 refine ak ?_;refine⟨bX (arh S T f (c.len f)) (λi=>i<=a.length) λi=>a.length-i,_,⟨0,aCu _,rfl,az5⟩,?_⟩;rintro _ _ ⟨i,k,rfl,rfl⟩;dsimp only at k⊢;by_cases g:i<a.length
 .have t2:c.aB .lss (Int.ofNat i) (Int.ofNat (c.len f))=true:=by simp only[aH ae,aCy,aCA];omega
  have t3:=cH ae (Dy i g);have t5:=b9 ae (n:=i) az6;unfold fm at t3;generalize a[i]=x at*;obtain⟨bP,bZ⟩:=x;dsimp only at t3;obtain⟨P,bq,g1,-,aj⟩:=f1 bP;obtain⟨Q,aT,g2,-,aC⟩:=f2 bZ;clear f1 f2;cases bq with
  |false=>
   cases aT;all_goals
    refine ak ?_;exact d _ _ ⟨_,rfl,az5⟩
  |true=>
  cases aT with
  |false=>
   refine ak ?_;exact d _ _ ⟨_,rfl,az5⟩
  |true=>
   obtain⟨r,h1,rfl,-⟩:=g1 rfl;obtain⟨s,af,rfl,-⟩:=g2 rfl;have t6:=cH ae (MD r h1);have t7:=cH ae (ME s af);unfold bF at t6 t7;clear g1 g2;refine ak ?_;repeat' (split<;>refine ak ?_)
   all_goals first|exact d _ _ ⟨_,rfl,az5⟩|exact fixF (i+1) g
 .have t2:c.aB .lss (Int.ofNat i) (Int.ofNat (c.len f))=false:=by simp only[aH ae,aCy,aCE];omega
  refine ak ?_;exact d _ _ ⟨_,rfl,az5⟩
def ark(S O:List D)(n i:Nat):ag:=cA [(1,.d (.list 2 S)),(13,.d (.list 2 O)),(14,.d (int (Int.ofNat n))),(15,.d (int (Int.ofNat i)))] []
theorem arl(p:dO)(ob:List (ax×Bool))(hp:p.ob=ob.map fp)(r:ob.length<=1073741824)(l:List (ax×Int))(g:l.length<=1073741824):∃e:Int,aL 249 [.d (.agg p.cs),.d (.list 2 (l.map bF))] [] (.d (int e)) []:=by
 refine hb ?_;have f1:=λv=>Bd l v g;have Dy:∀i (h:i<ob.length),(ob.map fp)[i]?=some (fp ob[i]):=λi h=>cY h;have m:(ob.map fp).length=ob.length:=aCv _;generalize l.map bF=S at*;generalize ob.map fp=O at*;obtain⟨c1,c2,c3,t,u,A,o,E,w,z,F,s,B,C,c,j⟩:=p;dsimp only at hp⊢;subst hp;refine VK.cn _ λa ae K d=> ?_;cases t0:a.aB .lss j 0 with
 |true=>
  refine ak ?_;exact d _ _ ⟨_,rfl,az5⟩
 |false=>
 refine ak ?_;refine⟨bX (ark S c (a.len c)) (λi=>i<=ob.length) λi=>ob.length-i,_,⟨0,aCu _,rfl,az5⟩,?_⟩;rintro _ _ ⟨i,k,rfl,rfl⟩;dsimp only at k⊢;by_cases f:i<ob.length
 .have t2:a.aB .lss (Int.ofNat i) (Int.ofNat (a.len c))=true:=by simp only[aH ae,aCy,aCA];omega
  have t3:=cH ae (Dy i f);have t5:=b9 ae (n:=i) az6;unfold fp at t3;generalize ob[i]=x at*;obtain⟨bP,bZ⟩:=x;dsimp only at t3;obtain⟨G,bq,g1,-,aj⟩:=f1 bP;clear f1 g1;cases bq;all_goals
   refine ak ?_;first|exact fixF (i+1) f|exact d _ _ ⟨_,rfl,az5⟩
 .have t2:a.aB .lss (Int.ofNat i) (Int.ofNat (a.len c))=false:=by simp only[aH ae,aCy,aCE];omega
  refine ak ?_;exact d _ _ ⟨_,rfl,az5⟩
theorem Nw{a:bd}(ae:a=bd.bU)(H:List (ax×Int))(n:ax)(t:Int):a.app (H.map bF) [.agg [.str n,int t]]=(H++[(n,t)]).map bF:=aAt
theorem rS{c:Type}{l:List c}{a:c}{i:Nat}(h:l.length=i):(l++[a]).length=i+1:=az8
def arn(c:dO)(S H:List D)(n i:Nat):ag:=lZ [(1,.d (.list 2 S)),(2,.dw 2 0),(6,.own 2 H),(19,.d (.list 7 c.xs)),(20,.d (int (Int.ofNat n))),(21,.d (int (Int.ofNat i)))] [(2,c.v)] []
theorem aro(p:dO)(c:List ax)(xs:List aD)(s:p.ns=c.map .str)(j:p.xs=xs.map λx=>.agg x.bQ.cs)(p8:xs.length<=1073741824)(hw:∀x∈xs,x.w<=dr)(l:List (ax×Int)):
  ∃(C:List (ax×Int)) (e:Int),aL 245 [.d (.agg p.cs),.d (.list 2 (l.map bF))] [] (.tuple [.d (.list 2 (C.map bF)),.d (int e)]) []:=by
 refine wC ?_;have f1:∀x∈xs,∃t e:Int,aL 244 [.d (.agg x.bQ.cs),.d (.list 2 (l.map bF))] [] (.tuple [.d (int t),.d (int e)]) []:=λx j=>adH x (hw x j) l;have g1:∀i (h:i<c.length),(c.map D.str)[i]?=some (.str c[i]):=λi h=>cY h;have g2:∀i (h:i<xs.length),(xs.map λx=>D.agg x.bQ.cs)[i]?=some (.agg xs[i].bQ.cs):=λi h=>cY h;have aB:(c.map D.str).length=c.length:=aCv _;have ve:(xs.map λx=>D.agg x.bQ.cs).length=xs.length:=aCv _;generalize c.map D.str=N at*;generalize (xs.map λx=>D.agg x.bQ.cs)=X at*;generalize l.map bF=S at*;obtain⟨c1,c2,c3,F,G,L,B,U,J,K,u,f,P,Q,R,E⟩:=p;dsimp only at s j⊢;subst s j;refine VI.cn _ λd ae ar k=> ?_;cases t0:d.aB .neq (Int.ofNat (d.len u)) (Int.ofNat (d.len f))with
 |true=>
  refine ak ?_;exact k _ _ ⟨[],_,rfl,az5⟩
 |false=>
 have aI:c.length=xs.length:=by simp only[aH ae,aCy,aDB,aCA]at t0;omega
 refine ak ?_;refine⟨bX (λz:List (ax×Int)×Nat=>arn ⟨c1,c2,c3,F,G,L,B,U,J,K,u,f,P,Q,R,E⟩ S (z.1.map bF) (d.len f) z.2) (λz=>z.2<=xs.length/\z.1.length=z.2) λz=>xs.length-z.2,_,⟨([],0),⟨aCu _,rfl⟩,rfl,az5⟩,?_⟩;rintro _ _ ⟨⟨H,i⟩,⟨Y,w⟩,rfl,rfl⟩;dsimp only at Y w⊢;by_cases o:i<xs.length
 .have t2:d.aB .lss (Int.ofNat i) (Int.ofNat (d.len f))=true:=by simp_all[aH]
  have t3:=cH ae (g2 i o);have qd:i<c.length:=az6;obtain⟨g,A⟩:∃g,g=c[i]:=⟨_,rfl⟩;have t4:=cH ae (g1 i qd);rw[<-A]at t4;clear A;have t5:=b9 ae (n:=i) az6;obtain⟨t,e,aj⟩:=f1 xs[i] (aCC o);clear f1;have t8:=Nw ae H g t;have jP:=rS (a:=(g,t)) w;have Z:(H.map bF).length=i:=az8;generalize r:(H++[(g,t)])=v at*;generalize V:v.map bF=qG at*;generalize H.map bF=H1 at*;generalize xs[i].bQ=y at*;refine ak ?_;repeat' (split<;>refine ak ?_)
  all_goals first|exact k _ _ ⟨[],_,rfl,az5⟩|(subst V;exact fixF (v,i+1) ⟨o,jP⟩)
 .have t2:d.aB .lss (Int.ofNat i) (Int.ofNat (d.len f))=false:=by simp_all[aH]
  obtain⟨m,Z,aC⟩:=aq4 H az6;obtain⟨b,aX⟩:=aqX m 0 az6;generalize r:H.map bF=H1 at*;generalize m.map int=M at*;refine ak ?_;repeat' (split<;>refine ak ?_)
  all_goals first|exact k _ _ ⟨[],_,rfl,az5⟩|exact k _ _ ⟨H,_,by rw[r],az5⟩
def arp(c:dO)(S H:List D)(n i:Nat):ag:=lZ [(1,.d (.list 2 S)),(2,.dw 2 0),(6,.own 2 H),(16,.d (.list 1 c.ns)),(17,.d (int (Int.ofNat n))),(18,.d (int (Int.ofNat i)))] [(2,c.v)] []
def arq(S H A:List D)(n i:Nat):ag:=cA [(1,.d (.list 2 S)),(6,.own 2 H),(39,.d (.list 3 A)),(40,.d (int (Int.ofNat n))),(41,.d (int (Int.ofNat i)))] []
theorem ars(p:dO)(c:List ax)(aw:List (ax×ax×ax))(E:p.ns=c.map .str)(F:p.aw=aw.map eK)(hZ:c.length<=1073741824)(z6:aw.length<=1073741824)(l:List (ax×Int))(B:l.length<=1073741824):
  ∃(L:List (ax×Int)) (e:Int),aL 248 [.d (.agg p.cs),.d (.list 2 (l.map bF))] [] (.tuple [.d (.list 2 (L.map bF)),.d (int e)]) []:=by
 refine wC ?_;have f1:=λai=>Bd l ai B;have f2:=λx=>aq5 x l B;have g0:∀i (h:i<l.length),(l.map bF)[i]?=some (bF l[i]):=λi h=>cY h;have g1:∀i (h:i<c.length),(c.map D.str)[i]?=some (.str c[i]):=λi h=>cY h;have g2:∀i (h:i<aw.length),(aw.map eK)[i]?=some (eK aw[i]):=λi h=>cY h;have yJ:(l.map bF).length=l.length:=aCv _;have aB:(c.map D.str).length=c.length:=aCv _;have ve:(aw.map eK).length=aw.length:=aCv _;generalize c.map D.str=N at*;generalize aw.map eK=X at*;generalize l.map bF=S at*;obtain⟨c1,c2,c3,Q,R,Y,K,eQ,U,V,r,P,Z,j,eF,M⟩:=p;dsimp only at E F⊢;subst E F;refine XR.cn _ λd ae ar u=> ?_;refine ak ?_;refine⟨bX (λz:List (ax×Int)×Nat=>arp ⟨c1,c2,c3,Q,R,Y,K,eQ,U,V,r,P,Z,j,eF,M⟩ S (z.1.map bF) (d.len r) z.2) (λz=>z.2<=c.length/\z.1.length=z.2) λz=>c.length-z.2,_,⟨([],0),⟨aCu _,rfl⟩,rfl,az5⟩,?_⟩;rintro _ _ ⟨⟨H,i⟩,⟨s,o⟩,rfl,rfl⟩;dsimp only at s o⊢;by_cases f:i<c.length
 .have t2:d.aB .lss (Int.ofNat i) (Int.ofNat (d.len r))=true:=by simp only[aH ae,aCy,aCA];omega
  have t4:=cH ae (g1 i f);have t5:=b9 ae (n:=i) az6;obtain⟨k,ok,G,-,aj⟩:=f1 c[i];clear f1 f2;generalize c[i]=nm at*;cases ok with
  |false=>
   generalize H.map bF=H1 at*;refine ak ?_;exact u _ _ ⟨[],_,rfl,az5⟩
  |true=>
   obtain⟨k,ov,rfl,-⟩:=G rfl;have t6:=cH ae (g0 k ov);obtain⟨cb,A⟩:∃y,y=l[k].1:=⟨_,rfl⟩;obtain⟨cp,w⟩:∃y,y=l[k].2:=⟨_,rfl⟩;unfold bF at t6;rw[<-A,<-w]at t6;clear A w;have t8:=Nw ae H cb cp;have J:=rS (a:=(cb,cp)) o;have hm:(H.map bF).length=i:=az8;generalize g:(H++[(cb,cp)])=m at*;generalize v:m.map bF=qG at*;generalize H.map bF=H1 at*;clear G;refine ak ?_
   (subst v;exact fixF (m,i+1) ⟨f,J⟩)
 .have t2:d.aB .lss (Int.ofNat i) (Int.ofNat (d.len r))=false:=by simp only[aH ae,aCy,aCE];omega
  have au:H.length<=c.length:=az6;generalize g:H.map bF=H1 at*;refine ak ?_;subst g;clear o s f t2;refine⟨bX (λz:List (ax×Int)×Nat=>arq S (z.1.map bF) j (d.len j) z.2) (λz=>z.2<=aw.length/\z.1.length<=c.length+z.2) λz=>aw.length-z.2,_,⟨(H,0),⟨aCu _,au⟩,rfl,az5⟩,?_⟩;clear au;rintro _ _ ⟨⟨H,i⟩,⟨s,o⟩,rfl,rfl⟩;dsimp only at s o⊢;by_cases f:i<aw.length
  .have t2:d.aB .lss (Int.ofNat i) (Int.ofNat (d.len j))=true:=by simp only[aH ae,aCy,aCA];omega
   have t4:=cH ae (g2 i f);have t5:=b9 ae (n:=i) az6;obtain⟨t,e,aj⟩:=f2 aw[i];clear f1 f2;unfold eK at*;obtain⟨y,C⟩:∃y,y=aw[i]:=⟨_,rfl⟩;rw[<-C]at t4 aj;clear C;obtain⟨cb,cp,cy⟩:=y;dsimp only at t4 aj;have t8:=Nw ae H cy t;have J:=rS (a:=(cy,t)) (rfl:H.length=_);have hm:(H.map bF).length=H.length:=aCv _;generalize g:(H++[(cy,t)])=m at*;generalize v:m.map bF=qG at*;generalize H.map bF=H1 at*;refine ak ?_;repeat' (split<;>refine ak ?_)
   all_goals first|exact u _ _ ⟨[],_,rfl,az5⟩|(subst v;exact fixF (m,i+1) ⟨f,az9⟩)
  .have t2:d.aB .lss (Int.ofNat i) (Int.ofNat (d.len j))=false:=by simp only[aH ae,aCy,aCE];omega
   generalize g:H.map bF=H1 at*;refine ak ?_;exact u _ _ ⟨H,_,by rw[g],az5⟩
def art:Prop:=∀n:Nat,n<=1048576->aL 289 [.own 2 [],.d (int (Int.ofNat n))] [] (.gH 2) []
theorem HF:art:=λ_ a=>anc He an6 a
def HG(A B:List D)(s:Int)(i:Nat):ag:=cA [(0,.d (.list 1 [.list 2 A,.list 2 B])),(3,.d (int s)),(9,.d (.list 1 [.list 2 A,.list 2 B])),(10,.d (int 2)),(11,.d (int (Int.ofNat i)))] []
def HI(A B:List D)(v:ah)(i:Nat):ag:=cA [(6,v),(25,.d (.list 1 [.list 2 A,.list 2 B])),(26,.d (int 2)),(27,.d (int (Int.ofNat i)))] []
def wO{a:Type}(x y z:a):Nat->a
 |0=>x
 |1=>y
 |_=>z
theorem aru(x y:D)(A B:List D)(r:A.length<=1000)(o:B.length<=1000):aL 246 [.d (.list 1 [.list 2 [],.list 2 []])] [] (.d (.list 2 ([]++[]))) []:=by
 obtain⟨a,j⟩:∃a,[].length=a:=⟨_,rfl⟩;obtain⟨b,au⟩:∃b,[].length=b:=⟨_,rfl⟩;have s:a<=1001:=az9;have p:b<=1001:=az6;obtain⟨c,g⟩:∃c,c=a+b:=⟨_,rfl⟩;have aj:=HF c az6;refine Dw.ct λd ae Q f=> ?_;have fw:d.len [.list 2 [],.list 2 []]=2:=aAa;have eY:d.get [.list 2 [],.list 2 []] (Int.ofNat 0)=.list 2 []:=aAK;have fa:d.get [.list 2 [],.list 2 []] (Int.ofNat 1)=.list 2 []:=aAa;have jX:d.len []=a:=aAa;have m:d.len []=b:=by simp only[aH ae];exact au
 have fG:d.io .add .i64 0 (Int.ofNat (d.len []))=Int.ofNat a:=aBp;have g':d.io .add .i64 (Int.ofNat a) (Int.ofNat (d.len []))=Int.ofNat c:=az9;clear jX m;have lb:∀k:Nat,d.aB .lss (Int.ofNat k) 0=false:=λk=>aAa;have hD:d.aB .lss (Int.ofNat 0) 2=true:=aAd;have u8:d.aB .lss (Int.ofNat 1) 2=true:=aAa;have lC:d.aB .lss (Int.ofNat 2) 2=false:=aAa;have pv:=b9 ae (n:=0) az6;have tg:=b9 ae (n:=1) az6;clear j au g;refine ak ?_;refine⟨bX (λi=>HG [] [] (wO 0 (Int.ofNat a) (Int.ofNat c) i) i) (λi=>i<=2) (λi=>2-i),_,⟨0,az6,rfl,az5⟩,?_⟩;rintro _ _ ⟨i,l,rfl,rfl⟩;have av:i=0\/i=1\/i=2:=az6;rcases av with rfl|rfl|rfl
 .refine ak ?_;exact ea 1 az6 az' az5
 .refine ak ?_;exact ea 2 az6 az' az5
 .refine ak ?_;refine⟨bX (λi=>HI [] [] (wO (.gH 2) (.gH 2) (.gH 2) i) i) (λi=>i<=2) (λi=>2-i),_,⟨0,az6,rfl,az5⟩,?_⟩;rintro _ _ ⟨i,l,rfl,rfl⟩;have av:i=0\/i=1\/i=2:=az6;rcases av with rfl|rfl|rfl
  .refine ak ?_;exact ea 1 az6 az' az5
  .refine ak ?_;exact ea 2 az6 az' az5
  .refine ak ?_
   (subst ae;exact bS f az7 az5)
theorem arv(x y:D)(A B:List D)(r:A.length<=1000)(o:B.length<=1000):aL 246 [.d (.list 1 [.list 2 [],.list 2 (y::B)])] [] (.d (.list 2 ([]++(y::B)))) []:=by
 obtain⟨a,f⟩:∃a,[].length=a:=⟨_,rfl⟩;obtain⟨b,au⟩:∃b,(y::B).length=b:=⟨_,rfl⟩;have s:a<=1001:=az9;have p:b<=1001:=az9;obtain⟨c,j⟩:∃c,c=a+b:=⟨_,rfl⟩;have aj:=HF c az6;refine Dw.ct λd ae Q g=> ?_;have fw:d.len [.list 2 [],.list 2 (y::B)]=2:=aAa;have eY:d.get [.list 2 [],.list 2 (y::B)] (Int.ofNat 0)=.list 2 []:=aAK;have fa:d.get [.list 2 [],.list 2 (y::B)] (Int.ofNat 1)=.list 2 (y::B):=aAa;have jX:d.len []=a:=by simp only[aH ae];exact f
 have m:d.len (y::B)=b:=aAa;have fG:d.io .add .i64 0 (Int.ofNat (d.len []))=Int.ofNat a:=aBp;have g':d.io .add .i64 (Int.ofNat a) (Int.ofNat (d.len (y::B)))=Int.ofNat c:=by
  grind[mE]
 clear jX m;have lb:∀k:Nat,d.aB .lss (Int.ofNat k) 0=false:=λk=>aAa;have hD:d.aB .lss (Int.ofNat 0) 2=true:=aAd;have u8:d.aB .lss (Int.ofNat 1) 2=true:=aAa;have lC:d.aB .lss (Int.ofNat 2) 2=false:=aAa;have pv:=b9 ae (n:=0) az6;have tg:=b9 ae (n:=1) az6;clear f au j;refine ak ?_;refine⟨bX (λi=>HG [] (y::B) (wO 0 (Int.ofNat a) (Int.ofNat c) i) i) (λi=>i<=2) (λi=>2-i),_,⟨0,az6,rfl,az5⟩,?_⟩;rintro _ _ ⟨i,l,rfl,rfl⟩;have av:i=0\/i=1\/i=2:=az6;rcases av with rfl|rfl|rfl
 .refine ak ?_;exact ea 1 az6 az' az5
 .refine ak ?_;exact ea 2 az6 az' az5
 .refine ak ?_;refine⟨bX (λi=>HI [] (y::B) (wO (.gH 2) (.gH 2) (.own 2 (y::B)) i) i) (λi=>i<=2) (λi=>2-i),_,⟨0,az6,rfl,az5⟩,?_⟩;rintro _ _ ⟨i,l,rfl,rfl⟩;have av:i=0\/i=1\/i=2:=az6;rcases av with rfl|rfl|rfl
  .refine ak ?_;exact ea 1 az6 az' az5
  .refine ak ?_;exact ea 2 az6 az' az5
  .refine ak ?_
   (subst ae;exact bS g az7 az5)
theorem arw(x y:D)(A B:List D)(r:A.length<=1000)(o:B.length<=1000):aL 246 [.d (.list 1 [.list 2 (x::A),.list 2 []])] [] (.d (.list 2 ((x::A)++[]))) []:=by
 obtain⟨a,j⟩:∃a,(x::A).length=a:=⟨_,rfl⟩;obtain⟨b,au⟩:∃b,[].length=b:=⟨_,rfl⟩;have s:a<=1001:=az9;have p:b<=1001:=az9;obtain⟨c,g⟩:∃c,c=a+b:=⟨_,rfl⟩;have aj:=HF c az6;refine Dw.ct λd ae Q f=> ?_;have fw:d.len [.list 2 (x::A),.list 2 []]=2:=aAa;have eY:d.get [.list 2 (x::A),.list 2 []] (Int.ofNat 0)=.list 2 (x::A):=aAK;have fa:d.get [.list 2 (x::A),.list 2 []] (Int.ofNat 1)=.list 2 []:=aAa;have jX:d.len (x::A)=a:=aAa;have m:d.len []=b:=by simp only[aH ae];exact au
 have fG:d.io .add .i64 0 (Int.ofNat (d.len (x::A)))=Int.ofNat a:=aBp;have g':d.io .add .i64 (Int.ofNat a) (Int.ofNat (d.len []))=Int.ofNat c:=by
  grind[mE]
 clear jX m;have lb:∀k:Nat,d.aB .lss (Int.ofNat k) 0=false:=λk=>aAa;have hD:d.aB .lss (Int.ofNat 0) 2=true:=aAd;have u8:d.aB .lss (Int.ofNat 1) 2=true:=aAa;have lC:d.aB .lss (Int.ofNat 2) 2=false:=aAa;have pv:=b9 ae (n:=0) az6;have tg:=b9 ae (n:=1) az6;clear j au g;refine ak ?_;refine⟨bX (λi=>HG (x::A) [] (wO 0 (Int.ofNat a) (Int.ofNat c) i) i) (λi=>i<=2) (λi=>2-i),_,⟨0,az6,rfl,az5⟩,?_⟩;rintro _ _ ⟨i,l,rfl,rfl⟩;have av:i=0\/i=1\/i=2:=az6;rcases av with rfl|rfl|rfl
 .refine ak ?_;exact ea 1 az6 az' az5
 .refine ak ?_;exact ea 2 az6 az' az5
 .refine ak ?_;refine⟨bX (λi=>HI (x::A) [] (wO (.gH 2) (.own 2 (x::A)) (.own 2 (d.app (x::A) [])) i) i) (λi=>i<=2) (λi=>2-i),_,⟨0,az6,rfl,az5⟩,?_⟩;rintro _ _ ⟨i,l,rfl,rfl⟩;have av:i=0\/i=1\/i=2:=az6;rcases av with rfl|rfl|rfl
  .refine ak ?_;exact ea 1 az6 az' az5
  .refine ak ?_;exact ea 2 az6 az' az5
  .refine ak ?_
   (subst ae;exact bS f az5 az5)
theorem arx(x y:D)(A B:List D)(r:A.length<=1000)(o:B.length<=1000):aL 246 [.d (.list 1 [.list 2 (x::A),.list 2 (y::B)])] [] (.d (.list 2 ((x::A)++(y::B)))) []:=by
 obtain⟨a,j⟩:∃a,(x::A).length=a:=⟨_,rfl⟩;obtain⟨b,au⟩:∃b,(y::B).length=b:=⟨_,rfl⟩;have s:a<=1001:=az9;have p:b<=1001:=az9;obtain⟨c,g⟩:∃c,c=a+b:=⟨_,rfl⟩;have aj:=HF c az6;refine Dw.ct λd ae Q f=> ?_;have fw:d.len [.list 2 (x::A),.list 2 (y::B)]=2:=aAa;have eY:d.get [.list 2 (x::A),.list 2 (y::B)] (Int.ofNat 0)=.list 2 (x::A):=aAa;have fa:d.get [.list 2 (x::A),.list 2 (y::B)] (Int.ofNat 1)=.list 2 (y::B):=aAa;have jX:d.len (x::A)=a:=aAa;have m:d.len (y::B)=b:=aAa;have fG:d.io .add .i64 0 (Int.ofNat (d.len (x::A)))=Int.ofNat a:=aBp;have g':d.io .add .i64 (Int.ofNat a) (Int.ofNat (d.len (y::B)))=Int.ofNat c:=by
  grind[mE]
 clear jX m;have lb:∀k:Nat,d.aB .lss (Int.ofNat k) 0=false:=λk=>aAa;have hD:d.aB .lss (Int.ofNat 0) 2=true:=aAa;have u8:d.aB .lss (Int.ofNat 1) 2=true:=aAa;have lC:d.aB .lss (Int.ofNat 2) 2=false:=aAa;have pv:=b9 ae (n:=0) az6;have tg:=b9 ae (n:=1) az6;clear j au g;refine ak ?_;refine⟨bX (λi=>HG (x::A) (y::B) (wO 0 (Int.ofNat a) (Int.ofNat c) i) i) (λi=>i<=2) (λi=>2-i),_,⟨0,az6,rfl,az5⟩,?_⟩;rintro _ _ ⟨i,l,rfl,rfl⟩;have av:i=0\/i=1\/i=2:=az6;rcases av with rfl|rfl|rfl
 .refine ak ?_;exact ea 1 az6 az' az5
 .refine ak ?_;exact ea 2 az6 az' az5
 .refine ak ?_;refine⟨bX (λi=>HI (x::A) (y::B) (wO (.gH 2) (.own 2 (x::A)) (.own 2 (d.app (x::A) (y::B))) i) i) (λi=>i<=2) (λi=>2-i),_,⟨0,az6,rfl,az5⟩,?_⟩;rintro _ _ ⟨i,l,rfl,rfl⟩;have av:i=0\/i=1\/i=2:=az6;rcases av with rfl|rfl|rfl
  .refine ak ?_;exact ea 1 az6 az' az5
  .refine ak ?_;exact ea 2 az6 az' az5
  .refine ak ?_
   (subst ae;exact bS f az5 az5)
theorem ary(A B:List D)(a:A.length<=1000)(d:B.length<=1000):aL 246 [.d (.list 1 [.list 2 A,.list 2 B])] [] (.d (.list 2 (A++B))) []:=by
 cases A with
 |nil=>cases B with
  |nil=>exact aru .dJ .dJ [] [] az' az'
  |cons y B=>exact arv .dJ y [] B az' az9
 |cons x A=>
  have c:A.length+1<=1000:=a;cases B with
  |nil=>exact arw x .dJ A [] az6 az'
  |cons y B=>grind[arx]
theorem arz(l m:List (ax×Int))(a:l.length<=1073741824):∃b:Bool,aL 137 [.d (.list 2 (l.map bF)),.d (.list 2 (m.map bF))] [] (.d (.bool b)) []:=by
 refine hb ?_;obtain⟨b,-,aj⟩:=adr l m a;generalize l.map bF=L at*;generalize m.map bF=M at*;refine L7.cn _ λd ae K c=> ?_;refine ak ?_;exact c _ _ ⟨_,rfl,az5⟩
theorem arA(x:bj)(J:x.w<=dr)(a:List (ax×Int))(rest:List D)(bn:a.length<=16)
  (s:(x.k=4\/x.k=5\/x.k=7)->∃b:List (ax×Int),b.length<=16/\rest=[.list 2 (b.map bF)]):
  ∃(R:List (ax×Int)) (e:Int),aL 205 [.d (.agg x.bz.cs),.d (.list 1 (.list 2 (a.map bF)::rest))] [] (.tuple [.d (.list 2 (R.map bF)),.d (int e)]) []:=by
 refine wC ?_;obtain⟨k,n,l,⟨ch,d,f,g,j,m,cl⟩,ns,c,on,aw,ob,p⟩:=x;have Y:500+n.length+bj.ws l+(aD.mk ch d f g j m cl).w+fl ns+aD.ws c+j0 on+j1 aw+j2 ob<=dr:=J;have w1:ns.length<=fl ns:=ko _ _;have b5:on.length<=j0 on:=ko _ _;have V:aw.length<=j1 aw:=ko _ _;have Z:ob.length<=j2 ob:=ko _ _;have ni:=D2 c;have wc:dr=1000000000:=rfl;obtain⟨fw,v1,Q⟩:=adH (aD.mk ch d f g j m cl) az6 a;obtain⟨E,v2,M⟩:=aro (bj.mk k n l (aD.mk ch d f g j m cl) ns c on aw ob p).bz ns c rfl (aD.kn c) az6 (λx P=>by have:=u' P;omega) a;obtain⟨z,v3,N⟩:=ars (bj.mk k n l (aD.mk ch d f g j m cl) ns c on aw ob p).bz ns aw rfl rfl az6 az6 a az6;obtain⟨v5,S⟩:=arl (bj.mk k n l (aD.mk ch d f g j m cl) ns c on aw ob p).bz ob rfl az6 a az6;have t:=λ(b:List (ax×Int)) (au:b.length<=16)=>ari (bj.mk k n l (aD.mk ch d f g j m cl) ns c on aw ob p).bz on rfl az6 a b az6 az6;have v:=λ(b:List (ax×Int))=>arz a b az6;have w:=λ(b:List (ax×Int)) (au:b.length<=16)=>ary (a.map bF) (b.map bF) az9 az9;have u:∀b:List (ax×Int),a.map bF++b.map bF=(a++b).map bF:=λb=>(aCR).symm;change bD _ _ _ [.d (.agg (j3.cs ⟨ch,d,f,g,j,m,aD.ds cl⟩)),_] _ _ _ at Q;change bD _ _ _ [.d (.agg (dO.cs ⟨k,n,bj.ds l,ch,d,f,g,j,m,aD.ds cl,ns.map .str,aD.ds c,on.map fm,aw.map eK,ob.map fp,p⟩)),_] _ _ _ at M N S;change ∀(b:List (ax×Int)),b.length<=16->∃e:Int,bD _ _ _ [.d (.agg (dO.cs ⟨k,n,bj.ds l,ch,d,f,g,j,m,aD.ds cl,ns.map .str,aD.ds c,on.map fm,aw.map eK,ob.map fp,p⟩)),_,_] _ _ _ at t;change ∃aB s',_/\bD _ _ _ [.d (.agg (dO.cs ⟨k,n,bj.ds l,ch,d,f,g,j,m,aD.ds cl,ns.map .str,aD.ds c,on.map fm,aw.map eK,ob.map fp,p⟩)),_] _ _ _;change (k=4\/k=5\/k=7)->_ at s;clear J Y w1 b5 V Z ni wc;generalize bj.ds l=bP at*;generalize aD.ds cl=bZ at*;generalize ns.map D.str=cx at*;generalize aD.ds c=nS at*;generalize on.map fm=xS at*;generalize aw.map eK=uy at*;generalize ob.map fp=L2 at*;generalize H:a.map bF=A at*;generalize K:E.map bF=lg at*;generalize F:z.map bF=ay at*;refine Y'.cn _ λr ae ar o=> ?_;have G:r.get (.list 2 A::rest) 0=.list 2 A:=aAK;by_cases X:k=4\/k=5\/k=7
 .obtain⟨b,au,rfl⟩:=s X;obtain⟨v4,bR⟩:=t b au;obtain⟨v6,dR⟩:=v b;have wN:=w b au;have u:=u b;clear t v w s;generalize b.map bF=B at*;generalize hC:A++B=C at*;have U:r.get [.list 2 A,.list 2 B] 1=.list 2 B:=aAa;conv=>cbv
  repeat' ((first|refine dD ?_|refine dE ?_|simp -proj only[G,U]|(split<;>(rename_i h;try simp only[h])))<;>conv=>cbv)
  all_goals first|exact o _ _ ⟨a,_,by rw[H],az5⟩|exact o _ _ ⟨E,_,by rw[K],az5⟩|exact o _ _ ⟨z,_,by rw[F],az5⟩|exact o _ _ ⟨a++b,_,by rw[<-u],az5⟩|exact o _ _ ⟨[],_,rfl,az5⟩
 .clear t v w u s;have ow:r.aB .eql k 4=false:=aAa;have ri:r.aB .eql k 5=false:=aAa;have L:r.aB .eql k 7=false:=aAa;conv=>cbv
  repeat' ((first|refine dD ?_|refine dE ?_|simp -proj only[G,ow,ri,L]|(split<;>(rename_i h;try simp only[h])))<;>conv=>cbv)
  all_goals first|exact o _ _ ⟨a,_,by rw[H],az5⟩|exact o _ _ ⟨E,_,by rw[K],az5⟩|exact o _ _ ⟨z,_,by rw[F],az5⟩|exact o _ _ ⟨[],_,rfl,az5⟩
end Go.Proofs.YthffhbakgmemaaaGreatDoor
