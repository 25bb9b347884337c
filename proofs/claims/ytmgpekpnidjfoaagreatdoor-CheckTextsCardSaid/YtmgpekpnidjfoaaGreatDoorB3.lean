/- Part of texts_said. -/
import Derived.Test.YtmgpekpnidjfoaaGreatDoorB2
set_option maxRecDepth 100000
set_option maxHeartbeats 8000000
set_option linter.unusedSimpArgs false
set_option linter.unusedVariables false
namespace Go.Proofs.YtmgpekpnidjfoaaGreatDoor
open Go Go.aJ
attribute [local irreducible] bM
structure AI(p q:aG)(m:Nat)(ah:List (ax×ax×ax)):Prop where
 s:Step p q
 n:ah.length<=q.i+m
 w:q.e=0->j7 ah+20000*p.i<=20000*q.i
structure sc(p q:aG)(m:Nat)(ob:List (ax×Bool)):Prop where
 s:Step p q
 n:ob.length<=q.i+m
 w:q.e=0->j8 ob+20000*p.i<=20000*q.i
theorem AI.one{p q r:aG}{ah:List (ax×ax×ax)}{z:ax×ax×ax}(h:AI p q 0 ah)(a:gW q r 5)(g1:z.1.length<=5)(g2:z.2.1.length<=16384)(g3:z.2.2.length<=16384):AI p r 1 (ah++[z]):=by
 have:=h.n;have:=a.s.i;refine⟨h.s.trans a.s,axv,λhe=> ?_⟩;have:=a.a he;have:=h.w (a.s.ch he);unfold j7 at this⊢;rw[qM];show _+(200+(z.1.length+z.2.1.length+z.2.2.length)+0)+_<=_;omega
theorem sc.one{p q r:aG}{ob:List (ax×Bool)}{z:ax×Bool}(h:sc p q 0 ob)(a:gW q r 1)(g1:z.1.length<=16384):sc p r 1 (ob++[z]):=by
 have:=h.n;have:=a.s.i;refine⟨h.s.trans a.s,axv,λhe=> ?_⟩;have:=a.a he;have:=h.w (a.s.ch he);unfold j8 at this⊢;rw[qM];show _+(200+z.1.length+0)+_<=_;omega
theorem AI.k7{p q:aG}{ah:List (ax×ax×ax)}(aT:q.Ok)(h:AI p q 1 ah)(hi:q.is [44]=true):AI p q.next 0 ah:=by
 have az:=aG.hY aT (aG.hI hi);have:q.next.i=q.i+1:=rfl;exact⟨h.s.trans az,by have:=h.n;omega,λhe=>by have:=h.w (az.ch he);omega⟩
theorem sc.k7{p q:aG}{ah:List (ax×Bool)}(aT:q.Ok)(h:sc p q 1 ah)(hi:q.is [44]=true):sc p q.next 0 ah:=by
 have az:=aG.hY aT (aG.hI hi);have:q.next.i=q.i+1:=rfl;exact⟨h.s.trans az,by have:=h.n;omega,λhe=>by have:=h.w (az.ch he);omega⟩
theorem anq(p:aG)(k:Int)(n c:Nat)(x:ef)(cC:Int)(hp:p.Ok):∃(q:aG) (ob:List (ax×Bool)),sc p q 1 ob/\
  aM 94 [.ptr 0 0,.func 228 [] [.ptr 1 0,.ptr 2 0]] (j9 p k n c x.v (.own 1 []) [] [] [] cC) (.tuple []) (j9 q k n c x.v (.own 1 []) [] [] (ob.map fA) cC):=by
 obtain⟨q,b,⟨_,ob,h1,rfl⟩,e⟩:=aa8 228 k n c x cC (λq a=>∃ob,sc p q 0 ob/\a=⟨[],[],ob.map fA⟩) (λq a=>∃ob,sc p q 1 ob/\a=⟨[],[],ob.map fA⟩)
  (by
   rintro q a aT ⟨ob,h1,rfl⟩;have:=h1.n;have:=aT.i;have:=aT.l;obtain⟨r,z,⟨a2,g1⟩,e⟩:=am9 q k n c x (ob.map fA) cC aT axv;exact⟨r,⟨[],[],(ob++[z]).map fA⟩,a2.s,⟨ob++[z],h1.one a2 g1,rfl⟩,ayt⟩)
  (by
   grind[sc.k7])
  p ⟨[],[],[]⟩ hp ⟨[],⟨Step.refl hp,azF _,λ_=>ax7⟩,rfl⟩
 grind
theorem anr(p:aG)(k:Int)(n c:Nat)(x:ef)(hp:p.Ok):∃(q:aG) (ah:List (ax×ax×ax)),AI p q 1 ah/\
  aM 94 [.ptr 0 0,.func 227 [] [.ptr 1 0,.ptr 2 0]] (j9 p k n c x.v (.own 1 []) [] [] [] 0) (.tuple []) (j9 q k n c x.v (.own 1 []) [] (ah.map eL) [] 0):=by
 obtain⟨q,b,⟨_,ah,h1,rfl⟩,e⟩:=aa8 227 k n c x 0 (λq a=>∃ah,AI p q 0 ah/\a=⟨[],ah.map eL,[]⟩) (λq a=>∃ah,AI p q 1 ah/\a=⟨[],ah.map eL,[]⟩)
  (by
   rintro q a aT ⟨ah,h1,rfl⟩;have:=h1.n;have:=aT.i;have:=aT.l;obtain⟨r,z,⟨a2,g1,g2,g3⟩,e⟩:=aa7 q k n c x (.own 1 []) (.inl ⟨_,rfl⟩) (ah.map eL) aT axv;exact⟨r,⟨[],(ah++[z]).map eL,[]⟩,a2.s,⟨ah++[z],h1.one a2 g1 g2 g3,rfl⟩,ayt⟩)
  (by
   grind[AI.k7])
  p ⟨[],[],[]⟩ hp ⟨[],⟨Step.refl hp,azF _,λ_=>ax7⟩,rfl⟩
 grind
theorem ans(p:aG)(k:Int)(n c:Nat)(x:ef)(l:List D)(hp:p.Ok):∃(q:aG) (ah:List (ax×ax×ax)),AI p q 1 ah/\
  aM 94 [.ptr 0 0,.func 227 [] [.ptr 1 0,.ptr 2 0]] (j9 p k n c x.v (.d (.list 1 l)) [] [] [] 0) (.tuple []) (j9 q k n c x.v (.d (.list 1 l)) [] (ah.map eL) [] 0):=by
 obtain⟨q,b,⟨_,ah,h1,rfl⟩,e⟩:=anf 227 k n c x l 0 (λq a=>∃ah,AI p q 0 ah/\a=⟨[],ah.map eL,[]⟩) (λq a=>∃ah,AI p q 1 ah/\a=⟨[],ah.map eL,[]⟩)
  (by
   rintro q a aT ⟨ah,h1,rfl⟩;have:=h1.n;have:=aT.i;have:=aT.l;obtain⟨r,z,⟨a2,g1,g2,g3⟩,e⟩:=aa7 q k n c x (.d (.list 1 l)) (.inr ⟨_,rfl⟩) (ah.map eL) aT axv;exact⟨r,⟨[],(ah++[z]).map eL,[]⟩,a2.s,⟨ah++[z],h1.one a2 g1 g2 g3,rfl⟩,ayt⟩)
  (by
   grind[AI.k7])
  p ⟨[],[],[]⟩ hp ⟨[],⟨Step.refl hp,azF _,λ_=>ax7⟩,rfl⟩
 grind
def F3(q:aG)(k:Int)(x:ef)(ns:ag)(ah ob:List D)(cC:Int):aV:=[q.ob,.box (xk k (.aS 2 0 1 1 16) ns [] [] ah ob cC),.box x.v]
theorem ant(p:aG)(k:Int)(x:ef)(hp:p.Ok):∃(q:aG) (ob:List (ax×Bool)) (cC:Int),(Step p q/\dF cC/\(q.e=0->j8 ob+20000*p.i<=20000*q.i))/\
  aM 194 [.ptr 0 0,.ptr 1 0] (F3 p k x (.own 1 []) [] [] 0) (.tuple []) (F3 q k x (.own 1 []) [] (ob.map fA) cC):=by
 have bh:=nh (k:=2) hp axs;have g1:=(aG.Cx (k:=2) hp).2;have aj:=Lw p 2 hp;generalize p.ie 2=q1 at aj bh;generalize p.jb 2=t at aj g1;obtain⟨hb,lz,tn,gX⟩:=t;have aj:aM 101 [.ptr 0 0,.d (int 2)] [p.ob] (.d (.agg [int hb,.str lz,int tn,int gX])) [q1.ob]:=aj;cases aL:q1.is [98,121]with
 |false=>
  have aD:=mJ bh.ok aL;refine⟨q1,[],tn,⟨bh.s,g1,λ_=>by have:=bh.s.i;show 0+_<=_;omega⟩,?_⟩;refine KS.cw λad ae Q a8=> ?_;refine ai ?_;all_goals (subst ae;exact b5 a8 axt axr)
 |true=>
  have aD:=mI bh.ok aL;have a2:=aa5 bh.ok aL;generalize q1.next=bK at aD a2;obtain⟨cI,ob,av,aW⟩:=anq bK k 1 1 x tn a2.ok;refine⟨cI,ob,tn,⟨(bh.s.trans a2.s).trans av.s,g1,λhe=>by have:=av.w he;have:=bh.s.i;have:=a2.s.i;omega⟩,?_⟩;generalize ob.map fA=L at aW;refine KS.cw λad ae Q a8=> ?_;refine ai ?_;all_goals (subst ae;exact b5 a8 axt axr)
theorem anu(p:aG)(k:Int)(x:ef)(hp:p.Ok):∃(q:aG) (nv:ag) (ns:List ax) (ah:List (ax×ax×ax)),(Step p q/\(nv=.own 1 []/\ns=[]\/nv=.d (fF ns))/\(q.e=0->fH ns+j7 ah+20000*p.i<=20000*q.i))/\
  aM 193 [.ptr 0 0,.ptr 1 0] (F3 p k x (.own 1 []) [] [] 0) (.tuple []) (F3 q k x nv (ah.map eL) [] 0):=by
 have aj:=Cw p [58] hp;cases aL:p.is [58]with
 |true=>
  rw[aL]at aj;have a2:=lZ (s:=[58]) hp;have aD:=jL p [58] hp;generalize p.want [58]=bK at aD a2;have aW:=zx bK a2.ok;generalize bK.ei=t at aW;obtain⟨hb,lz,tn,gX⟩:=t;have aW:aM 158 [.ptr 0 0] [bK.ob] (.d (.agg [int hb,.str lz,int tn,int gX])) [bK.ob]:=aW;by_cases au:hb=1
  .obtain⟨cI,ah,av,bQ⟩:=anr bK k 1 1 x a2.ok;refine⟨cI,_,[],ah,⟨a2.s.trans av.s,.inl ⟨rfl,rfl⟩,λhe=>by have:=av.w he;have:=a2.s.i;show 0+_+_<=_;omega⟩,?_⟩;generalize ah.map eL=L at bQ;refine Cn.cw λad ae Q a8=> ?_;refine ai ?_;split
   .rename_i h;simp only[aI ae,azH,azN,az2,az8,aAF,azM]at h;exact absurd au h
   .refine ai ?_;all_goals (subst ae;exact b5 a8 axt axr)
  .refine⟨bK,_,[],[],⟨a2.s,.inl ⟨rfl,rfl⟩,λhe=>by have:=a2.s.i;show 0+0+_<=_;omega⟩,?_⟩;refine Cn.cw λad ae Q a8=> ?_;refine ai ?_;split
   .refine ai ?_;all_goals (subst ae;exact b5 a8 axt axr)
   .rename_i h;simp only[aI ae,azH,azN,az2,az8,aAF,azM]at h;exact absurd h au
 |false=>
  rw[aL]at aj;obtain⟨q1,ns,⟨s1,w1⟩,aD⟩:=aaL p hp;have a2:=lZ (s:=[58]) s1.ok;have aW:=jL q1 [58] s1.ok;generalize q1.want [58]=bK at aW a2;have bQ:=zx bK a2.ok;generalize bK.ei=t at bQ;obtain⟨hb,lz,tn,gX⟩:=t;have bQ:aM 158 [.ptr 0 0] [bK.ob] (.d (.agg [int hb,.str lz,int tn,int gX])) [bK.ob]:=bQ;unfold fF at aD;by_cases au:hb=1
  .obtain⟨cI,ah,av,cK⟩:=ans bK k 1 1 x (ns.map D.str) a2.ok;refine⟨cI,_,ns,ah,⟨(s1.trans a2.s).trans av.s,.inr rfl,λhe=>by have:=av.w he;have:=a2.s.i;have:=w1 (a2.s.ch (av.s.ch he));omega⟩,?_⟩;unfold fF;generalize ah.map eL=L at cK;generalize ns.map D.str=N at aD cK;refine Cn.cw λad ae Q a8=> ?_;refine ai ?_;split
   .rename_i h;simp only[aI ae,azH,azN,az2,az8,aAF,azM]at h;exact absurd au h
   .refine ai ?_;all_goals (subst ae;exact b5 a8 axt axr)
  .refine⟨bK,_,ns,[],⟨s1.trans a2.s,.inr rfl,λhe=>by have:=w1 (a2.s.ch he);have:=a2.s.i;show _+0+_<=_;omega⟩,?_⟩;unfold fF;generalize ns.map D.str=N at aD;refine Cn.cw λad ae Q a8=> ?_;refine ai ?_;split
   .refine ai ?_;all_goals (subst ae;exact b5 a8 axt axr)
   .rename_i h;simp only[aI ae,azH,azN,az2,az8,aAF,azM]at h;exact absurd h au
theorem e4{ad:bn}(h:ad=bn.bY):∀a b,ad.aF .eql a b=decide (a=b):=λ_ _=>axT
theorem zG(k:Int)(x:bk)(z:aA)(ns:List ax)(xs:List aA)(on:List (ax×ax))(ah:List (ax×ax×ax))(ob:List (ax×Bool))(cC:Int):(bk.mk k [] [x] z ns xs on ah ob cC).bB=⟨k,[],[.agg x.bB.cs],z.bT.k,z.bT.n,z.bT.gx,z.bT.vi,z.bT.eK,z.bT.op,z.bT.l,ns.map .str,aA.ds xs,on.map fy,ah.map eL,ob.map fA,cC⟩:=by
 show(⟨k,[],[x.d],_,_,_,_,_,_,_,_,_,_,_,_,_⟩:ef)=_;rw[bk.mK,bk.LK];rfl
theorem abe(k:Int)(x y:bk)(z:aA)(ns:List ax)(xs:List aA)(on:List (ax×ax))(ah:List (ax×ax×ax))(ob:List (ax×Bool))(cC:Int):(bk.mk k [] [x,y] z ns xs on ah ob cC).bB=⟨k,[],[.agg x.bB.cs,.agg y.bB.cs],z.bT.k,z.bT.n,z.bT.gx,z.bT.vi,z.bT.eK,z.bT.op,z.bT.l,ns.map .str,aA.ds xs,on.map fy,ah.map eL,ob.map fA,cC⟩:=by
 show(⟨k,[],[x.d,y.d],_,_,_,_,_,_,_,_,_,_,_,_,_⟩:ef)=_;rw[bk.mK,bk.mK,bk.LK,bk.LK];rfl
theorem bk.qN(k:Int)(n:ax)(l:List bk)(c:aA)(ns:List ax)(xs:List aA)(on:List (ax×ax))(ah:List (ax×ax×ax))(ob:List (ax×Bool))(cC:Int):(bk.mk k n l c ns xs on ah ob cC).w=500+n.length+bk.ws l+c.w+fH ns+aA.ws xs+j6 on+j7 ah+j8 ob:=by rw[bk.w]
theorem bk.pR(x:bk):bk.ws [x]=x.w:=by show x.w+0=_;omega
theorem bk.vb(x y:bk):bk.ws [x,y]=x.w+y.w:=by show x.w+(y.w+0)=_;omega
theorem xl:kY.w=200:=rfl
theorem vd:fH []=0/\aA.ws []=0/\j6 []=0/\j7 []=0/\j8 []=0:=⟨rfl,rfl,rfl,rfl,rfl⟩
def iR:List ax:=[[119,104,101,114,101],[107,101,101,112],[106,111,105,110],[108,101,102,116],[103,114,111,117,112],[117,110,105,111,110],[100,105,115,116,105,110,99,116],[102,105,114,115,116]]
def tM(p q:aG)(x y:bk):Prop:=Step p q/\y.good/\(q.e=0->y.w+20000*p.i<=20000*q.i+x.w)
theorem anv{p e9:aG}(x:bk)(ak:x.good)(a0:gW p e9 1)(ch:aM 53 [.ptr 0 0,.d (fF iR)] [p.ob] (.d (int ((0:Nat):Int))) [e9.ob]):
  ∃(q:aG) (y:bk),tM p q x y/\aM 157 [.ptr 0 0,.d (.agg x.bB.cs)] [p.ob] (.d (.agg y.bB.cs)) [q.ob]:=by
 refine⟨e9,.mk 0 [] [x] kY [] [] [] [] [] 0,⟨a0.s,⟨dF.zero,r9,trivial,ak,trivial⟩,λhe=> ?_⟩,?_⟩
 .have:=a0.a he;grind[bk.qN,bk.pR,xl,vd]
 rw[zG];generalize x.bB=c;refine qL.cw λad ae Q a8=> ?_;conv=>cbv
 repeat ((first|refine bG ?_|refine bH ?_|simp -proj only[e4 ae]);conv=>cbv)
 try trivial
 all_goals (subst ae;exact b5 a8 axr axr)
theorem anw{p e9:aG}(x:bk)(ak:x.good)(a0:gW p e9 1)(ch:aM 53 [.ptr 0 0,.d (fF iR)] [p.ob] (.d (int ((1:Nat):Int))) [e9.ob]):
  ∃(q:aG) (y:bk),tM p q x y/\aM 157 [.ptr 0 0,.d (.agg x.bB.cs)] [p.ob] (.d (.agg y.bB.cs)) [q.ob]:=by
 obtain⟨q,z,aQ,aj⟩:=aa4 e9 a0.ok;refine⟨q,.mk 2 [] [x] z [] [] [] [] [] 0,⟨a0.s.trans aQ.s,⟨dF.zero,aQ.g,trivial,ak,trivial⟩,λhe=> ?_⟩,?_⟩
 .have:=aQ.w he;have:=a0.a (aQ.s.ch he);grind[bk.qN,bk.pR,vd]
 rw[zG];rw[aA.aa6]at aj;generalize z.bT=avU at aj⊢;generalize x.bB=c;refine qL.cw λad ae Q a8=> ?_;conv=>cbv
 repeat ((first|refine bG ?_|refine bH ?_|simp -proj only[e4 ae]);conv=>cbv)
 try trivial
 all_goals (subst ae;exact b5 a8 axr axr)
theorem anx{p e9:aG}(x:bk)(ak:x.good)(a0:gW p e9 1)(ch:aM 53 [.ptr 0 0,.d (fF iR)] [p.ob] (.d (int ((2:Nat):Int))) [e9.ob]):
  ∃(q:aG) (y:bk),tM p q x y/\aM 157 [.ptr 0 0,.d (.agg x.bB.cs)] [p.ob] (.d (.agg y.bB.cs)) [q.ob]:=by
 obtain⟨q,a,aQ,aj⟩:=anh e9 x.bB a0.ok;refine⟨q,.mk 3 [] [x] kY a.ns a.xs [] [] [] 0,⟨a0.s.trans aQ.s,⟨dF.zero,r9,aQ.g,ak,trivial⟩,λhe=> ?_⟩,?_⟩
 .have h1:=aQ.w he;have:=a0.a (aQ.s.ch he);grind[ly.w,bk.qN,bk.pR,vd,xl]
 rw[zG];unfold ly.st at aj;generalize a.ns.map D.str=N at aj⊢;generalize aA.ds a.xs=X at aj⊢;generalize x.bB=c at aj⊢;refine qL.cw λad ae Q a8=> ?_;conv=>cbv
 repeat ((first|refine bG ?_|refine bH ?_|simp -proj only[e4 ae]);conv=>cbv)
 try trivial
 all_goals (subst ae;exact b5 a8 axr axr)
theorem anz{p e9:aG}(x:bk)(ak:x.good)(a0:gW p e9 1)(ch:aM 53 [.ptr 0 0,.d (fF iR)] [p.ob] (.d (int ((7:Nat):Int))) [e9.ob]):
  ∃(q:aG) (y:bk),tM p q x y/\aM 157 [.ptr 0 0,.d (.agg x.bB.cs)] [p.ob] (.d (.agg y.bB.cs)) [q.ob]:=by
 refine⟨e9,.mk 8 [] [x] kY [] [] [] [] [] 0,⟨a0.s,⟨dF.zero,r9,trivial,ak,trivial⟩,λhe=> ?_⟩,?_⟩
 .have:=a0.a he;grind[bk.qN,bk.pR,xl,vd]
 rw[zG];generalize x.bB=c;refine qL.cw λad ae Q a8=> ?_;conv=>cbv
 repeat ((first|refine bG ?_|refine bH ?_|simp -proj only[e4 ae]);conv=>cbv)
 try trivial
 all_goals (subst ae;exact b5 a8 axr axr)
theorem anA{p e9:aG}(x:bk)(ak:x.good)(a0:gW p e9 1)(ch:aM 53 [.ptr 0 0,.d (fF iR)] [p.ob] (.d (int ((8:Nat):Int))) [e9.ob]):
  ∃(q:aG) (y:bk),tM p q x y/\aM 157 [.ptr 0 0,.d (.agg x.bB.cs)] [p.ob] (.d (.agg y.bB.cs)) [q.ob]:=by
 obtain⟨q,ob,cC,⟨s1,g1,w1⟩,aj⟩:=ant e9 9 x.bB a0.ok;refine⟨q,.mk 9 [] [x] kY [] [] [] [] ob cC,⟨a0.s.trans s1,⟨g1,r9,trivial,ak,trivial⟩,λhe=> ?_⟩,?_⟩
 .have:=w1 he;have:=a0.a (s1.ch he);grind[bk.qN,bk.pR,vd,xl]
 rw[zG];generalize ob.map fA=N at aj⊢;generalize x.bB=c at aj⊢;refine qL.cw λad ae Q a8=> ?_;conv=>cbv
 repeat ((first|refine bG ?_|refine bH ?_|simp -proj only[e4 ae]);conv=>cbv)
 try trivial
 all_goals (subst ae;exact b5 a8 axr axr)
theorem anB{p e9:aG}(x:bk)(ak:x.good)(a0:gW p e9 1)(ch:aM 53 [.ptr 0 0,.d (fF iR)] [p.ob] (.d (int ((5:Nat):Int))) [e9.ob]):
  ∃(q:aG) (y:bk),tM p q x y/\aM 157 [.ptr 0 0,.d (.agg x.bB.cs)] [p.ob] (.d (.agg y.bB.cs)) [q.ob]:=by
 obtain⟨q,nv,ns,ah,⟨s1,az,w1⟩,aj⟩:=anu e9 6 x.bB a0.ok;refine⟨q,.mk 6 [] [x] kY ns [] [] ah [] 0,⟨a0.s.trans s1,⟨dF.zero,r9,trivial,ak,trivial⟩,λhe=> ?_⟩,?_⟩
 .have:=w1 he;have:=a0.a (s1.ch he);grind[bk.qN,bk.pR,vd,xl]
 rw[zG];generalize ah.map eL=N at aj⊢;generalize x.bB=c at aj⊢;unfold fF at az;rcases az with⟨rfl,rfl⟩|rfl
 .refine qL.cw λad ae Q a8=> ?_;conv=>cbv
  repeat ((first|refine bG ?_|refine bH ?_|simp -proj only[e4 ae]);conv=>cbv)
  try trivial
  all_goals (subst ae;exact b5 a8 axr axr)
 .generalize ns.map D.str=L at aj⊢;refine qL.cw λad ae Q a8=> ?_;conv=>cbv
  repeat ((first|refine bG ?_|refine bH ?_|simp -proj only[e4 ae]);conv=>cbv)
  try trivial
  all_goals (subst ae;exact b5 a8 axr axr)
theorem abf{d:Nat}(h:pQ 156 d){p e9:aG}(a6:e9.dR=d)(x:bk)(k:Nat)(au:k=3\/k=4)(ak:x.good)(a0:gW p e9 1)(ch:aM 53 [.ptr 0 0,.d (fF iR)] [p.ob] (.d (int (k:Int))) [e9.ob]):
  ∃(q:aG) (y:bk),tM p q x y/\aM 157 [.ptr 0 0,.d (.agg x.bB.cs)] [p.ob] (.d (.agg y.bB.cs)) [q.ob]:=by
 obtain⟨q,y,on,⟨s1,g1,w1⟩,aj⟩:=anp h e9 (k+1:Nat) x.bB a0.ok a6;refine⟨q,.mk (k+1:Nat) [] [x,y] kY [] [] on [] [] 0,⟨a0.s.trans s1,⟨dF.zero,r9,trivial,ak,g1,trivial⟩,λhe=> ?_⟩,?_⟩
 .have:=w1 he;have:=a0.a (s1.ch he);grind[bk.qN,bk.vb,vd,xl]
 rw[abe];generalize on.map fy=N at aj⊢;generalize x.bB=c at aj⊢;generalize y.bB=anC at aj⊢;rcases au with rfl|rfl
 .refine qL.cw λad ae Q a8=> ?_;conv=>cbv
  repeat ((first|refine bG ?_|refine bH ?_|simp -proj only[e4 ae]);conv=>cbv)
  try trivial
  all_goals (subst ae;exact b5 a8 axr axr)
 .refine qL.cw λad ae Q a8=> ?_;conv=>cbv
  repeat ((first|refine bG ?_|refine bH ?_|simp -proj only[e4 ae]);conv=>cbv)
  try trivial
  all_goals (subst ae;exact b5 a8 axr axr)
theorem anD{d:Nat}(h:pQ 156 d){p e9:aG}(a6:e9.dR=d)(x:bk)(ak:x.good)(a0:gW p e9 1)(ch:aM 53 [.ptr 0 0,.d (fF iR)] [p.ob] (.d (int ((6:Nat):Int))) [e9.ob]):
  ∃(q:aG) (y:bk),tM p q x y/\aM 157 [.ptr 0 0,.d (.agg x.bB.cs)] [p.ob] (.d (.agg y.bB.cs)) [q.ob]:=by
 obtain⟨q,y,h1,aj⟩:=h e9 a0.ok a6;refine⟨q,.mk 7 [] [x,y] kY [] [] [] [] [] 0,⟨a0.s.trans h1.s,⟨dF.zero,r9,trivial,ak,h1.g,trivial⟩,λhe=> ?_⟩,?_⟩
 .have:=h1.w he;have:=a0.a (h1.s.ch he);grind[bk.qN,bk.vb,vd,xl]
 rw[abe];generalize x.bB=c;generalize y.bB=anC at aj⊢;refine qL.cw λad ae Q a8=> ?_;conv=>cbv
 repeat ((first|refine bG ?_|refine bH ?_|simp -proj only[e4 ae]);conv=>cbv)
 try trivial
 all_goals (subst ae;exact b5 a8 axr axr)
theorem anE{d:Nat}(h:pQ 156 d)(p:aG)(x:bk)(hp:p.Ok)(a6:p.dR=d)(ak:x.good):
  ∃(q:aG) (y:bk),tM p q x y/\aM 157 [.ptr 0 0,.d (.agg x.bB.cs)] [p.ob] (.d (.agg y.bB.cs)) [q.ob]:=by
 obtain⟨e9,k,⟨a0,au⟩,ch⟩:=zC p iR hp axw;have vU:e9.dR=d:=by rw[a0.s.d];omega
 replace au:k<=8:=au;match k,au,ch with
 |0,_,ch=>grind[anv]
 |1,_,ch=>grind[anw]
 |2,_,ch=>grind[anx]
 |3,_,ch=>grind[abf]
 |4,_,ch=>grind[abf]
 |5,_,ch=>grind[anB]
 |6,_,ch=>grind[anD]
 |7,_,ch=>grind[anz]
 |8,_,ch=>grind[anA]
 |n+9,h,_=>omega
def anF(q:aG)(c:ef):af:=pD [(0,.ptr 0 0),(2,.dT 2 0),(3,.dT 3 0)] [(2,[.d (int 0),.d (.str []),.own 16 [],.d (int 0),.d (.str []),.d (int 0),.d (int 0),.d (.str []),.d (.str []),.own 7 [],.own 1 [],.own 7 [],.own 2 [],.own 3 [],.own 2 [],.d (int 0)]),(3,c.v)] [q.ob]
theorem abg{d:Nat}(h:pQ 156 d):pQ 100 d:=by
 intro p hp a6;suffices hh:∃r s',(∃(q:aG) (x:bk),np p q x/\r=.d (.agg x.bB.cs)/\s'=[q.ob])/\aM 100 [.ptr 0 0] [p.ob] r s' by
  grind
 obtain⟨q,x,h1,aj⟩:=h p hp a6;generalize ay:x.bB=c at aj;refine U8.cr _ λad ae K ao=> ?_;refine ai ?_;refine⟨b6 (λz:aG×ef=>anF z.1 z.2) (λz=>∃x:bk,np p z.1 x/\x.bB=z.2) λz=>z.1.l.length-z.1.i,_,⟨(q,c),⟨x,h1,ay⟩,rfl,axr⟩,?_⟩;rintro _ _ ⟨⟨q,c⟩,⟨x,h1,ay⟩,rfl,rfl⟩;dsimp only at h1 ay⊢;subst ay;have aT:=h1.s.ok;cases hi:q.is [124]with
 |false=>
  have aj:=mJ aT hi;generalize ay:x.bB=c;refine ai ?_;subst ay;exact ao _ _ ⟨q,x,h1,axr,axr⟩
 |true=>
  have dM:=aG.r8 (aG.hI hi);have az:=aG.hY aT (aG.hI hi);have aj:=mI aT hi;obtain⟨r,y,⟨s2,g2,bS⟩,aD⟩:=anE h q.next x az.ok (by rw[az.d,h1.s.d];omega) h1.g;have uS:q.next.i=q.i+1:=rfl;generalize q.next=avV at*;generalize ay:x.bB=c at*;generalize yH:y.bB=c2 at*;refine ai ?_;refine eb (r,c2) ⟨y,⟨(h1.s.trans az).trans s2,g2,λhe=>by have:=bS he;have:=h1.w (az.ch (s2.ch he));grind⟩,yH⟩ ?_ axr;have:=s2.i;show r.l.length-r.i<q.l.length-q.i;rw[s2.l,az.l];omega
theorem anG:∀(k d:Nat),32<=d+k->pQ 100 d:=by
 intro k;induction k with
 |zero=>grind[abg,abd]
 |succ k ih=>grind[abg,abd]
theorem anH(d:Nat):pQ 100 d:=anG 32 d axs
structure iV where
 a:ax
 xm:Int
 nm:Int
 b:ax
def eg(x:iV):D:=.agg [.str x.a,int x.xm,int x.nm,.str x.b]
def bD(x:ax×Int):D:=.agg [.str x.1,int x.2]
def iV.good(x:iV):Prop:=dF x.xm/\dF x.nm
def jM(l:List iV):Nat:=fM (λx=>x.a.length+x.b.length) l
def j'(l:List (ax×Int)):Nat:=fM (λx=>x.1.length) l
def anI:List ax:=[[104,111,117,114,108,121],[100,97,105,108,121],[119,101,101,107,108,121],[109,111,110,116,104,108,121],[115,116,97,116,105,99]]
theorem zH(p:aG)(k:Int)(au:k≠0)(hp:p.Ok):∃(q:aG) (hb tn gX:Int) (lz:ax),(gW p q 1/\dF tn/\lz.length<=16384)/\aM 101 [.ptr 0 0,.d (int k)] [p.ob] (.d (.agg [int hb,.str lz,int tn,int gX])) [q.ob]:=by
 have bh:=nh (k:=k) hp au;have g1:=(aG.Cx (k:=k) hp);have aj:=Lw p k hp;generalize p.jb k=t at aj g1;obtain⟨hb,lz,tn,gX⟩:=t;exact⟨_,hb,tn,gX,lz,⟨bh,g1.2,g1.1⟩,aj⟩
theorem abh{k m:Nat}(h:k<=m)(hm:m<=1000000):dF (k:Int):=by grind[dF]
theorem abj(p:aG)(hp:p.Ok):∃(q:aG) (k s1 s2:Int),(gW p q 4/\dF k/\dF s1/\dF s2)/\aM 96 [.ptr 0 0] [p.ob] (.d (.agg [int k,int s1,int s2])) [q.ob]:=by
 obtain⟨q1,k,⟨bh,au⟩,aj⟩:=zC p anI hp axw;obtain⟨bK,hb,tn,gX,lz,⟨a2,g2,_⟩,aD⟩:=zH q1 2 axs bh.ok;have a3:=lZ (s:=[46,46]) a2.ok;have aW:=jL bK [46,46] a2.ok;generalize bK.want [46,46]=cI at aW a3;obtain⟨ep,avW,un,up,ut,⟨a4,g4,_⟩,bQ⟩:=zH cI 2 axs a3.ok;refine⟨ep,k,tn,un,⟨((bh.trans a2).trans a3).trans a4,abh au axw,g2,g4⟩,?_⟩;refine U5.cw λad ae Q a8=> ?_;refine ai ?_;all_goals (subst ae;exact b5 a8 axt axr)
def anJ:List ax:=[[115,97,109,101],[108,97,115,116],[115,104,105,102,116],[119,105,116,104,105,110],[97,108,108]]
theorem avX{ad:bn}(h:ad=bn.bY)(a b:Int):dF (ad.io .sub .i64 a b):=by subst h;exact wrap_i64 _
theorem anK(p:aG)(hp:p.Ok):∃(q:aG) (k n:Int),(Step p q/\dF k/\dF n)/\aM 98 [.ptr 0 0] [p.ob] (.d (.agg [int k,int n])) [q.ob]:=by
 obtain⟨q1,k,⟨bh,au⟩,aj⟩:=zC p anJ hp axw;replace au:k<=5:=au;have F4:=abh au axw;by_cases h2:k=2
 .subst h2;obtain⟨bK,hb,tn,gX,lz,⟨a2,g2,_⟩,aD⟩:=zH q1 2 axs bh.ok;refine⟨bK,_,tn,⟨bh.s.trans a2.s,F4,g2⟩,?_⟩;refine Cl.cw λad ae Q a8=> ?_;conv=>cbv
  repeat ((first|refine bG ?_|refine bH ?_|simp -proj only[e4 ae]);conv=>cbv)
  try trivial
  all_goals (subst ae;exact b5 a8 axr axr)
 .by_cases av:k=3
  .subst av;cases aL:q1.is [45]with
   |true=>
    have aD:=mI bh.ok aL;have a2:=aa5 bh.ok aL;generalize q1.next=bK at aD a2;obtain⟨cI,hb,tn,gX,lz,⟨a3,g3,_⟩,aW⟩:=zH bK 2 axs a2.ok;refine⟨cI,_,IntKind.i64.wrap (0-tn),⟨(bh.s.trans a2.s).trans a3.s,F4,wrap_i64 _⟩,?_⟩;refine Cl.cw λad ae Q a8=> ?_;conv=>cbv
    repeat ((first|refine bG ?_|refine bH ?_|simp -proj only[e4 ae]);conv=>cbv)
    try trivial
    all_goals (subst ae;exact b5 a8 axr axr)
   |false=>
    have aD:=mJ bh.ok aL;obtain⟨cI,hb,tn,gX,lz,⟨a3,g3,_⟩,aW⟩:=zH q1 2 axs bh.ok;refine⟨cI,_,tn,⟨bh.s.trans a3.s,F4,g3⟩,?_⟩;refine Cl.cw λad ae Q a8=> ?_;conv=>cbv
    repeat ((first|refine bG ?_|refine bH ?_|simp -proj only[e4 ae]);conv=>cbv)
    try trivial
    all_goals (subst ae;exact b5 a8 axr axr)
  .refine⟨q1,k,0,⟨bh.s,F4,dF.zero⟩,?_⟩;refine Cl.cw λad ae Q a8=> ?_;have t2:ad.aF .eql (k:Int) 2=false:=axC;have t3:ad.aF .eql (k:Int) 3=false:=axC;generalize (k:Int)=k at*;refine ai ?_;all_goals (subst ae;exact b5 a8 axt axr)
def tN(k:Int)(n:ax)(bw:List D)(db s1 s2:Int)(b1:List D):List ag:=[.d (int k),.d (.str n),.own 2 bw,.d (int db),.d (int s1),.d (int s2),.own 4 b1,
 .d (int 0),.d (.str []),.own 16 [],.d (int 0),.d (.str []),.d (int 0),.d (int 0),.d (.str []),.d (.str []),.own 7 [],.own 1 [],.own 7 [],.own 2 [],.own 3 [],.own 2 [],.d (int 0),
 .d (.str []),.own 1 []]
def zI(p:aG)(c:List ag):aV:=[.box [.ptr 2 0],.box c,p.ob]
def tO(p:aG)(c:List ag):aV:=[p.ob,.box [.ptr 0 0],.box c]
structure zJ where
 bw:List D
 b1:List D
def zJ.v(a:zJ)(k:Int)(n:ax)(db s1 s2:Int):List ag:=tN k n a.bw db s1 s2 a.b1
def anL(f:Nat)(p:aG)(c:List ag):af:=cA [(0,.ptr 0 0),(1,.func f [] [.ptr 1 0,.ptr 2 0])] (tO p c)
theorem abk(f:Nat)(k:Int)(n:ax)(db s1 s2:Int)(J I:aG->zJ->Prop)
  (one:∀p a,p.Ok->J p a->∃q b,Step p q/\I q b/\aM f [.ptr 0 0,.ptr 1 0] (zI p (a.v k n db s1 s2)) (.tuple []) (zI q (b.v k n db s1 s2)))
  (next:∀p a,p.Ok->I p a->p.is [44]=true->J p.next a) (p:aG) (a:zJ) (hp:p.Ok) (aL:J p a):
  ∃q b,(Step p q/\I q b)/\aM 94 [.ptr 0 0,.func f [] [.ptr 1 0,.ptr 2 0]] (tO p (a.v k n db s1 s2)) (.tuple []) (tO q (b.v k n db s1 s2)):=by
 obtain⟨q,b,h1,h2,av⟩:=one p a hp aL;suffices h:∃r s',(∃q b,(Step p q/\I q b)/\r=.tuple []/\s'=tO q (zJ.v b k n db s1 s2))/\aM 94 [.ptr 0 0,.func f [] [.ptr 1 0,.ptr 2 0]] (tO p (a.v k n db s1 s2)) r s' by
  grind
 refine u7.cr _ λad ae K ao=> ?_;refine ai ?_;refine⟨b6 (λz:aG×zJ=>anL f z.1 (z.2.v k n db s1 s2)) (λz=>Step p z.1/\I z.1 z.2) λz=>z.1.l.length-z.1.i,_,⟨(q,b),⟨h1,h2⟩,rfl,axr⟩,?_⟩;rintro _ _ ⟨⟨q,b⟩,⟨h1,h2⟩,rfl,rfl⟩;have aT:=h1.ok;cases hi:q.is [44]with
 |false=>
  have aj:=mJ aT hi;refine ai ?_;exact ao _ _ ⟨q,b,⟨h1,h2⟩,axt,axr⟩
 |true=>
  have dM:=aG.r8 (aG.hI hi);have az:=aG.hY aT (aG.hI hi);have aj:=mI aT hi;obtain⟨q',cg,bN,cz,gM⟩:=one q.next b az.ok (next q b aT h2 hi);refine ai ?_;refine eb (q',cg) ⟨(h1.trans az).trans bN,cz⟩ ?_ axr;have:=bN.i;show q'.l.length-q'.i<q.l.length-q.i;rw[bN.l];show q.l.length-q'.i<q.l.length-q.i;have:q.next.i=q.i+1:=rfl;omega
theorem anM(p:aG)(n:ax)(bw:List D)(hp:p.Ok)(ak:bw.length<=2147483648):∃(q:aG) (z:ax×Int),(gW p q 2/\z.1.length<=16384)/\
  aM 95 [.ptr 0 0,.ptr 1 0] (zI p (tN 1 n bw 0 0 0 [])) (.tuple []) (zI q (tN 1 n (bw++[bD z]) 0 0 0 [])):=by
 have bh:=nh (k:=1) hp axs;have g1:=aG.oM (k:=1) hp;have aj:=nW p hp;generalize p.ie 1=q1 at aj bh;generalize (p.jb 1).t=t1 at aj g1;obtain⟨bK,j,⟨a2,aL⟩,aD⟩:=zC q1 [[105,110,116],[116,101,120,116]] bh.ok axw;refine⟨bK,(t1,j),⟨bh.trans a2,g1⟩,?_⟩;refine WG.cw λad ae Q a8=> ?_;refine ai ?_;all_goals (subst ae;exact b5 a8 axt axr)
theorem anN(p:aG)(n:ax)(db s1 s2:Int)(b1:List D)(hp:p.Ok)(ak:b1.length<=2147483648):∃(q:aG) (z:iV),(gW p q 3/\z.good/\z.a.length<=16384/\z.b.length<=16384)/\
  aM 97 [.ptr 0 0,.ptr 1 0] (zI p (tN 2 n [] db s1 s2 b1)) (.tuple []) (zI q (tN 2 n [] db s1 s2 (b1++[eg z]))):=by
 have bh:=nh (k:=1) hp axs;have g1:=aG.oM (k:=1) hp;have aj:=nW p hp;generalize p.ie 1=q1 at aj bh;generalize (p.jb 1).t=t1 at aj g1;obtain⟨bK,mk,p2,⟨h2,g2,g3⟩,aD⟩:=anK q1 bh.ok;have a3:=lZ (s:=[97,115]) h2.ok;have aW:=jL bK [97,115] h2.ok;generalize bK.want [97,115]=cI at aW a3;have a4:=nh (k:=1) a3.ok axs;have g4:=aG.oM (k:=1) a3.ok;have bQ:=nW cI a3.ok;generalize cI.ie 1=ep at bQ a4;generalize (cI.jb 1).t=t4 at bQ g4;refine⟨ep,⟨t1,mk,p2,t4⟩,⟨((bh.trans (.of h2)).trans a3).trans a4,⟨g2,g3⟩,g1,g4⟩,?_⟩;refine WI.cw λad ae Q a8=> ?_;refine ai ?_;all_goals (subst ae;exact b5 a8 axt axr)
structure cQ where
 k:Int
 n:ax
 bw:List (ax×Int)
 db:Int
 s1:Int
 s2:Int
 b1:List iV
 pl:bk
 fY:ax
 ms:List ax
structure kZ where
 k:Int
 n:ax
 bw:List D
 db:Int
 s1:Int
 s2:Int
 b1:List D
 pl:ef
 fY:ax
 ms:List D
def kZ.cs(c:kZ):List D:=[int c.k,.str c.n,.list 2 c.bw,int c.db,int c.s1,int c.s2,.list 4 c.b1,
 int c.pl.k,.str c.pl.n,.list 16 c.pl.a,int c.pl.cN,.str c.pl.lk,int c.pl.ni,int c.pl.nj,.str c.pl.nk,.str c.pl.nn,.list 7 c.pl.dH,.list 1 c.pl.ns,.list 7 c.pl.xs,.list 2 c.pl.on,.list 3 c.pl.ah,.list 2 c.pl.ob,int c.pl.cC,
 .str c.fY,.list 1 c.ms]
def cQ.d'(x:cQ):kZ:=⟨x.k,x.n,x.bw.map bD,x.db,x.s1,x.s2,x.b1.map eg,x.pl.bB,x.fY,x.ms.map .str⟩
def cQ.d(x:cQ):D:=.agg x.d'.cs
structure cQ.Good(x:cQ):Prop where
 k:0<=x.k/\x.k<=3
 db:dF x.db
 s1:dF x.s1
 s2:dF x.s2
 b1:∀z∈x.b1,z.good
 pl:x.pl.good
def cQ.w(x:cQ):Nat:=1000+x.n.length+j' x.bw+jM x.b1+x.pl.w+x.fY.length+fH x.ms
structure xn(p q:aG)(x:cQ):Prop where
 s:Step p q
 g:x.Good
 w:q.e=0->x.w+20000*p.i<=20000*q.i
theorem F5(n:Nat)(h:n<=3):(0:Int)<=(n:Int)/\(n:Int)<=3:=axs
theorem avY:r'.w=700:=rfl
structure LO(p q:aG)(m:Nat)(l:List (ax×Int)):Prop where
 s:Step p q
 n:l.length<=q.i+m
 w:q.e=0->j' l+20000*p.i<=20000*q.i
structure F6(p q:aG)(m:Nat)(l:List iV):Prop where
 s:Step p q
 n:l.length<=q.i+m
 g:∀z∈l,z.good
 w:q.e=0->jM l+20000*p.i<=20000*q.i
theorem anO(p:aG)(n:ax)(hp:p.Ok):∃(q:aG) (bw:List (ax×Int)),LO p q 1 bw/\
  aM 94 [.ptr 0 0,.func 95 [] [.ptr 1 0,.ptr 2 0]] (tO p (tN 1 n [] 0 0 0 [])) (.tuple []) (tO q (tN 1 n (bw.map bD) 0 0 0 [])):=by
 obtain⟨q,b,⟨_,bw,h1,rfl⟩,e⟩:=abk 95 1 n 0 0 0 (λq a=>∃bw,LO p q 0 bw/\a=⟨bw.map bD,[]⟩) (λq a=>∃bw,LO p q 1 bw/\a=⟨bw.map bD,[]⟩)
  (by
   rintro q a aT ⟨bw,h1,rfl⟩;have:=h1.n;have:=aT.i;have:=aT.l;obtain⟨r,z,⟨a2,g1⟩,e⟩:=anM q n (bw.map bD) aT axv;have:=a2.s.i;refine⟨r,⟨(bw++[z]).map bD,[]⟩,a2.s,⟨bw++[z],⟨h1.s.trans a2.s,axv,λhe=> ?_⟩,rfl⟩,ayt⟩;have:=a2.a he;have:=h1.w (a2.s.ch he);unfold j' at this⊢;rw[qM];show _+(200+z.1.length+0)+_<=_;omega)
  (by
   rintro q a aT ⟨bw,h1,rfl⟩ hi;have az:=aG.hY aT (aG.hI hi);have:q.next.i=q.i+1:=rfl;exact⟨bw,⟨h1.s.trans az,by have:=h1.n;omega,λhe=>ay4⟩,rfl⟩)
  p ⟨[],[]⟩ hp ⟨[],⟨Step.refl hp,azF _,λ_=>ax7⟩,rfl⟩
 exact⟨q,bw,h1,e⟩
theorem anP(p:aG)(n:ax)(db s1 s2:Int)(hp:p.Ok):∃(q:aG) (b1:List iV),F6 p q 1 b1/\
  aM 94 [.ptr 0 0,.func 97 [] [.ptr 1 0,.ptr 2 0]] (tO p (tN 2 n [] db s1 s2 [])) (.tuple []) (tO q (tN 2 n [] db s1 s2 (b1.map eg))):=by
 obtain⟨q,b,⟨_,b1,h1,rfl⟩,e⟩:=abk 97 2 n db s1 s2 (λq a=>∃b1,F6 p q 0 b1/\a=⟨[],b1.map eg⟩) (λq a=>∃b1,F6 p q 1 b1/\a=⟨[],b1.map eg⟩)
  (by
   rintro q a aT ⟨b1,h1,rfl⟩;have:=h1.n;have:=aT.i;have:=aT.l;obtain⟨r,z,⟨a2,g0,g1,g2⟩,e⟩:=anN q n db s1 s2 (b1.map eg) aT axv;have:=a2.s.i;refine⟨r,⟨[],(b1++[z]).map eg⟩,a2.s,⟨b1++[z],⟨h1.s.trans a2.s,axv,λy hy=> ?_,λhe=> ?_⟩,rfl⟩,ayt⟩
   .rcases aAu.1 hy with hy|hy
    .grind[F6.g]
    simp_all
   have:=a2.a he;have:=h1.w (a2.s.ch he);unfold jM at this⊢;rw[qM];show _+(200+(z.a.length+z.b.length)+0)+_<=_;omega)
  (by
   rintro q a aT ⟨b1,h1,rfl⟩ hi;have az:=aG.hY aT (aG.hI hi);have:q.next.i=q.i+1:=rfl;exact⟨b1,⟨h1.s.trans az,by have:=h1.n;omega,h1.g,λhe=>ay4⟩,rfl⟩)
  p ⟨[],[]⟩ hp ⟨[],⟨Step.refl hp,azF _,λ_ h=>(aAi h).elim,λ_=>ax7⟩,rfl⟩
 exact⟨q,b1,h1,e⟩
theorem anQ(p:aG)(hp:p.Ok):∃(q:aG) (x:cQ),xn p q x/\aM 54 [.ptr 0 0] [p.ob] (.d (.agg x.d'.cs)) [q.ob]:=by
 have bh:=nh (k:=1) hp axs;have g1:=aG.oM (k:=1) hp;have aj:=nW p hp;generalize p.ie 1=q1 at aj bh;generalize (p.jb 1).t=t1 at aj g1;have a2:=lZ (s:=[40]) bh.ok;have aD:=jL q1 [40] bh.ok;generalize q1.want [40]=bK at aD a2;obtain⟨cI,bw,av,aW⟩:=anO bK t1 a2.ok;have a4:=lZ (s:=[41]) av.s.ok;have bQ:=jL cI [41] av.s.ok;generalize cI.want [41]=ep at bQ a4;obtain⟨gR,db,s1,s2,⟨a5,hF,i2,i3⟩,cK⟩:=abj ep a4.ok;refine⟨gR,⟨1,t1,bw,db,s1,s2,[],r',[],[]⟩,⟨(((bh.s.trans a2.s).trans av.s).trans a4.s).trans a5.s,⟨F5 1 axw,hF,i2,i3,λ_ h=>(aAi h).elim,Cz⟩,λhe=> ?_⟩,?_⟩
 .have CC:=a5.s.ch he;have ve:=a4.s.ch CC;have pS:=av.s.ch ve;have:=a5.a he;have:=a4.a CC;have:=av.w ve;have:=a2.a pS;have:=bh.a (a2.s.ch pS);show 1000+t1.length+j' bw+0+700+0+0+_<=_;omega
 show bM _ _ _ _ _ (.d (.agg (kZ.cs ⟨1,t1,bw.map bD,db,s1,s2,[],r'.bB,[],[]⟩))) _;generalize bw.map bD=L at aW⊢;refine Yf.cw λad ae Q a8=> ?_;refine ai ?_;all_goals (subst ae;exact b5 a8 axr axr)
theorem anR(p:aG)(hp:p.Ok):∃(q:aG) (x:cQ),xn p q x/\aM 55 [.ptr 0 0] [p.ob] (.d (.agg x.d'.cs)) [q.ob]:=by
 have bh:=nh (k:=1) hp axs;have g1:=aG.oM (k:=1) hp;have aj:=nW p hp;generalize p.ie 1=q1 at aj bh;generalize (p.jb 1).t=t1 at aj g1;obtain⟨bK,db,s1,s2,⟨a2,hF,i2,i3⟩,aD⟩:=abj q1 bh.ok;have a3:=lZ (s:=[102,114,111,109]) a2.ok;have aW:=jL bK [102,114,111,109] a2.ok;generalize bK.want [102,114,111,109]=cI at aW a3;obtain⟨ep,b1,aZ,bQ⟩:=anP cI t1 db s1 s2 a3.ok;have a5:=lZ (s:=[100,111]) aZ.s.ok;have cK:=jL ep [100,111] aZ.s.ok;generalize ep.want [100,111]=gR at cK a5;obtain⟨jx,y,dh,dQ⟩:=anj (f:=100) (d:=gR.dR) (λ_=>anH _) gR a5.ok rfl;refine⟨jx,⟨2,t1,[],db,s1,s2,b1,y,[],[]⟩,⟨((((bh.s.trans a2.s).trans a3.s).trans aZ.s).trans a5.s).trans dh.s,⟨F5 2 axw,hF,i2,i3,aZ.g,dh.g⟩,λhe=> ?_⟩,?_⟩
 .have abl:=dh.s.ch he;have CC:=a5.s.ch abl;have ve:=aZ.s.ch CC;have pS:=a3.s.ch ve;have:=dh.w he;have:=a5.a abl;have:=aZ.w CC;have:=a3.a ve;have:=a2.a pS;have:=bh.a (a2.s.ch pS);show 1000+t1.length+0+jM b1+y.w+0+0+_<=_;omega
 show bM _ _ _ _ _ (.d (.agg (kZ.cs ⟨2,t1,[],db,s1,s2,b1.map eg,y.bB,[],[]⟩))) _;generalize b1.map eg=L at bQ⊢;generalize y.bB=c at dQ⊢;refine Wk.cw λad ae Q a8=> ?_;refine ai ?_;all_goals (subst ae;exact b5 a8 axr axr)
theorem anS(p:aG)(hp:p.Ok):∃(q:aG) (x:cQ),xn p q x/\aM 56 [.ptr 0 0] [p.ob] (.d (.agg x.d'.cs)) [q.ob]:=by
 have bh:=nh (k:=1) hp axs;have g1:=aG.oM (k:=1) hp;have aj:=nW p hp;generalize p.ie 1=q1 at aj bh;generalize (p.jb 1).t=t1 at aj g1;obtain⟨bK,hb,tn,gX,lz,⟨a2,_,g2⟩,aD⟩:=zH q1 3 axs bh.ok;have a3:=lZ (s:=[109,97,107,101,115]) a2.ok;have aW:=jL bK [109,97,107,101,115] a2.ok;generalize bK.want [109,97,107,101,115]=cI at aW a3;obtain⟨ep,ms,⟨aZ,iP⟩,bQ⟩:=aaL cI a3.ok;refine⟨ep,⟨3,t1,[],0,0,0,[],r',lz,ms⟩,⟨((bh.s.trans a2.s).trans a3.s).trans aZ,⟨F5 3 axw,dF.zero,dF.zero,dF.zero,λ_ h=>(aAi h).elim,Cz⟩,λhe=> ?_⟩,?_⟩
 .have ve:=aZ.ch he;have pS:=a3.s.ch ve;have:=iP he;have:=a3.a ve;have:=a2.a pS;have:=bh.a (a2.s.ch pS);show 1000+t1.length+0+0+700+lz.length+fH ms+_<=_;omega
 show bM _ _ _ _ _ (.d (.agg (kZ.cs ⟨3,t1,[],0,0,0,[],r'.bB,lz,ms.map .str⟩))) _;unfold fF at bQ;generalize ms.map D.str=L at bQ⊢;refine Wm.cw λad ae Q a8=> ?_;refine ai ?_;all_goals (subst ae;exact b5 a8 axr axr)
def abm:cQ:=⟨0,[],[],0,0,0,[],r',[],[]⟩
theorem anT:abm.Good:=⟨F5 0 axw,dF.zero,dF.zero,dF.zero,λ_ h=>(aAi h).elim,Cz⟩
def anU:List ax:=[[115,111,117,114,99,101],[97,115,115,101,116],[115,99,104,101,100,117,108,101]]
theorem anV(p:aG)(hp:p.Ok):∃(q:aG) (x:cQ),(xn p q x/\(q.e=0->p.i<q.i))/\aM 26 [.ptr 0 0] [p.ob] (.d (.agg x.d'.cs)) [q.ob]:=by
 obtain⟨q1,k,⟨bh,au⟩,aj⟩:=zC p anU hp axw;replace au:k<=3:=au;have cH:∀(f:Nat),(∃(q:aG) (x:cQ),xn q1 q x/\aM f [.ptr 0 0] [q1.ob] (.d (.agg x.d'.cs)) [q.ob])->∃(bK q:aG) (x:cQ),(xn p q x/\(q.e=0->p.i<q.i))/\aM f [.ptr 0 0] [q1.ob] (.d (.agg x.d'.cs)) [bK.ob]/\aM 57 [.ptr 0 0,.d (.str [59])] [bK.ob] (.tuple []) [q.ob]:=by
  rintro f ⟨bK,x,h2,aD⟩;have a3:=lZ (s:=[59]) h2.s.ok;have aW:=jL bK [59] h2.s.ok;refine⟨bK,_,x,⟨⟨(bh.s.trans h2.s).trans a3.s,h2.g,λhe=> ?_⟩,λhe=> ?_⟩,aD,aW⟩
  .have pS:=a3.s.ch he;have:=a3.a he;have:=h2.w pS;have:=bh.a (h2.s.ch pS);omega
  .have pS:=a3.s.ch he;have:=a3.a he;have:=h2.s.i;have:=bh.s.i;omega
 match k,au,aj with
 |0,_,aj=>
  have a2:=lZ (s:=[59]) bh.ok;have aD:=jL q1 [59] bh.ok;generalize q1.want [59]=bK at aD a2;refine⟨bK,abm,⟨⟨bh.s.trans a2.s,anT,λhe=> ?_⟩,λhe=> ?_⟩,?_⟩
  .have:=(bh.trans a2).a he;show 1000+0+0+0+700+0+0+_<=_;omega
  .have:=(bh.trans a2).a he;omega
  refine Co.cw λad ae Q a8=> ?_;conv=>cbv
  repeat ((first|refine bG ?_|refine bH ?_|simp -proj only[e4 ae]);conv=>cbv)
  try trivial
  all_goals (subst ae;exact b5 a8 axr axr)
 |1,_,aj=>
  obtain⟨bK,q,x,h,aD,aW⟩:=cH _ (anQ q1 bh.ok);refine⟨q,x,h,?_⟩;generalize x.d'=c at aD⊢;refine Co.cw λad ae Q a8=> ?_;conv=>cbv
  repeat ((first|refine bG ?_|refine bH ?_|simp -proj only[e4 ae]);conv=>cbv)
  try trivial
  all_goals (subst ae;exact b5 a8 axr axr)
 |2,_,aj=>
  obtain⟨bK,q,x,h,aD,aW⟩:=cH _ (anR q1 bh.ok);refine⟨q,x,h,?_⟩;generalize x.d'=c at aD⊢;refine Co.cw λad ae Q a8=> ?_;conv=>cbv
  repeat ((first|refine bG ?_|refine bH ?_|simp -proj only[e4 ae]);conv=>cbv)
  try trivial
  all_goals (subst ae;exact b5 a8 axr axr)
 |3,_,aj=>
  obtain⟨bK,q,x,h,aD,aW⟩:=cH _ (anS q1 bh.ok);refine⟨q,x,h,?_⟩;generalize x.d'=c at aD⊢;refine Co.cw λad ae Q a8=> ?_;conv=>cbv
  repeat ((first|refine bG ?_|refine bH ?_|simp -proj only[e4 ae]);conv=>cbv)
  try trivial
  all_goals (subst ae;exact b5 a8 axr axr)
 |n+4,h,_=>omega
def zK(s:ax)(x:List Tok×Nat×Int):aG:=⟨x.1,nV x.1,0,s.length,0,x.2.2,x.2.1⟩
theorem anW(s:ax):aM 25 [.d (.str s)] [] (.ptr 0 0) [(zK s (ja s)).ob]:=by
 have aj:=amL s;generalize ja s=x at aj⊢;obtain⟨l,p,e⟩:=x;have aj:aM 52 [.d (.str s)] [] (.tuple [.d (nV l),.d (int p),.d (int e)]) []:=aj;unfold zK;unfold nV at aj⊢;generalize l.map Tok.d=T at aj⊢;refine UC.cw λad ae Q a8=> ?_;refine ai ?_;all_goals (subst ae;exact b5 a8 axt axr)
theorem anX(s:ax):(zK s (ja s)).Ok:=⟨azF _,by have:=(Lv s).2;show(ja s).1.length<=_;omega,azF _,(Lv s).1,rfl⟩
def l3(p:aG):aG:=cond (decide (p.e=0)&&decide (p.i<p.l.length)) (p.fail 51) p
theorem anY{p:aG}(h:(l3 p).e=0):l3 p=p/\p.e=0:=by
 grind[l3,aG.oK]
theorem anZ(p:aG)(hp:p.Ok)(l:List D):aM 27 [.ptr 0 0,.d (.list 25 l)] [p.ob] (cond (decide ((l3 p).e=0)) (.tuple [.d (.list 25 l),.d (int p.n),.d (int 0)]) (.tuple [.d (.list 25 []),.d (int (l3 p).a),.d (int (l3 p).e)])) [(l3 p).ob]:=by
 have h1:=hp.i;have aj:=pN p 51 hp;by_cases h:p.e=0
 .by_cases hi:p.i<p.l.length
  .have br:l3 p=p.fail 51:=by grind[l3]
   have he:(p.fail 51).e≠0:=aG.oK axs;rw[br,aAg he];generalize p.fail 51=q at aj he⊢;rw[aG.xh hp]at aj⊢;have aH:(p.l.map Tok.d).length=p.l.length:=azG _;unfold nV at aj⊢;generalize p.l.map Tok.d=T at*;refine FD.cw λad ae Q a8=> ?_;have t1:ad.aF .eql p.e 0=true:=axC;have t2:ad.aF .lss (Int.ofNat p.i) (Int.ofNat (ad.len T))=true:=axx;have t3:ad.aF .neq q.e 0=true:=axx;refine ai ?_;all_goals (subst ae;exact b5 a8 axt axr)
  .have br:l3 p=p:=by grind[l3]
   rw[br,azO h,aG.xh hp];have aH:(p.l.map Tok.d).length=p.l.length:=azG _;unfold nV;generalize p.l.map Tok.d=T at*;refine FD.cw λad ae Q a8=> ?_;have t1:ad.aF .eql p.e 0=true:=axC;have t2:ad.aF .lss (Int.ofNat p.i) (Int.ofNat (ad.len T))=false:=axx;have t3:ad.aF .neq p.e 0=false:=axx;refine ai ?_;all_goals (subst ae;exact b5 a8 axt axr)
 .have br:l3 p=p:=by grind[l3]
  rw[br,aAg h];refine FD.cw λad ae Q a8=> ?_;have t1:ad.aF .eql p.e 0=false:=axC;have t3:ad.aF .neq p.e 0=true:=axx;refine ai ?_;all_goals (subst ae;exact b5 a8 axt axr)
def iD(l:List cQ):Nat:=fM cQ.w l
structure LP(p:aG)(l:List cQ)(q:aG):Prop where
 s:Step p q
 n:l.length<=q.i+1
 m:q.e=0->l.length<=q.i
 g:∀x∈l,x.Good
 w:q.e=0->iD l+20000*p.i<=40000*q.i
def abn(q:aG)(l:List D):af:=cA [(2,.own 25 l),(5,.ptr 0 0)] [q.ob]
theorem abo(s:ax):∃(l:List cQ) (a:Int) (e:Int),((∀x∈l,x.Good)/\iD l<=1000000000/\l.length<=16384/\(e≠0->l=[]))/\aM 7 [.d (.str s)] [] (.tuple [.d (.list 25 (l.map cQ.d)),.d (int a),.d (int e)]) []:=by
 refine Kz ?_;have aj:=anW s;have hp:=anX s;have qB:(zK s (ja s)).i=0:=rfl;have pf:(zK s (ja s)).l.length<=16384:=(Lv s).2;generalize zK s (ja s)=p at aj hp qB pf;refine X0.cr _ λad ae K ao=> ?_;refine ai ?_;refine⟨b6 (λz:aG×List D=>abn z.1 z.2) (λz=>∃l,LP p l z.1/\z.2=l.map cQ.d) λz=>cond (decide (z.1.e=0)) (z.1.l.length-z.1.i+1) 0,_,⟨(p,[]),⟨[],⟨Step.refl hp,azF _,λ_=>azF _,λ_ h=>(aAi h).elim,λ_=>ax7⟩,rfl⟩,rfl,axr⟩,?_⟩;rintro _ _ ⟨⟨q,L⟩,⟨l,dN,bF⟩,rfl,rfl⟩;dsimp only at dN bF⊢;have aT:=dN.s.ok;have hlen:L.length=l.length:=axv;have h1:=aT.i;have h2:q.l.length<=16384:=by grind[Step.l,LP.s]
 have ew:(q.l.map Tok.d).length=q.l.length:=azG _;unfold abn;have fin:(q.e=0->¬q.i<q.l.length)->∀ob,ob=q.ob->∃r,aM 27 [.ptr 0 0,.d (.list 25 L)] [ob] r [(l3 q).ob]/\∃(l2:List cQ) (a e:Int),((∀x∈l2,x.Good)/\iD l2<=1000000000/\l2.length<=16384/\(e≠0->l2=[]))/\r=.tuple [.d (.list 25 (l2.map cQ.d)),.d (int a),.d (int e)]:=by
  rintro uV _ rfl;refine⟨_,anZ q aT L,?_⟩;by_cases he:(l3 q).e=0
  .have:=anY he;rw[azO he];exact⟨l,_,_,⟨dN.g,by have:=dN.w this.2;omega,by have:=dN.m this.2;omega,λh=>absurd rfl h⟩,by rw[bF];rfl⟩
  .rw[aAg he];exact⟨[],_,_,⟨λ_ h=>(aAi h).elim,by show 0<=_;omega,azF _,λ_=>rfl⟩,rfl⟩
 by_cases he:q.e=0
 .by_cases hi:q.i<q.l.length
  .obtain⟨r,x,⟨ak,avZ⟩,aD⟩:=anV q aT;rw[aG.xh aT]at aD⊢;unfold nV at aD⊢;have abp:x.d=.agg x.d'.cs:=rfl;generalize x.d'=c at aD abp;generalize an0:q.l.map Tok.d=T at*;have t1:ad.aF .eql q.e 0=true:=axC;have t2:ad.aF .lss (Int.ofNat q.i) (Int.ofNat (ad.len T))=true:=by simp only[aI ae,azM,azN];omega
   have hm:=dN.m he;refine ai ?_;refine eb (r,ad.app L [.agg c.cs]) ⟨l++[x],⟨dN.s.trans ak.s,?_,?_,?_,?_⟩,?_⟩ ?_ axr
   .have:=ak.s.i;grind
   .grind
   .intro y hy;rcases aAu.1 hy with hy|hy
    .grind[LP.g]
    .rw[az9.1 hy];exact ak.g
   .intro h;have w1:=ak.w h;have bS:=dN.w (ak.s.ch h);grind[iD,qM,fM]
   .rw[show ad.app L [.agg c.cs]=L++[.agg c.cs]by rw[ae];rfl,az5,bF,<-abp];rfl
   .have:=ak.s.i;show cond (decide (r.e=0)) (r.l.length-r.i+1) 0<cond (decide (q.e=0)) (q.l.length-q.i+1) 0;grind[Step.l,xn.s]
  .obtain⟨r,aD,l2,a,e,jh,rfl⟩:=fin (λ_=>hi) q.ob rfl;generalize l3 q=bK at aD;rw[aG.xh aT]at aD⊢;unfold nV at aD⊢;have ao:=λs h=>ao _ s ⟨l2,a,e,jh,rfl,h⟩;generalize l2.map cQ.d=iX at*;generalize an0:q.l.map Tok.d=T at*;have t1:ad.aF .eql q.e 0=true:=axC;have t2:ad.aF .lss (Int.ofNat q.i) (Int.ofNat (ad.len T))=false:=axI;refine ai ?_;exact ao _ axr
 .obtain⟨r,aD,l2,a,e,jh,rfl⟩:=fin (λh=>absurd h he) q.ob rfl;generalize l3 q=bK at aD;have ao:=λs h=>ao _ s ⟨l2,a,e,jh,rfl,h⟩;generalize l2.map cQ.d=iX at*;have t1:ad.aF .eql q.e 0=false:=axC;refine ai ?_;exact ao _ axr
end Go.Proofs.YtmgpekpnidjfoaaGreatDoor
