/- Part of ranges_said. -/
import Derived.Test.YthffhbakgmemaaaGreatDoorB2
set_option maxRecDepth 100000
set_option maxHeartbeats 8000000
set_option linter.unusedSimpArgs false
set_option linter.unusedVariables false
namespace Go.Proofs.YthffhbakgmemaaaGreatDoor
open Go Go.aH
attribute [local irreducible] bG
structure TO(p q:aG)(m:Nat)(ai:List (aw×aw×aw)):Prop where
 s:Step p q
 n:ai.length<=q.i+m
 w:q.e=0->kh ai+20000*p.i<=20000*q.i
structure sM(p q:aG)(m:Nat)(ob:List (aw×Bool)):Prop where
 s:Step p q
 n:ob.length<=q.i+m
 w:q.e=0->ki ob+20000*p.i<=20000*q.i
theorem TO.one{p q r:aG}{ai:List (aw×aw×aw)}{z:aw×aw×aw}(h:TO p q 0 ai)(a:gM q r 5)(g1:z.1.length<=5)(g2:z.2.1.length<=16384)(g3:z.2.2.length<=16384):TO p r 1 (ai++[z]):=by
 have:=h.n;have:=a.s.i;refine⟨h.s.trans a.s,axZ,λhe=> ?_⟩;have:=a.a he;have:=h.w (a.s.b2 he);unfold kh at this⊢;rw[q9];show _+(200+(z.1.length+z.2.1.length+z.2.2.length)+0)+_<=_;omega
theorem sM.one{p q r:aG}{ob:List (aw×Bool)}{z:aw×Bool}(h:sM p q 0 ob)(a:gM q r 1)(g1:z.1.length<=16384):sM p r 1 (ob++[z]):=by
 have:=h.n;have:=a.s.i;refine⟨h.s.trans a.s,axZ,λhe=> ?_⟩;have:=a.a he;have:=h.w (a.s.b2 he);unfold ki at this⊢;rw[q9];show _+(200+z.1.length+0)+_<=_;omega
theorem TO.vw{p q:aG}{ai:List (aw×aw×aw)}(aS:q.Ok)(h:TO p q 1 ai)(hi:q.is [44]=true):TO p q.next 0 ai:=by
 have ay:=aG.h9 aS (aG.hO hi);have:q.next.i=q.i+1:=rfl;exact⟨h.s.trans ay,by have:=h.n;omega,λhe=>by have:=h.w (ay.b2 he);omega⟩
theorem sM.vw{p q:aG}{ai:List (aw×Bool)}(aS:q.Ok)(h:sM p q 1 ai)(hi:q.is [44]=true):sM p q.next 0 ai:=by
 have ay:=aG.h9 aS (aG.hO hi);have:q.next.i=q.i+1:=rfl;exact⟨h.s.trans ay,by have:=h.n;omega,λhe=>by have:=h.w (ay.b2 he);omega⟩
theorem aof(p:aG)(k:Int)(n c:Nat)(x:ef)(cD:Int)(hp:p.Ok):∃(q:aG) (ob:List (aw×Bool)),sM p q 1 ob/\
  aM 120 [.ptr 0 0,.func 261 [] [.ptr 1 0,.ptr 2 0]] (kj p k n c x.v (.own 1 []) [] [] [] cD) (.tuple []) (kj q k n c x.v (.own 1 []) [] [] (ob.map fy) cD):=by
 obtain⟨q,b,⟨_,ob,h1,rfl⟩,e⟩:=abZ 261 k n c x cD (λq a=>∃ob,sM p q 0 ob/\a=⟨[],[],ob.map fy⟩) (λq a=>∃ob,sM p q 1 ob/\a=⟨[],[],ob.map fy⟩)
  (by
   rintro q a aS ⟨ob,h1,rfl⟩;have:=h1.n;have:=aS.i;have:=aS.l;obtain⟨r,z,⟨a2,g1⟩,e⟩:=an0 q k n c x (ob.map fy) cD aS axZ;exact⟨r,⟨[],[],(ob++[z]).map fy⟩,a2.s,⟨ob++[z],h1.one a2 g1,rfl⟩,ayV⟩)
  (by
   grind[sM.vw])
  p ⟨[],[],[]⟩ hp ⟨[],⟨Step.refl hp,aAa _,λ_=>ayy⟩,rfl⟩
 grind
theorem aog(p:aG)(k:Int)(n c:Nat)(x:ef)(hp:p.Ok):∃(q:aG) (ai:List (aw×aw×aw)),TO p q 1 ai/\
  aM 120 [.ptr 0 0,.func 260 [] [.ptr 1 0,.ptr 2 0]] (kj p k n c x.v (.own 1 []) [] [] [] 0) (.tuple []) (kj q k n c x.v (.own 1 []) [] (ai.map eM) [] 0):=by
 obtain⟨q,b,⟨_,ai,h1,rfl⟩,e⟩:=abZ 260 k n c x 0 (λq a=>∃ai,TO p q 0 ai/\a=⟨[],ai.map eM,[]⟩) (λq a=>∃ai,TO p q 1 ai/\a=⟨[],ai.map eM,[]⟩)
  (by
   rintro q a aS ⟨ai,h1,rfl⟩;have:=h1.n;have:=aS.i;have:=aS.l;obtain⟨r,z,⟨a2,g1,g2,g3⟩,e⟩:=abY q k n c x (.own 1 []) (.inl ⟨_,rfl⟩) (ai.map eM) aS axZ;exact⟨r,⟨[],(ai++[z]).map eM,[]⟩,a2.s,⟨ai++[z],h1.one a2 g1 g2 g3,rfl⟩,ayV⟩)
  (by
   grind[TO.vw])
  p ⟨[],[],[]⟩ hp ⟨[],⟨Step.refl hp,aAa _,λ_=>ayy⟩,rfl⟩
 grind
theorem aoh(p:aG)(k:Int)(n c:Nat)(x:ef)(l:List D)(hp:p.Ok):∃(q:aG) (ai:List (aw×aw×aw)),TO p q 1 ai/\
  aM 120 [.ptr 0 0,.func 260 [] [.ptr 1 0,.ptr 2 0]] (kj p k n c x.v (.d (.list 1 l)) [] [] [] 0) (.tuple []) (kj q k n c x.v (.d (.list 1 l)) [] (ai.map eM) [] 0):=by
 obtain⟨q,b,⟨_,ai,h1,rfl⟩,e⟩:=an6 260 k n c x l 0 (λq a=>∃ai,TO p q 0 ai/\a=⟨[],ai.map eM,[]⟩) (λq a=>∃ai,TO p q 1 ai/\a=⟨[],ai.map eM,[]⟩)
  (by
   rintro q a aS ⟨ai,h1,rfl⟩;have:=h1.n;have:=aS.i;have:=aS.l;obtain⟨r,z,⟨a2,g1,g2,g3⟩,e⟩:=abY q k n c x (.d (.list 1 l)) (.inr ⟨_,rfl⟩) (ai.map eM) aS axZ;exact⟨r,⟨[],(ai++[z]).map eM,[]⟩,a2.s,⟨ai++[z],h1.one a2 g1 g2 g3,rfl⟩,ayV⟩)
  (by
   grind[TO.vw])
  p ⟨[],[],[]⟩ hp ⟨[],⟨Step.refl hp,aAa _,λ_=>ayy⟩,rfl⟩
 grind
def GD(q:aG)(k:Int)(x:ef)(ns:ah)(ai ob:List D)(cD:Int):aU:=[q.ob,.box (x0 k (.aN 2 0 1 1 16) ns [] [] ai ob cD),.box x.v]
theorem aoi(p:aG)(k:Int)(x:ef)(hp:p.Ok):∃(q:aG) (ob:List (aw×Bool)) (cD:Int),(Step p q/\dG cD/\(q.e=0->ki ob+20000*p.i<=20000*q.i))/\
  aM 219 [.ptr 0 0,.ptr 1 0] (GD p k x (.own 1 []) [] [] 0) (.tuple []) (GD q k x (.own 1 []) [] (ob.map fy) cD):=by
 have bw:=nJ (k:=2) hp axW;have g1:=(aG.C2 (k:=2) hp).2;have aj:=L9 p 2 hp;generalize p.hN 2=q1 at aj bw;generalize p.iM 2=t at aj g1;obtain⟨hj,lI,tn,g'⟩:=t;have aj:aM 127 [.ptr 0 0,.d (int 2)] [p.ob] (.d (.agg [int hj,.str lI,int tn,int g'])) [q1.ob]:=aj;cases aK:q1.is [98,121]with
 |false=>
  have aF:=mT bw.ok aK;refine⟨q1,[],tn,⟨bw.s,g1,λ_=>by have:=bw.s.i;show 0+_<=_;omega⟩,?_⟩;refine aDG.cn λad ae Q aV=> ?_;refine af ?_
  (subst ae;exact bZ aV axX axV)
 |true=>
  have aF:=mS bw.ok aK;have a2:=abW bw.ok aK;generalize q1.next=bF at aF a2;obtain⟨cE,ob,av,aZ⟩:=aof bF k 1 1 x tn a2.ok;refine⟨cE,ob,tn,⟨(bw.s.trans a2.s).trans av.s,g1,λhe=>by have:=av.w he;have:=bw.s.i;have:=a2.s.i;omega⟩,?_⟩;generalize ob.map fy=L at aZ;refine aDG.cn λad ae Q aV=> ?_;refine af ?_
  (subst ae;exact bZ aV axX axV)
theorem aoj(p:aG)(k:Int)(x:ef)(hp:p.Ok):∃(q:aG) (nv:ah) (ns:List aw) (ai:List (aw×aw×aw)),(Step p q/\(nv=.own 1 []/\ns=[]\/nv=.d (fu ns))/\(q.e=0->fw ns+kh ai+20000*p.i<=20000*q.i))/\
  aM 218 [.ptr 0 0,.ptr 1 0] (GD p k x (.own 1 []) [] [] 0) (.tuple []) (GD q k x nv (ai.map eM) [] 0):=by
 have aj:=C1 p [58] hp;cases aK:p.is [58]with
 |true=>
  rw[aK]at aj;have a2:=mh (s:=[58]) hp;have aF:=jT p [58] hp;generalize p.want [58]=bF at aF a2;have aZ:=Ae bF a2.ok;generalize bF.dU=t at aZ;obtain⟨hj,lI,tn,g'⟩:=t;have aZ:aM 175 [.ptr 0 0] [bF.ob] (.d (.agg [int hj,.str lI,int tn,int g'])) [bF.ob]:=aZ;by_cases aq:hj=1
  .obtain⟨cE,ai,av,bP⟩:=aog bF k 1 1 x a2.ok;refine⟨cE,_,[],ai,⟨a2.s.trans av.s,.inl ⟨rfl,rfl⟩,λhe=>by have:=av.w he;have:=a2.s.i;show 0+_+_<=_;omega⟩,?_⟩;generalize ai.map eM=L at bP;refine Ww.cn λad ae Q aV=> ?_;refine af ?_;split
   .rename_i h;simp only[aJ ae,aAc,aAi,aAp,aAE,aBf,aAh]at h;exact absurd aq h
   .refine af ?_
    (subst ae;exact bZ aV axX axV)
  .refine⟨bF,_,[],[],⟨a2.s,.inl ⟨rfl,rfl⟩,λhe=>by have:=a2.s.i;show 0+0+_<=_;omega⟩,?_⟩;refine Ww.cn λad ae Q aV=> ?_;refine af ?_;split
   .refine af ?_
    (subst ae;exact bZ aV axX axV)
   .rename_i h;simp only[aJ ae,aAc,aAi,aAp,aAE,aBf,aAh]at h;exact absurd h aq
 |false=>
  rw[aK]at aj;obtain⟨q1,ns,⟨s1,w1⟩,aF⟩:=abC p hp;have a2:=mh (s:=[58]) s1.ok;have aZ:=jT q1 [58] s1.ok;generalize q1.want [58]=bF at aZ a2;have bP:=Ae bF a2.ok;generalize bF.dU=t at bP;obtain⟨hj,lI,tn,g'⟩:=t;have bP:aM 175 [.ptr 0 0] [bF.ob] (.d (.agg [int hj,.str lI,int tn,int g'])) [bF.ob]:=bP;unfold fu at aF;by_cases aq:hj=1
  .obtain⟨cE,ai,av,cK⟩:=aoh bF k 1 1 x (ns.map D.str) a2.ok;refine⟨cE,_,ns,ai,⟨(s1.trans a2.s).trans av.s,.inr rfl,λhe=>by have:=av.w he;have:=a2.s.i;have:=w1 (a2.s.b2 (av.s.b2 he));omega⟩,?_⟩;unfold fu;generalize ai.map eM=L at cK;generalize ns.map D.str=N at aF cK;refine Ww.cn λad ae Q aV=> ?_;refine af ?_;split
   .rename_i h;simp only[aJ ae,aAc,aAi,aAp,aAE,aBf,aAh]at h;exact absurd aq h
   .refine af ?_
    (subst ae;exact bZ aV axX axV)
  .refine⟨bF,_,ns,[],⟨s1.trans a2.s,.inr rfl,λhe=>by have:=w1 (a2.s.b2 he);have:=a2.s.i;show _+0+_<=_;omega⟩,?_⟩;unfold fu;generalize ns.map D.str=N at aF;refine Ww.cn λad ae Q aV=> ?_;refine af ?_;split
   .refine af ?_
    (subst ae;exact bZ aV axX axV)
   .rename_i h;simp only[aJ ae,aAc,aAi,aAp,aAE,aBf,aAh]at h;exact absurd h aq
theorem e8{ad:bm}(h:ad=bm.bU):∀a b,ad.aD .eql a b=decide (a=b):=λ_ _=>ayj
theorem Am(k:Int)(x:bk)(z:aB)(ns:List aw)(xs:List aB)(on:List (aw×aw))(ai:List (aw×aw×aw))(ob:List (aw×Bool))(cD:Int):(bk.mk k [] [x] z ns xs on ai ob cD).bB=⟨k,[],[.agg x.bB.cs],z.bQ.k,z.bQ.n,z.bQ.gy,z.bQ.vi,z.bQ.eL,z.bQ.op,z.bQ.l,ns.map .str,aB.ds xs,on.map fx,ai.map eM,ob.map fy,cD⟩:=by
 show(⟨k,[],[x.d],_,_,_,_,_,_,_,_,_,_,_,_,_⟩:ef)=_;rw[bk.mU,bk.Mm];rfl
theorem ab3(k:Int)(x y:bk)(z:aB)(ns:List aw)(xs:List aB)(on:List (aw×aw))(ai:List (aw×aw×aw))(ob:List (aw×Bool))(cD:Int):(bk.mk k [] [x,y] z ns xs on ai ob cD).bB=⟨k,[],[.agg x.bB.cs,.agg y.bB.cs],z.bQ.k,z.bQ.n,z.bQ.gy,z.bQ.vi,z.bQ.eL,z.bQ.op,z.bQ.l,ns.map .str,aB.ds xs,on.map fx,ai.map eM,ob.map fy,cD⟩:=by
 show(⟨k,[],[x.d,y.d],_,_,_,_,_,_,_,_,_,_,_,_,_⟩:ef)=_;rw[bk.mU,bk.mU,bk.Mm,bk.Mm];rfl
theorem bk.ra(k:Int)(n:aw)(l:List bk)(c:aB)(ns:List aw)(xs:List aB)(on:List (aw×aw))(ai:List (aw×aw×aw))(ob:List (aw×Bool))(cD:Int):(bk.mk k n l c ns xs on ai ob cD).w=500+n.length+bk.ws l+c.w+fw ns+aB.ws xs+kg on+kh ai+ki ob:=by rw[bk.w]
theorem bk.na(x:bk):bk.ws [x]=x.w:=by show x.w+0=_;omega
theorem bk.qb(x y:bk):bk.ws [x,y]=x.w+y.w:=by show x.w+(y.w+0)=_;omega
theorem x1:la.w=200:=rfl
theorem vP:fw []=0/\aB.ws []=0/\kg []=0/\kh []=0/\ki []=0:=⟨rfl,rfl,rfl,rfl,rfl⟩
def i6:List aw:=[[119,104,101,114,101],[107,101,101,112],[106,111,105,110],[108,101,102,116],[103,114,111,117,112],[117,110,105,111,110],[100,105,115,116,105,110,99,116],[102,105,114,115,116]]
def ur(p q:aG)(x y:bk):Prop:=Step p q/\y.good/\(q.e=0->y.w+20000*p.i<=20000*q.i+x.w)
theorem aok{p fG:aG}(x:bk)(ak:x.good)(a0:gM p fG 1)(b2:aM 89 [.ptr 0 0,.d (fu i6)] [p.ob] (.d (int ((0:Nat):Int))) [fG.ob]):
  ∃(q:aG) (y:bk),ur p q x y/\aM 174 [.ptr 0 0,.d (.agg x.bB.cs)] [p.ob] (.d (.agg y.bB.cs)) [q.ob]:=by
 refine⟨fG,.mk 0 [] [x] la [] [] [] [] [] 0,⟨a0.s,⟨dG.zero,sI,trivial,ak,trivial⟩,λhe=> ?_⟩,?_⟩
 .have:=a0.a he;grind[bk.ra,bk.na,x1,vP]
 rw[Am];generalize x.bB=c;refine Un.cn λad ae Q aV=> ?_;conv=>cbv
 repeat ((first|refine cZ ?_|refine c6 ?_|simp -proj only[e8 ae]);conv=>cbv)
 try trivial
 all_goals (subst ae;exact bZ aV axV axV)
theorem aol{p fG:aG}(x:bk)(ak:x.good)(a0:gM p fG 1)(b2:aM 89 [.ptr 0 0,.d (fu i6)] [p.ob] (.d (int ((1:Nat):Int))) [fG.ob]):
  ∃(q:aG) (y:bk),ur p q x y/\aM 174 [.ptr 0 0,.d (.agg x.bB.cs)] [p.ob] (.d (.agg y.bB.cs)) [q.ob]:=by
 obtain⟨q,z,aO,aj⟩:=abV fG a0.ok;refine⟨q,.mk 2 [] [x] z [] [] [] [] [] 0,⟨a0.s.trans aO.s,⟨dG.zero,aO.g,trivial,ak,trivial⟩,λhe=> ?_⟩,?_⟩
 .have:=aO.w he;have:=a0.a (aO.s.b2 he);grind[bk.ra,bk.na,vP]
 rw[Am];rw[aB.abX]at aj;generalize z.bQ=awn at aj⊢;generalize x.bB=c;refine Un.cn λad ae Q aV=> ?_;conv=>cbv
 repeat ((first|refine cZ ?_|refine c6 ?_|simp -proj only[e8 ae]);conv=>cbv)
 try trivial
 all_goals (subst ae;exact bZ aV axV axV)
theorem aom{p fG:aG}(x:bk)(ak:x.good)(a0:gM p fG 1)(b2:aM 89 [.ptr 0 0,.d (fu i6)] [p.ob] (.d (int ((2:Nat):Int))) [fG.ob]):
  ∃(q:aG) (y:bk),ur p q x y/\aM 174 [.ptr 0 0,.d (.agg x.bB.cs)] [p.ob] (.d (.agg y.bB.cs)) [q.ob]:=by
 obtain⟨q,a,aO,aj⟩:=an8 fG x.bB a0.ok;refine⟨q,.mk 3 [] [x] la a.ns a.xs [] [] [] 0,⟨a0.s.trans aO.s,⟨dG.zero,sI,aO.g,ak,trivial⟩,λhe=> ?_⟩,?_⟩
 .have h1:=aO.w he;have:=a0.a (aO.s.b2 he);grind[lH.w,bk.ra,bk.na,vP,x1]
 rw[Am];unfold lH.st at aj;generalize a.ns.map D.str=N at aj⊢;generalize aB.ds a.xs=X at aj⊢;generalize x.bB=c at aj⊢;refine Un.cn λad ae Q aV=> ?_;conv=>cbv
 repeat ((first|refine cZ ?_|refine c6 ?_|simp -proj only[e8 ae]);conv=>cbv)
 try trivial
 all_goals (subst ae;exact bZ aV axV axV)
theorem aon{p fG:aG}(x:bk)(ak:x.good)(a0:gM p fG 1)(b2:aM 89 [.ptr 0 0,.d (fu i6)] [p.ob] (.d (int ((7:Nat):Int))) [fG.ob]):
  ∃(q:aG) (y:bk),ur p q x y/\aM 174 [.ptr 0 0,.d (.agg x.bB.cs)] [p.ob] (.d (.agg y.bB.cs)) [q.ob]:=by
 refine⟨fG,.mk 8 [] [x] la [] [] [] [] [] 0,⟨a0.s,⟨dG.zero,sI,trivial,ak,trivial⟩,λhe=> ?_⟩,?_⟩
 .have:=a0.a he;grind[bk.ra,bk.na,x1,vP]
 rw[Am];generalize x.bB=c;refine Un.cn λad ae Q aV=> ?_;conv=>cbv
 repeat ((first|refine cZ ?_|refine c6 ?_|simp -proj only[e8 ae]);conv=>cbv)
 try trivial
 all_goals (subst ae;exact bZ aV axV axV)
theorem aoo{p fG:aG}(x:bk)(ak:x.good)(a0:gM p fG 1)(b2:aM 89 [.ptr 0 0,.d (fu i6)] [p.ob] (.d (int ((8:Nat):Int))) [fG.ob]):
  ∃(q:aG) (y:bk),ur p q x y/\aM 174 [.ptr 0 0,.d (.agg x.bB.cs)] [p.ob] (.d (.agg y.bB.cs)) [q.ob]:=by
 obtain⟨q,ob,cD,⟨s1,g1,w1⟩,aj⟩:=aoi fG 9 x.bB a0.ok;refine⟨q,.mk 9 [] [x] la [] [] [] [] ob cD,⟨a0.s.trans s1,⟨g1,sI,trivial,ak,trivial⟩,λhe=> ?_⟩,?_⟩
 .have:=w1 he;have:=a0.a (s1.b2 he);grind[bk.ra,bk.na,vP,x1]
 rw[Am];generalize ob.map fy=N at aj⊢;generalize x.bB=c at aj⊢;refine Un.cn λad ae Q aV=> ?_;conv=>cbv
 repeat ((first|refine cZ ?_|refine c6 ?_|simp -proj only[e8 ae]);conv=>cbv)
 try trivial
 all_goals (subst ae;exact bZ aV axV axV)
theorem aop{p fG:aG}(x:bk)(ak:x.good)(a0:gM p fG 1)(b2:aM 89 [.ptr 0 0,.d (fu i6)] [p.ob] (.d (int ((5:Nat):Int))) [fG.ob]):
  ∃(q:aG) (y:bk),ur p q x y/\aM 174 [.ptr 0 0,.d (.agg x.bB.cs)] [p.ob] (.d (.agg y.bB.cs)) [q.ob]:=by
 obtain⟨q,nv,ns,ai,⟨s1,ay,w1⟩,aj⟩:=aoj fG 6 x.bB a0.ok;refine⟨q,.mk 6 [] [x] la ns [] [] ai [] 0,⟨a0.s.trans s1,⟨dG.zero,sI,trivial,ak,trivial⟩,λhe=> ?_⟩,?_⟩
 .have:=w1 he;have:=a0.a (s1.b2 he);grind[bk.ra,bk.na,vP,x1]
 rw[Am];generalize ai.map eM=N at aj⊢;generalize x.bB=c at aj⊢;unfold fu at ay;rcases ay with⟨rfl,rfl⟩|rfl
 .refine Un.cn λad ae Q aV=> ?_;conv=>cbv
  repeat ((first|refine cZ ?_|refine c6 ?_|simp -proj only[e8 ae]);conv=>cbv)
  try trivial
  all_goals (subst ae;exact bZ aV axV axV)
 .generalize ns.map D.str=L at aj⊢;refine Un.cn λad ae Q aV=> ?_;conv=>cbv
  repeat ((first|refine cZ ?_|refine c6 ?_|simp -proj only[e8 ae]);conv=>cbv)
  try trivial
  all_goals (subst ae;exact bZ aV axV axV)
theorem ab4{d:Nat}(h:qa 173 d){p fG:aG}(aY:fG.dS=d)(x:bk)(k:Nat)(aq:k=3\/k=4)(ak:x.good)(a0:gM p fG 1)(b2:aM 89 [.ptr 0 0,.d (fu i6)] [p.ob] (.d (int (k:Int))) [fG.ob]):
  ∃(q:aG) (y:bk),ur p q x y/\aM 174 [.ptr 0 0,.d (.agg x.bB.cs)] [p.ob] (.d (.agg y.bB.cs)) [q.ob]:=by
 obtain⟨q,y,on,⟨s1,g1,w1⟩,aj⟩:=aoe h fG (k+1:Nat) x.bB a0.ok aY;refine⟨q,.mk (k+1:Nat) [] [x,y] la [] [] on [] [] 0,⟨a0.s.trans s1,⟨dG.zero,sI,trivial,ak,g1,trivial⟩,λhe=> ?_⟩,?_⟩
 .have:=w1 he;have:=a0.a (s1.b2 he);grind[bk.ra,bk.qb,vP,x1]
 rw[ab3];generalize on.map fx=N at aj⊢;generalize x.bB=c at aj⊢;generalize y.bB=aoq at aj⊢;rcases aq with rfl|rfl
 .refine Un.cn λad ae Q aV=> ?_;conv=>cbv
  repeat ((first|refine cZ ?_|refine c6 ?_|simp -proj only[e8 ae]);conv=>cbv)
  try trivial
  all_goals (subst ae;exact bZ aV axV axV)
 .refine Un.cn λad ae Q aV=> ?_;conv=>cbv
  repeat ((first|refine cZ ?_|refine c6 ?_|simp -proj only[e8 ae]);conv=>cbv)
  try trivial
  all_goals (subst ae;exact bZ aV axV axV)
theorem aor{d:Nat}(h:qa 173 d){p fG:aG}(aY:fG.dS=d)(x:bk)(ak:x.good)(a0:gM p fG 1)(b2:aM 89 [.ptr 0 0,.d (fu i6)] [p.ob] (.d (int ((6:Nat):Int))) [fG.ob]):
  ∃(q:aG) (y:bk),ur p q x y/\aM 174 [.ptr 0 0,.d (.agg x.bB.cs)] [p.ob] (.d (.agg y.bB.cs)) [q.ob]:=by
 obtain⟨q,y,h1,aj⟩:=h fG a0.ok aY;refine⟨q,.mk 7 [] [x,y] la [] [] [] [] [] 0,⟨a0.s.trans h1.s,⟨dG.zero,sI,trivial,ak,h1.g,trivial⟩,λhe=> ?_⟩,?_⟩
 .have:=h1.w he;have:=a0.a (h1.s.b2 he);grind[bk.ra,bk.qb,vP,x1]
 rw[ab3];generalize x.bB=c;generalize y.bB=aoq at aj⊢;refine Un.cn λad ae Q aV=> ?_;conv=>cbv
 repeat ((first|refine cZ ?_|refine c6 ?_|simp -proj only[e8 ae]);conv=>cbv)
 try trivial
 all_goals (subst ae;exact bZ aV axV axV)
theorem aos{d:Nat}(h:qa 173 d)(p:aG)(x:bk)(hp:p.Ok)(aY:p.dS=d)(ak:x.good):
  ∃(q:aG) (y:bk),ur p q x y/\aM 174 [.ptr 0 0,.d (.agg x.bB.cs)] [p.ob] (.d (.agg y.bB.cs)) [q.ob]:=by
 obtain⟨fG,k,⟨a0,aq⟩,b2⟩:=C7 p i6 hp ax0;have wP:fG.dS=d:=by rw[a0.s.d];omega
 replace aq:k<=8:=aq;match k,aq,b2 with
 |0,_,b2=>grind[aok]
 |1,_,b2=>grind[aol]
 |2,_,b2=>grind[aom]
 |3,_,b2=>grind[ab4]
 |4,_,b2=>grind[ab4]
 |5,_,b2=>grind[aop]
 |6,_,b2=>grind[aor]
 |7,_,b2=>grind[aon]
 |8,_,b2=>grind[aoo]
 |n+9,h,_=>omega
def aot(q:aG)(c:ef):ag:=pV [(0,.ptr 0 0),(2,.dT 2 0),(3,.dT 3 0)] [(2,[.d (int 0),.d (.str []),.own 16 [],.d (int 0),.d (.str []),.d (int 0),.d (int 0),.d (.str []),.d (.str []),.own 7 [],.own 1 [],.own 7 [],.own 2 [],.own 3 [],.own 2 [],.d (int 0)]),(3,c.v)] [q.ob]
theorem ab5{d:Nat}(h:qa 173 d):qa 126 d:=by
 intro p hp aY;suffices hh:∃r s',(∃(q:aG) (x:bk),nK p q x/\r=.d (.agg x.bB.cs)/\s'=[q.ob])/\aM 126 [.ptr 0 0] [p.ob] r s' by
  grind
 obtain⟨q,x,h1,aj⟩:=h p hp aY;generalize az:x.bB=c at aj;refine Lw.cu _ λad ae K ao=> ?_;refine af ?_;refine⟨bX (λz:aG×ef=>aot z.1 z.2) (λz=>∃x:bk,nK p z.1 x/\x.bB=z.2) λz=>z.1.l.length-z.1.i,_,⟨(q,c),⟨x,h1,az⟩,rfl,axV⟩,?_⟩;rintro _ _ ⟨⟨q,c⟩,⟨x,h1,az⟩,rfl,rfl⟩;dsimp only at h1 az⊢;subst az;have aS:=h1.s.ok;cases hi:q.is [124]with
 |false=>
  have aj:=mT aS hi;generalize az:x.bB=c;refine af ?_;subst az;exact ao _ _ ⟨q,x,h1,axV,axV⟩
 |true=>
  have dw:=aG.q8 (aG.hO hi);have ay:=aG.h9 aS (aG.hO hi);have aj:=mS aS hi;obtain⟨r,y,⟨s2,g2,bW⟩,aF⟩:=aos h q.next x ay.ok (by rw[ay.d,h1.s.d];omega) h1.g;have vu:q.next.i=q.i+1:=rfl;generalize q.next=awo at*;generalize az:x.bB=c at*;generalize zl:y.bB=c2 at*;refine af ?_;refine ec (r,c2) ⟨y,⟨(h1.s.trans ay).trans s2,g2,λhe=>by have:=bW he;have:=h1.w (ay.b2 (s2.b2 he));grind⟩,zl⟩ ?_ axV;have:=s2.i;show r.l.length-r.i<q.l.length-q.i;rw[s2.l,ay.l];omega
theorem aou:∀(k d:Nat),32<=d+k->qa 126 d:=by
 intro k;induction k with
 |zero=>grind[ab5,ab2]
 |succ k ih=>grind[ab5,ab2]
theorem aov(d:Nat):qa 126 d:=aou 32 d axW
structure ja where
 a:aw
 x2:Int
 nm:Int
 b:aw
def dW(x:ja):D:=.agg [.str x.a,int x.x2,int x.nm,.str x.b]
def bD(x:aw×Int):D:=.agg [.str x.1,int x.2]
def ja.good(x:ja):Prop:=dG x.x2/\dG x.nm
def jv(l:List ja):Nat:=fS (λx=>x.a.length+x.b.length) l
def jU(l:List (aw×Int)):Nat:=fS (λx=>x.1.length) l
def aow:List aw:=[[104,111,117,114,108,121],[100,97,105,108,121],[119,101,101,107,108,121],[109,111,110,116,104,108,121],[115,116,97,116,105,99]]
theorem An(p:aG)(k:Int)(aq:k≠0)(hp:p.Ok):∃(q:aG) (hj tn g':Int) (lI:aw),(gM p q 1/\dG tn/\lI.length<=16384)/\aM 127 [.ptr 0 0,.d (int k)] [p.ob] (.d (.agg [int hj,.str lI,int tn,int g'])) [q.ob]:=by
 have bw:=nJ (k:=k) hp aq;have g1:=(aG.C2 (k:=k) hp);have aj:=L9 p k hp;generalize p.iM k=t at aj g1;obtain⟨hj,lI,tn,g'⟩:=t;exact⟨_,hj,tn,g',lI,⟨bw,g1.2,g1.1⟩,aj⟩
theorem ab6{k m:Nat}(h:k<=m)(hm:m<=1000000):dG (k:Int):=by grind[dG]
theorem ab7(p:aG)(hp:p.Ok):∃(q:aG) (k s1 s2:Int),(gM p q 4/\dG k/\dG s1/\dG s2)/\aM 122 [.ptr 0 0] [p.ob] (.d (.agg [int k,int s1,int s2])) [q.ob]:=by
 obtain⟨q1,k,⟨bw,aq⟩,aj⟩:=C7 p aow hp ax0;obtain⟨bF,hj,tn,g',lI,⟨a2,g2,_⟩,aF⟩:=An q1 2 axW bw.ok;have a3:=mh (s:=[46,46]) a2.ok;have aZ:=jT bF [46,46] a2.ok;generalize bF.want [46,46]=cE at aZ a3;obtain⟨ei,awp,un,up,ut,⟨a4,g4,_⟩,bP⟩:=An cE 2 axW a3.ok;refine⟨ei,k,tn,un,⟨((bw.trans a2).trans a3).trans a4,ab6 aq ax0,g2,g4⟩,?_⟩;refine XD.cn λad ae Q aV=> ?_;refine af ?_
 (subst ae;exact bZ aV axX axV)
def aox:List aw:=[[115,97,109,101],[108,97,115,116],[115,104,105,102,116],[119,105,116,104,105,110],[97,108,108]]
theorem awq{ad:bm}(h:ad=bm.bU)(a b:Int):dG (ad.io .sub .i64 a b):=by subst h;exact wrap_i64 _
theorem aoy(p:aG)(hp:p.Ok):∃(q:aG) (k n:Int),(Step p q/\dG k/\dG n)/\aM 124 [.ptr 0 0] [p.ob] (.d (.agg [int k,int n])) [q.ob]:=by
 obtain⟨q1,k,⟨bw,aq⟩,aj⟩:=C7 p aox hp ax0;replace aq:k<=5:=aq;have GF:=ab6 aq ax0;by_cases sh:k=2
 .subst sh;obtain⟨bF,hj,tn,g',lI,⟨a2,g2,_⟩,aF⟩:=An q1 2 axW bw.ok;refine⟨bF,_,tn,⟨bw.s.trans a2.s,GF,g2⟩,?_⟩;refine Lc.cn λad ae Q aV=> ?_;conv=>cbv
  repeat ((first|refine cZ ?_|refine c6 ?_|simp -proj only[e8 ae]);conv=>cbv)
  try trivial
  all_goals (subst ae;exact bZ aV axV axV)
 .by_cases av:k=3
  .subst av;cases aK:q1.is [45]with
   |true=>
    have aF:=mS bw.ok aK;have a2:=abW bw.ok aK;generalize q1.next=bF at aF a2;obtain⟨cE,hj,tn,g',lI,⟨a3,g3,_⟩,aZ⟩:=An bF 2 axW a2.ok;refine⟨cE,_,IntKind.i64.wrap (0-tn),⟨(bw.s.trans a2.s).trans a3.s,GF,wrap_i64 _⟩,?_⟩;refine Lc.cn λad ae Q aV=> ?_;conv=>cbv
    repeat ((first|refine cZ ?_|refine c6 ?_|simp -proj only[e8 ae]);conv=>cbv)
    try trivial
    (subst ae;exact bZ aV axV axV)
   |false=>
    have aF:=mT bw.ok aK;obtain⟨cE,hj,tn,g',lI,⟨a3,g3,_⟩,aZ⟩:=An q1 2 axW bw.ok;refine⟨cE,_,tn,⟨bw.s.trans a3.s,GF,g3⟩,?_⟩;refine Lc.cn λad ae Q aV=> ?_;conv=>cbv
    repeat ((first|refine cZ ?_|refine c6 ?_|simp -proj only[e8 ae]);conv=>cbv)
    try trivial
    all_goals (subst ae;exact bZ aV axV axV)
  .refine⟨q1,k,0,⟨bw.s,GF,dG.zero⟩,?_⟩;refine Lc.cn λad ae Q aV=> ?_;have t2:ad.aD .eql (k:Int) 2=false:=ax6;have t3:ad.aD .eql (k:Int) 3=false:=ax6;generalize (k:Int)=k at*;refine af ?_
   (subst ae;exact bZ aV axX axV)
def uu(k:Int)(n:aw)(bq:List D)(db s1 s2:Int)(bM:List D):List ah:=[.d (int k),.d (.str n),.own 2 bq,.d (int db),.d (int s1),.d (int s2),.own 4 bM,
 .d (int 0),.d (.str []),.own 16 [],.d (int 0),.d (.str []),.d (int 0),.d (int 0),.d (.str []),.d (.str []),.own 7 [],.own 1 [],.own 7 [],.own 2 [],.own 3 [],.own 2 [],.d (int 0),
 .d (.str []),.own 1 []]
def Ao(p:aG)(c:List ah):aU:=[.box [.ptr 2 0],.box c,p.ob]
def uv(p:aG)(c:List ah):aU:=[p.ob,.box [.ptr 0 0],.box c]
structure Ap where
 bq:List D
 bM:List D
def Ap.v(a:Ap)(k:Int)(n:aw)(db s1 s2:Int):List ah:=uu k n a.bq db s1 s2 a.bM
def aoz(f:Nat)(p:aG)(c:List ah):ag:=cx [(0,.ptr 0 0),(1,.func f [] [.ptr 1 0,.ptr 2 0])] (uv p c)
theorem ab8(f:Nat)(k:Int)(n:aw)(db s1 s2:Int)(J I:aG->Ap->Prop)
  (one:∀p a,p.Ok->J p a->∃q b,Step p q/\I q b/\aM f [.ptr 0 0,.ptr 1 0] (Ao p (a.v k n db s1 s2)) (.tuple []) (Ao q (b.v k n db s1 s2)))
  (next:∀p a,p.Ok->I p a->p.is [44]=true->J p.next a) (p:aG) (a:Ap) (hp:p.Ok) (aK:J p a):
  ∃q b,(Step p q/\I q b)/\aM 120 [.ptr 0 0,.func f [] [.ptr 1 0,.ptr 2 0]] (uv p (a.v k n db s1 s2)) (.tuple []) (uv q (b.v k n db s1 s2)):=by
 obtain⟨q,b,h1,sh,av⟩:=one p a hp aK;suffices h:∃r s',(∃q b,(Step p q/\I q b)/\r=.tuple []/\s'=uv q (Ap.v b k n db s1 s2))/\aM 120 [.ptr 0 0,.func f [] [.ptr 1 0,.ptr 2 0]] (uv p (a.v k n db s1 s2)) r s' by
  grind
 refine alW.cu _ λad ae K ao=> ?_;refine af ?_;refine⟨bX (λz:aG×Ap=>aoz f z.1 (z.2.v k n db s1 s2)) (λz=>Step p z.1/\I z.1 z.2) λz=>z.1.l.length-z.1.i,_,⟨(q,b),⟨h1,sh⟩,rfl,axV⟩,?_⟩;rintro _ _ ⟨⟨q,b⟩,⟨h1,sh⟩,rfl,rfl⟩;have aS:=h1.ok;cases hi:q.is [44]with
 |false=>
  have aj:=mT aS hi;refine af ?_;exact ao _ _ ⟨q,b,⟨h1,sh⟩,axX,axV⟩
 |true=>
  have dw:=aG.q8 (aG.hO hi);have ay:=aG.h9 aS (aG.hO hi);have aj:=mS aS hi;obtain⟨q',cj,k1,k2,fX⟩:=one q.next b ay.ok (next q b aS sh hi);refine af ?_;refine ec (q',cj) ⟨(h1.trans ay).trans k1,k2⟩ ?_ axV;have:=k1.i;show q'.l.length-q'.i<q.l.length-q.i;rw[k1.l];show q.l.length-q'.i<q.l.length-q.i;have:q.next.i=q.i+1:=rfl;omega
theorem aoA(p:aG)(n:aw)(bq:List D)(hp:p.Ok)(ak:bq.length<=2147483648):∃(q:aG) (z:aw×Int),(gM p q 2/\z.1.length<=16384)/\
  aM 121 [.ptr 0 0,.ptr 1 0] (Ao p (uu 1 n bq 0 0 0 [])) (.tuple []) (Ao q (uu 1 n (bq++[bD z]) 0 0 0 [])):=by
 have bw:=nJ (k:=1) hp axW;have g1:=aG.o5 (k:=1) hp;have aj:=oj p hp;generalize p.hN 1=q1 at aj bw;generalize (p.iM 1).t=t1 at aj g1;obtain⟨bF,j,⟨a2,aK⟩,aF⟩:=C7 q1 [[105,110,116],[116,101,120,116]] bw.ok ax0;refine⟨bF,(t1,j),⟨bw.trans a2,g1⟩,?_⟩;refine XB.cn λad ae Q aV=> ?_;refine af ?_
 (subst ae;exact bZ aV axX axV)
theorem aoB(p:aG)(n:aw)(db s1 s2:Int)(bM:List D)(hp:p.Ok)(ak:bM.length<=2147483648):∃(q:aG) (z:ja),(gM p q 3/\z.good/\z.a.length<=16384/\z.b.length<=16384)/\
  aM 123 [.ptr 0 0,.ptr 1 0] (Ao p (uu 2 n [] db s1 s2 bM)) (.tuple []) (Ao q (uu 2 n [] db s1 s2 (bM++[dW z]))):=by
 have bw:=nJ (k:=1) hp axW;have g1:=aG.o5 (k:=1) hp;have aj:=oj p hp;generalize p.hN 1=q1 at aj bw;generalize (p.iM 1).t=t1 at aj g1;obtain⟨bF,mk,qm,⟨sh,g2,g3⟩,aF⟩:=aoy q1 bw.ok;have a3:=mh (s:=[97,115]) sh.ok;have aZ:=jT bF [97,115] sh.ok;generalize bF.want [97,115]=cE at aZ a3;have a4:=nJ (k:=1) a3.ok axW;have g4:=aG.o5 (k:=1) a3.ok;have bP:=oj cE a3.ok;generalize cE.hN 1=ei at bP a4;generalize (cE.iM 1).t=t4 at bP g4;refine⟨ei,⟨t1,mk,qm,t4⟩,⟨((bw.trans (.of sh)).trans a3).trans a4,⟨g2,g3⟩,g1,g4⟩,?_⟩;refine alX.cn λad ae Q aV=> ?_;refine af ?_
 (subst ae;exact bZ aV axX axV)
structure b8 where
 k:Int
 n:aw
 bq:List (aw×Int)
 db:Int
 s1:Int
 s2:Int
 bM:List ja
 pl:bk
 fI:aw
 ms:List aw
structure lb where
 k:Int
 n:aw
 bq:List D
 db:Int
 s1:Int
 s2:Int
 bM:List D
 pl:ef
 fI:aw
 ms:List D
def lb.cs(c:lb):List D:=[int c.k,.str c.n,.list 2 c.bq,int c.db,int c.s1,int c.s2,.list 4 c.bM,
 int c.pl.k,.str c.pl.n,.list 16 c.pl.a,int c.pl.cH,.str c.pl.k3,int c.pl.mW,int c.pl.mX,.str c.pl.mY,.str c.pl.mZ,.list 7 c.pl.dH,.list 1 c.pl.ns,.list 7 c.pl.xs,.list 2 c.pl.on,.list 3 c.pl.ai,.list 2 c.pl.ob,int c.pl.cD,
 .str c.fI,.list 1 c.ms]
def b8.cU(x:b8):lb:=⟨x.k,x.n,x.bq.map bD,x.db,x.s1,x.s2,x.bM.map dW,x.pl.bB,x.fI,x.ms.map .str⟩
def b8.d(x:b8):D:=.agg x.cU.cs
structure b8.Good(x:b8):Prop where
 k:0<=x.k/\x.k<=3
 db:dG x.db
 s1:dG x.s1
 s2:dG x.s2
 bM:∀z∈x.bM,z.good
 pl:x.pl.good
def b8.w(x:b8):Nat:=1000+x.n.length+jU x.bq+jv x.bM+x.pl.w+x.fI.length+fw x.ms
theorem aoC(p:aG)(ws:List aw)(hp:p.Ok)(hw:ws.length<=1000):∃(q:aG) (k:Nat),((gM p q 1/\k<=ws.length)/\(q.e=0->1<=k))/\aM 89 [.ptr 0 0,.d (fu ws)] [p.ob] (.d (int k)) [q.ob]:=by
 have h:=Ma hp (l:=ws) (k:=0);exact⟨_,_,⟨⟨⟨h.1,λhe=>axW⟩,axW⟩,λh=>(aby h).2.2⟩,abA p ws hp hw⟩
theorem Ms{p:aG}(h:(p.hN 1).e=0):∃t∈p.l,t.k=1/\(p.iM 1).t=t.t:=by
 have bh:(p.fail 51).e≠0:=aG.om ax0;have hp:=@aG.q8 p;unfold aG.hN at h;unfold aG.iM;by_cases aq:p.dU.k=1
 .obtain⟨h1,sh⟩:=hp axW;have av:p.dU=p.l[p.i]:=by unfold aG.dU;simp[h1,sh]
  exact⟨p.dU,av▸aAl sh,aq,by simp[aq]⟩
 .simp[aq,bh]at h
structure x3(p q:aG)(x:b8):Prop where
 s:Step p q
 g:x.Good
 w:q.e=0->x.w+20000*p.i<=20000*q.i
 nm:q.e=0->∃t∈p.l,t.k=1/\x.n=t.t
theorem GG(n:Nat)(h:n<=3):(0:Int)<=(n:Int)/\(n:Int)<=3:=axW
theorem awr:sJ.w=700:=rfl
structure Mt(p q:aG)(m:Nat)(l:List (aw×Int)):Prop where
 s:Step p q
 n:l.length<=q.i+m
 w:q.e=0->jU l+20000*p.i<=20000*q.i
structure GH(p q:aG)(m:Nat)(l:List ja):Prop where
 s:Step p q
 n:l.length<=q.i+m
 g:∀z∈l,z.good
 w:q.e=0->jv l+20000*p.i<=20000*q.i
theorem aoD(p:aG)(n:aw)(hp:p.Ok):∃(q:aG) (bq:List (aw×Int)),Mt p q 1 bq/\
  aM 120 [.ptr 0 0,.func 121 [] [.ptr 1 0,.ptr 2 0]] (uv p (uu 1 n [] 0 0 0 [])) (.tuple []) (uv q (uu 1 n (bq.map bD) 0 0 0 [])):=by
 obtain⟨q,b,⟨_,bq,h1,rfl⟩,e⟩:=ab8 121 1 n 0 0 0 (λq a=>∃bq,Mt p q 0 bq/\a=⟨bq.map bD,[]⟩) (λq a=>∃bq,Mt p q 1 bq/\a=⟨bq.map bD,[]⟩)
  (by
   rintro q a aS ⟨bq,h1,rfl⟩;have:=h1.n;have:=aS.i;have:=aS.l;obtain⟨r,z,⟨a2,g1⟩,e⟩:=aoA q n (bq.map bD) aS axZ;have:=a2.s.i;refine⟨r,⟨(bq++[z]).map bD,[]⟩,a2.s,⟨bq++[z],⟨h1.s.trans a2.s,axZ,λhe=> ?_⟩,rfl⟩,ayV⟩;have:=a2.a he;have:=h1.w (a2.s.b2 he);unfold jU at this⊢;rw[q9];show _+(200+z.1.length+0)+_<=_;omega)
  (by
   rintro q a aS ⟨bq,h1,rfl⟩ hi;have ay:=aG.h9 aS (aG.hO hi);have:q.next.i=q.i+1:=rfl;exact⟨bq,⟨h1.s.trans ay,by have:=h1.n;omega,λhe=>azw⟩,rfl⟩)
  p ⟨[],[]⟩ hp ⟨[],⟨Step.refl hp,aAa _,λ_=>ayy⟩,rfl⟩
 exact⟨q,bq,h1,e⟩
theorem aoE(p:aG)(n:aw)(db s1 s2:Int)(hp:p.Ok):∃(q:aG) (bM:List ja),GH p q 1 bM/\
  aM 120 [.ptr 0 0,.func 123 [] [.ptr 1 0,.ptr 2 0]] (uv p (uu 2 n [] db s1 s2 [])) (.tuple []) (uv q (uu 2 n [] db s1 s2 (bM.map dW))):=by
 obtain⟨q,b,⟨_,bM,h1,rfl⟩,e⟩:=ab8 123 2 n db s1 s2 (λq a=>∃bM,GH p q 0 bM/\a=⟨[],bM.map dW⟩) (λq a=>∃bM,GH p q 1 bM/\a=⟨[],bM.map dW⟩)
  (by
   rintro q a aS ⟨bM,h1,rfl⟩;have:=h1.n;have:=aS.i;have:=aS.l;obtain⟨r,z,⟨a2,g0,g1,g2⟩,e⟩:=aoB q n db s1 s2 (bM.map dW) aS axZ;have:=a2.s.i;refine⟨r,⟨[],(bM++[z]).map dW⟩,a2.s,⟨bM++[z],⟨h1.s.trans a2.s,axZ,λy wa=> ?_,λhe=> ?_⟩,rfl⟩,ayV⟩
   .rcases aAT.1 wa with wa|wa
    .grind[GH.g]
    simp_all
   have:=a2.a he;have:=h1.w (a2.s.b2 he);unfold jv at this⊢;rw[q9];show _+(200+(z.a.length+z.b.length)+0)+_<=_;omega)
  (by
   rintro q a aS ⟨bM,h1,rfl⟩ hi;have ay:=aG.h9 aS (aG.hO hi);have:q.next.i=q.i+1:=rfl;exact⟨bM,⟨h1.s.trans ay,by have:=h1.n;omega,h1.g,λhe=>azw⟩,rfl⟩)
  p ⟨[],[]⟩ hp ⟨[],⟨Step.refl hp,aAa _,λ_ h=>(aAO h).elim,λ_=>ayy⟩,rfl⟩
 exact⟨q,bM,h1,e⟩
theorem aoF(p:aG)(hp:p.Ok):∃(q:aG) (x:b8),x3 p q x/\aM 90 [.ptr 0 0] [p.ob] (.d (.agg x.cU.cs)) [q.ob]:=by
 have bw:=nJ (k:=1) hp axW;have g1:=aG.o5 (k:=1) hp;have aj:=oj p hp;have gG:=@Ms p;generalize p.hN 1=q1 at aj bw gG;generalize (p.iM 1).t=t1 at aj g1 gG;have a2:=mh (s:=[40]) bw.ok;have aF:=jT q1 [40] bw.ok;generalize q1.want [40]=bF at aF a2;obtain⟨cE,bq,av,aZ⟩:=aoD bF t1 a2.ok;have a4:=mh (s:=[41]) av.s.ok;have bP:=jT cE [41] av.s.ok;generalize cE.want [41]=ei at bP a4;obtain⟨gF,db,s1,s2,⟨a5,i1,i2,i3⟩,cK⟩:=ab7 ei a4.ok;refine⟨gF,⟨1,t1,bq,db,s1,s2,[],sJ,[],[]⟩,⟨(((bw.s.trans a2.s).trans av.s).trans a4.s).trans a5.s,⟨GG 1 ax0,i1,i2,i3,λ_ h=>(aAO h).elim,C4⟩,λhe=> ?_,λhe=>gG (a2.s.b2 (av.s.b2 (a4.s.b2 (a5.s.b2 he))))⟩,?_⟩
 .have C8:=a5.s.b2 he;have vQ:=a4.s.b2 C8;have qc:=av.s.b2 vQ;have:=a5.a he;have:=a4.a C8;have:=av.w vQ;have:=a2.a qc;have:=bw.a (a2.s.b2 qc);show 1000+t1.length+jU bq+0+700+0+0+_<=_;omega
 show bG _ _ _ _ _ (.d (.agg (lb.cs ⟨1,t1,bq.map bD,db,s1,s2,[],sJ.bB,[],[]⟩))) _;generalize bq.map bD=L at aZ⊢;refine Xm.cn λad ae Q aV=> ?_;refine af ?_
 (subst ae;exact bZ aV axV axV)
theorem aoG(p:aG)(hp:p.Ok):∃(q:aG) (x:b8),x3 p q x/\aM 91 [.ptr 0 0] [p.ob] (.d (.agg x.cU.cs)) [q.ob]:=by
 have bw:=nJ (k:=1) hp axW;have g1:=aG.o5 (k:=1) hp;have aj:=oj p hp;have gG:=@Ms p;generalize p.hN 1=q1 at aj bw gG;generalize (p.iM 1).t=t1 at aj g1 gG;obtain⟨bF,db,s1,s2,⟨a2,i1,i2,i3⟩,aF⟩:=ab7 q1 bw.ok;have a3:=mh (s:=[102,114,111,109]) a2.ok;have aZ:=jT bF [102,114,111,109] a2.ok;generalize bF.want [102,114,111,109]=cE at aZ a3;obtain⟨ei,bM,aW,bP⟩:=aoE cE t1 db s1 s2 a3.ok;have a5:=mh (s:=[100,111]) aW.s.ok;have cK:=jT ei [100,111] aW.s.ok;generalize ei.want [100,111]=gF at cK a5;obtain⟨jD,y,cW,dO⟩:=an' (f:=126) (d:=gF.dS) (λ_=>aov _) gF a5.ok rfl;refine⟨jD,⟨2,t1,[],db,s1,s2,bM,y,[],[]⟩,⟨((((bw.s.trans a2.s).trans a3.s).trans aW.s).trans a5.s).trans cW.s,⟨GG 2 ax0,i1,i2,i3,aW.g,cW.g⟩,λhe=> ?_,λhe=>gG (a2.s.b2 (a3.s.b2 (aW.s.b2 (a5.s.b2 (cW.s.b2 he)))))⟩,?_⟩
 .have ab9:=cW.s.b2 he;have C8:=a5.s.b2 ab9;have vQ:=aW.s.b2 C8;have qc:=a3.s.b2 vQ;have:=cW.w he;have:=a5.a ab9;have:=aW.w C8;have:=a3.a vQ;have:=a2.a qc;have:=bw.a (a2.s.b2 qc);show 1000+t1.length+0+jv bM+y.w+0+0+_<=_;omega
 show bG _ _ _ _ _ (.d (.agg (lb.cs ⟨2,t1,[],db,s1,s2,bM.map dW,y.bB,[],[]⟩))) _;generalize bM.map dW=L at bP⊢;generalize y.bB=c at dO⊢;refine Zg.cn λad ae Q aV=> ?_;refine af ?_
 (subst ae;exact bZ aV axV axV)
theorem aoH(p:aG)(hp:p.Ok):∃(q:aG) (x:b8),x3 p q x/\aM 92 [.ptr 0 0] [p.ob] (.d (.agg x.cU.cs)) [q.ob]:=by
 have bw:=nJ (k:=1) hp axW;have g1:=aG.o5 (k:=1) hp;have aj:=oj p hp;have gG:=@Ms p;generalize p.hN 1=q1 at aj bw gG;generalize (p.iM 1).t=t1 at aj g1 gG;obtain⟨bF,hj,tn,g',lI,⟨a2,_,g2⟩,aF⟩:=An q1 3 axW bw.ok;have a3:=mh (s:=[109,97,107,101,115]) a2.ok;have aZ:=jT bF [109,97,107,101,115] a2.ok;generalize bF.want [109,97,107,101,115]=cE at aZ a3;obtain⟨ei,ms,⟨aW,jP⟩,bP⟩:=abC cE a3.ok;refine⟨ei,⟨3,t1,[],0,0,0,[],sJ,lI,ms⟩,⟨((bw.s.trans a2.s).trans a3.s).trans aW,⟨GG 3 ax0,dG.zero,dG.zero,dG.zero,λ_ h=>(aAO h).elim,C4⟩,λhe=> ?_,λhe=>gG (a2.s.b2 (a3.s.b2 (aW.b2 he)))⟩,?_⟩
 .have vQ:=aW.b2 he;have qc:=a3.s.b2 vQ;have:=jP he;have:=a3.a vQ;have:=a2.a qc;have:=bw.a (a2.s.b2 qc);show 1000+t1.length+0+0+700+lI.length+fw ms+_<=_;omega
 show bG _ _ _ _ _ (.d (.agg (lb.cs ⟨3,t1,[],0,0,0,[],sJ.bB,lI,ms.map .str⟩))) _;unfold fu at bP;generalize ms.map D.str=L at bP⊢;refine VG.cn λad ae Q aV=> ?_;refine af ?_
 (subst ae;exact bZ aV axV axV)
def ab':b8:=⟨0,[],[],0,0,0,[],sJ,[],[]⟩
theorem aoI:ab'.Good:=⟨GG 0 ax0,dG.zero,dG.zero,dG.zero,λ_ h=>(aAO h).elim,C4⟩
def aoJ:List aw:=[[115,111,117,114,99,101],[97,115,115,101,116],[115,99,104,101,100,117,108,101]]
theorem aoK(p:aG)(hp:p.Ok):∃(q:aG) (x:b8),(x3 p q x/\(q.e=0->p.i<q.i))/\aM 62 [.ptr 0 0] [p.ob] (.d (.agg x.cU.cs)) [q.ob]:=by
 obtain⟨q1,k,⟨⟨bw,aq⟩,h1⟩,aj⟩:=aoC p aoJ hp ax0;replace aq:k<=3:=aq;have cv:∀(f:Nat),(∃(q:aG) (x:b8),x3 q1 q x/\aM f [.ptr 0 0] [q1.ob] (.d (.agg x.cU.cs)) [q.ob])->∃(bF q:aG) (x:b8),(x3 p q x/\(q.e=0->p.i<q.i))/\aM f [.ptr 0 0] [q1.ob] (.d (.agg x.cU.cs)) [bF.ob]/\aM 93 [.ptr 0 0,.d (.str [59])] [bF.ob] (.tuple []) [q.ob]:=by
  rintro f ⟨bF,x,sh,aF⟩;have a3:=mh (s:=[59]) sh.s.ok;have aZ:=jT bF [59] sh.s.ok;refine⟨bF,_,x,⟨⟨(bw.s.trans sh.s).trans a3.s,sh.g,λhe=> ?_,λhe=>bw.s.l▸sh.nm (a3.s.b2 he)⟩,λhe=> ?_⟩,aF,aZ⟩
  .have qc:=a3.s.b2 he;have:=a3.a he;have:=sh.w qc;have:=bw.a (sh.s.b2 qc);omega
  .have qc:=a3.s.b2 he;have:=a3.a he;have:=sh.s.i;have:=bw.s.i;omega
 match k,aq,aj,h1 with
 |0,_,aj,h1=>
  have a2:=mh (s:=[59]) bw.ok;have aF:=jT q1 [59] bw.ok;generalize q1.want [59]=bF at aF a2;refine⟨bF,ab',⟨⟨bw.s.trans a2.s,aoI,λhe=> ?_,λhe=>absurd (h1 (a2.s.b2 he)) ax0⟩,λhe=> ?_⟩,?_⟩
  .have:=(bw.trans a2).a he;show 1000+0+0+0+700+0+0+_<=_;omega
  .have:=(bw.trans a2).a he;omega
  refine TR.cn λad ae Q aV=> ?_;conv=>cbv
  repeat ((first|refine cZ ?_|refine c6 ?_|simp -proj only[e8 ae]);conv=>cbv)
  try trivial
  all_goals (subst ae;exact bZ aV axV axV)
 |1,_,aj,_=>
  obtain⟨bF,q,x,h,aF,aZ⟩:=cv _ (aoF q1 bw.ok);refine⟨q,x,h,?_⟩;generalize x.cU=c at aF⊢;refine TR.cn λad ae Q aV=> ?_;conv=>cbv
  repeat ((first|refine cZ ?_|refine c6 ?_|simp -proj only[e8 ae]);conv=>cbv)
  try trivial
  all_goals (subst ae;exact bZ aV axV axV)
 |2,_,aj,_=>
  obtain⟨bF,q,x,h,aF,aZ⟩:=cv _ (aoG q1 bw.ok);refine⟨q,x,h,?_⟩;generalize x.cU=c at aF⊢;refine TR.cn λad ae Q aV=> ?_;conv=>cbv
  repeat ((first|refine cZ ?_|refine c6 ?_|simp -proj only[e8 ae]);conv=>cbv)
  try trivial
  all_goals (subst ae;exact bZ aV axV axV)
 |3,_,aj,_=>
  obtain⟨bF,q,x,h,aF,aZ⟩:=cv _ (aoH q1 bw.ok);refine⟨q,x,h,?_⟩;generalize x.cU=c at aF⊢;refine TR.cn λad ae Q aV=> ?_;conv=>cbv
  repeat ((first|refine cZ ?_|refine c6 ?_|simp -proj only[e8 ae]);conv=>cbv)
  try trivial
  all_goals (subst ae;exact bZ aV axV axV)
 |n+4,h,_,_=>omega
def x4(s:aw)(x:List Tok×Nat×Int):aG:=⟨x.1,oi x.1,0,s.length,0,x.2.2,x.2.1⟩
theorem aoL(s:aw):aM 61 [.d (.str s)] [] (.ptr 0 0) [(x4 s (iu s)).ob]:=by
 have aj:=anE s;generalize iu s=x at aj⊢;obtain⟨l,p,e⟩:=x;have aj:aM 88 [.d (.str s)] [] (.tuple [.d (oi l),.d (int p),.d (int e)]) []:=aj;unfold x4;unfold oi at aj⊢;generalize l.map Tok.d=T at aj⊢;refine Y1.cn λad ae Q aV=> ?_;refine af ?_
 (subst ae;exact bZ aV axX axV)
theorem aoM(s:aw):(x4 s (iu s)).Ok:=⟨aAa _,by have:=(L8 s).2;show(iu s).1.length<=_;omega,aAa _,(L8 s).1,rfl⟩
def ml(p:aG):aG:=cond (decide (p.e=0)&&decide (p.i<p.l.length)) (p.fail 51) p
theorem aoN{p:aG}(h:(ml p).e=0):ml p=p/\p.e=0:=by
 grind[ml,aG.om]
theorem aoO(p:aG)(hp:p.Ok)(l:List D):aM 63 [.ptr 0 0,.d (.list 25 l)] [p.ob] (cond (decide ((ml p).e=0)) (.tuple [.d (.list 25 l),.d (int p.n),.d (int 0)]) (.tuple [.d (.list 25 []),.d (int (ml p).a),.d (int (ml p).e)])) [(ml p).ob]:=by
 have h1:=hp.i;have aj:=p7 p 51 hp;by_cases h:p.e=0
 .by_cases hi:p.i<p.l.length
  .have bp:ml p=p.fail 51:=by grind[ml]
   have he:(p.fail 51).e≠0:=aG.om axW;rw[bp,aAK he];generalize p.fail 51=q at aj he⊢;rw[aG.xX hp]at aj⊢;have aI:(p.l.map Tok.d).length=p.l.length:=aAb _;unfold oi at aj⊢;generalize p.l.map Tok.d=T at*;refine Y3.cn λad ae Q aV=> ?_;have t1:ad.aD .eql p.e 0=true:=ax6;have t2:ad.aD .lss (Int.ofNat p.i) (Int.ofNat (ad.len T))=true:=ax1;have t3:ad.aD .neq q.e 0=true:=ax1;refine af ?_
   (subst ae;exact bZ aV axX axV)
  .have bp:ml p=p:=by grind[ml]
   rw[bp,aAk h,aG.xX hp];have aI:(p.l.map Tok.d).length=p.l.length:=aAb _;unfold oi;generalize p.l.map Tok.d=T at*;refine Y3.cn λad ae Q aV=> ?_;have t1:ad.aD .eql p.e 0=true:=ax6;have t2:ad.aD .lss (Int.ofNat p.i) (Int.ofNat (ad.len T))=false:=ax1;have t3:ad.aD .neq p.e 0=false:=ax1;refine af ?_
   (subst ae;exact bZ aV axX axV)
 .have bp:ml p=p:=by grind[ml]
  rw[bp,aAK h];refine Y3.cn λad ae Q aV=> ?_;have t1:ad.aD .eql p.e 0=false:=ax6;have t3:ad.aD .neq p.e 0=true:=ax1;refine af ?_
  (subst ae;exact bZ aV axX axV)
def hn(l:List b8):Nat:=fS b8.w l
structure Mu(p:aG)(l:List b8)(q:aG):Prop where
 s:Step p q
 n:l.length<=q.i+1
 m:q.e=0->l.length<=q.i
 g:∀x∈l,x.Good
 w:q.e=0->hn l+20000*p.i<=40000*q.i
 nm:q.e=0->∀x∈l,∃t∈p.l,t.k=1/\x.n=t.t
def aca(q:aG)(l:List D):ag:=cx [(2,.own 25 l),(5,.ptr 0 0)] [q.ob]
theorem acb(s:aw):∃(l:List b8) (a:Int) (e:Int),((∀x∈l,x.Good)/\hn l<=1000000000/\l.length<=16384/\(e≠0->l=[])/\∀x∈l,x.n≠[])/\aM 45 [.d (.str s)] [] (.tuple [.d (.list 25 (l.map b8.d)),.d (int a),.d (int e)]) []:=by
 refine K8 ?_;have aj:=aoL s;have hp:=aoM s;have qX:(x4 s (iu s)).i=0:=rfl;have pH:(x4 s (iu s)).l.length<=16384:=(L8 s).2;have hw:∀t∈(x4 s (iu s)).l,t.k=1->t.t≠[]:=anC s;generalize x4 s (iu s)=p at aj hp qX pH hw;refine YT.cu _ λad ae K ao=> ?_;refine af ?_;refine⟨bX (λz:aG×List D=>aca z.1 z.2) (λz=>∃l,Mu p l z.1/\z.2=l.map b8.d) λz=>cond (decide (z.1.e=0)) (z.1.l.length-z.1.i+1) 0,_,⟨(p,[]),⟨[],⟨Step.refl hp,aAa _,λ_=>aAa _,λ_ h=>(aAO h).elim,λ_=>ayy,λ_ _ h=>(aAO h).elim⟩,rfl⟩,rfl,axV⟩,?_⟩;rintro _ _ ⟨⟨q,L⟩,⟨l,dr,bE⟩,rfl,rfl⟩;dsimp only at dr bE⊢;have aS:=dr.s.ok;have hlen:L.length=l.length:=axZ;have h1:=aS.i;have sh:q.l.length<=16384:=by grind[Step.l,Mu.s]
 have ew:(q.l.map Tok.d).length=q.l.length:=aAb _;unfold aca;have fin:(q.e=0->¬q.i<q.l.length)->∀ob,ob=q.ob->∃r,aM 63 [.ptr 0 0,.d (.list 25 L)] [ob] r [(ml q).ob]/\∃(l2:List b8) (a e:Int),((∀x∈l2,x.Good)/\hn l2<=1000000000/\l2.length<=16384/\(e≠0->l2=[])/\∀x∈l2,x.n≠[])/\r=.tuple [.d (.list 25 (l2.map b8.d)),.d (int a),.d (int e)]:=by
  rintro vz _ rfl;refine⟨_,aoO q aS L,?_⟩;by_cases he:(ml q).e=0
  .have:=aoN he;rw[aAk he];exact⟨l,_,_,⟨dr.g,by have:=dr.w this.2;omega,by have:=dr.m this.2;omega,λh=>absurd rfl h,λx ak=>by obtain⟨t,h1,sh,av⟩:=dr.nm this.2 x ak;rw[av];exact hw t h1 sh⟩,by rw[bE];rfl⟩
  .rw[aAK he];exact⟨[],_,_,⟨λ_ h=>(aAO h).elim,by show 0<=_;omega,aAa _,λ_=>rfl,λ_ h=>(aAO h).elim⟩,rfl⟩
 by_cases he:q.e=0
 .by_cases hi:q.i<q.l.length
  .obtain⟨r,x,⟨ak,aws⟩,aF⟩:=aoK q aS;rw[aG.xX aS]at aF⊢;unfold oi at aF⊢;have acd:x.d=.agg x.cU.cs:=rfl;generalize x.cU=c at aF acd;generalize aoP:q.l.map Tok.d=T at*;have t1:ad.aD .eql q.e 0=true:=ax6;have t2:ad.aD .lss (Int.ofNat q.i) (Int.ofNat (ad.len T))=true:=by simp only[aJ ae,aAh,aAi];omega
   have hm:=dr.m he;refine af ?_;refine ec (r,ad.app L [.agg c.cs]) ⟨l++[x],⟨dr.s.trans ak.s,?_,?_,?_,?_,?_⟩,?_⟩ ?_ axV
   .have:=ak.s.i;grind
   .grind
   .intro y wa;rcases aAT.1 wa with wa|wa
    .grind[Mu.g]
    .rw[aAF.1 wa];exact ak.g
   .intro h;have w1:=ak.w h;have bW:=dr.w (ak.s.b2 h);grind[hn,q9,fS]
   .intro h y wa;rcases aAT.1 wa with wa|wa
    .exact dr.nm (ak.s.b2 h) y wa
    .rw[aAF.1 wa,<-dr.s.l];exact ak.nm h
   .rw[show ad.app L [.agg c.cs]=L++[.agg c.cs]by rw[ae];rfl,aAy,bE,<-acd];rfl
   .have:=ak.s.i;show cond (decide (r.e=0)) (r.l.length-r.i+1) 0<cond (decide (q.e=0)) (q.l.length-q.i+1) 0;grind[Step.l,x3.s]
  .obtain⟨r,aF,l2,a,e,jm,rfl⟩:=fin (λ_=>hi) q.ob rfl;generalize ml q=bF at aF;rw[aG.xX aS]at aF⊢;unfold oi at aF⊢;have ao:=λs h=>ao _ s ⟨l2,a,e,jm,rfl,h⟩;generalize l2.map b8.d=jd at*;generalize aoP:q.l.map Tok.d=T at*;have t1:ad.aD .eql q.e 0=true:=ax6;have t2:ad.aD .lss (Int.ofNat q.i) (Int.ofNat (ad.len T))=false:=ayb;refine af ?_;exact ao _ axV
 .obtain⟨r,aF,l2,a,e,jm,rfl⟩:=fin (λh=>absurd h he) q.ob rfl;generalize ml q=bF at aF;have ao:=λs h=>ao _ s ⟨l2,a,e,jm,rfl,h⟩;generalize l2.map b8.d=jd at*;have t1:ad.aD .eql q.e 0=false:=ax6;refine af ?_;exact ao _ axV
theorem aoQ(s:aw):∃(l:List b8) (a:Int) (e:Int),((∀x∈l,x.Good)/\hn l<=1000000000/\l.length<=16384/\(e≠0->l=[]))/\aM 45 [.d (.str s)] [] (.tuple [.d (.list 25 (l.map b8.d)),.d (int a),.d (int e)]) []:=by
 obtain⟨l,a,e,⟨h1,sh,av,aW,_⟩,h⟩:=acb s;exact⟨l,a,e,⟨h1,sh,av,aW⟩,h⟩
end Go.Proofs.YthffhbakgmemaaaGreatDoor
