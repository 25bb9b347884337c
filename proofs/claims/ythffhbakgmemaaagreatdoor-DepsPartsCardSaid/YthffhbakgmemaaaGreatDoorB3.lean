/- Part of parts_said. -/
import Derived.Test.YthffhbakgmemaaaGreatDoorB2
set_option maxRecDepth 100000
set_option maxHeartbeats 8000000
set_option linter.unusedSimpArgs false
set_option linter.unusedVariables false
namespace Go.Proofs.YthffhbakgmemaaaGreatDoor
open Go Go.aG
attribute [local irreducible] bD
structure oI(p q:aJ)(m:Nat)(aw:List (ax×ax×ax)):Prop where
 s:Step p q
 n:aw.length<=q.i+m
 w:q.e=0->j1 aw+20000*p.i<=20000*q.i
structure tr(p q:aJ)(m:Nat)(ob:List (ax×Bool)):Prop where
 s:Step p q
 n:ob.length<=q.i+m
 w:q.e=0->j2 ob+20000*p.i<=20000*q.i
theorem oI.one{p q r:aJ}{aw:List (ax×ax×ax)}{z:ax×ax×ax}(h:oI p q 0 aw)(a:gP q r 5)(g1:z.1.length<=5)(g2:z.2.1.length<=16384)(g3:z.2.2.length<=16384):oI p r 1 (aw++[z]):=by
 have:=h.n;have:=a.s.i;refine⟨h.s.trans a.s,az9,λc=> ?_⟩;have:=a.a c;have:=h.w (a.s.bT c);unfold j1 at this⊢;rw[rO];show _+(200+(z.1.length+z.2.1.length+z.2.2.length)+0)+_<=_;omega
theorem tr.one{p q r:aJ}{ob:List (ax×Bool)}{z:ax×Bool}(h:tr p q 0 ob)(a:gP q r 1)(g1:z.1.length<=16384):tr p r 1 (ob++[z]):=by
 have:=h.n;have:=a.s.i;refine⟨h.s.trans a.s,az9,λc=> ?_⟩;have:=a.a c;have:=h.w (a.s.bT c);unfold j2 at this⊢;rw[rO];show _+(200+z.1.length+0)+_<=_;omega
theorem oI.wg{p q:aJ}{aw:List (ax×ax×ax)}(aS:q.Ok)(h:oI p q 1 aw)(hi:q.is [44]=true):oI p q.next 0 aw:=by
 have a:=aJ.im aS (aJ.h3 hi);have:q.next.i=q.i+1:=rfl;exact⟨h.s.trans a,by have:=h.n;omega,λc=>by have:=h.w (a.bT c);omega⟩
theorem tr.wg{p q:aJ}{aw:List (ax×Bool)}(aS:q.Ok)(h:tr p q 1 aw)(hi:q.is [44]=true):tr p q.next 0 aw:=by
 have a:=aJ.im aS (aJ.h3 hi);have:q.next.i=q.i+1:=rfl;exact⟨h.s.trans a,by have:=h.n;omega,λc=>by have:=h.w (a.bT c);omega⟩
theorem apr(p:aJ)(k:Int)(n c:Nat)(x:dO)(d:Int)(hp:p.Ok):∃(q:aJ) (ob:List (ax×Bool)),tr p q 1 ob/\
  aL 120 [.ptr 0 0,.func 261 [] [.ptr 1 0,.ptr 2 0]] (kQ p k n c x.v (.own 1 []) [] [] [] d) (.tuple []) (kQ q k n c x.v (.own 1 []) [] [] (ob.map fp) d):=by
 obtain⟨q,b,⟨_,ob,h1,rfl⟩,e⟩:=ac' 261 k n c x d (λq a=>∃ob,tr p q 0 ob/\a=⟨[],[],ob.map fp⟩) (λq a=>∃ob,tr p q 1 ob/\a=⟨[],[],ob.map fp⟩)
  (by
   rintro q a aS ⟨ob,h1,rfl⟩;have:=h1.n;have:=aS.i;have:=aS.l;obtain⟨r,z,⟨f,g1⟩,e⟩:=ao' q k n c x (ob.map fp) d aS az9;exact⟨r,⟨[],[],(ob++[z]).map fp⟩,f.s,⟨ob++[z],h1.one f g1,rfl⟩,aBb⟩)
  (by
   grind[tr.wg])
  p ⟨[],[],[]⟩ hp ⟨[],⟨Step.refl hp,aCu _,λ_=>aAJ⟩,rfl⟩
 grind
theorem aps(p:aJ)(k:Int)(n c:Nat)(x:dO)(hp:p.Ok):∃(q:aJ) (aw:List (ax×ax×ax)),oI p q 1 aw/\
  aL 120 [.ptr 0 0,.func 260 [] [.ptr 1 0,.ptr 2 0]] (kQ p k n c x.v (.own 1 []) [] [] [] 0) (.tuple []) (kQ q k n c x.v (.own 1 []) [] (aw.map eK) [] 0):=by
 obtain⟨q,b,⟨_,aw,h1,rfl⟩,e⟩:=ac' 260 k n c x 0 (λq a=>∃aw,oI p q 0 aw/\a=⟨[],aw.map eK,[]⟩) (λq a=>∃aw,oI p q 1 aw/\a=⟨[],aw.map eK,[]⟩)
  (by
   rintro q a aS ⟨aw,h1,rfl⟩;have:=h1.n;have:=aS.i;have:=aS.l;obtain⟨r,z,⟨d,g1,g2,g3⟩,e⟩:=ac9 q k n c x (.own 1 []) (.inl ⟨_,rfl⟩) (aw.map eK) aS az9;exact⟨r,⟨[],(aw++[z]).map eK,[]⟩,d.s,⟨aw++[z],h1.one d g1 g2 g3,rfl⟩,aBb⟩)
  (by
   grind[oI.wg])
  p ⟨[],[],[]⟩ hp ⟨[],⟨Step.refl hp,aCu _,λ_=>aAJ⟩,rfl⟩
 grind
theorem apt(p:aJ)(k:Int)(n c:Nat)(x:dO)(l:List D)(hp:p.Ok):∃(q:aJ) (aw:List (ax×ax×ax)),oI p q 1 aw/\
  aL 120 [.ptr 0 0,.func 260 [] [.ptr 1 0,.ptr 2 0]] (kQ p k n c x.v (.d (.list 1 l)) [] [] [] 0) (.tuple []) (kQ q k n c x.v (.d (.list 1 l)) [] (aw.map eK) [] 0):=by
 obtain⟨q,b,⟨_,aw,h1,rfl⟩,e⟩:=apf 260 k n c x l 0 (λq a=>∃aw,oI p q 0 aw/\a=⟨[],aw.map eK,[]⟩) (λq a=>∃aw,oI p q 1 aw/\a=⟨[],aw.map eK,[]⟩)
  (by
   rintro q a aS ⟨aw,h1,rfl⟩;have:=h1.n;have:=aS.i;have:=aS.l;obtain⟨r,z,⟨d,g1,g2,g3⟩,e⟩:=ac9 q k n c x (.d (.list 1 l)) (.inr ⟨_,rfl⟩) (aw.map eK) aS az9;exact⟨r,⟨[],(aw++[z]).map eK,[]⟩,d.s,⟨aw++[z],h1.one d g1 g2 g3,rfl⟩,aBb⟩)
  (by
   grind[oI.wg])
  p ⟨[],[],[]⟩ hp ⟨[],⟨Step.refl hp,aCu _,λ_=>aAJ⟩,rfl⟩
 grind
def Hw(q:aJ)(k:Int)(x:dO)(c:ah)(aw ob:List D)(a:Int):aY:=[q.ob,.box (yz k (.aP 2 0 1 1 16) c [] [] aw ob a),.box x.v]
theorem apu(p:aJ)(k:Int)(x:dO)(hp:p.Ok):∃(q:aJ) (ob:List (ax×Bool)) (f:Int),(Step p q/\eb f/\(q.e=0->j2 ob+20000*p.i<=20000*q.i))/\
  aL 219 [.ptr 0 0,.ptr 1 0] (Hw p k x (.own 1 []) [] [] 0) (.tuple []) (Hw q k x (.own 1 []) [] (ob.map fp) f):=by
 have bp:=nY (k:=2) hp az6;have g1:=(aJ.DG (k:=2) hp).2;have aj:=M5 p 2 hp;generalize p.h2 2=q1 at aj bp;generalize p.iY 2=t at aj g1;obtain⟨m,n,a,j⟩:=t;have aj:aL 127 [.ptr 0 0,.d (int 2)] [p.ob] (.d (.agg [int m,.str n,int a,int j])) [q1.ob]:=aj;cases c:q1.is [98,121]with
 |false=>
  have aC:=nq bp.ok c;refine⟨q1,[],a,⟨bp.s,g1,λ_=>by have:=bp.s.i;show 0+_<=_;omega⟩,?_⟩;refine Mn.ct λg ae Q d=> ?_;refine ak ?_
  (subst ae;exact bS d az7 az5)
 |true=>
  have aC:=np bp.ok c;have a2:=ac7 bp.ok c;generalize q1.next=bG at aC a2;obtain⟨cM,ob,av,aX⟩:=apr bG k 1 1 x a a2.ok;refine⟨cM,ob,a,⟨(bp.s.trans a2.s).trans av.s,g1,λl=>by have:=av.w l;have:=bp.s.i;have:=a2.s.i;omega⟩,?_⟩;generalize ob.map fp=L at aX;refine Mn.ct λg ae Q d=> ?_;refine ak ?_
  (subst ae;exact bS d az7 az5)
theorem apv(p:aJ)(k:Int)(x:dO)(hp:p.Ok):∃(q:aJ) (r:ah) (a:List ax) (aw:List (ax×ax×ax)),(Step p q/\(r=.own 1 []/\a=[]\/r=.d (fx a))/\(q.e=0->fl a+j1 aw+20000*p.i<=20000*q.i))/\
  aL 218 [.ptr 0 0,.ptr 1 0] (Hw p k x (.own 1 []) [] [] 0) (.tuple []) (Hw q k x r (aw.map eK) [] 0):=by
 have aj:=DF p [58] hp;cases v:p.is [58]with
 |true=>
  rw[v]at aj;have a2:=mF (s:=[58]) hp;have aC:=km p [58] hp;generalize p.want [58]=bG at aC a2;have aX:=AX bG a2.ok;generalize bG.dU=t at aX;obtain⟨j,o,u,n⟩:=t;have aX:aL 175 [.ptr 0 0] [bG.ob] (.d (.agg [int j,.str o,int u,int n])) [bG.ob]:=aX;by_cases g:j=1
  .obtain⟨cM,aw,av,f⟩:=aps bG k 1 1 x a2.ok;refine⟨cM,_,[],aw,⟨a2.s.trans av.s,.inl ⟨rfl,rfl⟩,λd=>by have:=av.w d;have:=a2.s.i;show 0+_+_<=_;omega⟩,?_⟩;generalize aw.map eK=L at f;refine Dv.ct λm ae Q c=> ?_;refine ak ?_;split
   .rename_i h;simp only[aH ae,aCx,aCA,aCE,aCX,aDB,aCy]at h;exact absurd g h
   .refine ak ?_
    (subst ae;exact bS c az7 az5)
  .refine⟨bG,_,[],[],⟨a2.s,.inl ⟨rfl,rfl⟩,λd=>by have:=a2.s.i;show 0+0+_<=_;omega⟩,?_⟩;refine Dv.ct λm ae Q c=> ?_;refine ak ?_;split
   .refine ak ?_
    (subst ae;exact bS c az7 az5)
   .rename_i h;simp only[aH ae,aCx,aCA,aCE,aCX,aDB,aCy]at h;exact absurd h g
 |false=>
  rw[v]at aj;obtain⟨q1,a,⟨l,w1⟩,aC⟩:=acN p hp;have a2:=mF (s:=[58]) l.ok;have aX:=km q1 [58] l.ok;generalize q1.want [58]=bG at aX a2;have f:=AX bG a2.ok;generalize bG.dU=t at f;obtain⟨j,o,u,n⟩:=t;have f:aL 175 [.ptr 0 0] [bG.ob] (.d (.agg [int j,.str o,int u,int n])) [bG.ob]:=f;unfold fx at aC;by_cases g:j=1
  .obtain⟨cM,aw,av,w⟩:=apt bG k 1 1 x (a.map D.str) a2.ok;refine⟨cM,_,a,aw,⟨(l.trans a2.s).trans av.s,.inr rfl,λd=>by have:=av.w d;have:=a2.s.i;have:=w1 (a2.s.bT (av.s.bT d));omega⟩,?_⟩;unfold fx;generalize aw.map eK=L at w;generalize a.map D.str=N at aC w;refine Dv.ct λm ae Q c=> ?_;refine ak ?_;split
   .rename_i h;simp only[aH ae,aCx,aCA,aCE,aCX,aDB,aCy]at h;exact absurd g h
   .refine ak ?_
    (subst ae;exact bS c az7 az5)
  .refine⟨bG,_,a,[],⟨l.trans a2.s,.inr rfl,λd=>by have:=w1 (a2.s.bT d);have:=a2.s.i;show _+0+_<=_;omega⟩,?_⟩;unfold fx;generalize a.map D.str=N at aC;refine Dv.ct λm ae Q c=> ?_;refine ak ?_;split
   .refine ak ?_
    (subst ae;exact bS c az7 az5)
   .rename_i h;simp only[aH ae,aCx,aCA,aCE,aCX,aDB,aCy]at h;exact absurd h g
theorem e6{c:bd}(h:c=bd.bU):∀a b,c.aB .eql a b=decide (a=b):=λ_ _=>aAn
theorem A4(k:Int)(x:bj)(z:aD)(c:List ax)(xs:List aD)(d:List (ax×ax))(aw:List (ax×ax×ax))(ob:List (ax×Bool))(a:Int):(bj.mk k [] [x] z c xs d aw ob a).bz=⟨k,[],[.agg x.bz.cs],z.bQ.k,z.bQ.n,z.bQ.fY,z.bQ.vi,z.bQ.eB,z.bQ.op,z.bQ.l,c.map .str,aD.ds xs,d.map fm,aw.map eK,ob.map fp,a⟩:=by
 show(⟨k,[],[x.d],_,_,_,_,_,_,_,_,_,_,_,_,_⟩:dO)=_;rw[bj.nr,bj.Ni];rfl
theorem adf(k:Int)(x y:bj)(z:aD)(c:List ax)(xs:List aD)(d:List (ax×ax))(aw:List (ax×ax×ax))(ob:List (ax×Bool))(a:Int):(bj.mk k [] [x,y] z c xs d aw ob a).bz=⟨k,[],[.agg x.bz.cs,.agg y.bz.cs],z.bQ.k,z.bQ.n,z.bQ.fY,z.bQ.vi,z.bQ.eB,z.bQ.op,z.bQ.l,c.map .str,aD.ds xs,d.map fm,aw.map eK,ob.map fp,a⟩:=by
 show(⟨k,[],[x.d,y.d],_,_,_,_,_,_,_,_,_,_,_,_,_⟩:dO)=_;rw[bj.nr,bj.nr,bj.Ni,bj.Ni];rfl
theorem bj.rP(k:Int)(n:ax)(l:List bj)(c:aD)(a:List ax)(xs:List aD)(d:List (ax×ax))(aw:List (ax×ax×ax))(ob:List (ax×Bool))(f:Int):(bj.mk k n l c a xs d aw ob f).w=500+n.length+bj.ws l+c.w+fl a+aD.ws xs+j0 d+j1 aw+j2 ob:=by rw[bj.w]
theorem bj.hR(x:bj):bj.ws [x]=x.w:=by show x.w+0=_;omega
theorem bj.jM(x y:bj):bj.ws [x,y]=x.w+y.w:=by show x.w+(y.w+0)=_;omega
theorem yB:lG.w=200:=rfl
theorem wG:fl []=0/\aD.ws []=0/\j0 []=0/\j1 []=0/\j2 []=0:=⟨rfl,rfl,rfl,rfl,rfl⟩
def jm:List ax:=[[119,104,101,114,101],[107,101,101,112],[106,111,105,110],[108,101,102,116],[103,114,111,117,112],[117,110,105,111,110],[100,105,115,116,105,110,99,116],[102,105,114,115,116]]
def u3(p q:aJ)(x y:bj):Prop:=Step p q/\y.good/\(q.e=0->y.w+20000*p.i<=20000*q.i+x.w)
theorem apw{p a:aJ}(x:bj)(g:x.good)(d:gP p a 1)(l:aL 89 [.ptr 0 0,.d (fx jm)] [p.ob] (.d (int ((0:Nat):Int))) [a.ob]):
  ∃(q:aJ) (y:bj),u3 p q x y/\aL 174 [.ptr 0 0,.d (.agg x.bz.cs)] [p.ob] (.d (.agg y.bz.cs)) [q.ob]:=by
 refine⟨a,.mk 0 [] [x] lG [] [] [] [] [] 0,⟨d.s,⟨eb.zero,tk,trivial,g,trivial⟩,λj=> ?_⟩,?_⟩
 .have:=d.a j;grind[bj.rP,bj.hR,yB,wG]
 rw[A4];generalize x.bz=c;refine rM.ct λk ae Q f=> ?_;conv=>cbv
 repeat ((first|refine dD ?_|refine dE ?_|simp -proj only[e6 ae]);conv=>cbv)
 try trivial
 all_goals (subst ae;exact bS f az5 az5)
theorem apx{p f:aJ}(x:bj)(l:x.good)(d:gP p f 1)(o:aL 89 [.ptr 0 0,.d (fx jm)] [p.ob] (.d (int ((1:Nat):Int))) [f.ob]):
  ∃(q:aJ) (y:bj),u3 p q x y/\aL 174 [.ptr 0 0,.d (.agg x.bz.cs)] [p.ob] (.d (.agg y.bz.cs)) [q.ob]:=by
 obtain⟨q,z,a,g⟩:=ac6 f d.ok;refine⟨q,.mk 2 [] [x] z [] [] [] [] [] 0,⟨d.s.trans a.s,⟨eb.zero,a.g,trivial,l,trivial⟩,λj=> ?_⟩,?_⟩
 .have:=a.w j;have:=d.a (a.s.bT j);grind[bj.rP,bj.hR,wG]
 rw[A4];rw[aD.ac8]at g;generalize z.bQ=n at g⊢;generalize x.bz=c;refine rM.ct λm ae Q k=> ?_;conv=>cbv
 repeat ((first|refine dD ?_|refine dE ?_|simp -proj only[e6 ae]);conv=>cbv)
 try trivial
 all_goals (subst ae;exact bS k az5 az5)
theorem apy{p j:aJ}(x:bj)(m:x.good)(g:gP p j 1)(o:aL 89 [.ptr 0 0,.d (fx jm)] [p.ob] (.d (int ((2:Nat):Int))) [j.ob]):
  ∃(q:aJ) (y:bj),u3 p q x y/\aL 174 [.ptr 0 0,.d (.agg x.bz.cs)] [p.ob] (.d (.agg y.bz.cs)) [q.ob]:=by
 obtain⟨q,a,d,f⟩:=aph j x.bz g.ok;refine⟨q,.mk 3 [] [x] lG a.ns a.xs [] [] [] 0,⟨g.s.trans d.s,⟨eb.zero,tk,d.g,m,trivial⟩,λk=> ?_⟩,?_⟩
 .have h1:=d.w k;have:=g.a (d.s.bT k);grind[l6.w,bj.rP,bj.hR,wG,yB]
 rw[A4];unfold l6.st at f;generalize a.ns.map D.str=N at f⊢;generalize aD.ds a.xs=X at f⊢;generalize x.bz=c at f⊢;refine rM.ct λn ae Q l=> ?_;conv=>cbv
 repeat ((first|refine dD ?_|refine dE ?_|simp -proj only[e6 ae]);conv=>cbv)
 try trivial
 all_goals (subst ae;exact bS l az5 az5)
theorem apz{p a:aJ}(x:bj)(g:x.good)(d:gP p a 1)(l:aL 89 [.ptr 0 0,.d (fx jm)] [p.ob] (.d (int ((7:Nat):Int))) [a.ob]):
  ∃(q:aJ) (y:bj),u3 p q x y/\aL 174 [.ptr 0 0,.d (.agg x.bz.cs)] [p.ob] (.d (.agg y.bz.cs)) [q.ob]:=by
 refine⟨a,.mk 8 [] [x] lG [] [] [] [] [] 0,⟨d.s,⟨eb.zero,tk,trivial,g,trivial⟩,λj=> ?_⟩,?_⟩
 .have:=d.a j;grind[bj.rP,bj.hR,yB,wG]
 rw[A4];generalize x.bz=c;refine rM.ct λk ae Q f=> ?_;conv=>cbv
 repeat ((first|refine dD ?_|refine dE ?_|simp -proj only[e6 ae]);conv=>cbv)
 try trivial
 all_goals (subst ae;exact bS f az5 az5)
theorem apA{p d:aJ}(x:bj)(l:x.good)(a:gP p d 1)(r:aL 89 [.ptr 0 0,.d (fx jm)] [p.ob] (.d (int ((8:Nat):Int))) [d.ob]):
  ∃(q:aJ) (y:bj),u3 p q x y/\aL 174 [.ptr 0 0,.d (.agg x.bz.cs)] [p.ob] (.d (.agg y.bz.cs)) [q.ob]:=by
 obtain⟨q,ob,m,⟨j,g1,n⟩,f⟩:=apu d 9 x.bz a.ok;refine⟨q,.mk 9 [] [x] lG [] [] [] [] ob m,⟨a.s.trans j,⟨g1,tk,trivial,l,trivial⟩,λg=> ?_⟩,?_⟩
 .have:=n g;have:=a.a (j.bT g);grind[bj.rP,bj.hR,wG,yB]
 rw[A4];generalize ob.map fp=N at f⊢;generalize x.bz=c at f⊢;refine rM.ct λo ae Q k=> ?_;conv=>cbv
 repeat ((first|refine dD ?_|refine dE ?_|simp -proj only[e6 ae]);conv=>cbv)
 try trivial
 all_goals (subst ae;exact bS k az5 az5)
theorem apB{p g:aJ}(x:bj)(o:x.good)(a:gP p g 1)(s:aL 89 [.ptr 0 0,.d (fx jm)] [p.ob] (.d (int ((5:Nat):Int))) [g.ob]):
  ∃(q:aJ) (y:bj),u3 p q x y/\aL 174 [.ptr 0 0,.d (.agg x.bz.cs)] [p.ob] (.d (.agg y.bz.cs)) [q.ob]:=by
 obtain⟨q,t,l,aw,⟨m,j,r⟩,f⟩:=apv g 6 x.bz a.ok;refine⟨q,.mk 6 [] [x] lG l [] [] aw [] 0,⟨a.s.trans m,⟨eb.zero,tk,trivial,o,trivial⟩,λk=> ?_⟩,?_⟩
 .have:=r k;have:=a.a (m.bT k);grind[bj.rP,bj.hR,wG,yB]
 rw[A4];generalize aw.map eK=N at f⊢;generalize x.bz=c at f⊢;unfold fx at j;rcases j with⟨rfl,rfl⟩|rfl
 .refine rM.ct λn ae Q d=> ?_;conv=>cbv
  repeat ((first|refine dD ?_|refine dE ?_|simp -proj only[e6 ae]);conv=>cbv)
  try trivial
  all_goals (subst ae;exact bS d az5 az5)
 .generalize l.map D.str=L at f⊢;refine rM.ct λn ae Q d=> ?_;conv=>cbv
  repeat ((first|refine dD ?_|refine dE ?_|simp -proj only[e6 ae]);conv=>cbv)
  try trivial
  all_goals (subst ae;exact bS d az5 az5)
theorem adg{d:Nat}(h:qC 173 d){p a:aJ}(s:a.ec=d)(x:bj)(k:Nat)(t:k=3\/k=4)(r:x.good)(f:gP p a 1)(w:aL 89 [.ptr 0 0,.d (fx jm)] [p.ob] (.d (int (k:Int))) [a.ob]):
  ∃(q:aJ) (y:bj),u3 p q x y/\aL 174 [.ptr 0 0,.d (.agg x.bz.cs)] [p.ob] (.d (.agg y.bz.cs)) [q.ob]:=by
 obtain⟨q,y,m,⟨n,g1,u⟩,j⟩:=apq h a (k+1:Nat) x.bz f.ok s;refine⟨q,.mk (k+1:Nat) [] [x,y] lG [] [] m [] [] 0,⟨f.s.trans n,⟨eb.zero,tk,trivial,r,g1,trivial⟩,λl=> ?_⟩,?_⟩
 .have:=u l;have:=f.a (n.bT l);grind[bj.rP,bj.jM,wG,yB]
 rw[adf];generalize m.map fm=N at j⊢;generalize x.bz=c at j⊢;generalize y.bz=v at j⊢;rcases t with rfl|rfl
 .refine rM.ct λo ae Q g=> ?_;conv=>cbv
  repeat ((first|refine dD ?_|refine dE ?_|simp -proj only[e6 ae]);conv=>cbv)
  try trivial
  all_goals (subst ae;exact bS g az5 az5)
 .refine rM.ct λo ae Q g=> ?_;conv=>cbv
  repeat ((first|refine dD ?_|refine dE ?_|simp -proj only[e6 ae]);conv=>cbv)
  try trivial
  all_goals (subst ae;exact bS g az5 az5)
theorem apD{d:Nat}(h:qC 173 d){p a:aJ}(m:a.ec=d)(x:bj)(k:x.good)(f:gP p a 1)(r:aL 89 [.ptr 0 0,.d (fx jm)] [p.ob] (.d (int ((6:Nat):Int))) [a.ob]):
  ∃(q:aJ) (y:bj),u3 p q x y/\aL 174 [.ptr 0 0,.d (.agg x.bz.cs)] [p.ob] (.d (.agg y.bz.cs)) [q.ob]:=by
 obtain⟨q,y,h1,l⟩:=h a f.ok m;refine⟨q,.mk 7 [] [x,y] lG [] [] [] [] [] 0,⟨f.s.trans h1.s,⟨eb.zero,tk,trivial,k,h1.g,trivial⟩,λg=> ?_⟩,?_⟩
 .have:=h1.w g;have:=f.a (h1.s.bT g);grind[bj.rP,bj.jM,wG,yB]
 rw[adf];generalize x.bz=c;generalize y.bz=o at l⊢;refine rM.ct λn ae Q j=> ?_;conv=>cbv
 repeat ((first|refine dD ?_|refine dE ?_|simp -proj only[e6 ae]);conv=>cbv)
 try trivial
 all_goals (subst ae;exact bS j az5 az5)
theorem apE{d:Nat}(h:qC 173 d)(p:aJ)(x:bj)(hp:p.Ok)(l:p.ec=d)(j:x.good):
  ∃(q:aJ) (y:bj),u3 p q x y/\aL 174 [.ptr 0 0,.d (.agg x.bz.cs)] [p.ob] (.d (.agg y.bz.cs)) [q.ob]:=by
 obtain⟨g,k,⟨f,c⟩,a⟩:=DL p jm hp az';have m:g.ec=d:=by rw[f.s.d];omega
 replace c:k<=8:=c;match k,c,a with
 |0,_,a=>grind[apw]
 |1,_,a=>grind[apx]
 |2,_,a=>grind[apy]
 |3,_,a=>grind[adg]
 |4,_,a=>grind[adg]
 |5,_,a=>grind[apB]
 |6,_,a=>grind[apD]
 |7,_,a=>grind[apz]
 |8,_,a=>grind[apA]
 |n+9,h,_=>omega
def apF(q:aJ)(c:dO):ag:=lZ [(0,.ptr 0 0),(2,.dw 2 0),(3,.dw 3 0)] [(2,[.d (int 0),.d (.str []),.own 16 [],.d (int 0),.d (.str []),.d (int 0),.d (int 0),.d (.str []),.d (.str []),.own 7 [],.own 1 [],.own 7 [],.own 2 [],.own 3 [],.own 2 [],.d (int 0)]),(3,c.v)] [q.ob]
theorem adh{d:Nat}(h:qC 173 d):qC 126 d:=by
 intro p hp m;suffices hh:∃r k,(∃(q:aJ) (x:bj),nx p q x/\r=.d (.agg x.bz.cs)/\k=[q.ob])/\aL 126 [.ptr 0 0] [p.ob] r k by
  grind
 obtain⟨q,x,h1,aj⟩:=h p hp m;generalize a:x.bz=c at aj;refine UX.cn _ λo ae K l=> ?_;refine ak ?_;refine⟨bX (λz:aJ×dO=>apF z.1 z.2) (λz=>∃x:bj,nx p z.1 x/\x.bz=z.2) λz=>z.1.l.length-z.1.i,_,⟨(q,c),⟨x,h1,a⟩,rfl,az5⟩,?_⟩;rintro _ _ ⟨⟨q,c⟩,⟨x,h1,a⟩,rfl,rfl⟩;dsimp only at h1 a⊢;subst a;have aS:=h1.s.ok;cases hi:q.is [124]with
 |false=>
  have aj:=nq aS hi;generalize a:x.bz=c;refine ak ?_;subst a;exact l _ _ ⟨q,x,h1,az5,az5⟩
 |true=>
  have t:=aJ.rN (aJ.h3 hi);have f:=aJ.im aS (aJ.h3 hi);have aj:=np aS hi;obtain⟨r,y,⟨g,g2,b5⟩,aC⟩:=apE h q.next x f.ok (by rw[f.d,h1.s.d];omega) h1.g;have u:q.next.i=q.i+1:=rfl;generalize q.next=s at*;generalize a:x.bz=c at*;generalize n:y.bz=c2 at*;refine ak ?_;refine ea (r,c2) ⟨y,⟨(h1.s.trans f).trans g,g2,λj=>by have:=b5 j;have:=h1.w (f.bT (g.bT j));grind⟩,n⟩ ?_ az5;have:=g.i;show r.l.length-r.i<q.l.length-q.i;rw[g.l,f.l];omega
theorem apG:∀(k d:Nat),32<=d+k->qC 126 d:=by
 intro k;induction k with
 |zero=>grind[adh,ade]
 |succ k ih=>grind[adh,ade]
theorem apH(d:Nat):qC 126 d:=apG 32 d az6
structure jo where
 a:ax
 yC:Int
 nm:Int
 b:ax
def ef(x:jo):D:=.agg [.str x.a,int x.yC,int x.nm,.str x.b]
def bF(x:ax×Int):D:=.agg [.str x.1,int x.2]
def jo.good(x:jo):Prop:=eb x.yC/\eb x.nm
def jN(l:List jo):Nat:=fS (λx=>x.a.length+x.b.length) l
def j8(l:List (ax×Int)):Nat:=fS (λx=>x.1.length) l
def apI:List ax:=[[104,111,117,114,108,121],[100,97,105,108,121],[119,101,101,107,108,121],[109,111,110,116,104,108,121],[115,116,97,116,105,99]]
theorem A5(p:aJ)(k:Int)(l:k≠0)(hp:p.Ok):∃(q:aJ) (f c d:Int) (a:ax),(gP p q 1/\eb c/\a.length<=16384)/\aL 127 [.ptr 0 0,.d (int k)] [p.ob] (.d (.agg [int f,.str a,int c,int d])) [q.ob]:=by
 have j:=nY (k:=k) hp l;have g1:=(aJ.DG (k:=k) hp);have g:=M5 p k hp;generalize p.iY k=t at g g1;obtain⟨f,a,c,d⟩:=t;exact⟨_,f,c,d,a,⟨j,g1.2,g1.1⟩,g⟩
theorem adi{k m:Nat}(h:k<=m)(a:m<=1000000):eb (k:Int):=by grind[eb]
theorem adj(p:aJ)(hp:p.Ok):∃(q:aJ) (k a c:Int),(gP p q 4/\eb k/\eb a/\eb c)/\aL 122 [.ptr 0 0] [p.ob] (.d (.agg [int k,int a,int c])) [q.ob]:=by
 obtain⟨q1,k,⟨bp,g⟩,aj⟩:=DL p apI hp az';obtain⟨bG,r,j,o,t,⟨a2,g2,_⟩,aC⟩:=A5 q1 2 az6 bp.ok;have a3:=mF (s:=[46,46]) a2.ok;have aX:=km bG [46,46] a2.ok;generalize bG.want [46,46]=cM at aX a3;obtain⟨dB,m,un,u,v,⟨d,g4,_⟩,n⟩:=A5 cM 2 az6 a3.ok;refine⟨dB,k,j,un,⟨((bp.trans a2).trans a3).trans d,adi g az',g2,g4⟩,?_⟩;refine aaR.ct λl ae Q f=> ?_;refine ak ?_
 (subst ae;exact bS f az7 az5)
def apJ:List ax:=[[115,97,109,101],[108,97,115,116],[115,104,105,102,116],[119,105,116,104,105,110],[97,108,108]]
theorem ayy{c:bd}(h:c=bd.bU)(a b:Int):eb (c.io .sub .i64 a b):=by subst h;exact wrap_i64 _
theorem apK(p:aJ)(hp:p.Ok):∃(q:aJ) (k n:Int),(Step p q/\eb k/\eb n)/\aL 124 [.ptr 0 0] [p.ob] (.d (.agg [int k,int n])) [q.ob]:=by
 obtain⟨q1,k,⟨bp,j⟩,aj⟩:=DL p apJ hp az';replace j:k<=5:=j;have f:=adi j az';by_cases af:k=2
 .subst af;obtain⟨bG,m,d,l,o,⟨a2,g2,_⟩,aC⟩:=A5 q1 2 az6 bp.ok;refine⟨bG,_,d,⟨bp.s.trans a2.s,f,g2⟩,?_⟩;refine Du.ct λc ae Q a=> ?_;conv=>cbv
  repeat ((first|refine dD ?_|refine dE ?_|simp -proj only[e6 ae]);conv=>cbv)
  try trivial
  all_goals (subst ae;exact bS a az5 az5)
 .by_cases av:k=3
  .subst av;cases g:q1.is [45]with
   |true=>
    have aC:=np bp.ok g;have a2:=ac7 bp.ok g;generalize q1.next=bG at aC a2;obtain⟨cM,m,d,l,o,⟨a3,g3,_⟩,aX⟩:=A5 bG 2 az6 a2.ok;refine⟨cM,_,IntKind.i64.wrap (0-d),⟨(bp.s.trans a2.s).trans a3.s,f,wrap_i64 _⟩,?_⟩;refine Du.ct λc ae Q a=> ?_;conv=>cbv
    repeat ((first|refine dD ?_|refine dE ?_|simp -proj only[e6 ae]);conv=>cbv)
    try trivial
    (subst ae;exact bS a az5 az5)
   |false=>
    have aC:=nq bp.ok g;obtain⟨cM,m,d,l,o,⟨a3,g3,_⟩,aX⟩:=A5 q1 2 az6 bp.ok;refine⟨cM,_,d,⟨bp.s.trans a3.s,f,g3⟩,?_⟩;refine Du.ct λc ae Q a=> ?_;conv=>cbv
    repeat ((first|refine dD ?_|refine dE ?_|simp -proj only[e6 ae]);conv=>cbv)
    try trivial
    all_goals (subst ae;exact bS a az5 az5)
  .refine⟨q1,k,0,⟨bp.s,f,eb.zero⟩,?_⟩;refine Du.ct λc ae Q a=> ?_;have t2:c.aB .eql (k:Int) 2=false:=aAf;have t3:c.aB .eql (k:Int) 3=false:=aAf;generalize (k:Int)=k at*;refine ak ?_
   (subst ae;exact bS a az7 az5)
def u4(k:Int)(n:ax)(c:List D)(d f g:Int)(a:List D):List ah:=[.d (int k),.d (.str n),.own 2 c,.d (int d),.d (int f),.d (int g),.own 4 a,
 .d (int 0),.d (.str []),.own 16 [],.d (int 0),.d (.str []),.d (int 0),.d (int 0),.d (.str []),.d (.str []),.own 7 [],.own 1 [],.own 7 [],.own 2 [],.own 3 [],.own 2 [],.d (int 0),
 .d (.str []),.own 1 []]
def A6(p:aJ)(c:List ah):aY:=[.box [.ptr 2 0],.box c,p.ob]
def u5(p:aJ)(c:List ah):aY:=[p.ob,.box [.ptr 0 0],.box c]
structure A7 where
 bm:List D
 bV:List D
def A7.v(a:A7)(k:Int)(n:ax)(c d f:Int):List ah:=u4 k n a.bm c d f a.bV
def apL(f:Nat)(p:aJ)(c:List ah):ag:=cA [(0,.ptr 0 0),(1,.func f [] [.ptr 1 0,.ptr 2 0])] (u5 p c)
theorem adk(f:Nat)(k:Int)(n:ax)(c d g:Int)(J I:aJ->A7->Prop)
  (o:∀p a,p.Ok->J p a->∃q b,Step p q/\I q b/\aL f [.ptr 0 0,.ptr 1 0] (A6 p (a.v k n c d g)) (.tuple []) (A6 q (b.v k n c d g)))
  (next:∀p a,p.Ok->I p a->p.is [44]=true->J p.next a) (p:aJ) (a:A7) (hp:p.Ok) (t:J p a):
  ∃q b,(Step p q/\I q b)/\aL 120 [.ptr 0 0,.func f [] [.ptr 1 0,.ptr 2 0]] (u5 p (a.v k n c d g)) (.tuple []) (u5 q (b.v k n c d g)):=by
 obtain⟨q,b,h1,af,av⟩:=o p a hp t;suffices h:∃r s,(∃q b,(Step p q/\I q b)/\r=.tuple []/\s=u5 q (A7.v b k n c d g))/\aL 120 [.ptr 0 0,.func f [] [.ptr 1 0,.ptr 2 0]] (u5 p (a.v k n c d g)) r s by
  grind
 refine wD.cn _ λA ae K u=> ?_;refine ak ?_;refine⟨bX (λz:aJ×A7=>apL f z.1 (z.2.v k n c d g)) (λz=>Step p z.1/\I z.1 z.2) λz=>z.1.l.length-z.1.i,_,⟨(q,b),⟨h1,af⟩,rfl,az5⟩,?_⟩;rintro _ _ ⟨⟨q,b⟩,⟨h1,af⟩,rfl,rfl⟩;have aS:=h1.ok;cases hi:q.is [44]with
 |false=>
  have aj:=nq aS hi;refine ak ?_;exact u _ _ ⟨q,b,⟨h1,af⟩,az7,az5⟩
 |true=>
  have B:=aJ.rN (aJ.h3 hi);have m:=aJ.im aS (aJ.h3 hi);have aj:=np aS hi;obtain⟨j,v,l,w,C⟩:=o q.next b m.ok (next q b aS af hi);refine ak ?_;refine ea (j,v) ⟨(h1.trans m).trans l,w⟩ ?_ az5;have:=l.i;show j.l.length-j.i<q.l.length-q.i;rw[l.l];show q.l.length-j.i<q.l.length-q.i;have:q.next.i=q.i+1:=rfl;omega
theorem apM(p:aJ)(n:ax)(a:List D)(hp:p.Ok)(g:a.length<=2147483648):∃(q:aJ) (z:ax×Int),(gP p q 2/\z.1.length<=16384)/\
  aL 121 [.ptr 0 0,.ptr 1 0] (A6 p (u4 1 n a 0 0 0 [])) (.tuple []) (A6 q (u4 1 n (a++[bF z]) 0 0 0 [])):=by
 have bp:=nY (k:=1) hp az6;have g1:=aJ.pz (k:=1) hp;have aj:=oG p hp;generalize p.h2 1=q1 at aj bp;generalize (p.iY 1).t=t1 at aj g1;obtain⟨bG,j,⟨a2,d⟩,aC⟩:=DL q1 [[105,110,116],[116,101,120,116]] bp.ok az';refine⟨bG,(t1,j),⟨bp.trans a2,g1⟩,?_⟩;refine aaP.ct λf ae Q c=> ?_;refine ak ?_
 (subst ae;exact bS c az7 az5)
theorem apN(p:aJ)(n:ax)(f g j:Int)(a:List D)(hp:p.Ok)(t:a.length<=2147483648):∃(q:aJ) (z:jo),(gP p q 3/\z.good/\z.a.length<=16384/\z.b.length<=16384)/\
  aL 123 [.ptr 0 0,.ptr 1 0] (A6 p (u4 2 n [] f g j a)) (.tuple []) (A6 q (u4 2 n [] f g j (a++[ef z]))):=by
 have bp:=nY (k:=1) hp az6;have g1:=aJ.pz (k:=1) hp;have aj:=oG p hp;generalize p.h2 1=q1 at aj bp;generalize (p.iY 1).t=t1 at aj g1;obtain⟨bG,m,o,⟨af,g2,g3⟩,aC⟩:=apK q1 bp.ok;have a3:=mF (s:=[97,115]) af.ok;have aX:=km bG [97,115] af.ok;generalize bG.want [97,115]=cM at aX a3;have c:=nY (k:=1) a3.ok az6;have g4:=aJ.pz (k:=1) a3.ok;have d:=oG cM a3.ok;generalize cM.h2 1=dB at d c;generalize (cM.iY 1).t=t4 at d g4;refine⟨dB,⟨t1,m,o,t4⟩,⟨((bp.trans (.of af)).trans a3).trans c,⟨g2,g3⟩,g1,g4⟩,?_⟩;refine WU.ct λr ae Q l=> ?_;refine ak ?_
 (subst ae;exact bS l az7 az5)
structure cC where
 k:Int
 n:ax
 bm:List (ax×Int)
 c8:Int
 s1:Int
 s2:Int
 bV:List jo
 pl:bj
 fZ:ax
 ms:List ax
structure lH where
 k:Int
 n:ax
 bm:List D
 c8:Int
 s1:Int
 s2:Int
 bV:List D
 pl:dO
 fZ:ax
 ms:List D
def lH.cs(c:lH):List D:=[int c.k,.str c.n,.list 2 c.bm,int c.c8,int c.s1,int c.s2,.list 4 c.bV,
 int c.pl.k,.str c.pl.n,.list 16 c.pl.a,int c.pl.ch,.str c.pl.iG,int c.pl.j4,int c.pl.j5,.str c.pl.j6,.str c.pl.j7,.list 7 c.pl.cl,.list 1 c.pl.ns,.list 7 c.pl.xs,.list 2 c.pl.on,.list 3 c.pl.aw,.list 2 c.pl.ob,int c.pl.cJ,
 .str c.fZ,.list 1 c.ms]
def cC.dX(x:cC):lH:=⟨x.k,x.n,x.bm.map bF,x.c8,x.s1,x.s2,x.bV.map ef,x.pl.bz,x.fZ,x.ms.map .str⟩
def cC.d(x:cC):D:=.agg x.dX.cs
structure cC.Good(x:cC):Prop where
 k:0<=x.k/\x.k<=3
 c8:eb x.c8
 s1:eb x.s1
 s2:eb x.s2
 bV:∀z∈x.bV,z.good
 pl:x.pl.good
def cC.w(x:cC):Nat:=1000+x.n.length+j8 x.bm+jN x.bV+x.pl.w+x.fZ.length+fl x.ms
theorem apO(p:aJ)(ws:List ax)(hp:p.Ok)(a:ws.length<=1000):∃(q:aJ) (k:Nat),((gP p q 1/\k<=ws.length)/\(q.e=0->1<=k))/\aL 89 [.ptr 0 0,.d (fx ws)] [p.ob] (.d (int k)) [q.ob]:=by
 have h:=M6 hp (l:=ws) (k:=0);exact⟨_,_,⟨⟨⟨h.1,λc=>az6⟩,az6⟩,λh=>(acJ h).2.2⟩,acL p ws hp a⟩
theorem Nn{p:aJ}(h:(p.h2 1).e=0):∃t∈p.l,t.k=1/\(p.iY 1).t=t.t:=by
 have f:(p.fail 51).e≠0:=aJ.oH az';have hp:=@aJ.rN p;unfold aJ.h2 at h;unfold aJ.iY;by_cases a:p.dU.k=1
 .obtain⟨h1,c⟩:=hp az6;have d:p.dU=p.l[p.i]:=by unfold aJ.dU;simp[h1,c]
  exact⟨p.dU,d▸aCC c,a,by simp[a]⟩
 .simp[a,f]at h
structure yD(p q:aJ)(x:cC):Prop where
 s:Step p q
 g:x.Good
 w:q.e=0->x.w+20000*p.i<=20000*q.i
 nm:q.e=0->∃t∈p.l,t.k=1/\x.n=t.t
theorem Hy(n:Nat)(h:n<=3):(0:Int)<=(n:Int)/\(n:Int)<=3:=az6
theorem ayz:tm.w=700:=rfl
structure Np(p q:aJ)(m:Nat)(l:List (ax×Int)):Prop where
 s:Step p q
 n:l.length<=q.i+m
 w:q.e=0->j8 l+20000*p.i<=20000*q.i
structure Hz(p q:aJ)(m:Nat)(l:List jo):Prop where
 s:Step p q
 n:l.length<=q.i+m
 g:∀z∈l,z.good
 w:q.e=0->jN l+20000*p.i<=20000*q.i
theorem apP(p:aJ)(n:ax)(hp:p.Ok):∃(q:aJ) (c:List (ax×Int)),Np p q 1 c/\
  aL 120 [.ptr 0 0,.func 121 [] [.ptr 1 0,.ptr 2 0]] (u5 p (u4 1 n [] 0 0 0 [])) (.tuple []) (u5 q (u4 1 n (c.map bF) 0 0 0 [])):=by
 obtain⟨q,b,⟨_,c,h1,rfl⟩,e⟩:=adk 121 1 n 0 0 0 (λq a=>∃c,Np p q 0 c/\a=⟨c.map bF,[]⟩) (λq a=>∃c,Np p q 1 c/\a=⟨c.map bF,[]⟩)
  (by
   rintro q a aS ⟨c,h1,rfl⟩;have:=h1.n;have:=aS.i;have:=aS.l;obtain⟨r,z,⟨d,g1⟩,e⟩:=apM q n (c.map bF) aS az9;have:=d.s.i;refine⟨r,⟨(c++[z]).map bF,[]⟩,d.s,⟨c++[z],⟨h1.s.trans d.s,az9,λhe=> ?_⟩,rfl⟩,aBb⟩;have:=d.a he;have:=h1.w (d.s.bT he);unfold j8 at this⊢;rw[rO];show _+(200+z.1.length+0)+_<=_;omega)
  (by
   rintro q a aS ⟨c,h1,rfl⟩ f;have aq:=aJ.im aS (aJ.h3 f);have:q.next.i=q.i+1:=rfl;exact⟨c,⟨h1.s.trans aq,by have:=h1.n;omega,λhe=>aBN⟩,rfl⟩)
  p ⟨[],[]⟩ hp ⟨[],⟨Step.refl hp,aCu _,λ_=>aAJ⟩,rfl⟩
 exact⟨q,c,h1,e⟩
theorem apQ(p:aJ)(n:ax)(f g j:Int)(hp:p.Ok):∃(q:aJ) (c:List jo),Hz p q 1 c/\
  aL 120 [.ptr 0 0,.func 123 [] [.ptr 1 0,.ptr 2 0]] (u5 p (u4 2 n [] f g j [])) (.tuple []) (u5 q (u4 2 n [] f g j (c.map ef))):=by
 obtain⟨q,b,⟨_,c,h1,rfl⟩,e⟩:=adk 123 2 n f g j (λq a=>∃c,Hz p q 0 c/\a=⟨[],c.map ef⟩) (λq a=>∃c,Hz p q 1 c/\a=⟨[],c.map ef⟩)
  (by
   rintro q a aS ⟨c,h1,rfl⟩;have:=h1.n;have:=aS.i;have:=aS.l;obtain⟨r,z,⟨d,g0,g1,g2⟩,e⟩:=apN q n f g j (c.map ef) aS az9;have:=d.s.i;refine⟨r,⟨[],(c++[z]).map ef⟩,d.s,⟨c++[z],⟨h1.s.trans d.s,az9,λy k=> ?_,λhe=> ?_⟩,rfl⟩,aBb⟩
   .rcases aC9.1 k with k|k
    .grind[Hz.g]
    simp_all
   have:=d.a he;have:=h1.w (d.s.bT he);unfold jN at this⊢;rw[rO];show _+(200+(z.a.length+z.b.length)+0)+_<=_;omega)
  (by
   rintro q a aS ⟨c,h1,rfl⟩ l;have aq:=aJ.im aS (aJ.h3 l);have:q.next.i=q.i+1:=rfl;exact⟨c,⟨h1.s.trans aq,by have:=h1.n;omega,h1.g,λhe=>aBN⟩,rfl⟩)
  p ⟨[],[]⟩ hp ⟨[],⟨Step.refl hp,aCu _,λ_ h=>(aC5 h).elim,λ_=>aAJ⟩,rfl⟩
 exact⟨q,c,h1,e⟩
theorem apR(p:aJ)(hp:p.Ok):∃(q:aJ) (x:cC),yD p q x/\aL 90 [.ptr 0 0] [p.ob] (.d (.agg x.dX.cs)) [q.ob]:=by
 have bp:=nY (k:=1) hp az6;have g1:=aJ.pz (k:=1) hp;have aj:=oG p hp;have g:=@Nn p;generalize p.h2 1=q1 at aj bp g;generalize (p.iY 1).t=t1 at aj g1 g;have a2:=mF (s:=[40]) bp.ok;have aC:=km q1 [40] bp.ok;generalize q1.want [40]=bG at aC a2;obtain⟨cM,d,av,aX⟩:=apP bG t1 a2.ok;have a:=mF (s:=[41]) av.s.ok;have u:=km cM [41] av.s.ok;generalize cM.want [41]=dB at u a;obtain⟨gE,l,n,o,⟨c,v,w,z⟩,B⟩:=adj dB a.ok;refine⟨gE,⟨1,t1,d,l,n,o,[],tm,[],[]⟩,⟨(((bp.s.trans a2.s).trans av.s).trans a.s).trans c.s,⟨Hy 1 az',v,w,z,λ_ h=>(aC5 h).elim,DI⟩,λf=> ?_,λf=>g (a2.s.bT (av.s.bT (a.s.bT (c.s.bT f))))⟩,?_⟩
 .have j:=c.s.bT f;have r:=a.s.bT j;have m:=av.s.bT r;have:=c.a f;have:=a.a j;have:=av.w r;have:=a2.a m;have:=bp.a (a2.s.bT m);show 1000+t1.length+j8 d+0+700+0+0+_<=_;omega
 show bD _ _ _ _ _ (.d (.agg (lH.cs ⟨1,t1,d.map bF,l,n,o,[],tm.bz,[],[]⟩))) _;generalize d.map bF=L at aX⊢;refine UJ.ct λA ae Q t=> ?_;refine ak ?_
 (subst ae;exact bS t az5 az5)
theorem apS(p:aJ)(hp:p.Ok):∃(q:aJ) (x:cC),yD p q x/\aL 91 [.ptr 0 0] [p.ob] (.d (.agg x.dX.cs)) [q.ob]:=by
 have bp:=nY (k:=1) hp az6;have g1:=aJ.pz (k:=1) hp;have aj:=oG p hp;have o:=@Nn p;generalize p.h2 1=q1 at aj bp o;generalize (p.iY 1).t=t1 at aj g1 o;obtain⟨bG,n,r,t,⟨a2,F,G,H⟩,aC⟩:=adj q1 bp.ok;have a3:=mF (s:=[102,114,111,109]) a2.ok;have aX:=km bG [102,114,111,109] a2.ok;generalize bG.want [102,114,111,109]=cM at aX a3;obtain⟨dB,l,a,B⟩:=apQ cM t1 n r t a3.ok;have g:=mF (s:=[100,111]) a.s.ok;have C:=km dB [100,111] a.s.ok;generalize dB.want [100,111]=gE at C g;obtain⟨J,y,j,E⟩:=apk (f:=126) (d:=gE.ec) (λ_=>apH _) gE g.ok rfl;refine⟨J,⟨2,t1,[],n,r,t,l,y,[],[]⟩,⟨((((bp.s.trans a2.s).trans a3.s).trans a.s).trans g.s).trans j.s,⟨Hy 2 az',F,G,H,a.g,j.g⟩,λm=> ?_,λm=>o (a2.s.bT (a3.s.bT (a.s.bT (g.s.bT (j.s.bT m)))))⟩,?_⟩
 .have v:=j.s.bT m;have u:=g.s.bT v;have z:=a.s.bT u;have w:=a3.s.bT z;have:=j.w m;have:=g.a v;have:=a.w u;have:=a3.a z;have:=a2.a w;have:=bp.a (a2.s.bT w);show 1000+t1.length+0+jN l+y.w+0+0+_<=_;omega
 show bD _ _ _ _ _ (.d (.agg (lH.cs ⟨2,t1,[],n,r,t,l.map ef,y.bz,[],[]⟩))) _;generalize l.map ef=L at B⊢;generalize y.bz=c at E⊢;refine UL.ct λK ae Q A=> ?_;refine ak ?_
 (subst ae;exact bS A az5 az5)
theorem apT(p:aJ)(hp:p.Ok):∃(q:aJ) (x:cC),yD p q x/\aL 92 [.ptr 0 0] [p.ob] (.d (.agg x.dX.cs)) [q.ob]:=by
 have bp:=nY (k:=1) hp az6;have g1:=aJ.pz (k:=1) hp;have aj:=oG p hp;have f:=@Nn p;generalize p.h2 1=q1 at aj bp f;generalize (p.iY 1).t=t1 at aj g1 f;obtain⟨bG,t,u,r,g,⟨a2,_,g2⟩,aC⟩:=A5 q1 3 az6 bp.ok;have a3:=mF (s:=[109,97,107,101,115]) a2.ok;have aX:=km bG [109,97,107,101,115] a2.ok;generalize bG.want [109,97,107,101,115]=cM at aX a3;obtain⟨dB,c,⟨d,jw⟩,j⟩:=acN cM a3.ok;refine⟨dB,⟨3,t1,[],0,0,0,[],tm,g,c⟩,⟨((bp.s.trans a2.s).trans a3.s).trans d,⟨Hy 3 az',eb.zero,eb.zero,eb.zero,λ_ h=>(aC5 h).elim,DI⟩,λa=> ?_,λa=>f (a2.s.bT (a3.s.bT (d.bT a)))⟩,?_⟩
 .have m:=d.bT a;have l:=a3.s.bT m;have:=jw a;have:=a3.a m;have:=a2.a l;have:=bp.a (a2.s.bT l);show 1000+t1.length+0+0+700+g.length+fl c+_<=_;omega
 show bD _ _ _ _ _ (.d (.agg (lH.cs ⟨3,t1,[],0,0,0,[],tm.bz,g,c.map .str⟩))) _;unfold fx at j;generalize c.map D.str=L at j⊢;refine WG.ct λo ae Q n=> ?_;refine ak ?_
 (subst ae;exact bS n az5 az5)
def adn:cC:=⟨0,[],[],0,0,0,[],tm,[],[]⟩
theorem apU:adn.Good:=⟨Hy 0 az',eb.zero,eb.zero,eb.zero,λ_ h=>(aC5 h).elim,DI⟩
def apV:List ax:=[[115,111,117,114,99,101],[97,115,115,101,116],[115,99,104,101,100,117,108,101]]
theorem apW(p:aJ)(hp:p.Ok):∃(q:aJ) (x:cC),(yD p q x/\(q.e=0->p.i<q.i))/\aL 62 [.ptr 0 0] [p.ob] (.d (.agg x.dX.cs)) [q.ob]:=by
 obtain⟨m,k,⟨⟨d,A⟩,h1⟩,u⟩:=apO p apV hp az';replace A:k<=3:=A;have z:∀(f:Nat),(∃(q:aJ) (x:cC),yD m q x/\aL f [.ptr 0 0] [m.ob] (.d (.agg x.dX.cs)) [q.ob])->∃(g q:aJ) (x:cC),(yD p q x/\(q.e=0->p.i<q.i))/\aL f [.ptr 0 0] [m.ob] (.d (.agg x.dX.cs)) [g.ob]/\aL 93 [.ptr 0 0,.d (.str [59])] [g.ob] (.tuple []) [q.ob]:=by
  rintro f ⟨g,x,l,j⟩;have r:=mF (s:=[59]) l.s.ok;have v:=km g [59] l.s.ok;refine⟨g,_,x,⟨⟨(d.s.trans l.s).trans r.s,l.g,λa=> ?_,λa=>d.s.l▸l.nm (r.s.bT a)⟩,λa=> ?_⟩,j,v⟩
  .have B:=r.s.bT a;have:=r.a a;have:=l.w B;have:=d.a (l.s.bT B);omega
  .have B:=r.s.bT a;have:=r.a a;have:=l.s.i;have:=d.s.i;omega
 match k,A,u,h1 with
 |0,_,u,h1=>
  have t:=mF (s:=[59]) d.ok;have j:=km m [59] d.ok;generalize m.want [59]=g at j t;refine⟨g,adn,⟨⟨d.s.trans t.s,apU,λa=> ?_,λa=>absurd (h1 (t.s.bT a)) az'⟩,λa=> ?_⟩,?_⟩
  .have:=(d.trans t).a a;show 1000+0+0+0+700+0+0+_<=_;omega
  .have:=(d.trans t).a a;omega
  refine Dt.ct λw ae Q o=> ?_;conv=>cbv
  repeat ((first|refine dD ?_|refine dE ?_|simp -proj only[e6 ae]);conv=>cbv)
  try trivial
  all_goals (subst ae;exact bS o az5 az5)
 |1,_,u,_=>
  obtain⟨g,q,x,h,j,v⟩:=z _ (apR m d.ok);refine⟨q,x,h,?_⟩;generalize x.dX=c at j⊢;refine Dt.ct λw ae Q o=> ?_;conv=>cbv
  repeat ((first|refine dD ?_|refine dE ?_|simp -proj only[e6 ae]);conv=>cbv)
  try trivial
  all_goals (subst ae;exact bS o az5 az5)
 |2,_,u,_=>
  obtain⟨g,q,x,h,j,v⟩:=z _ (apS m d.ok);refine⟨q,x,h,?_⟩;generalize x.dX=c at j⊢;refine Dt.ct λw ae Q o=> ?_;conv=>cbv
  repeat ((first|refine dD ?_|refine dE ?_|simp -proj only[e6 ae]);conv=>cbv)
  try trivial
  all_goals (subst ae;exact bS o az5 az5)
 |3,_,u,_=>
  obtain⟨g,q,x,h,j,v⟩:=z _ (apT m d.ok);refine⟨q,x,h,?_⟩;generalize x.dX=c at j⊢;refine Dt.ct λw ae Q o=> ?_;conv=>cbv
  repeat ((first|refine dD ?_|refine dE ?_|simp -proj only[e6 ae]);conv=>cbv)
  try trivial
  all_goals (subst ae;exact bS o az5 az5)
 |n+4,h,_,_=>omega
def yE(s:ax)(x:List Tok×Nat×Int):aJ:=⟨x.1,pw x.1,0,s.length,0,x.2.2,x.2.1⟩
theorem apX(s:ax):aL 61 [.d (.str s)] [] (.ptr 0 0) [(yE s (qy s)).ob]:=by
 have aj:=aoO s;generalize qy s=x at aj⊢;obtain⟨l,p,e⟩:=x;have aj:aL 88 [.d (.str s)] [] (.tuple [.d (pw l),.d (int p),.d (int e)]) []:=aj;unfold yE;unfold pw at aj⊢;generalize l.map Tok.d=T at aj⊢;refine YA.ct λc ae Q a=> ?_;refine ak ?_
 (subst ae;exact bS a az7 az5)
theorem apY(s:ax):(yE s (qy s)).Ok:=⟨aCu _,by have:=(M4 s).2;show(qy s).1.length<=_;omega,aCu _,(M4 s).1,rfl⟩
def mG(p:aJ):aJ:=cond (decide (p.e=0)&&decide (p.i<p.l.length)) (p.fail 51) p
theorem apZ{p:aJ}(h:(mG p).e=0):mG p=p/\p.e=0:=by
 grind[mG,aJ.oH]
theorem ap0(p:aJ)(hp:p.Ok)(l:List D):aL 63 [.ptr 0 0,.d (.list 25 l)] [p.ob] (cond (decide ((mG p).e=0)) (.tuple [.d (.list 25 l),.d (int p.n),.d (int 0)]) (.tuple [.d (.list 25 []),.d (int (mG p).a),.d (int (mG p).e)])) [(mG p).ob]:=by
 have h1:=hp.i;have aj:=qz p 51 hp;by_cases h:p.e=0
 .by_cases j:p.i<p.l.length
  .have d:mG p=p.fail 51:=by grind[mG]
   have f:(p.fail 51).e≠0:=aJ.oH az6;rw[d,aC3 f];generalize p.fail 51=q at aj f⊢;rw[aJ.yw hp]at aj⊢;have g:(p.l.map Tok.d).length=p.l.length:=aCv _;unfold pw at aj⊢;generalize p.l.map Tok.d=T at*;refine G9.ct λa ae Q c=> ?_;have t1:a.aB .eql p.e 0=true:=aAf;have t2:a.aB .lss (Int.ofNat p.i) (Int.ofNat (a.len T))=true:=aAa;have t3:a.aB .neq q.e 0=true:=aAa;refine ak ?_
   (subst ae;exact bS c az7 az5)
  .have d:mG p=p:=by grind[mG]
   rw[d,aCI h,aJ.yw hp];have g:(p.l.map Tok.d).length=p.l.length:=aCv _;unfold pw;generalize p.l.map Tok.d=T at*;refine G9.ct λa ae Q c=> ?_;have t1:a.aB .eql p.e 0=true:=aAf;have t2:a.aB .lss (Int.ofNat p.i) (Int.ofNat (a.len T))=false:=aAa;have t3:a.aB .neq p.e 0=false:=aAa;refine ak ?_
   (subst ae;exact bS c az7 az5)
 .have d:mG p=p:=by grind[mG]
  rw[d,aC3 h];refine G9.ct λa ae Q c=> ?_;have t1:a.aB .eql p.e 0=false:=aAf;have t3:a.aB .neq p.e 0=true:=aAa;refine ak ?_
  (subst ae;exact bS c az7 az5)
def hE(l:List cC):Nat:=fS cC.w l
structure Nq(p:aJ)(l:List cC)(q:aJ):Prop where
 s:Step p q
 n:l.length<=q.i+1
 m:q.e=0->l.length<=q.i
 g:∀x∈l,x.Good
 w:q.e=0->hE l+20000*p.i<=40000*q.i
 nm:q.e=0->∀x∈l,∃t∈p.l,t.k=1/\x.n=t.t
def ado(q:aJ)(l:List D):ag:=cA [(2,.own 25 l),(5,.ptr 0 0)] [q.ob]
theorem adp(s:ax):∃(l:List cC) (a:Int) (e:Int),((∀x∈l,x.Good)/\hE l<=1000000000/\l.length<=16384/\(e≠0->l=[])/\∀x∈l,x.n≠[])/\aL 45 [.d (.str s)] [] (.tuple [.d (.list 25 (l.map cC.d)),.d (int a),.d (int e)]) []:=by
 refine G8 ?_;have aj:=apX s;have hp:=apY s;have H:(yE s (qy s)).i=0:=rfl;have G:(yE s (qy s)).l.length<=16384:=(M4 s).2;have A:∀t∈(yE s (qy s)).l,t.k=1->t.t≠[]:=aoM s;generalize yE s (qy s)=p at aj hp H G A;refine Yt.cn _ λk ae K m=> ?_;refine ak ?_;refine⟨bX (λz:aJ×List D=>ado z.1 z.2) (λz=>∃l,Nq p l z.1/\z.2=l.map cC.d) λz=>cond (decide (z.1.e=0)) (z.1.l.length-z.1.i+1) 0,_,⟨(p,[]),⟨[],⟨Step.refl hp,aCu _,λ_=>aCu _,λ_ h=>(aC5 h).elim,λ_=>aAJ,λ_ _ h=>(aC5 h).elim⟩,rfl⟩,rfl,az5⟩,?_⟩;rintro _ _ ⟨⟨q,L⟩,⟨l,f,o⟩,rfl,rfl⟩;dsimp only at f o⊢;have aS:=f.s.ok;have N:L.length=l.length:=az9;have h1:=aS.i;have af:q.l.length<=16384:=by grind[Step.l,Nq.s]
 have M:(q.l.map Tok.d).length=q.l.length:=aCv _;unfold ado;have w:(q.e=0->¬q.i<q.l.length)->∀B,B=q.ob->∃r,aL 63 [.ptr 0 0,.d (.list 25 L)] [B] r [(mG q).ob]/\∃(d:List cC) (a e:Int),((∀x∈d,x.Good)/\hE d<=1000000000/\d.length<=16384/\(e≠0->d=[])/\∀x∈d,x.n≠[])/\r=.tuple [.d (.list 25 (d.map cC.d)),.d (int a),.d (int e)]:=by
  rintro Q _ rfl;refine⟨_,ap0 q aS L,?_⟩;by_cases n:(mG q).e=0
  .have:=apZ n;rw[aCI n];exact⟨l,_,_,⟨f.g,by have:=f.w this.2;omega,by have:=f.m this.2;omega,λh=>absurd rfl h,λx j=>by obtain⟨t,h1,af,av⟩:=f.nm this.2 x j;rw[av];exact A t h1 af⟩,by rw[o];rfl⟩
  .rw[aC3 n];exact⟨[],_,_,⟨λ_ h=>(aC5 h).elim,by show 0<=_;omega,aCu _,λ_=>rfl,λ_ h=>(aC5 h).elim⟩,rfl⟩
 by_cases n:q.e=0
 .by_cases E:q.i<q.l.length
  .obtain⟨r,x,⟨j,J⟩,aC⟩:=apW q aS;rw[aJ.yw aS]at aC⊢;unfold pw at aC⊢;have v:x.d=.agg x.dX.cs:=rfl;generalize x.dX=c at aC v;generalize C:q.l.map Tok.d=T at*;have t1:k.aB .eql q.e 0=true:=aAf;have t2:k.aB .lss (Int.ofNat q.i) (Int.ofNat (k.len T))=true:=aCc;have P:=f.m n;refine ak ?_;refine ea (r,k.app L [.agg c.cs]) ⟨l++[x],⟨f.s.trans j.s,?_,?_,?_,?_,?_⟩,?_⟩ ?_ az5
   .have:=j.s.i;grind
   .grind
   .intro y g;rcases aC9.1 g with g|g
    .grind[Nq.g]
    .rw[aCS.1 g];exact j.g
   .intro h;have w1:=j.w h;have b5:=f.w (j.s.bT h);grind[hE,rO,fS]
   .intro h y g;rcases aC9.1 g with g|g
    .exact f.nm (j.s.bT h) y g
    .rw[aCS.1 g,<-f.s.l];exact j.nm h
   .rw[show k.app L [.agg c.cs]=L++[.agg c.cs]by rw[ae];rfl,aCR,o,<-v];rfl
   .have:=j.s.i;show cond (decide (r.e=0)) (r.l.length-r.i+1) 0<cond (decide (q.e=0)) (q.l.length-q.i+1) 0;grind[Step.l,yD.s]
  .obtain⟨r,aC,d,a,e,u,rfl⟩:=w (λ_=>E) q.ob rfl;generalize mG q=bG at aC;rw[aJ.yw aS]at aC⊢;unfold pw at aC⊢;have m:=λs h=>m _ s ⟨d,a,e,u,rfl,h⟩;generalize d.map cC.d=F at*;generalize C:q.l.map Tok.d=T at*;have t1:k.aB .eql q.e 0=true:=aAf;have t2:k.aB .lss (Int.ofNat q.i) (Int.ofNat (k.len T))=false:=aAg;refine ak ?_;exact m _ az5
 .obtain⟨r,aC,d,a,e,u,rfl⟩:=w (λh=>absurd h n) q.ob rfl;generalize mG q=bG at aC;have m:=λs h=>m _ s ⟨d,a,e,u,rfl,h⟩;generalize d.map cC.d=F at*;have t1:k.aB .eql q.e 0=false:=aAf;refine ak ?_;exact m _ az5
theorem ap2(s:ax):∃(l:List cC) (a:Int) (e:Int),((∀x∈l,x.Good)/\hE l<=1000000000/\l.length<=16384/\(e≠0->l=[]))/\aL 45 [.d (.str s)] [] (.tuple [.d (.list 25 (l.map cC.d)),.d (int a),.d (int e)]) []:=by
 obtain⟨l,a,e,⟨h1,d,f,c,_⟩,h⟩:=adp s;exact⟨l,a,e,⟨h1,d,f,c⟩,h⟩
end Go.Proofs.YthffhbakgmemaaaGreatDoor
