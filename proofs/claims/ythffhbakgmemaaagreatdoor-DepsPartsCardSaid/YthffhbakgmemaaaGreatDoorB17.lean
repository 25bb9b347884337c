/- Part of parts_said. -/
import Derived.Test.YthffhbakgmemaaaGreatDoorB16
set_option maxRecDepth 100000
set_option maxHeartbeats 8000000
set_option linter.unusedSimpArgs false
set_option linter.unusedVariables false
namespace Go.Proofs.YthffhbakgmemaaaGreatDoor
open Go Go.aG
attribute [local irreducible] bD
theorem avx(s:ax)(L:List Go.aG.D)(a e:Int)(he:e≠0)(aj:aL 45 [.d (.str s)] [] (.tuple [.d (.list 25 L),.d (int a),.d (int e)]) []):
  aL 19 [.d (.str s)] [] (.tuple [.d .dJ,.d (int a),.d (int e)]) []:=by
 refine Hd.ct λd ae Q c=> ?_;have t1:d.aB .neq e 0=true:=aBY;refine ak ?_
 (subst ae;exact bS c az5 az5)
theorem avy(s:ax)(L:List Go.aG.D)(a b e:Int)(he:e≠0)(aj:aL 45 [.d (.str s)] [] (.tuple [.d (.list 25 L),.d (int a),.d (int 0)]) [])
  (aC:aL 46 [.d (.list 25 L)] [] (.tuple [.d .dJ,.d (int b),.d (int e)]) []):
  aL 19 [.d (.str s)] [] (.tuple [.d .dJ,.d (int b),.d (int e)]) []:=by
 refine Hd.ct λc ae Q d=> ?_;have t0:c.aB .neq 0 0=false:=aAc;have t1:c.aB .neq e 0=true:=aBY;refine ak ?_
 (subst ae;exact bS d az5 az5)
theorem avz(s:ax)(L:List Go.aG.D)(a b:Int)(m:bw)(c:m.Ok)(d f:Bool)(aj:aL 45 [.d (.str s)] [] (.tuple [.d (.list 25 L),.d (int a),.d (int 0)]) [])
  (aC:aL 46 [.d (.list 25 L)] [] (.tuple [.ptr 0 0,.d (int b),.d (int 0)]) (m.bm d f true)):
  aL 19 [.d (.str s)] [] (.tuple [.ptr 0 0,.d (int 0),.d (int 0)]) (m.bm d f true):=by
 obtain⟨p,t,o,N,v,u,S,r,l,n,k,P⟩:=m;refine Hd.fX (vv d f) λj ae Q g=> ?_;have t0:j.aB .neq 0 0=false:=aAc;obtain⟨bp,a2,a3⟩:=aV.of ae c.N;obtain⟨bq,aT,b3⟩:=aV.of ae c.S;obtain⟨c1,c2,c3⟩:=aV.of ae c.bI;obtain⟨d1,d2,d3⟩:=aV.of ae c.bJ;obtain⟨bP,bZ,cx⟩:=aV.of ae c.bH;obtain⟨cb,cp,cy⟩:=fU.of ae c.P;dsimp only at bp a2 a3 bq aT b3 c1 c2 c3 d1 d2 d3 bP bZ cx cb cp cy;cases d<;>cases f;all_goals
  dsimp only[bw.bm,vv,dc,cv,qO]at aC g⊢;refine ak ?_
 all_goals (subst ae;exact bS g az5 az5)
structure lk(m:bw)(aq:Bool)(l:List b1):Prop where
 ok:m.Ok
 N:m.N=gB l
 bf:l.length=m.bf
 od:m.bf<=16384
 aq:aq=decide (0<m.bf)
theorem lk.bB{m:bw}{a:Bool}{l:List b1}(h:lk m a l):a=false->l=[]:=λe=>aE2.1 (by have:=aFi (h.aq.symm.trans e);have:=h.bf;omega)
theorem avA{m:bw}{a:Bool}{l:List b1}(n:lk m a l)(d:Bool):aL 20 [.ptr 0 0] (m.st a d true) (.d (int (Int.ofNat m.bf))) (m.st a d true):=by
 obtain⟨c,o,j,au,g⟩:=n;obtain⟨u,t,bf,N,z,w,S,v,r,s,p,P⟩:=m;dsimp only at o j au g;refine Wk.fX (dP a d true) λk ae Q f=> ?_;obtain⟨bp,a2,a3⟩:=aV.of ae c.N;obtain⟨bq,aT,b3⟩:=aV.of ae c.S;obtain⟨c1,c2,c3⟩:=aV.of ae c.bI;obtain⟨d1,d2,d3⟩:=aV.of ae c.bJ;obtain⟨bP,bZ,cx⟩:=aV.of ae c.bH;obtain⟨cb,cp,cy⟩:=fU.of ae c.P;dsimp only at bp a2 a3 bq aT b3 c1 c2 c3 d1 d2 d3 bP bZ cx cb cp cy;have r0:a=false->k.len []=bf:=λh=>by subst ae;have:=aFi (g.symm.trans h);show 0=bf;omega
 cases a<;>cases d;all_goals
  dsimp only[bw.st,dP,dc,cv]at f⊢;try replace r0:=r0 rfl
  refine ak ?_
 all_goals (subst ae;exact bS f az5 az5)
theorem Is{m:bw}{d:Bool}{l:List b1}(s:lk m d l)(g:Bool)(i:Nat)(hi:i<l.length):aL 25 [.ptr 0 0,.d (int (Int.ofNat i))] (m.st d g true) (.d (.agg l[i].c24.cs)) (m.st d g true):=by
 obtain⟨a,f,r,au,p⟩:=s;obtain⟨C,t,o,N,M,K,S,E,v,z,u,P⟩:=m;dsimp only at f r au p;obtain rfl:d=true:=p.trans (aCI az6);refine Wn.fX (dP true g true) λc ae Q k=> ?_;obtain⟨bp,a2,a3⟩:=aV.of ae a.N;obtain⟨bq,aT,b3⟩:=aV.of ae a.S;obtain⟨c1,c2,c3⟩:=aV.of ae a.bI;obtain⟨d1,d2,d3⟩:=aV.of ae a.bJ;obtain⟨bP,bZ,cx⟩:=aV.of ae a.bH;obtain⟨cb,cp,cy⟩:=fU.of ae a.P;dsimp only at bp a2 a3 bq aT b3 c1 c2 c3 d1 d2 d3 bP bZ cx cb cp cy;have t1:c.aB .lss (Int.ofNat i) 0=false:=by rw[(eS ae).2.1];simp
 have t2:c.aB .geq (Int.ofNat i) (Int.ofNat o)=false:=by subst ae;exact aC3 aAo
 have fw:c.dS 24 24 (Int.ofNat i) o=true:=e7 ae az6;have eY:=kf ae i 24;have fa:c.ha (i*24) 24 N true=true:=by rw[f];exact r1 ae hi (j:=0) (n:=24) az'
 have fG:c.l0 N (i*24) 24=.d (.agg l[i].c24.cs):=by rw[f];exact HW ae hi
 clear f;generalize l[i].c24=w at*;obtain⟨U,R,J,L,F,G,H,⟨B,A,lj,V,X,Y,Z,zd,ze,zf,zg,zh,zi,zj,zk,zl⟩,zm⟩:=w;generalize i*24=aB at*;cases g;all_goals
  dsimp only[bw.st,dP,dc,cv]at k⊢;refine ak ?_
 all_goals (subst ae;exact bS k az5 az5)
theorem afk{m:bw}{d:Bool}{l:List b1}(g:lk m d l)(c:Bool)(i:Nat)(hi:i<l.length):aL 28 [.ptr 0 0,.d (int (Int.ofNat i))] (m.st d c true) (.d (.agg [int l[i].k,int l[i].a,int l[i].b])) (m.st d c true):=by
 have aj:=Is g c i hi;obtain⟨a,j,n,au,k⟩:=g;obtain⟨F,t,A,N,R,L,S,G,v,z,u,P⟩:=m;dsimp only at j n au k;obtain rfl:d=true:=k.trans (aCI az6);refine Wp.fX (dP true c true) λs ae Q f=> ?_;obtain⟨bp,a2,a3⟩:=aV.of ae a.N;obtain⟨bq,aT,b3⟩:=aV.of ae a.S;obtain⟨c1,c2,c3⟩:=aV.of ae a.bI;obtain⟨d1,d2,d3⟩:=aV.of ae a.bJ;obtain⟨bP,bZ,cx⟩:=aV.of ae a.bH;obtain⟨cb,cp,cy⟩:=fU.of ae a.P;dsimp only at bp a2 a3 bq aT b3 c1 c2 c3 d1 d2 d3 bP bZ cx cb cp cy;clear j;generalize l[i]=w at*;obtain⟨X,V,p,M,H,J,o,r,zm⟩:=w;unfold b1.c24 at aj;dsimp only at aj f⊢;generalize o.map ef=K at*;generalize p.map bF=U at*;generalize r.bz=C at*;obtain⟨E,B,lj,Y,Z,zb,zc,zd,ze,zf,zg,zh,zi,zj,zk,zl⟩:=C;cases c;all_goals
  dsimp only[bw.st,dP,dc,cv]at f aj⊢;refine ak ?_
 all_goals (subst ae;exact bS f az5 az5)
theorem OO{m:bw}{d:Bool}{l:List b1}(g:lk m d l)(c:Bool)(i:Nat)(hi:i<l.length)(h1:l[i].bm.length<=1073741824)(af:l[i].bV.length<=1073741824)(n:l[i].pl.w<=dr):aL 8 [.ptr 0 0,.d (int (Int.ofNat i))] (m.st d c true) (.d (.agg l[i].c24.cs)) (m.st d c true):=by
 have aj:=Is g c i hi;have aC:=arO l[i].c24 (by show(l[i].bm.map bF).length<=_;rw[aCv];exact h1) (by show(l[i].bV.map ef).length<=_;rw[aCv];exact af) (arM _ l[i].pl (aCw _) n);obtain⟨a,j,o,au,k⟩:=g;obtain⟨B,t,v,N,L,J,S,C,s,u,r,P⟩:=m;dsimp only at j o au k;obtain rfl:d=true:=k.trans (aCI az6);refine Ur.fX (dP true c true) λp ae Q f=> ?_;obtain⟨bp,a2,a3⟩:=aV.of ae a.N;obtain⟨bq,aT,b3⟩:=aV.of ae a.S;obtain⟨c1,c2,c3⟩:=aV.of ae a.bI;obtain⟨d1,d2,d3⟩:=aV.of ae a.bJ;obtain⟨bP,bZ,cx⟩:=aV.of ae a.bH;obtain⟨cb,cp,cy⟩:=fU.of ae a.P;dsimp only at bp a2 a3 bq aT b3 c1 c2 c3 d1 d2 d3 bP bZ cx cb cp cy;clear j h1 af n;generalize l[i].c24=w at*;obtain⟨R,M,H,K,E,F,G,⟨A,z,lj,U,V,X,Y,Z,ze,zf,zg,zh,zi,zj,zk,zl⟩,zm⟩:=w;cases c;all_goals
  dsimp only[bw.st,dP,dc,cv]at f aj⊢;refine ak ?_
 all_goals (subst ae;exact bS f az5 az5)
theorem avB(k a b:Int)(h:vq a b):aL 21 [.d (.agg [int k,int a,int b])] [] (.d (int (b-a+1))) []:=by
 obtain⟨h1,af,av,j⟩:=h;refine Z8.ct λf ae Q g=> ?_;have t1:f.io .sub .i64 b a=b-a:=DA ae az6 az6;have t2:f.io .add .i64 (b-a) 1=b-a+1:=mE ae az6 az6;generalize b-a+1=c at*;generalize b-a=d at*;refine ak ?_;all_goals (subst ae;exact bS g az5 az5)
def pI(a:Int)(n:Nat):List Int:=(List.range n).map λk=>a+Int.ofNat k
theorem Iu(a:Int)(n:Nat):(pI a n).length=n:=by unfold pI;simp
theorem afl(a:Int)(n:Nat):pI a (n+1)=pI a n++[a+Int.ofNat n]:=by unfold pI;rw[List.range_succ,aCR];rfl
def b1.ks(x:b1):List Int:=pI x.a (x.b-x.a+1).toNat
def avC(k a b:Int)(i:Int)(R:List Go.aG.D):ag:=lZ [(1,.dw 1 0),(3,.own 1 R),(4,.d (int i))] [(1,[.d (int k),.d (int a),.d (int b)])] []
theorem avD(x:b1)(h:vq x.a x.b):aL 29 [.d (.agg [int x.k,int x.a,int x.b])] [] (.d (.list 1 (x.ks.map int))) []:=by
 unfold b1.ks;generalize x.k=k at*;generalize x.a=a at*;generalize x.b=b at*;obtain⟨h1,af,av,o⟩:=h;refine Uv.ct λd ae Q f=> ?_;refine ak ?_;refine⟨bX (λz:Nat×Int×List Go.aG.D=>avC k a b z.2.1 z.2.2) (λz=>z.1<=(b-a+1).toNat/\z.2.1=a+Int.ofNat z.1/\z.2.2=(pI a z.1).map int) (λz=>(b-a+1).toNat-z.1),_,⟨(0,a,[]),⟨aCu _,(aGi _).symm,rfl⟩,rfl,az5⟩,?_⟩;rintro _ _ ⟨⟨i,x,R⟩,⟨m,g,c⟩,rfl,rfl⟩;dsimp only at m g c⊢;have p:R.length<=33554432:=by rw[c,aCv,Iu];omega
 by_cases l:i<(b-a+1).toNat
 .have t1:d.aB .leq x b=true:=by simp only[aH ae,aCy,aCA]at*;omega
  obtain⟨bP,t6,j⟩:∃y,d.io .add .i64 x 1=y/\y=a+Int.ofNat (i+1):=⟨_,mE ae aA3 aA3,aA3⟩;have n:(pI a (i+1)).map int=d.app R [int x]:=by subst ae;rw[afl,<-g,c,aCR];rfl
  clear c;refine ak ?_;all_goals exact fixF (i+1,bP,_) ⟨l,j,n.symm⟩
 .have t1:d.aB .leq x b=false:=by simp only[aH ae,aCy,aCE]at*;omega
  obtain rfl:i=(b-a+1).toNat:=az6;rw[<-c]at f;clear c;refine ak ?_;all_goals (subst ae;exact bS f az5 az5)
def iw(s:ax)(k:Int):Go.aG.D:=.agg [.str s,int k]
def avE(s:ax)(L:List Go.aG.D)(n j:Nat)(R:List Go.aG.D):ag:=cA [(0,.d (.str s)),(5,.own 2 R),(8,.d (.list 1 L)),(9,.d (int (Int.ofNat n))),(10,.d (int (Int.ofNat j)))] []
theorem avF(s:ax)(l:List Int)(p:l.length<=33554432):aL 30 [.d (.str s),.d (.list 1 (l.map int))] [] (.d (.list 2 (l.map (iw s)))) []:=by
 have bx:(l.map int).length=l.length:=aCv _;have g:∀i (h:i<l.length),(l.map int)[i]?=some (int l[i]):=λi h=>cY h;generalize l.map int=L at*;refine Wr.ct λf ae Q d=> ?_;obtain⟨n,hZ⟩:∃n,n=l.length:=⟨_,rfl⟩;have t0:f.len L=n:=aAL;refine ak ?_;refine⟨bX (λz:Nat×List Go.aG.D=>avE s L n z.1 z.2) (λz=>z.1<=n/\z.2=(l.take z.1).map (iw s)) (λz=>n-z.1),_,⟨(0,[]),⟨aCu _,rfl⟩,rfl,az5⟩,?_⟩;rintro _ _ ⟨⟨j,R⟩,⟨m,a⟩,rfl,rfl⟩;dsimp only at m a⊢;by_cases c:j<n
 .have k:j<l.length:=hZ▸c;have t1:=ek ae c;have t2:=cH ae (g j k);have t6:=b9 ae (n:=j) az6;have o:(l.take (j+1)).map (iw s)=f.app R [.agg [.str s,int l[j]]]:=by subst ae;rw[a,aDg,aCB k,aCR];rfl
  have r:R.length<=33554432:=by rw[a];simp;omega
  clear g a;generalize l[j]=x at*;refine ak ?_;all_goals exact fixF (j+1,_) ⟨c,o.symm⟩
 .have t1:=en ae c;rw[aDd az6]at a;rw[<-a]at d;clear a;refine ak ?_;all_goals (subst ae;exact bS d az5 az5)
theorem avG{m:bw}{d:Bool}{l:List b1}(g:lk m d l)(c:Bool)(i:Nat)(hi:i<l.length):aL 33 [.ptr 0 0,.d (int (Int.ofNat i))] (m.st d c true) (.d (.str l[i].n)) (m.st d c true):=by
 have aj:=Is g c i hi;obtain⟨a,j,o,au,k⟩:=g;obtain⟨B,t,v,N,L,J,S,C,s,u,r,P⟩:=m;dsimp only at j o au k;obtain rfl:d=true:=k.trans (aCI az6);refine aac.fX (dP true c true) λp ae Q f=> ?_;obtain⟨bp,a2,a3⟩:=aV.of ae a.N;obtain⟨bq,aT,b3⟩:=aV.of ae a.S;obtain⟨c1,c2,c3⟩:=aV.of ae a.bI;obtain⟨d1,d2,d3⟩:=aV.of ae a.bJ;obtain⟨bP,bZ,cx⟩:=aV.of ae a.bH;obtain⟨cb,cp,cy⟩:=fU.of ae a.P;dsimp only at bp a2 a3 bq aT b3 c1 c2 c3 d1 d2 d3 bP bZ cx cb cp cy;clear j;have n:l[i].n=l[i].c24.n:=rfl;rw[n]at f;clear n;generalize l[i].c24=w at*;obtain⟨R,M,H,K,E,F,G,⟨A,z,lj,U,V,X,Y,Z,ze,zf,zg,zh,zi,zj,zk,zl⟩,zm⟩:=w;cases c;all_goals
  dsimp only[bw.st,dP,dc,cv]at f aj⊢;refine ak ?_
 all_goals (subst ae;exact bS f az5 az5)
theorem avH{m:bw}{d:Bool}{l:List b1}(g:lk m d l)(c:Bool)(i:Nat)(hi:i<l.length):aL 44 [.ptr 0 0,.d (int (Int.ofNat i))] (m.st d c true) (.d (.bool l[i].s)) (m.st d c true):=by
 have aj:=Is g c i hi;obtain⟨a,j,o,au,k⟩:=g;obtain⟨B,t,v,N,L,J,S,C,s,u,r,P⟩:=m;dsimp only at j o au k;obtain rfl:d=true:=k.trans (aCI az6);refine aah.fX (dP true c true) λp ae Q f=> ?_;obtain⟨bp,a2,a3⟩:=aV.of ae a.N;obtain⟨bq,aT,b3⟩:=aV.of ae a.S;obtain⟨c1,c2,c3⟩:=aV.of ae a.bI;obtain⟨d1,d2,d3⟩:=aV.of ae a.bJ;obtain⟨bP,bZ,cx⟩:=aV.of ae a.bH;obtain⟨cb,cp,cy⟩:=fU.of ae a.P;dsimp only at bp a2 a3 bq aT b3 c1 c2 c3 d1 d2 d3 bP bZ cx cb cp cy;clear j;have n:l[i].s=l[i].c24.s:=rfl;rw[n]at f;clear n;generalize l[i].c24=w at*;obtain⟨R,M,H,K,E,F,G,⟨A,z,lj,U,V,X,Y,Z,ze,zf,zg,zh,zi,zj,zk,zl⟩,zm⟩:=w;cases c;all_goals
  dsimp only[bw.st,dP,dc,cv]at f aj⊢;refine ak ?_
 all_goals (subst ae;exact bS f az5 az5)
def gA(l:List b1)(v:ax):Int:=match l.findIdx? (λx=>decide (x.n=v))with|some i=>Int.ofNat i|none=> -1
theorem Iv{l:List b1}{v:ax}{i:Nat}(h:nB l v i true):gA l v=Int.ofNat i:=by
 rcases h with⟨_,hi,h1,c⟩|⟨h,_⟩
 .unfold gA;rw[(aEt (p:=λx:b1=>decide (x.n=v))).2 ⟨hi,by simpa using h1,λj a=>by simpa using c j a⟩]
 .cases h
theorem OP{l:List b1}{v:ax}{i:Nat}(h:nB l v i false):gA l v= -1:=by
 rcases h with⟨h,_⟩|⟨_,_,h⟩
 .cases h
 .unfold gA;rw[List.findIdx?_eq_none_iff.2 λx a=>by simpa using h x a]
def hF(i k:Int):Go.aG.D:=.agg [int i,int k]
theorem afm{m:bw}{c:Bool}{l:List b1}(a:lk m c l)(f:Bool)(v:ax)(k:Int):aL 15 [.ptr 0 0,.d (iw v k)] (m.st c f true) (.d (hF (gA l v) k)) (m.st c f true):=by
 obtain⟨i,j,g,aj⟩:=Br m a.ok c f true l a.N a.bf (by have:=a.od;omega) a.bB v;have d:=a.ok;unfold iw hF;have h:gA l v=cond j (Int.ofNat i) (-1):=by
  cases j with
  |true=>exact Iv g
  |false=>exact OP g
 rw[h];clear a g h;obtain⟨w,t,u,N,B,A,S,z,r,s,p,P⟩:=m;refine Z0.fX (dP c f true) λo ae Q n=> ?_;obtain⟨bp,a2,a3⟩:=aV.of ae d.N;obtain⟨bq,aT,b3⟩:=aV.of ae d.S;obtain⟨c1,c2,c3⟩:=aV.of ae d.bI;obtain⟨d1,d2,d3⟩:=aV.of ae d.bJ;obtain⟨bP,bZ,cx⟩:=aV.of ae d.bH;obtain⟨cb,cp,cy⟩:=fU.of ae d.P;dsimp only at bp a2 a3 bq aT b3 c1 c2 c3 d1 d2 d3 bP bZ cx cb cp cy;cases j<;>cases c<;>cases f;all_goals
  dsimp only[bw.st,dP,dc,cv]at n aj⊢;refine ak ?_
 all_goals (subst ae;exact bS n az5 az5)
def avI(m:bw)(a c:Bool)(L R:List Go.aG.D)(n i:Nat):ag:=cA [(0,.ptr 0 0),(5,.own 2 R),(8,.d (.list 2 L)),(9,.d (int (Int.ofNat n))),(10,.d (int (Int.ofNat i)))] (m.st a c true)
theorem OQ{m:bw}{aq:Bool}{l:List b1}(g:lk m aq l)(hs:Bool)(ps:List (ax×Int))(hp:ps.length<=33554432):aL 10 [.ptr 0 0,.d (.list 2 (ps.map λp=>iw p.1 p.2))] (m.st aq hs true) (.d (.list 2 (ps.map λp=>hF (gA l p.1) p.2))) (m.st aq hs true):=by
 have aj:=λv k=>afm g hs v k;have c:=g.ok;clear g;have bx:(ps.map λp=>iw p.1 p.2).length=ps.length:=aCv _;have r:∀i (h:i<ps.length),(ps.map λp=>iw p.1 p.2)[i]?=some (iw ps[i].1 ps[i].2):=λi h=>cY h;generalize (ps.map λp=>iw p.1 p.2)=L at*;obtain⟨H,t,E,N,F,M,S,J,B,C,A,P⟩:=m;refine ZU.fX (dP aq hs true) λo ae Q f=> ?_;obtain⟨bp,a2,a3⟩:=aV.of ae c.N;obtain⟨bq,aT,b3⟩:=aV.of ae c.S;obtain⟨c1,c2,c3⟩:=aV.of ae c.bI;obtain⟨d1,d2,d3⟩:=aV.of ae c.bJ;obtain⟨bP,bZ,cx⟩:=aV.of ae c.bH;obtain⟨cb,cp,cy⟩:=fU.of ae c.P;dsimp only at bp a2 a3 bq aT b3 c1 c2 c3 d1 d2 d3 bP bZ cx cb cp cy;obtain⟨n,hZ⟩:∃n,n=ps.length:=⟨_,rfl⟩;have t0:o.len L=n:=aAL;have u:h6 aq:=trivial;have G:h6 hs:=trivial;cases aq<;>cases hs;all_goals
  dsimp only[bw.st,dP,dc,cv]at f aj⊢;refine ak ?_;refine⟨bX (λz:Nat×List Go.aG.D=>avI ⟨H,t,E,N,F,M,S,J,B,C,A,P⟩ (dj u) (dj G) L z.2 n z.1) (λz=>z.1<=n/\z.2=(ps.take z.1).map λp=>hF (gA l p.1) p.2) (λz=>n-z.1),_,⟨(0,[]),⟨aCu _,rfl⟩,rfl,az5⟩,?_⟩;rintro _ _ ⟨⟨j,R⟩,⟨w,a⟩,rfl,rfl⟩;dsimp only at w a⊢;by_cases d:j<n
  .have s:j<ps.length:=hZ▸d;have t1:=ek ae d;have t2:=cH ae (r j s);have t6:=b9 ae (n:=j) az6;have aC:=aj ps[j].1 ps[j].2;have K:((ps.take (j+1)).map λp=>hF (gA l p.1) p.2)=o.app R [hF (gA l ps[j].1) ps[j].2]:=by subst ae;rw[a,aDg,aCB s,aCR];rfl
   have V:R.length<=33554432:=by rw[a];simp;omega
   clear r a aj;generalize gA l ps[j].1=U at*;generalize ps[j].1=v at*;generalize ps[j].2=k at*;unfold iw hF at*;refine ak ?_;all_goals exact fixF (j+1,_) ⟨d,K.symm⟩
  .have t1:=en ae d;rw[aDd az6]at a;rw[<-a]at f;clear a aj;refine ak ?_;all_goals (subst ae;exact bS f az5 az5)
def avK(L:List Go.aG.D)(n i:Nat):ag:=cA [(0,.d (.list 2 L)),(1,.d (.list 2 L)),(12,.d (int (Int.ofNat n))),(13,.d (int (Int.ofNat i)))] []
theorem afn(ps:List (Int×Int))(hp:ps.length<=1073741824):aL 9 [.d (.list 2 (ps.map λp=>hF p.1 p.2)),.d (.list 2 (ps.map λp=>hF p.1 p.2))] [] (.d (.bool true)) []:=by
 have bx:(ps.map λp=>hF p.1 p.2).length=ps.length:=aCv _;have d:∀i (h:i<ps.length),(ps.map λp=>hF p.1 p.2)[i]?=some (hF ps[i].1 ps[i].2):=λi h=>cY h;generalize (ps.map λp=>hF p.1 p.2)=L at*;refine Yf.ct λc ae Q g=> ?_;obtain⟨n,hZ⟩:∃n,n=ps.length:=⟨_,rfl⟩;have t0:c.len L=n:=aAL;have g':∀k:Int,c.aB .neq k k=false:=λk=>by subst ae;show(!decide _)=false;rw[aCI rfl];rfl
 have t3:=g' (Int.ofNat n);refine ak ?_;refine⟨bX (λi:Nat=>avK L n i) (λi=>i<=n) (λi=>n-i),_,⟨0,aCu _,rfl,az5⟩,?_⟩;rintro _ _ ⟨j,f,rfl,rfl⟩;dsimp only at f⊢;by_cases a:j<n
 .have l:j<ps.length:=hZ▸a;have t1:=ek ae a;have t2:=cH ae (d j l);have t6:=b9 ae (n:=j) az6;clear d;generalize ps[j].1=v at*;generalize ps[j].2=k at*;have t4:c.lD [1,1] [int v,int k] [int v,int k]=some true:=wI ae (by simp[cG]);unfold hF at*;refine ak ?_;all_goals exact fixF (j+1) a
 .have t1:=en ae a;refine ak ?_;all_goals (subst ae;exact bS g az5 az5)
def tH:Bool->Bool->Nat
 |true,true=>3
 |false,false=>1
 |_,_=>2
theorem afo(m:bw)(a:m.Ok)(c d:Bool):aL 23 [.ptr 0 0] (m.st c d true) (.ptr (tH c d) 0) (m.st c d true):=by
 obtain⟨o,t,n,N,s,r,S,p,k,l,j,P⟩:=m;refine Yi.fX (dP c d true) λg ae Q f=> ?_;obtain⟨bp,a2,a3⟩:=aV.of ae a.N;obtain⟨bq,aT,b3⟩:=aV.of ae a.S;obtain⟨c1,c2,c3⟩:=aV.of ae a.bI;obtain⟨d1,d2,d3⟩:=aV.of ae a.bJ;obtain⟨bP,bZ,cx⟩:=aV.of ae a.bH;obtain⟨cb,cp,cy⟩:=fU.of ae a.P;dsimp only at bp a2 a3 bq aT b3 c1 c2 c3 d1 d2 d3 bP bZ cx cb cp cy;cases c<;>cases d;all_goals
  dsimp only[bw.st,dP,dc,cv,tH]at f⊢;refine ak ?_
 all_goals (subst ae;exact bS f az5 az5)
structure Es(m:bw)(aq:Bool)(l:List b1):Prop extends lk m aq l where
 bm:∀i (h:i<l.length),vq l[i].a l[i].b
 aP:∀x∈l,x.bm.length<=1073741824/\x.bV.length<=1073741824/\x.pl.w<=dr
 gn:m.gn=m.bf
def afp(l:List b1)(z:Int):List (Int×Int):=match l[z.toNat]? with|some x=>x.ks.map λk=>(z,k)|none=>[]
theorem Iw{l:List b1}{i:Nat}(hi:i<l.length):afp l (Int.ofNat i)=l[i].ks.map λk=>(Int.ofNat i,k):=by
 show(match l[i]? with|some x=>_|none=>_)=_;rw[aCB hi]
def hf(l:List b1)(zs:List Int):List (Int×Int):=zs.flatMap (afp l)
theorem Ix{l:List b1}{zs:List Int}{j i:Nat}(a:j<zs.length)(c:zs[j]=Int.ofNat i)(hi:i<l.length):hf l (zs.take (j+1))=hf l (zs.take j)++l[i].ks.map λk=>(Int.ofNat i,k):=by
 unfold hf;rw[aDg,aCB a,aFn];congr 1;show List.flatMap _ [zs[j]]=_;rw[c];simp only[aDO,List.flatMap_nil,aDI];exact Iw hi
theorem OR{l:List b1}{zs:List Int}{n:Nat}(f:∀i (h:i<l.length),vq l[i].a l[i].b)(a:hq n (iota n) zs)(o:l.length=n)(j:Nat):j<=n->(hf l (zs.take j)).length<=j*512:=by
 have s:=a.len;induction j with
 |zero=>intro _;exact aCw _
 |succ j ih=>
  intro g;obtain⟨i,m,d⟩:=pC (a.all _ (aCC (show j<zs.length by omega)));have c:i<l.length:=az6;obtain⟨t,u,p,r⟩:=f i c;rw[Ix az6 d c,aCF,aCv];have h1:=ih az6;have k:l[i].ks.length=(l[i].b-l[i].a+1).toNat:=Iu _ _;omega
def avL(m:bw)(a c:Bool)(Z R:List Go.aG.D)(n i:Nat):ag:=cA [(0,.ptr 0 0),(3,.own 2 R),(10,.d (.list 1 Z)),(11,.d (int (Int.ofNat n))),(12,.d (int (Int.ofNat i)))] (m.st a c true)
def avM(m:bw)(c d:Bool)(Z R:List Go.aG.D)(n i:Nat)(z k a b x:Int):ag:=lZ [(0,.ptr 0 0),(3,.own 2 R),(5,.d (int z)),(6,.dw 6 0),(7,.d (int x)),(10,.d (.list 1 Z)),(11,.d (int (Int.ofNat n))),(12,.d (int (Int.ofNat i)))] [(6,[.d (int k),.d (int a),.d (int b)])] (m.st c d true)
theorem avN{m:bw}{aq:Bool}{l:List b1}(c:Es m aq l)(hs:Bool)(zs:List Int)(v:hq m.bf (iota m.bf) zs)(H:aL 24 [.ptr 0 0] [.box (cv 1 2 3 m.bf),.box m.bI,.box m.bJ,.box m.bH] (.d (.list 1 (zs.map int))) [.box (cv 1 2 3 m.bf),.box m.bI,.box m.bJ,.box m.bH]):
  aL 7 [.ptr 0 0] (m.st aq hs true) (.d (.list 2 ((hf l zs).map λp=>hF p.1 p.2))) (m.st aq hs true):=by
 have g:=c.1;have aj:=λi d=>OO g hs i d (c.aP _ (aCC d)).1 (c.aP _ (aCC d)).2.1 (c.aP _ (aCC d)).2.2;have aC:=afo m g.ok aq hs;have r:=g.ok;have gk:=g.bf;have au:=g.od;have J:=c.bm;have M:=c.gn;have pa:=g.bB;clear c g;have bx:(zs.map int).length=zs.length:=aCv _;have X:∀i (h:i<zs.length),(zs.map int)[i]?=some (int zs[i]):=λi h=>cY h;have K:=v.len;generalize (zs.map int)=Z at*;obtain⟨gR,ao,bf,N,Y,ns,S,gn,bI,bJ,bH,P⟩:=m;dsimp only at gk au M K v H;subst M;have Q:=OR J v gk;refine Yd.fX (dP aq hs true) λt ae ar F=> ?_;obtain⟨bp,a2,a3⟩:=aV.of ae r.N;obtain⟨bq,aT,b3⟩:=aV.of ae r.S;obtain⟨c1,c2,c3⟩:=aV.of ae r.bI;obtain⟨d1,d2,d3⟩:=aV.of ae r.bJ;obtain⟨bP,bZ,cx⟩:=aV.of ae r.bH;obtain⟨cb,cp,cy⟩:=fU.of ae r.P;dsimp only at bp a2 a3 bq aT b3 c1 c2 c3 d1 d2 d3 bP bZ cx cb cp cy;have t0:t.len Z=gn:=by subst ae;exact bx.trans K
 have U:h6 aq:=trivial;have fy:h6 hs:=trivial;cases aq<;>cases hs;all_goals
  dsimp only[bw.st,dP,dc,cv,tH]at F aj aC H⊢;refine ak ?_;refine⟨bX (λz:Nat×List Go.aG.D=>avL ⟨gR,ao,gn,N,Y,ns,S,gn,bI,bJ,bH,P⟩ (dj U) (dj fy) Z z.2 gn z.1) (λz=>z.1<=gn/\z.2=(hf l (zs.take z.1)).map λp=>hF p.1 p.2) (λz=>gn-z.1),_,⟨(0,[]),⟨aCu _,rfl⟩,rfl,az5⟩,?_⟩;clear H aC;rintro _ _ ⟨⟨j,R⟩,⟨aI,f⟩,rfl,rfl⟩;dsimp only at aI f⊢;by_cases A:j<gn
  .have L:j<zs.length:=K.symm▸A;obtain⟨i,di,G⟩:=pC (v.all _ (aCC L));have d:i<l.length:=az6;first
   |exact absurd (pa rfl▸d) (aDs _)
   |skip
   all_goals
    have t1:=ek ae A;have t2:=cH ae (X j L);rw[G]at t2;have t6:=b9 ae (n:=j) az6;have aX:=aj i d;obtain⟨s1,s2,kK,oB⟩:=J i d;have u:=Ix L G d;have iC:=Q j az6;have iA:l[i].ks=pI l[i].a (l[i].b-l[i].a+1).toNat:=rfl;rw[iA]at u;clear aj J Q X G iA;generalize l[i]=w at*;obtain⟨wn,tG,nC,oQ,a,o,bV,pl,zm⟩:=w;unfold b1.c24 at aX;dsimp only at aX s1 s2 kK oB u;generalize bV.map ef=jR at*;generalize nC.map bF=r3 at*;generalize pl.bz=C at*;obtain⟨cR,cO,lj,y9,za,zb,zc,zd,ze,zf,zg,zh,zi,zj,zk,zl⟩:=C;refine ak ?_;refine⟨bX (λz:(Nat×Int)×List Go.aG.D=>avM ⟨gR,ao,gn,N,Y,ns,S,gn,bI,bJ,bH,P⟩ (dj U) (dj fy) Z z.2 gn j (Int.ofNat i) oQ a o z.1.2) (λz=>z.1.1<=(o-a+1).toNat/\z.1.2=a+Int.ofNat z.1.1/\z.2=R++((pI a z.1.1).map λk=>hF (Int.ofNat i) k)) (λz=>(o-a+1).toNat-z.1.1),_,⟨((0,a),R),⟨aCu _,(aGi _).symm,(aDI _).symm⟩,rfl,az5⟩,?_⟩;clear aX;rintro _ _ ⟨⟨⟨q,x⟩,E⟩,⟨aS,V,s⟩,rfl,rfl⟩;dsimp only at aS V s⊢;have aB:E.length<=33554432:=by rw[s,f,aCF,aCv,aCv,Iu];omega
    by_cases sO:q<(o-a+1).toNat
    .have t1:t.aB .leq x o=true:=by simp only[aH ae,aCy,aCA]at*;omega
     obtain⟨y,t6,c⟩:∃y,t.io .add .i64 x 1=y/\y=a+Int.ofNat (q+1):=⟨_,mE ae aA3 aA3,aA3⟩;have B:R++((pI a (q+1)).map λk=>hF (Int.ofNat i) k)=t.app E [hF (Int.ofNat i) x]:=by subst ae;rw[afl,<-V,s,aCR,<-aDK];rfl
     unfold hF at*;clear u f s iC;refine ak ?_;all_goals exact fixF ((q+1,y),_) ⟨sO,c,B.symm⟩
    .have t1:t.aB .leq x o=false:=by simp only[aH ae,aCy,aCE]at*;omega
     obtain rfl:q=(o-a+1).toNat:=az6;have B:E=(hf l (zs.take (j+1))).map λp=>hF p.1 p.2:=by rw[u,aCR,aDF,s,f];rfl
     clear u f s iC;refine ak ?_;all_goals exact fixF (j+1,_) ⟨A,B⟩
  .have t1:=en ae A;rw[aDd az6]at f;rw[<-f]at F;clear f aj;refine ak ?_;all_goals (subst ae;exact bS F az5 az5)
theorem afr(s:ax)(a e:Int)(he:e≠0)(aj:aL 19 [.d (.str s)] [] (.tuple [.d .dJ,.d (int a),.d (int e)]) []):aL 5 [.d (.str s)] [] (.d .dJ) []:=by
 refine Mf.ct λc ae Q d=> ?_;have t1:c.aB .neq e 0=true:=aBY;obtain⟨B,f⟩:∃b,c.aB .gtr (Int.ofNat (c.dK s)) 2000=b:=⟨_,rfl⟩;cases B;all_goals refine ak ?_
 all_goals (subst ae;exact bS d az5 az5)
def avO(m:bw)(a c:Bool)(x:Int)(n i:Nat):ag:=cA [(3,.ptr 0 0),(6,.d (int x)),(24,.d (int (Int.ofNat n))),(25,.d (int (Int.ofNat i)))] (m.bm a c true)
theorem avP{m:bw}{aq:Bool}{l:List b1}(d:Es m aq l)(hs:Bool)(s:ax)(A:aL 19 [.d (.str s)] [] (.tuple [.ptr 0 0,.d (int 0),.d (int 0)]) (m.bm aq hs true)):
  ∃r st,((r=.d .dJ/\st=[])\/(r=.ptr 0 0/\st=m.bm aq hs true))/\aL 5 [.d (.str s)] [] r st:=by
 have c:=d.1;have aj:=avA c hs;have aC:=λi a=>OO c hs i a (d.aP _ (aCC a)).1 (d.aP _ (aCC a)).2.1 (d.aP _ (aCC a)).2.2;have aX:=λi a=>avB l[i].k l[i].a l[i].b (d.bm i a);have f:=c.ok;have E:=c.bf;have au:=c.od;have pa:=c.bB;clear d c;obtain⟨V,ar,k,N,Q,ns,S,X,J,L,H,P⟩:=m;dsimp only at E au;refine Mf.iX (vv aq hs) _ λg ae K p=> ?_;have t:∀s,s=[]->K (.d .dJ) s:=λs h=>p _ _ (.inl ⟨rfl,h⟩);have u:=λs h=>p _ s (.inr ⟨rfl,h⟩);clear p;obtain⟨bp,a2,a3⟩:=aV.of ae f.N;obtain⟨bq,aT,b3⟩:=aV.of ae f.S;obtain⟨c1,c2,c3⟩:=aV.of ae f.bI;obtain⟨d1,d2,d3⟩:=aV.of ae f.bJ;obtain⟨bP,bZ,cx⟩:=aV.of ae f.bH;obtain⟨cb,cp,cy⟩:=fU.of ae f.P;dsimp only at bp a2 a3 bq aT b3 c1 c2 c3 d1 d2 d3 bP bZ cx cb cp cy;have t1:g.aB .neq 0 0=false:=aAc;obtain⟨B,eV⟩:∃b,g.aB .gtr (Int.ofNat (g.dK s)) 2000=b:=⟨_,rfl⟩;cases B with
 |true=>
  cases aq<;>cases hs;all_goals refine ak ?_
  all_goals exact t _ az5
 |false=>
 have F:h6 aq:=trivial;have U:h6 hs:=trivial;cases aq<;>cases hs;all_goals
  dsimp only[bw.st,bw.bm,vv,dP,dc,cv,tH,qO]at u A aj aC⊢;refine ak ?_;refine⟨bX (λz:Nat×Int=>avO ⟨V,ar,k,N,Q,ns,S,X,J,L,H,P⟩ (dj F) (dj U) z.2 k z.1) (λz=>z.1<=k) (λz=>k-z.1),_,⟨(0,0),aCu _,rfl,az5⟩,?_⟩;clear A aj;rintro _ _ ⟨⟨j,x⟩,G,rfl,rfl⟩;dsimp only at G⊢;by_cases o:j<k
  .have a:j<l.length:=E.symm▸o;first
   |exact absurd (pa rfl▸a) (aDs _)
   |skip
   all_goals
    have t1:=ek ae o;have t6:=b9 ae (n:=j) az6;have v:=aC j a;have R:=aX j a;clear aC aX;generalize l[j]=w at*;obtain⟨wn,tG,nC,oQ,Y,Z,M,pl,zm⟩:=w;unfold b1.c24 at v;dsimp only at v R;generalize M.map ef=jR at*;generalize nC.map bF=r3 at*;generalize pl.bz=C at*;generalize Z-Y+1=iG at*;obtain⟨cR,cO,lj,y9,za,zb,zc,zd,ze,zf,zg,zh,zi,zj,zk,zl⟩:=C;refine ak ?_;all_goals exact fixF (j+1,g.io .add .i64 x iG) o
  .have t1:=en ae o;clear aC aX;obtain⟨B,t2⟩:∃b,g.aB .gtr x 60=b:=⟨_,rfl⟩;cases B with
   |true=>
    refine ak ?_;all_goals exact t _ az5
   |false=>
    refine ak ?_;all_goals exact u _ az5
theorem avQ{a:cC->ax}{ds:List cC}{u J:Bool}{m:bw}(H:m.Ok)(h:OA (fA a ds) ds u J m)(S:ds.length<=16384)(P:hE ds<=dr):∃l,Es m u l/\Bz l/\qN m.P/\∃zs,(hq m.bf (iota m.bf) zs/\∀k i (h:i<l.length),k<m.bf->zs[k]?=some (Int.ofNat i)->lJ l[i].n m.P=some (.d (int (Int.ofNat k))))/\aL 24 [.ptr 0 0] [.box (cv 1 2 3 m.bf),.box m.bI,.box m.bJ,.box m.bH] (.d (.list 1 (zs.map int))) [.box (cv 1 2 3 m.bf),.box m.bI,.box m.bJ,.box m.bH]:=by
 obtain⟨h1,⟨l,E,g,K⟩,B,v,M,⟨L,U,V,Q,s⟩,o,G⟩:=h;have R:l.length=(fA a ds).length:=by have:=congrArg List.length g;rwa [aCv,aCv]at this
 have X:=aEE mN ds;have N:(fA a ds).length=(ds.filter mN).length:=aCv _;have d:∀i (c:i<l.length),l[i].key=((fA a ds)[i]' az6).key:=λi c=>by
  have h:(l.map b1.key)[i]?=((fA a ds).map b1.key)[i]?:=by rw[g]
  rw[aDC,aDC,aCB c,aCB az6]at h;exact aDM h
 have r:∀i (c:i<l.length),l[i].n=((fA a ds)[i]' az6).n:=λi c=>show l[i].key.n=((fA a ds)[i]' az6).key.n from congrArg b1.n (d i c)
 have C:∀y∈fA a ds,y.bV.length<=1073741824/\y.pl.w<=dr:=λy z=>by
  obtain⟨x,f,rfl⟩:=aCY.1 z;have h1:hE [x]<=hE ds:=Ip (aET.1 f).1;have B:hE [x]=200+(1000+x.n.length+j8 x.bm+jN x.bV+x.pl.w+x.fZ.length+fl x.ms)+0:=rfl;have v:x.bV.length*200<=jN x.bV:=El _ _;have o:dr=1000000000:=rfl;exact⟨by show x.bV.length<=_;omega,by show x.pl.w<=_;omega⟩
 have t:Bz (fA a ds):=λi j c n e=>by
  rcases Nat.lt_trichotomy i j with h|h|h
  .exact absurd e ((s.nodes j n).2.1 i h)
  .exact h
  .exact absurd e.symm ((s.nodes i c).2.1 j h)
 have F:Bz l:=λi j c n e=>t i j az6 az6 (by rw[<-r i c,<-r j n];exact e);refine⟨l,⟨⟨H,E,az6,az6,v⟩,λi c=> ?_,λx f=> ?_,o.gn⟩,F,o.P,G.ae3.imp λzs h=>⟨⟨h.1,λk i c g w=>by rw[r i c];exact h.2.2.a t k i az6 g w⟩,h.2.1⟩⟩
 .have:=(s.nodes i az6).2.2;have p:l[i].a=((fA a ds)[i]' az6).a:=show l[i].key.a=((fA a ds)[i]' az6).key.a from congrArg b1.a (d i c)
  have au:l[i].b=((fA a ds)[i]' az6).b:=show l[i].key.b=((fA a ds)[i]' az6).key.b from congrArg b1.b (d i c)
  rw[p,au];exact this
 .obtain⟨i,c,rfl⟩:=aDJ f;have p:l[i].bV=((fA a ds)[i]' az6).bV:=show l[i].key.bV=((fA a ds)[i]' az6).key.bV from congrArg b1.bV (d i c)
  have au:l[i].pl=((fA a ds)[i]' az6).pl:=show l[i].key.pl=((fA a ds)[i]' az6).key.pl from congrArg b1.pl (d i c)
  obtain⟨bq,A⟩:=C _ (aCC (show i<(fA a ds).length by omega));exact⟨K _ f,by rw[p];exact bq,by rw[au];exact A⟩
def zn(l:List b1)(z:Int):ax:=match l[z.toNat]? with|some x=>x.n|none=>[]
theorem Ev{l:List b1}{i:Nat}(hi:i<l.length):zn l (Int.ofNat i)=l[i].n:=by
 show(match l[i]? with|some x=>_|none=>_)=_;rw[aCB hi]
def oR(l:List b1)(p:Int×Int):ax×Int:=(zn l p.1,p.2)
def fI(p:ax×Int):Go.aG.D:=iw p.1 p.2
def avS(m:bw)(a c:Bool)(Z R:List Go.aG.D)(n i:Nat):ag:=cA [(0,.ptr 0 0),(3,.own 2 R),(8,.d (.list 1 Z)),(9,.d (int (Int.ofNat n))),(10,.d (int (Int.ofNat i)))] (m.st a c true)
theorem avT{m:bw}{aq:Bool}{l:List b1}(d:Es m aq l)(hs:Bool)(zs:List Int)(g:hq m.bf (iota m.bf) zs)(v:aL 24 [.ptr 0 0] [.box (cv 1 2 3 m.bf),.box m.bI,.box m.bJ,.box m.bH] (.d (.list 1 (zs.map int))) [.box (cv 1 2 3 m.bf),.box m.bI,.box m.bJ,.box m.bH]):
  aL 12 [.ptr 0 0] (m.st aq hs true) (.d (.list 2 ((hf l zs).map λp=>fI (oR l p)))) (m.st aq hs true):=by
 have c:=d.1;have aj:=λi a=>avG c hs i a;have aC:=afo m c.ok aq hs;have aX:=λi a=>afk c hs i a;have s:=λi (a:i<l.length)=>avD l[i] (d.bm i a)
 have o:=λi (a:i<l.length)=>(show l[i].ks.length<=512 by
  obtain⟨s1,s2,kK,oB⟩:=d.bm i a;unfold b1.ks;rw[Iu];omega)
 have t:=λi (a:i<l.length)=>avF l[i].n l[i].ks (by have:=o i a;omega);have f:=c.ok;have H:=c.bf;have au:=c.od;have J:=d.bm;have B:=d.gn;have pa:=c.bB;clear d c;have M:(zs.map int).length=zs.length:=aCv _;have F:∀i (h:i<zs.length),(zs.map int)[i]?=some (int zs[i]):=λi h=>cY h;have w:=g.len;generalize (zs.map int)=Z at*;obtain⟨V,ar,bf,N,Q,ns,S,gn,bI,bJ,bH,P⟩:=m;dsimp only at H au B w g v;subst B;have C:=OR J g H;refine ZW.fX (dP aq hs true) λE ae aB r=> ?_;obtain⟨bp,a2,a3⟩:=aV.of ae f.N;obtain⟨bq,aT,b3⟩:=aV.of ae f.S;obtain⟨c1,c2,c3⟩:=aV.of ae f.bI;obtain⟨d1,d2,d3⟩:=aV.of ae f.bJ;obtain⟨bP,bZ,cx⟩:=aV.of ae f.bH;obtain⟨cb,cp,cy⟩:=fU.of ae f.P;dsimp only at bp a2 a3 bq aT b3 c1 c2 c3 d1 d2 d3 bP bZ cx cb cp cy;have t0:E.len Z=gn:=by subst ae;exact M.trans w
 have K:h6 aq:=trivial;have U:h6 hs:=trivial;cases aq<;>cases hs;all_goals
  dsimp only[bw.st,dP,dc,cv,tH]at r aj aC aX v⊢;refine ak ?_;refine⟨bX (λz:Nat×List Go.aG.D=>avS ⟨V,ar,gn,N,Q,ns,S,gn,bI,bJ,bH,P⟩ (dj K) (dj U) Z z.2 gn z.1) (λz=>z.1<=gn/\z.2=(hf l (zs.take z.1)).map λp=>fI (oR l p)) (λz=>gn-z.1),_,⟨(0,[]),⟨aCu _,rfl⟩,rfl,az5⟩,?_⟩;clear v aC;rintro _ _ ⟨⟨j,R⟩,⟨L,bK⟩,rfl,rfl⟩;dsimp only at L bK⊢;by_cases k:j<gn
  .have A:j<zs.length:=w.symm▸k;obtain⟨i,di,u⟩:=pC (g.all _ (aCC A));have a:i<l.length:=az6;first
   |exact absurd (pa rfl▸a) (aDs _)
   |skip
   all_goals
    have t1:=ek ae k;have t2:=cH ae (F j A);rw[u]at t2;have t6:=b9 ae (n:=j) az6;have dR:=aj i a;have wN:=aX i a;have qF:=s i a;have yH:=t i a;have G:=Ix A u a;have X:=C j az6;have o:=o i a;have Y:((hf l (zs.take (j+1))).map λp=>fI (oR l p))=E.app R (l[i].ks.map (iw l[i].n)):=by
     subst ae;rw[G,aCR,<-bK,aDF];show R++_=R++_;congr 1;refine aER λao _=> ?_;show iw (zn l (Int.ofNat i)) ao=_;rw[Ev a]
    have oa:R.length<=33554432:=aAX;have aR:(l[i].ks.map (iw l[i].n)).length<=33554432:=aA2;clear aj aX s t J C F u G X bK o;generalize l[i].ks.map (iw l[i].n)=aU at*;generalize l[i].ks.map int=yA at*;generalize l[i].k=c8 at*;generalize l[i].a=aP at*;generalize l[i].b=gI at*;generalize l[i].n=nm at*;refine ak ?_;all_goals exact fixF (j+1,_) ⟨k,Y.symm⟩
  .have t1:=en ae k;rw[aDd az6]at bK;rw[<-bK]at r;clear bK aj aX s t;refine ak ?_;all_goals (subst ae;exact bS r az5 az5)
def fq(l:List b1)(p:ax×Int):Bool:=match l[(gA l p.1).toNat]? with|some x=>decide (0<=gA l p.1)&&(decide (x.a<=p.2)&&decide (p.2<=x.b))|none=>false
theorem avV(k a b i:Int):aL 60 [.d (.agg [int k,int a,int b]),.d (int i)] [] (.d (.bool (decide (a<=i)&&decide (i<=b)))) []:=by
 refine Yy.ct λc ae Q d=> ?_;have t1:c.aB .geq i a=decide (a<=i):=aAc;have t2:c.aB .leq i b=decide (i<=b):=aAc;generalize decide (a<=i)=B at*;generalize decide (i<=b)=C at*;cases B<;>cases C;all_goals refine ak ?_
 all_goals (subst ae;exact bS d az5 az5)
theorem afv{m:bw}{f:Bool}{l:List b1}(c:lk m f l)(d:Bool)(v:ax)(k:Int):∃i:Nat,(fq l (v,k)=true->i<l.length/\gA l v=Int.ofNat i)/\aL 43 [.ptr 0 0,.d (iw v k)] (m.st f d true) (.tuple [.d (int (Int.ofNat i)),.d (.bool (fq l (v,k)))]) (m.st f d true):=by
 obtain⟨i,p,g,aj⟩:=Br m c.ok f d true l c.N c.bf (by have:=c.od;omega) c.bB v;refine⟨i,?_,?_⟩
 .intro h;cases p with
  |true=>
   rcases g with⟨_,h1,_⟩|⟨h1,_⟩
   .exact⟨h1,Iv (.inl ⟨rfl,h1,aAk⟩)⟩
   .cases h1
  |false=>
   unfold fq at h;rw[OP g]at h;split at h
   .exact absurd h az7
   .cases h
 .have a:=c.ok;unfold iw;cases p with
  |false=>
   have n:fq l (v,k)=false:=by
    unfold fq;rw[OP g];split<;>simp
   rw[n];clear c g n;obtain⟨A,t,z,N,F,E,S,C,u,w,s,P⟩:=m;refine L8.fX (dP f d true) λr ae Q j=> ?_;obtain⟨bp,a2,a3⟩:=aV.of ae a.N;obtain⟨bq,aT,b3⟩:=aV.of ae a.S;obtain⟨c1,c2,c3⟩:=aV.of ae a.bI;obtain⟨d1,d2,d3⟩:=aV.of ae a.bJ;obtain⟨bP,bZ,cx⟩:=aV.of ae a.bH;obtain⟨cb,cp,cy⟩:=fU.of ae a.P;dsimp only at bp a2 a3 bq aT b3 c1 c2 c3 d1 d2 d3 bP bZ cx cb cp cy;cases f<;>cases d;all_goals
    dsimp only[bw.st,dP,dc,cv]at j aj⊢;refine ak ?_
   all_goals (subst ae;exact bS j az5 az5)
  |true=>
   have o:i<l.length:=by rcases g with⟨_,h,_⟩|⟨h,_⟩;exact h;cases h
   have aC:=afk c d i o;have aX:=avV l[i].k l[i].a l[i].b k;have n:fq l (v,k)=(decide (l[i].a<=k)&&decide (k<=l[i].b)):=by
    unfold fq;rw[Iv g];show(match l[i]? with|some x=>_|none=>false)=_;rw[aCB o];show(decide ((0:Int)<=(i:Int))&&_)=_;rw[aCI (aEf i),aEs]
   rw[n];generalize (decide (l[i].a<=k)&&decide (k<=l[i].b))=B at*;generalize l[i].k=c8 at*;generalize l[i].a=G at*;generalize l[i].b=gI at*;obtain rfl:f=true:=c.aq.trans (aCI (by have:=c.bf;omega));clear c g n;obtain⟨A,t,z,N,F,E,S,C,u,w,s,P⟩:=m;refine L8.fX (dP true d true) λr ae Q j=> ?_;obtain⟨bp,a2,a3⟩:=aV.of ae a.N;obtain⟨bq,aT,b3⟩:=aV.of ae a.S;obtain⟨c1,c2,c3⟩:=aV.of ae a.bI;obtain⟨d1,d2,d3⟩:=aV.of ae a.bJ;obtain⟨bP,bZ,cx⟩:=aV.of ae a.bH;obtain⟨cb,cp,cy⟩:=fU.of ae a.P;dsimp only at bp a2 a3 bq aT b3 c1 c2 c3 d1 d2 d3 bP bZ cx cb cp cy;cases B<;>cases d;all_goals
    dsimp only[bw.st,dP,dc,cv]at j aj aC⊢;refine ak ?_
   all_goals (subst ae;exact bS j az5 az5)
theorem afw{m:bw}{c:Bool}{l:List b1}(f:lk m c l)(d:Bool)(v:ax)(k:Int):aL 17 [.ptr 0 0,.d (iw v k)] (m.st c d true) (.d (.bool (fq l (v,k)))) (m.st c d true):=by
 obtain⟨i,_,aj⟩:=afv f d v k;have a:=f.ok;unfold iw at*;generalize fq l (v,k)=B at*;clear f;obtain⟨s,t,r,N,z,w,S,u,o,p,n,P⟩:=m;refine Z4.fX (dP c d true) λj ae Q g=> ?_;obtain⟨bp,a2,a3⟩:=aV.of ae a.N;obtain⟨bq,aT,b3⟩:=aV.of ae a.S;obtain⟨c1,c2,c3⟩:=aV.of ae a.bI;obtain⟨d1,d2,d3⟩:=aV.of ae a.bJ;obtain⟨bP,bZ,cx⟩:=aV.of ae a.bH;obtain⟨cb,cp,cy⟩:=fU.of ae a.P;dsimp only at bp a2 a3 bq aT b3 c1 c2 c3 d1 d2 d3 bP bZ cx cb cp cy;cases c<;>cases d;all_goals
  dsimp only[bw.st,dP,dc,cv]at g aj⊢;refine ak ?_
 all_goals (subst ae;exact bS g az5 az5)
def vw(l:List b1)(p:ax×Int):Bool:=fq l p&&(match l[(gA l p.1).toNat]? with|some x=>x.s|none=>false)
theorem avW{m:bw}{f:Bool}{l:List b1}(d:lk m f l)(c:Bool)(v:ax)(k:Int):aL 18 [.ptr 0 0,.d (iw v k)] (m.st f c true) (.d (.bool (vw l (v,k)))) (m.st f c true):=by
 obtain⟨i,n,aj⟩:=afv d c v k;have a:=d.ok;unfold iw at*;cases hC:fq l (v,k)with
 |false=>
  have j:vw l (v,k)=false:=by unfold vw;rw[hC];rfl
  rw[j];rw[hC]at aj;clear d n hC j;obtain⟨A,t,z,N,F,E,S,C,u,w,s,P⟩:=m;refine Mq.fX (dP f c true) λr ae Q g=> ?_;obtain⟨bp,a2,a3⟩:=aV.of ae a.N;obtain⟨bq,aT,b3⟩:=aV.of ae a.S;obtain⟨c1,c2,c3⟩:=aV.of ae a.bI;obtain⟨d1,d2,d3⟩:=aV.of ae a.bJ;obtain⟨bP,bZ,cx⟩:=aV.of ae a.bH;obtain⟨cb,cp,cy⟩:=fU.of ae a.P;dsimp only at bp a2 a3 bq aT b3 c1 c2 c3 d1 d2 d3 bP bZ cx cb cp cy;cases f<;>cases c;all_goals
   dsimp only[bw.st,dP,dc,cv]at g aj⊢;refine ak ?_
  all_goals (subst ae;exact bS g az5 az5)
 |true=>
  obtain⟨p,o⟩:=n hC;have j:vw l (v,k)=l[i].s:=by
   unfold vw;rw[hC,o];show(true&&(match l[i]? with|some x=>x.s|none=>false))=_;rw[aCB p];rfl
  have aC:=avH d c i p;rw[j];rw[hC]at aj;generalize l[i].s=B at*;clear n hC j o;obtain rfl:f=true:=d.aq.trans (aCI (by have:=d.bf;omega));clear d;obtain⟨A,t,z,N,F,E,S,C,u,w,s,P⟩:=m;refine Mq.fX (dP true c true) λr ae Q g=> ?_;obtain⟨bp,a2,a3⟩:=aV.of ae a.N;obtain⟨bq,aT,b3⟩:=aV.of ae a.S;obtain⟨c1,c2,c3⟩:=aV.of ae a.bI;obtain⟨d1,d2,d3⟩:=aV.of ae a.bJ;obtain⟨bP,bZ,cx⟩:=aV.of ae a.bH;obtain⟨cb,cp,cy⟩:=fU.of ae a.P;dsimp only at bp a2 a3 bq aT b3 c1 c2 c3 d1 d2 d3 bP bZ cx cb cp cy;cases c;all_goals
   dsimp only[bw.st,dP,dc,cv]at g aj aC⊢;refine ak ?_
  all_goals (subst ae;exact bS g az5 az5)
def h8(p:Int×Int):Go.aG.D:=hF p.1 p.2
theorem avX{f:bd}(h:f=bd.bU)(a b c d:Int):f.lD [1,1] [int a,int b] [int c,int d]=some (decide ((a,b)=(c,d))):=wI h (by
 simp only[cG,aDD,Bool.and_true];simp)
def avY(L:List Go.aG.D)(a b:Int)(i:Nat):ag:=lZ [(0,.d (.list 2 L)),(3,.dw 3 0),(5,.d (int (Int.ofNat i)))] [(3,[.d (int a),.d (int b)])] []
theorem afx(ps:List (Int×Int))(p:Int×Int)(hp:ps.length<=1073741824):aL 16 [.d (.list 2 (ps.map h8)),.d (h8 p)] [] (.d (.bool (decide (p∈ps)))) []:=by
 have bx:(ps.map h8).length=ps.length:=aCv _;have o:∀i (h:i<ps.length),(ps.map h8)[i]?=some (h8 ps[i]):=λi h=>cY h;generalize ps.map h8=L at*;obtain⟨a,b⟩:=p;unfold h8 hF at*;dsimp only at*;refine Z2.ct λu ae Q k=> ?_;obtain⟨n,hZ⟩:∃n,n=ps.length:=⟨_,rfl⟩;have t0:u.len L=n:=aAL;refine ak ?_;refine⟨bX (λi:Nat=>avY L a b i) (λi=>i<=n/\(a,b)∉ps.take i) (λi=>n-i),_,⟨0,⟨aCu _,az7⟩,rfl,az5⟩,?_⟩;rintro _ _ ⟨j,⟨t,g⟩,rfl,rfl⟩;dsimp only at t⊢;by_cases l:j<n
 .have s:j<ps.length:=hZ▸l;have t1:=ek ae l;have t2:=cH ae (o j s);have t6:=b9 ae (n:=j) az6;have r:ps.take (j+1)=ps.take j++[ps[j]]:=by rw[aDg,aCB s];rfl
  have m:ps[j]∈ps:=aCC _;clear o;generalize ps[j]=p at*;obtain⟨c,d⟩:=p;dsimp only at t2;have t4:=avX ae c d a b;by_cases f:(c,d)=(a,b)
  .rw[aCI f]at t4;rw[f]at m;rw[aCI m]at k;clear r m f g;refine ak ?_;all_goals (subst ae;exact bS k az5 az5)
  .rw[aC3 f]at t4;have v:(a,b)∉ps.take (j+1):=by
    rw[r];intro h;rcases aC9.1 h with h|h
    .exact g h
    .exact f (aCS.1 h).symm
   clear r m f g;refine ak ?_;all_goals exact fixF (j+1) ⟨l,v⟩
 .have t1:=en ae l;rw[aDd az6]at g;rw[aC3 g]at k;clear g o;refine ak ?_;all_goals (subst ae;exact bS k az5 az5)
def avZ(L M R:List Go.aG.D)(i:Nat):ag:=cA [(0,.d (.list 2 L)),(1,.d (.list 2 M)),(5,.own 2 R),(6,.d (int (Int.ofNat i)))] []
theorem av0(ps c:List (Int×Int))(hp:ps.length<=16777216)(aS:c.length<=1073741824):aL 14 [.d (.list 2 (ps.map h8)),.d (.list 2 (c.map h8))] [] (.d (.list 2 ((ps.filter λp=>decide (p∈c)).map h8))) []:=by
 have aj:=λp=>afx c p aS;have bx:(ps.map h8).length=ps.length:=aCv _;have g:∀i (h:i<ps.length),(ps.map h8)[i]?=some (h8 ps[i]):=λi h=>cY h;generalize ps.map h8=L at*;generalize c.map h8=M at*;refine ZY.ct λl ae Q k=> ?_;obtain⟨n,hZ⟩:∃n,n=ps.length:=⟨_,rfl⟩;have t0:l.len L=n:=aAL;refine ak ?_;refine⟨bX (λz:Nat×List Go.aG.D=>avZ L M z.2 z.1) (λz=>z.1<=n/\z.2=((ps.take z.1).filter λp=>decide (p∈c)).map h8) (λz=>n-z.1),_,⟨(0,[]),⟨aCu _,rfl⟩,rfl,az5⟩,?_⟩;rintro _ _ ⟨⟨j,R⟩,⟨t,d⟩,rfl,rfl⟩;dsimp only at t d⊢;by_cases f:j<n
 .have r:j<ps.length:=hZ▸f;have t1:=ek ae f;have t2:=cH ae (g j r);have t6:=b9 ae (n:=j) az6;have aC:=aj ps[j];have m:(ps.take (j+1)).filter (λp=>decide (p∈c))=(ps.take j).filter (λp=>decide (p∈c))++cond (decide (ps[j]∈c)) [ps[j]] []:=by
   rw[aDg,aCB r,aE1];show _++List.filter _ [ps[j]]=_;rw[List.filter_cons];cases decide (ps[j]∈c)<;>rfl
  have u:R.length<=33554432:=by
   rw[d,aCv];have:=aEE (λp=>decide (p∈c)) (ps.take j);rw[aDk]at this;omega
  have o:R++cond (decide (ps[j]∈c)) [h8 ps[j]] []=((ps.take (j+1)).filter λp=>decide (p∈c)).map h8:=by rw[m,aCR,d];cases decide (ps[j]∈c)<;>rfl
  clear g aj d m;generalize decide (ps[j]∈c)=B at*;generalize ps[j]=p at*;obtain⟨a,b⟩:=p;unfold h8 hF at t2 aC;dsimp only at t2 aC;cases B with
  |false=>
   refine ak ?_;all_goals exact fixF (j+1,_) ⟨f,(aDI _).symm.trans o⟩
  |true=>
   have s:l.app R [.agg [int a,int b]]=((ps.take (j+1)).filter λp=>decide (p∈c)).map h8:=by subst ae;exact o
   refine ak ?_;all_goals exact fixF (j+1,_) ⟨f,s⟩
 .have t1:=en ae f;rw[aDd az6]at d;rw[<-d]at k;clear d g aj;refine ak ?_;all_goals (subst ae;exact bS k az5 az5)
end Go.Proofs.YthffhbakgmemaaaGreatDoor
