/- Part of texts_said. -/
import Derived.Test.YtmgpekpnidjfoaaGreatDoorB9
import Derived.Test.YtmgpekpnidjfoaaGreatDoorB11
set_option maxRecDepth 100000
set_option maxHeartbeats 8000000
set_option linter.unusedSimpArgs false
set_option linter.unusedVariables false
namespace Go.Proofs.YtmgpekpnidjfoaaGreatDoor
open Go Go.aJ
attribute [local irreducible] bM
structure dj where
 n:ax
 s:Bool
 bw:List (ax×Int)
 k:Int
 a:Int
 b:Int
 b1:List iV
 pl:bk
 code:ax
def dj.c24(x:dj):Gq:=⟨x.n,x.s,x.bw.map bD,x.k,x.a,x.b,x.b1.map eg,x.pl.bB,x.code⟩
def dj.row(x:dj):List ag:=x.c24.cs.map .d
def vA(l:List dj):List (List ag):=l.map dj.row
def gY(l:List dj):List ag:=(vA l).flatten
theorem xP(l:List dj):ky 24 (vA l):=λr aw=>by
 obtain⟨x,_,rfl⟩:=aAn.1 aw;rfl
theorem xQ(l:List dj):(vA l).length=l.length:=azG _
theorem C5{l:List dj}{i:Nat}(h:i<(vA l).length):(vA l)[i]=(l[i]' ayP).row:=aCH _
theorem C6(l:List dj):Flat (gY l):=λv hv=>by
 obtain⟨r,aw,h⟩:=List.mem_flatten.1 hv;obtain⟨x,_,rfl⟩:=aAn.1 aw;obtain⟨d,_,rfl⟩:=aAn.1 h;simp
theorem Mn{ad:bn}(h:ad=bn.bY){l:List dj}{i:Nat}(hi:i<l.length):ad.pF (gY l) (i*24) 24=.d (.agg l[i].c24.cs):=by
 unfold gY;rw[SF h (xP l) ayP,C5];rfl
theorem sr{ad:bn}(h:ad=bn.bY){l:List dj}{i:Nat}(hi:i<l.length){j n:Nat}(aL:j+n<=24):ad.ic (i*24+j) n (gY l) true=true:=SE h (xP l) ayP aL
theorem C7{ad:bn}(h:ad=bn.bY){l:List dj}{i:Nat}(hi:i<l.length){j:Nat}{d:D}(aL:j<24)(a6:l[i].c24.cs[j]?=some d):ad.j4 (gY l) (i*24+j)=.d d:=by
 unfold gY;rw[akn h (xP l) ayP aL,C5,aAo];unfold dj.row;rw[aAK,a6];rfl
theorem art(x:Gq)(v:ax):aM 144 [.d (.agg x.cs),.ptr 0 0] [.box [.d (.str v)]] (.d (.bool (decide (x.n=v)))) [.box [.d (.str v)]]:=by
 obtain⟨n,s,bw,k,a,b,b1,⟨c1,c2,L,c4,c5,eN,bT,e1,c9,fr,fa,X,eP,eT,eU,bB⟩,code⟩:=x;refine YS.cw λad ae Q a8=> ?_;refine ai ?_;all_goals (subst ae;exact b5 a8 axr axr)
def aru(C:List ag)(n i:Nat)(v:ax):af:=cA [(0,.aS 0 0 n n 24),(1,.func 144 [] [.ptr 1 0]),(7,.d (int (Int.ofNat n))),(8,.d (int (Int.ofNat i)))] [.box C,.box [.d (.str v)]]
theorem arv(l:List dj)(n:Nat)(k2:l.length=n)(az:n<=1073741824)(v:ax)(P:Nat->Bool)(kU:∀i (h:i<l.length),decide (l[i].n=v)=P i):
  ∃r:Int,nX n P r/\aM 143 [.aS 0 0 n n 24,.func 144 [] [.ptr 1 0]] [.box (gY l),.box [.d (.str v)]] (.d (int r)) [.box (gY l),.box [.d (.str v)]]:=by
 refine fL ?_;refine KR.jl [0] _ λad ae K ao=> ?_;obtain⟨f0,f1,f2⟩:=bA.of ae (C6 l);have zV:=λi (h:i<l.length)=>Mn ae h;have Mp:=λi (h:i<l.length)=>sr ae h (j:=0) (n:=24) axw;generalize gY l=C at*;refine ai ?_;refine⟨b6 (λi=>aru C n i v) (λi=>i<=n/\∀j,j<i->P j=false) (λi=>n-i),_,⟨0,⟨azF _,λj h=>axs⟩,rfl,axr⟩,?_⟩;rintro _ _ ⟨i,⟨hi,hs⟩,rfl,rfl⟩;dsimp only at hi hs⊢;by_cases aB:i<n
 .have t1:=fS ae aB;have t2:ad.ez 24 24 (Int.ofNat i) n=true:=fZ ae aB;have t3:=qJ ae i 24;have t4:=zV i axs;have t5:=Mp i axs;have t6:=cv ae (n:=i) axs;have aj:=art (l[i]' axs).c24 v;rw[show(l[i]' axs).c24.n=(l[i]' axs).n from rfl,kU i axs]at aj;have zM:P i=true->nX n P (Int.ofNat i):=λh=>.inr ⟨i,aB,rfl,h,hs⟩;have xp:P i=false->∀j,j<i+1->P j=false:=λh j aL=>axv;generalize (l[i]' axs).c24.cs=cs at*;generalize i*24=c at*;rw[aAj]at t5;generalize P i=b at*;cases b with
  |true=>
   refine ai ?_;simp_all
  |false=>
   refine ai ?_;repeat' (split<;>refine ai ?_)
   all_goals exact fixF (i+1) ⟨aB,xp rfl⟩
 .have t1:=f' ae aB;have az:nX n P (-1):=.inl ⟨rfl,λj aL=>hs j axs⟩;refine ai ?_;simp_all
theorem arw(v:ax):aM 143 [.d (.list 24 []),.func 144 [] [.ptr 0 0]] [.box [.d (.str v)]] (.d (int (-1))) [.box [.d (.str v)]]:=by
 refine KR.cw λad ae Q a8=> ?_;have t0:ad.len []=0:=axz;have t1:ad.aF .lss (Int.ofNat 0) (Int.ofNat 0)=false:=f' ae axs;refine ai ?_;refine⟨b6 (λ_:Unit=>cA [(0,.d (.list 24 [])),(1,.func 144 [] [.ptr 0 0]),(7,.d (int (Int.ofNat 0))),(8,.d (int (Int.ofNat 0)))] [.box [.d (.str v)]]) (λ_=>True) (λ_=>0),_,⟨(),trivial,rfl,axr⟩,?_⟩;rintro _ _ ⟨_,_,rfl,rfl⟩;refine ai ?_;all_goals (subst ae;exact b5 a8 axt axr)
structure cP where
 L:List Go.aJ.D
 t:ax
 bL:Nat
 N:List ag
 ps:List Go.aJ.D
 ns:Nat
 S:List ag
 gn:Nat
 ct:List ag
 cu:List ag
 cp:List ag
 P:List (Go.aJ.D×ag)
structure cP.Ok(m:cP):Prop where
 N:Flat m.N
 S:Flat m.S
 ct:Flat m.ct
 cu:Flat m.cu
 cp:Flat m.cp
 P:oG m.P
def eh(L:List Go.aJ.D)(t:ax)(ps:List Go.aJ.D)(a b c d:ag):b3:=.box [.d (.list 25 L),.d (.str t),a,.own 1 ps,b,c,d]
def cP.st(m:cP):Bool->Bool->Bool->aV
 |true,true,false=>[eh m.L m.t m.ps (.aS 1 0 m.bL m.bL 24) (.aS 2 0 m.ns m.ns 12) (.d .dO) (.d .hj),.box m.N,.box m.S]
 |true,false,false=>[eh m.L m.t m.ps (.aS 1 0 m.bL m.bL 24) (.own 12 []) (.d .dO) (.d .hj),.box m.N]
 |false,true,false=>[eh m.L m.t m.ps (.own 24 []) (.aS 1 0 m.ns m.ns 12) (.d .dO) (.d .hj),.box m.S]
 |false,false,false=>[eh m.L m.t m.ps (.own 24 []) (.own 12 []) (.d .dO) (.d .hj)]
 |true,true,true=>[eh m.L m.t m.ps (.aS 1 0 m.bL m.bL 24) (.aS 2 0 m.ns m.ns 12) (.ptr 3 0) (.map 4),.box m.N,.box m.S,.box (c6 5 6 7 m.gn),.map m.P,.box m.ct,.box m.cu,.box m.cp]
 |true,false,true=>[eh m.L m.t m.ps (.aS 1 0 m.bL m.bL 24) (.own 12 []) (.ptr 2 0) (.map 3),.box m.N,.box (c6 4 5 6 m.gn),.map m.P,.box m.ct,.box m.cu,.box m.cp]
 |false,true,true=>[eh m.L m.t m.ps (.own 24 []) (.aS 1 0 m.ns m.ns 12) (.ptr 2 0) (.map 3),.box m.S,.box (c6 4 5 6 m.gn),.map m.P,.box m.ct,.box m.cu,.box m.cp]
 |false,false,true=>[eh m.L m.t m.ps (.own 24 []) (.own 12 []) (.ptr 1 0) (.map 2),.box (c6 3 4 5 m.gn),.map m.P,.box m.ct,.box m.cu,.box m.cp]
def jB:Bool->Bool->Bool->List Nat
 |true,true,false=>[1,2]
 |true,false,false=>[1]
 |false,true,false=>[1]
 |false,false,false=>[]
 |true,true,true=>[1,2,4,5,6,7]
 |true,false,true=>[1,3,4,5,6]
 |false,true,true=>[1,3,4,5,6]
 |false,false,true=>[2,3,4,5]
structure lD(ad:bn)(C:List (Go.aJ.D×ag)):Prop where
 refs:ad.w8 (.map C)=[]
 ok:∀n,ad.xa n (.map C)=true
 ren:∀f,ad.w9 f (.map C)=.map C
theorem lD.of{ad:bn}(h:ad=bn.bY){C:List (Go.aJ.D×ag)}(hC:oG C):lD ad C:=⟨hC.refs h,hC.ok h,hC.ren h⟩
def n2(l:List dj)(v:ax)(i:Nat)(ok:Bool):Prop:=(ok=true/\∃h:i<l.length,l[i].n=v/\∀j (aL:j<i),(l[j]' axs).n≠v)\/(ok=false/\i=0/\∀x∈l,x.n≠v)
theorem Gr(m:cP)(hm:m.Ok)(az hs g:Bool)(l:List dj)(b9:m.N=gY l)(aH:l.length=m.bL)(aq:m.bL<=1073741824)(h0:az=false->l=[])(v:ax):
  ∃(i:Nat) (ok:Bool),n2 l v i ok/\aM 88 [.ptr 0 0,.d (.str v)] (m.st az hs g) (.tuple [.d (int (Int.ofNat i)),.d (.bool ok)]) (m.st az hs g):=by
 obtain⟨L,t,bL,N,ps,ns,S,gn,ct,cu,cp,P⟩:=m;obtain⟨h1,h2,av,aZ,bW,dh⟩:=hm;dsimp only at h1 h2 av aZ bW dh b9 aH aq;obtain⟨r,aw,ee⟩:∃r:Int,(r= -1/\n2 l v 0 false\/∃k:Nat,r=Int.ofNat k/\n2 l v k true/\az=true)/\(if az=true then aM 143 [.aS 0 0 bL bL 24,.func 144 [] [.ptr 1 0]] [.box N,.box [.d (.str v)]] (.d (int r)) [.box N,.box [.d (.str v)]]else aM 143 [.d (.list 24 []),.func 144 [] [.ptr 0 0]] [.box [.d (.str v)]] (.d (int r)) [.box [.d (.str v)]]):=by
  cases az with
  |false=>exact⟨-1,.inl ⟨rfl,.inr ⟨rfl,rfl,λx ak=>axu⟩⟩,arw v⟩
  |true=>
   obtain⟨r,aw,aj⟩:=arv l bL aH aq v (λi=>match l[i]? with|some x=>decide (x.n=v)|none=>false) λi h=>axv;refine⟨r,?_,axu⟩;rcases aw with⟨rfl,aw⟩|⟨k,au,rfl,fe,hf⟩
   .refine .inl ⟨rfl,.inr ⟨rfl,rfl,λx ak=> ?_⟩⟩;grind[List.getElem_of_mem]
   .refine .inr ⟨k,rfl,.inl ⟨rfl,axs,?_,λj aL=> ?_⟩,rfl⟩;all_goals grind
 rcases aw with⟨rfl,aw⟩|⟨k,rfl,aw,rfl⟩
 .refine⟨0,false,aw,?_⟩;refine KY.lq (jB az hs g) λad ae Q a8=> ?_;have t1:ad.aF .lss (-1) 0=true:=axz;have t2:ad.aF .geq (-1) 0=false:=axz;obtain⟨bh,a2,a3⟩:=bA.of ae h1;obtain⟨bq,aR,bO⟩:=bA.of ae h2;obtain⟨c1,c2,c3⟩:=bA.of ae av;obtain⟨d1,d2,d3⟩:=bA.of ae aZ;obtain⟨b0,b7,c7⟩:=bA.of ae bW;obtain⟨cT,c8,du⟩:=lD.of ae dh;clear h0;cases az<;>cases hs<;>cases g;all_goals
   replace ee:=ee;simp only[if_true,az4,aAw,reduceIte]at ee;dsimp only[cP.st,jB,eh]at a8⊢;refine ai ?_;repeat' (split<;>refine ai ?_)
  all_goals (subst ae;exact b5 a8 axt axr)
 .refine⟨k,true,aw,?_⟩;refine KY.lq (jB true hs g) λad ae Q a8=> ?_;have t1:ad.aF .lss (Int.ofNat k) 0=false:=by rw[(eX ae).2.1];simp
  have t2:ad.aF .geq (Int.ofNat k) 0=true:=by rw[(eX ae).2.2.1];simp
  obtain⟨bh,a2,a3⟩:=bA.of ae h1;obtain⟨bq,aR,bO⟩:=bA.of ae h2;obtain⟨c1,c2,c3⟩:=bA.of ae av;obtain⟨d1,d2,d3⟩:=bA.of ae aZ;obtain⟨b0,b7,c7⟩:=bA.of ae bW;obtain⟨cT,c8,du⟩:=lD.of ae dh;clear h0;simp only[if_true]at ee;cases hs<;>cases g;all_goals
   dsimp only[cP.st,jB,eh]at a8⊢;refine ai ?_;repeat' (split<;>refine ai ?_)
  all_goals (subst ae;exact b5 a8 axt axr)
structure ha where
 n:ax
 sp:l6
 ks:List Int
def ha.cs(x:ha):List Go.aJ.D:=[.str x.n,.int .u64 x.sp.a0,.int .u64 x.sp.bh,.int .u64 x.sp.a2,.int .u64 x.sp.a3,.int .u64 x.sp.a4,.bool x.sp.lT,.bool x.sp.bq,.bool x.sp.aR,.bool x.sp.bO,.bool x.sp.ia,.list 1 (x.ks.map int)]
def ha.row(x:ha):List ag:=[.d (.str x.n),.d (.int .u64 x.sp.a0),.d (.int .u64 x.sp.bh),.d (.int .u64 x.sp.a2),.d (.int .u64 x.sp.a3),.d (.int .u64 x.sp.a4),.d (.bool x.sp.lT),.d (.bool x.sp.bq),.d (.bool x.sp.aR),.d (.bool x.sp.bO),.d (.bool x.sp.ia),.own 1 (x.ks.map int)]
def pY(l:List ha):List (List ag):=l.map ha.row
def gi(l:List ha):List ag:=(pY l).flatten
theorem ua(l:List ha):ky 12 (pY l):=λr aw=>by
 obtain⟨x,_,rfl⟩:=aAn.1 aw;rfl
theorem z8(l:List ha):(pY l).length=l.length:=azG _
theorem Gs{l:List ha}{i:Nat}(h:i<(pY l).length):(pY l)[i]=(l[i]' ayw).row:=aCH _
theorem ub(l:List ha):Flat (gi l):=λv hv=>by
 obtain⟨r,aw,h⟩:=List.mem_flatten.1 hv;obtain⟨x,_,rfl⟩:=aAn.1 aw;simp only[ha.row,azY,aAi,aAR]at h;grind
theorem arx{ad:bn}(h:ad=bn.bY){l:List ha}{i:Nat}(hi:i<l.length):ad.pF (gi l) (i*12) 12=.d (.agg l[i].cs):=by
 unfold gi;rw[SF h (ua l) ayw,Gs];rfl
theorem ary{ad:bn}(h:ad=bn.bY){l:List ha}{i:Nat}(hi:i<l.length){j n:Nat}(aL:j+n<=12):ad.ic (i*12+j) n (gi l) true=true:=SE h (ua l) ayw aL
theorem arz(x:ha)(y:kZ):aM 132 [.d (.agg x.cs),.ptr 0 0] [.box (y.cs.map .d)] (.d (.bool (decide (x.n=y.n)))) [.box (y.cs.map .d)]:=by
 obtain⟨n,⟨a0,bh,a2,a3,a4,lT,bq,aR,bO,ia⟩,M⟩:=x;unfold ha.cs;dsimp only;generalize M.map int=M at*;obtain⟨k,v,bw,db,s1,s2,b1,⟨c1,c2,L,c4,c5,eN,bT,e1,c9,fr,fa,X,eP,eT,eU,bB⟩,fY,ms⟩:=y;refine WT.cw λad ae Q a8=> ?_;refine ai ?_;all_goals (subst ae;exact b5 a8 axr axr)
def arA(C D:List ag)(s n i:Nat):af:=cA [(0,.aS 0 0 n s 12),(1,.func 132 [] [.ptr 1 0]),(7,.d (int (Int.ofNat n))),(8,.d (int (Int.ofNat i)))] [.box C,.box D]
theorem arB(l:List ha)(s n:Nat)(hs:l.length=s)(F1:n<=s)(az:n<=1073741824)(D:List ag)(cH:Flat D)(bm:∀i (h:i<l.length),∃b:Bool,aM 132 [.d (.agg l[i].cs),.ptr 0 0] [.box D] (.d (.bool b)) [.box D]):
  ∃r:Int,aM 173 [.aS 0 0 n s 12,.func 132 [] [.ptr 1 0]] [.box (gi l),.box D] (.d (int r)) [.box (gi l),.box D]:=by
 refine gV ?_;refine Y8.jl [0,1] _ λad ae K ao=> ?_;obtain⟨f0,f1,f2⟩:=bA.of ae (ub l);obtain⟨g0,g1,g2⟩:=bA.of ae cH;have zV:=λi (h:i<l.length)=>arx ae h;have Mp:=λi (h:i<l.length)=>ary ae h (j:=0) (n:=12) axw;generalize gi l=C at*;refine ai ?_;refine⟨b6 (λi=>arA C D s n i) (λi=>i<=n) (λi=>n-i),_,⟨0,azF _,rfl,axr⟩,?_⟩;rintro _ _ ⟨i,hi,rfl,rfl⟩;dsimp only at hi⊢;by_cases aB:i<n
 .have t1:=fS ae aB;have t2:ad.ez 12 12 (Int.ofNat i) n=true:=fZ ae aB;have t3:=qJ ae i 12;have t4:=zV i axs;have t5:=Mp i axs;have t6:=cv ae (n:=i) axs;obtain⟨b,aj⟩:=bm i axs;clear bm;generalize (l[i]' axs).cs=cs at*;generalize i*12=c at*;rw[aAj]at t5;cases b with
  |true=>
   refine ai ?_;simp_all
  |false=>
   refine ai ?_;repeat' (split<;>refine ai ?_)
   all_goals exact fixF (i+1) aB
 .have t1:=f' ae aB;refine ai ?_;simp_all
theorem arC(l:List ha)(s n:Nat)(hs:l.length=s)(F1:n<=s)(az:n<=1073741824)(y:kZ):
  ∃b:Bool,aM 131 [.aS 0 0 n s 12,.func 132 [] [.ptr 1 0]] [.box (gi l),.box (y.cs.map .d)] (.d (.bool b)) [.box (gi l),.box (y.cs.map .d)]:=by
 have cH:Flat (y.cs.map .d):=λv hv=>axv;obtain⟨r,aj⟩:=arB l s n hs F1 az (y.cs.map .d) cH λi h=>⟨_,arz l[i] y⟩;have eM:=ub l;generalize gi l=C at*;generalize y.cs.map ag.d=D at*;refine gV ?_;refine Vj.jl [0,1] _ λad ae K ao=> ?_;obtain⟨f0,f1,f2⟩:=bA.of ae eM;obtain⟨g0,g1,g2⟩:=bA.of ae cH;refine ai ?_;grind
theorem arD{ad:bn}(h:ad=bn.bY){l:List ha}{i:Nat}(hi:i<l.length)(c:l6):ad.ln (gi l) (i*12+1) [.d (.int .u64 c.a0),.d (.int .u64 c.bh),.d (.int .u64 c.a2),.d (.int .u64 c.a3),.d (.int .u64 c.a4),.d (.bool c.lT),.d (.bool c.bq),.d (.bool c.aR),.d (.bool c.bO),.d (.bool c.ia)]=some (gi (l.set i ⟨l[i].n,c,l[i].ks⟩)):=by
 unfold gi;rw[Ku h (ua l) ayw axt,Gs];unfold pY;rw[aCg];rfl
theorem arE{ad:bn}(h:ad=bn.bY){l:List ha}{i:Nat}(hi:i<l.length)(z:Int):∃ny,ad.zg (i*12+11) (gi l)=true/\ad.B' (gi l) (i*12+11)=some ny/\ad.B9 (gi l) (i*12+11)=.own 1 (l[i].ks.map int)/\ad.mB true (i*12+11) 1 ny true=true/\
  ad.ln ny (i*12+11) [.own 1 ((l[i].ks++[z]).map int)]=some (gi (l.set i ⟨l[i].n,l[i].sp,l[i].ks++[z]⟩)):=by
 have kT:i<(pY l).length:=ayw;have cX:=(ua l).set i (r:=(pY l)[i].set 11 .undef) (by rw[aAN];exact ua l _ (azT _));have qR:i<((pY l).set i ((pY l)[i].set 11 .undef)).length:=axu;refine⟨_,akm h (ua l) kT axw,akp h (ua l) kT axw,?_,Kt h cX qR axw,?_⟩
 .unfold gi;rw[ako h (ua l) kT axw,Gs];rfl
 .rw[Ku h cX qR axt,aCI,aB9,Gs];unfold gi pY;rw[aCg];rfl
def n3(l:List dj)(v:ax):Int:=match l.findIdx? (λx=>decide (x.n=v))with|some i=>Int.ofNat i|none=>0
theorem n2.eq{l:List dj}{v:ax}{i:Nat}{ok:Bool}(h:n2 l v i ok):Int.ofNat i=n3 l v:=by
 unfold n3;rcases h with⟨_,hi,h1,h2⟩|⟨_,rfl,h2⟩
 .rw[(aBQ (p:=λx:dj=>decide (x.n=v))).2 ⟨hi,azO h1,λj aL=>axu⟩]
 grind
structure Gt(l:List dj)(x:cQ)(y:ha):Prop where
 ks:y.ks=x.ms.map (n3 l)
 ok:∀v∈x.ms,∃i,n2 l v i true
 sp:aM 20 [.d (.str x.fY)] [] (.tuple [.d (.agg y.sp.cs),.d (int 0)]) []
def n5(_:Bool):Prop:=True
def eA{b:Bool}(_:n5 b):Bool:=b
def arF(m:cP)(az:Bool)(D:List ag)(k:Nat)(ms:List Go.aJ.D)(n i:Nat):af:=cA [(0,.ptr 0 0),(1,.d (int (Int.ofNat k))),(39,.d (.list 1 ms)),(40,.d (int (Int.ofNat n))),(41,.d (int (Int.ofNat i)))] (m.st az true false++[.box D])
theorem arG(m:cP)(hm:m.Ok)(az:Bool)(l:List dj)(b9:m.N=gY l)(aH:l.length=m.bL)(aq:m.bL<=1073741824)(h0:az=false->l=[])(aS:List ha)(eM:m.S=gi aS)(km:aS.length=m.ns)(ld:m.ns<=1073741824)
  (k:Nat) (au:k<aS.length) (Mq:aS[k].ks=[]) (x:cQ) (ay:x.fY.length<=1073741824) (ak:x.ms.length<=1073741824):
  ∃(e:Int) (y:ha),(y.n=aS[k].n/\(e=0->Gt l x y))/\aM 83 [.ptr 0 0,.d (int (Int.ofNat k)),.d (.agg x.d'.cs)] (m.st az true false) (.d (int e)) (({m with S:=gi (aS.set k y)}:cP).st az true false):=by
 refine Ky ?_;obtain⟨L,t,bL,N,ps,ns,S,gn,ct,cu,cp,P⟩:=m;dsimp only at b9 aH aq eM km ld;obtain⟨b,aj⟩:=arC aS ns k km axs axs x.d';obtain⟨c,e,aD⟩:=aqq x.fY ay;have arH:∀(y:ha),Flat (gi (aS.set k y)):=λy=>ub _;refine Ys.jl (jB az true false) _ λad ae K ao=> ?_;replace ao:∀(e:Int) (y:ha) (s':aV),(y.n=aS[k].n/\(e=0->Gt l x y))->s'=(⟨L,t,bL,N,ps,ns,gi (aS.set k y),gn,ct,cu,cp,P⟩:cP).st az true false->K (.d (int e)) s':=λe y s' h1 h2=>ao _ _ ⟨e,y,h1,rfl,h2⟩;obtain⟨bh,a2,a3⟩:=bA.of ae hm.N;obtain⟨bq,aR,bO⟩:=bA.of ae hm.S;dsimp only at bh a2 a3 bq aR bO;rw[<-eM]at aj;have awS:ns≠0:=axs;have uv:x.d'.fY=x.fY:=rfl;have acv:x.d'.ms=x.ms.map .str:=rfl;generalize x.d'=w at*;obtain⟨Aa,arI,arJ,arK,arL,arM,arN,⟨c1,c2,qY,c4,c5,eN,bT,e1,c9,fr,fa,X,eP,eT,eU,bB⟩,awT,Gu⟩:=w;dsimp only at uv acv;subst uv;have t1:ad.pE true 0 (Int.ofNat k) (Int.ofNat ns) ns=true:=xC ae (azF _) axs (azI _);have t2:ad.aF .eql 0 (Int.ofNat ns)=false:=by rw[(eX ae).1];grind
 have t3:ad.lW 0 0 12=0:=qJ ae 0 12;have t4:ad.ns (Int.ofNat k) 0=k:=tX ae k 0;have t5:ad.ns (Int.ofNat ns) 0=ns:=tX ae ns 0;have aE:n5 az:=trivial;cases b with
 |true=>
  cases az;all_goals
   dsimp only[cP.st,jB,eh]at ao⊢;refine ai ?_;repeat' (split<;>refine ai ?_)
  all_goals exact ao _ aS[k] _ ⟨rfl,λh=>absurd h axw⟩ azw
 |false=>
 have yr:k<ns:=axs;by_cases he:e=0
 .subst he;have t6:ad.aF .neq 0 0=false:=axz;have arO:aM 20 [.d (.str x.fY)] [] (.tuple [.d (.agg c.cs),.d (int 0)]) []:=aD;have gb:ad.ez 12 12 (Int.ofNat k) ns=true:=fZ ae yr;have fR:=qJ ae k 12;have fp:ad.lp (k*12) 1=k*12+1:=pI ae _ _;have gd:ad.mB true (k*12+1) 10 S true=true:=by rw[eM];exact Kt ae (ua aS) ayw axw
  have gU:=arD ae au c;rw[<-eM,Mq]at gU;have v1:ad.lp (k*12) 11=k*12+11:=pI ae _ _;have sK:∀(c:l6) (mk:List Int) (z:Int),_:=λc mk z=>arE ae (l:=aS.set k ⟨aS[k].n,c,mk⟩) (i:=k) axu z;simp only[aCI,aB9]at sK;obtain⟨q,aT⟩:∃q,q=x.ms.length:=⟨_,rfl⟩;have fg:∀(e:Int) (mk:List Int) (s':aV),(e=0->mk=x.ms.map (n3 l)/\∀v∈x.ms,∃i,n2 l v i true)->s'=(⟨L,t,bL,N,ps,ns,gi (aS.set k ⟨aS[k].n,c,mk⟩),gn,ct,cu,cp,P⟩:cP).st az true false->K (.d (int e)) s':=λe mk s' h hs=>ao e ⟨aS[k].n,c,mk⟩ _ ⟨rfl,λh2=>⟨(h h2).1,(h h2).2,arO⟩⟩ hs;clear ao;have arP:∀i (h:i<x.ms.length),Gu[i]?=some (.str x.ms[i]):=λi h=>axu;have r0:ad.len Gu=q:=by subst ae;rw[aT,acv];exact azG _
  have arQ:∀(j:Nat) (mk:List Int),ad.app (mk.map int) [int (Int.ofNat j)]=(mk++[Int.ofNat j]).map int:=λj mk=>by subst ae;rw[az5];rfl
  have xR:=arH ⟨aS[k].n,c,[]⟩;obtain⟨kb,Mr⟩:∃kb,kb=gi (aS.set k ⟨aS[k].n,c,[]⟩):=⟨_,rfl⟩;rw[<-Mr]at gU xR;obtain⟨d1,d2,d3⟩:=bA.of ae xR;have acw:∀(j:Nat) (h:j<l.length),ad.ez 24 24 (Int.ofNat j) bL=true/\ad.ic (j*24+1) 1 N true=true/\ad.j4 N (j*24+1)=.d (.bool l[j].s):=λj h=>⟨fZ ae axs,by rw[b9];exact sr ae h axw,by rw[b9];exact C7 ae h axw rfl⟩;have FR:=hm.N;generalize aS[k].n=nm at*;obtain⟨a0,Gv,Gw,Gx,a4,lT,Gy,yZ,Gz,ia⟩:=c;dsimp only[l6.cs]at aD gU;generalize awU:k*12=Ms at*;generalize awV:Ms+1=awW at*;generalize awX:Ms+11=awY at*;cases az;all_goals
   dsimp only[cP.st,jB,eh]at fg⊢;refine ai ?_;repeat' (split<;>refine ai ?_)
   refine⟨b6 (λz:Nat×List ag=>arF ⟨L,t,bL,N,ps,ns,z.2,gn,ct,cu,cp,P⟩ (eA aE) ((kZ.cs ⟨Aa,arI,arJ,arK,arL,arM,arN,⟨c1,c2,qY,c4,c5,eN,bT,e1,c9,fr,fa,X,eP,eT,eU,bB⟩,x.fY,Gu⟩).map .d) k Gu q z.1) (λz=>z.1<=q/\∃mk:List Int,z.2=gi (aS.set k ⟨nm,⟨a0,Gv,Gw,Gx,a4,lT,Gy,yZ,Gz,ia⟩,mk⟩)/\mk=(x.ms.take z.1).map (n3 l)/\∀v∈x.ms.take z.1,∃i,n2 l v i true) (λz=>q-z.1),_,⟨(0,kb),⟨azF _,[],Mr,axt,λv h=>by simp at h⟩,rfl,axr⟩,?_⟩;clear t1 t2 t3 t4 t5 t6 gd gU bq aR bO d1 d2 d3 aj aD Mr xR;rintro _ _ ⟨⟨i,S⟩,⟨hi,mk,pZ,GC,fQ⟩,rfl,rfl⟩;dsimp only at hi pZ GC fQ⊢;have oU:Flat S:=axv;obtain⟨bq,aR,bO⟩:=bA.of ae oU;by_cases aB:i<q
   .have bU:=fS ae aB;have b4:=cV ae (arP i axs);have dm:ad.ez 1 1 (Int.ofNat i) q=true:=fZ ae aB;have gS:=cv ae (n:=i) axs;obtain⟨j,ok,cX,oQ⟩:=Gr ⟨L,t,bL,N,ps,ns,S,gn,ct,cu,cp,P⟩ ⟨hm.N,oU,hm.ct,hm.cu,hm.cp,hm.P⟩ (eA aE) true false l b9 aH aq h0 (x.ms[i]' axs);dsimp only[cP.st,eh,eA]at oQ;have hr:x.ms.take (i+1)=x.ms.take i++[x.ms[i]' axs]:=axt;have arR:mk++[Int.ofNat j]=(x.ms.take (i+1)).map (n3 l):=by rw[hr,az5,<-GC,cX.eq];rfl
    have Mt:ok=true->∀v∈x.ms.take (i+1),∃i,n2 l v i true:=λh v hv=>by
     rw[hr]at hv;rcases aAu.1 hv with hv|hv
     .exact fQ v hv
     .rw[az9.1 hv];subst h;exact⟨j,cX⟩
    have gB:ok=true->j<l.length:=λh=>by
     rcases cX with⟨_,h1,_⟩|⟨h1,_⟩
     .omega
     grind
    have N4:mk.length<=1073741824:=by rw[GC,azG,aAT];omega
    clear hr cX;generalize (x.ms[i]' axs)=v at*;cases ok with
    |false=>
     refine ai ?_;repeat' (split<;>refine ai ?_)
     all_goals exact fg 13 mk _ (λh=>absurd h axw) ay'
    |true=>
     have aL:=gB rfl;first
     |exact absurd (h0 rfl▸aL) (aAM _)
     |skip
     all_goals
      obtain⟨w1,dZ,iP⟩:=acw j aL;have bS:=qJ ae j 24;have ku:ad.lp (j*24) 1=j*24+1:=pI ae _ _;obtain⟨ny,cT,c8,du,iZ,s7⟩:=sK ⟨a0,Gv,Gw,Gx,a4,lT,Gy,yZ,Gz,ia⟩ mk (Int.ofNat j);rw[<-pZ]at cT c8 du;have acx:=arQ j mk;obtain⟨kD,jO⟩:∃kD,kD=gi (aS.set k ⟨nm,⟨a0,Gv,Gw,Gx,a4,lT,Gy,yZ,Gz,ia⟩,mk++[Int.ofNat j]⟩):=⟨_,rfl⟩;rw[<-jO,<-acx]at s7;have Mu:Flat kD:=by rw[jO];exact ub _
      obtain⟨g',z2,z3⟩:=bA.of ae Mu;have acy:(mk.map int).length<=1073741824:=by rw[azG];omega
      clear acx acw sK;generalize mk.map int=awZ at*;generalize Md:j*24=acz at*;generalize acz+1=aw0 at*;generalize l[j].s=h3 at*;cases h3 with
      |true=>
       refine ai ?_;repeat' (split<;>refine ai ?_)
       all_goals exact fg 13 mk _ (λh=>absurd h axw) ay'
      |false=>
       refine ai ?_;repeat' (split<;>refine ai ?_)
       all_goals exact fixF (i+1,kD) ⟨aB,mk++[Int.ofNat j],jO,arR,Mt rfl⟩
   .have bU:=f' ae aB;have uV:mk=x.ms.map (n3 l)/\∀v∈x.ms,∃i,n2 l v i true:=by
     rw[aAP axs]at GC fQ;grind
    refine ai ?_;repeat' (split<;>refine ai ?_)
    exact fg 0 mk _ (λ_=>uV) ay'
 .have t6:ad.aF .neq e 0=true:=by subst ae;show(!decide (e=0))=true;simp_all
  obtain⟨a0,Gv,Gw,Gx,a4,lT,Gy,yZ,Gz,ia⟩:=c;dsimp only[l6.cs]at aD;cases az;all_goals
   dsimp only[cP.st,jB,eh]at ao⊢;refine ai ?_;repeat' (split<;>refine ai ?_)
  all_goals exact ao _ aS[k] _ ⟨rfl,λh=>absurd h he⟩ azw
def uc(x:iV):List ag:=[.d (.str x.a),.d (int x.xm),.d (int x.nm),.d (.str x.b)]
theorem arS(x y:iV):aM 135 [.d (eg x),.ptr 0 0] [.box (uc y)] (.d (.bool (decide (x.b=y.b)))) [.box (uc y)]:=by
 obtain⟨a,k,n,b⟩:=x;obtain⟨a2,cz,jF,aR⟩:=y;refine Vl.cw λad ae Q a8=> ?_;refine ai ?_;all_goals (subst ae;exact b5 a8 axr axr)
def arT(L:List Go.aJ.D)(y:iV)(n i:Nat):af:=cA [(0,.d (.list 4 L)),(1,.func 135 [] [.ptr 0 0]),(7,.d (int (Int.ofNat n))),(8,.d (int (Int.ofNat i)))] [.box (uc y)]
theorem arU(l:List iV)(aH:l.length<=1073741824)(y:iV):
  ∃r:Int,aM 175 [.d (.list 4 (l.map eg)),.func 135 [] [.ptr 0 0]] [.box (uc y)] (.d (int r)) [.box (uc y)]:=by
 refine gV ?_;have bF:(l.map eg).length=l.length:=azG _;have cl:∀i (h:i<l.length),(l.map eg)[i]?=some (eg l[i]):=λi h=>dv h;generalize l.map eg=L at*;have he:∀i (h:i<l.length),_:=λi h=>arS l[i] y;refine Y'.cr _ λad ae K ao=> ?_;obtain⟨q,aT⟩:∃q,q=l.length:=⟨_,rfl⟩;have t0:ad.len L=q:=by subst ae;exact bF.trans aT.symm
 have GD:∀k,K (.d (int k)) [.box (uc y)]:=λk=>ao _ _ ⟨k,rfl,rfl⟩;refine ai ?_;refine⟨b6 (arT L y q) (λi=>i<=q) λi=>q-i,_,⟨0,azF _,rfl,axr⟩,?_⟩;rintro _ _ ⟨i,hi,rfl,rfl⟩;dsimp only at hi⊢;by_cases aB:i<q
 .have t2:=fS ae aB;have t3:=cV ae (cl i axs);have t5:=cv ae (n:=i) axs;have aj:=he i axs;clear he;unfold eg at*;generalize (l[i]' axs)=x at*;generalize decide (x.b=y.b)=b at*;cases b with
  |true=>
   refine ai ?_;repeat' (split<;>refine ai ?_)
   all_goals exact GD _
  |false=>
   refine ai ?_;repeat' (split<;>refine ai ?_)
   all_goals exact fixF (i+1) aB
 .have t2:=f' ae aB;refine ai ?_;repeat' (split<;>refine ai ?_)
  all_goals exact GD _
theorem arV(l:List iV)(aH:l.length<=1073741824)(y:iV):
  ∃b:Bool,aM 134 [.d (.list 4 (l.map eg)),.func 135 [] [.ptr 0 0]] [.box (uc y)] (.d (.bool b)) [.box (uc y)]:=by
 obtain⟨r,aj⟩:=arU l aH y;refine gV ?_;generalize l.map eg=L at*;refine WV.cr _ λad ae K ao=> ?_;refine ai ?_;exact ao _ _ ⟨_,rfl,axr⟩
end Go.Proofs.YtmgpekpnidjfoaaGreatDoor
