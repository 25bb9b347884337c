/- Part of parts_said. -/
import Derived.Test.YthffhbakgmemaaaGreatDoorB7
import Derived.Test.YthffhbakgmemaaaGreatDoorB6
set_option maxRecDepth 100000
set_option maxHeartbeats 8000000
set_option linter.unusedSimpArgs false
set_option linter.unusedVariables false
namespace Go.Proofs.YthffhbakgmemaaaGreatDoor
open Go Go.aG
attribute [local irreducible] bD
structure aV(ad:bd)(C:List ah):Prop where
 refs:ad.yo (.box C)=[]
 ok:∀n,ad.yq n (.box C)=true
 ren:∀f,ad.yp f (.box C)=.box C
theorem aV.of{c:bd}(h:c=bd.bU){C:List ah}(a:Flat C):aV c C:=⟨a.refs h,a.ok h,a.ren h⟩
def cv(a b c n:Nat):List ah:=[.aP a 0 n n 1,.aP b 0 n n 1,.aP c 0 n n 1]
def gp(n:Nat)(i:Int):Bool:=decide (0<=i)&&decide (i<n)
theorem pC{n:Nat}{i:Int}(h:gp n i=true):∃k:Nat,k<n/\i=Int.ofNat k:=by
 unfold gp at h;simp only[aCx,aCA]at h;exact⟨i.toNat,az6,(aFj h.1).symm⟩
def b8(zs:List Int):List ah:=zs.map λz=>.d (int z)
theorem pD(zs:List Int):(b8 zs).length=zs.length:=aCv _
theorem ez(zs:List Int):Flat (b8 zs):=λv hv=>aCg
theorem NN{zs:List Int}{i:Nat}(h:i<zs.length):(b8 zs)[i]?=some (.d (int zs[i])):=by
 grind[b8]
theorem Bk(zs:List Int)(i:Nat)(z:Int):(b8 zs).set i (.d (int z))=b8 (zs.set i z):=by
 grind[b8,List.map_set]
theorem aeb(x:Int):aL 59 [.d (int x)] [] (.d (.bool false)) []:=by
 refine aap.ct λc ae Q a=> ?_;have t1:c.aB .neq x x=false:=aAa;refine ak ?_
 (subst ae;exact bS a az7 az5)
def HO(x y:Int):Int:=if x<y then -1 else if y<x then 1 else 0
theorem asD(x y:Int):aL 40 [.d (int x),.d (int y)] [] (.d (int (HO x y))) []:=by
 have aj:=aeb x;have aC:=aeb y;refine Yr.ct λc ae Q a=> ?_;unfold HO at a;by_cases h:x<y
 .rw[aCT h]at a;have t1:c.aB .lss x y=true:=aBq;refine ak ?_
  (subst ae;exact bS a az7 az5)
 .rw[aCV h]at a;have t1:c.aB .lss x y=false:=aBq;by_cases af:y<x
  .rw[aCT af]at a;have t2:c.aB .gtr x y=true:=by simp_all[eS]
   refine ak ?_
   (subst ae;exact bS a az7 az5)
  .rw[aCV af]at a;have t2:c.aB .gtr x y=false:=by simp_all[eS]
   refine ak ?_
   (subst ae;exact bS a az7 az5)
theorem asE{N M:List ah}(d:List Int)(n a b:Nat)(m:d.length=n)(k:a<n)(au:b<n)(g:Flat N)(j:Flat M):∃r:Int,aL 49 [.d (int (Int.ofNat a)),.d (int (Int.ofNat b)),.ptr 0 0] [.box [.ptr 1 0],.box (cv 2 3 4 n),.box N,.box M,.box (b8 d)] (.d (int r)) [.box [.ptr 1 0],.box (cv 2 3 4 n),.box N,.box M,.box (b8 d)]:=by
 refine⟨HO (d[a]' az6) (d[b]' az6),?_⟩;have aj:=asD (d[a]' az6) (d[b]' az6);unfold cv;refine Uz.fX [2,3,4] λf ae Q l=> ?_;obtain⟨f1,f2,f3⟩:=aV.of ae g;obtain⟨g1,g2,g3⟩:=aV.of ae j;obtain⟨h1,af,av⟩:=aV.of ae (ez d);have t1:f.dS 1 1 (Int.ofNat a) n=true:=e7 ae k;have t2:f.dS 1 1 (Int.ofNat b) n=true:=e7 ae au;have t3:=l8 ae a;have t4:=l8 ae b;have t5:f.ha a 1 (b8 d) true=true:=tw ae aA1;have t6:f.ha b 1 (b8 d) true=true:=tw ae aA1;have t7:=yN ae (NN (zs:=d) (i:=a) az6);have t8:=yN ae (NN (zs:=d) (i:=b) az6);generalize d[a]' az6=x at*;generalize d[b]' az6=y at*;generalize HO x y=c at*;generalize b8 d=D at*;clear g j;refine ak ?_;simp_all
theorem asF{N M D:List ah}(n:Nat)(i:Int)(d:Flat N)(g:Flat M)(f:Flat D):aL 151 [.ptr 0 0,.d (int i)] [.box (cv 1 2 3 n),.box N,.box M,.box D] (.d (.bool (gp n i))) [.box (cv 1 2 3 n),.box N,.box M,.box D]:=by
 unfold cv;refine W7.fX [1,2,3] λa ae Q c=> ?_;obtain⟨f1,f2,f3⟩:=aV.of ae d;obtain⟨g1,g2,g3⟩:=aV.of ae g;obtain⟨h1,af,av⟩:=aV.of ae f;clear d g f;by_cases j:0<=i
 .have t1:a.aB .geq i 0=true:=by rw[(eS ae).2.2.1];simp_all
  have t2:a.aB .lss i (Int.ofNat n)=decide (i<n):=aAZ;have t3:gp n i=decide (i<n):=by grind[gp]
  rw[t3]at c;generalize decide (i<n)=b at*;refine ak ?_;simp_all
 .have t1:a.aB .geq i 0=false:=by rw[(eS ae).2.2.1];simp_all
  have t3:gp n i=false:=by grind[gp]
  rw[t3]at c;refine ak ?_;simp_all
theorem asG{N M D:List ah}(n:Nat)(i:Int)(a:Flat N)(d:Flat M)(c:Flat D):aL 150 [.d (int i),.ptr 0 0] [.box [.ptr 1 0],.box (cv 2 3 4 n),.box N,.box M,.box D] (.d (.bool (!gp n i))) [.box [.ptr 1 0],.box (cv 2 3 4 n),.box N,.box M,.box D]:=by
 have aj:=asF (N:=N) (M:=M) (D:=D) n i a d c;unfold cv at*;refine Vb.fX [2,3,4] λg ae Q f=> ?_;obtain⟨f1,f2,f3⟩:=aV.of ae a;obtain⟨g1,g2,g3⟩:=aV.of ae d;obtain⟨h1,af,av⟩:=aV.of ae c;clear a d c;generalize gp n i=b at*;cases b
 .refine ak ?_;simp_all
 .refine ak ?_;simp_all
def asH(L:List D)(k i:Nat)(N M D:List ah)(n:Nat):ag:=cA [(0,.d (.list 1 L)),(1,.func 150 [] [.ptr 0 0]),(7,.d (int (Int.ofNat k))),(8,.d (int (Int.ofNat i)))] [.box [.ptr 1 0],.box (cv 2 3 4 n),.box N,.box M,.box D]
theorem asI{N M D:List ah}(n:Nat)(l:List Int)(t:l.length<=1073741824)(f:Flat N)(j:Flat M)(g:Flat D):∃r:Int,(r<0->∀x∈l,gp n x=true)/\aL 55 [.d (.list 1 (l.map int)),.func 150 [] [.ptr 0 0]] [.box [.ptr 1 0],.box (cv 2 3 4 n),.box N,.box M,.box D] (.d (int r)) [.box [.ptr 1 0],.box (cv 2 3 4 n),.box N,.box M,.box D]:=by
 refine eW ?_;have w:(l.map int).length=l.length:=aCv _;have o:∀i (h:i<l.length),(l.map int)[i]?=some (int l[i]):=λi h=>cY h;generalize l.map int=L at*;have m:=λi=>asG (N:=N) (M:=M) (D:=D) n i f j g;refine aan.iX [2,3,4] _ λa ae K u=> ?_;obtain⟨f1,f2,f3⟩:=aV.of ae f;obtain⟨g1,g2,g3⟩:=aV.of ae j;obtain⟨h1,af,av⟩:=aV.of ae g;clear f j g;unfold cv at*;refine ak ?_;refine⟨bX (λi=>asH L (a.len L) i N M D n) (λi=>i<=l.length/\∀x∈l.take i,gp n x=true) (λi=>l.length-i),_,⟨0,⟨aCu _,λx k=>az8⟩,rfl,az5⟩,?_⟩;rintro _ _ ⟨i,⟨s,p⟩,rfl,rfl⟩;dsimp only at s p⊢;by_cases d:i<l.length
 .have t1:a.aB .lss (Int.ofNat i) (Int.ofNat (a.len L))=true:=by simp_all[aH]
  have t3:=cH ae (o i d);have t6:=b9 ae (n:=i) az6;have aj:=m l[i];have c:gp n l[i]=true->∀x∈l.take (i+1),gp n x=true:=λh x k=>by
   rw[aDg,aCB d]at k;grind
  clear m;generalize gp n l[i]=b at*;generalize l[i]=x at*;cases b with
  |true=>
   have c:=c rfl;refine ak ?_;exact fixF (i+1) ⟨d,c⟩
  |false=>
   have v:∀h:(Int.ofNat i:Int)<0,∀x∈l,gp n x=true:=λh=>absurd h az7;refine ak ?_;simp_all
 .have t1:a.aB .lss (Int.ofNat i) (Int.ofNat (a.len L))=false:=by simp_all[aH]
  have z:∀x∈l,gp n x=true:=az9;refine ak ?_;simp_all
theorem asJ{N M D:List ah}(n:Nat)(l:List Int)(g:l.length<=1073741824)(a:Flat N)(d:Flat M)(c:Flat D):∃b:Bool,(b=false->∀x∈l,gp n x=true)/\aL 149 [.d (.list 1 (l.map int)),.func 150 [] [.ptr 0 0]] [.box [.ptr 1 0],.box (cv 2 3 4 n),.box N,.box M,.box D] (.d (.bool b)) [.box [.ptr 1 0],.box (cv 2 3 4 n),.box N,.box M,.box D]:=by
 obtain⟨r,f,aj⟩:=asI (N:=N) (M:=M) (D:=D) n l g a d c;refine⟨decide (0<=r),λh=>f az8,?_⟩;generalize l.map int=L at*;unfold cv at*;refine W5.fX [2,3,4] λj ae Q k=> ?_;obtain⟨f1,f2,f3⟩:=aV.of ae a;obtain⟨g1,g2,g3⟩:=aV.of ae d;obtain⟨h1,af,av⟩:=aV.of ae c;clear a d c f g;have t1:j.aB .geq r 0=decide (0<=r):=by rw[(eS ae).2.2.1]
 generalize decide (0<=r)=b at*;refine ak ?_;simp_all
def kR(n:Nat)(zs:List Int):Prop:=∀z∈zs,gp n z=true
def swp(zs:List Int)(i j:Nat):List Int:=(zs.set i (zs.getD j 0)).set j (zs.getD i 0)
theorem asK{zs:List Int}{i j:Nat}(hi:i<zs.length)(a:j<zs.length):(swp zs i j).Perm zs:=by
 grind[swp]
theorem HP{a:bd}(h:a=bd.bU){zs:List Int}{i:Nat}(hi:i<zs.length):a.kM (b8 zs) i=.d (int (zs.getD i 0)):=by
 grind[yN,NN]
structure hq(n:Nat)(z0 zs:List Int):Prop where
 len:zs.length=n
 all:kR n zs
 perm:zs.Perm z0
theorem hq.swp{n:Nat}{z0 zs:List Int}(h:hq n z0 zs){i j:Nat}(hi:i<n)(c:j<n):hq n z0 (Go.Proofs.YthffhbakgmemaaaGreatDoor.swp zs i j):=by
 have hp:=asK (zs:=zs) (i:=i) (j:=j) (by grind[len]) (by grind[len]);exact⟨hp.length_eq.trans h.len,λz a=>h.all z (hp.mem_iff.1 a),hp.trans h.perm⟩
theorem hq.at{n:Nat}{z0 zs:List Int}(h:hq n z0 zs){i:Nat}(hi:i<n):gp n (zs.getD i 0)=true:=by
 have a:=h.len;rw[aC4,aCB az6];exact h.all _ (aCC _)
theorem D9{c:bd}(h:c=bd.bU){a b:Nat}(hh:b<a):c.aB .gtr (Int.ofNat a) (Int.ofNat b)=true:=aB'
theorem D'{c:bd}(h:c=bd.bU){a b:Nat}(hh:¬b<a):c.aB .gtr (Int.ofNat a) (Int.ofNat b)=false:=aCa
theorem aec{c:bd}(h:c=bd.bU){a b:Nat}(d:a<=b):c.aB .leq (Int.ofNat a) (Int.ofNat b)=true:=by subst h;exact aCI (aFU.2 d)
theorem aed{c:bd}(h:c=bd.bU){a b:Nat}(d:¬a<=b):c.aB .leq (Int.ofNat a) (Int.ofNat b)=false:=by subst h;exact aC3 λx=>d (aFU.1 x)
theorem asL{c:bd}(h:c=bd.bU){a b:Nat}(d:a≠b):c.aB .neq (Int.ofNat a) (Int.ofNat b)=true:=by subst h;show(!decide (Int.ofNat a=Int.ofNat b))=true;grind
theorem asM{c:bd}(h:c=bd.bU){a b:Nat}(d:a=b):c.aB .neq (Int.ofNat a) (Int.ofNat b)=false:=by subst h;subst d;show(!decide (Int.ofNat a=Int.ofNat a))=false;simp
theorem one?{c:bd}(h:c=bd.bU)(a:Nat):c.aB .eql (Int.ofNat a) 1=decide (a=1):=by
 subst h;show decide (Int.ofNat a=1)=_;grind
theorem qI{c:bd}(h:c=bd.bU){a b:Nat}(d:a+b<=4611686018427387904):c.io .add .i64 (Int.ofNat a) (Int.ofNat b)=Int.ofNat (a+b):=by
 grind[mE]
theorem pE{c:bd}(h:c=bd.bU){a b:Nat}(f:b<=a)(d:a<=4611686018427387904):c.io .sub .i64 (Int.ofNat a) (Int.ofNat b)=Int.ofNat (a-b):=by
 grind[DA]
theorem Ea{c:bd}(h:c=bd.bU){a:Nat}(f:a<=4611686018427387904):c.wr .u64 (Int.ofNat a)=Int.ofNat a/\c.aB .geq 1 0=true/\c.io .shr .u64 (Int.ofNat a) 1=Int.ofNat (a/2)/\c.wr .i64 (Int.ofNat (a/2))=Int.ofNat (a/2):=by
 subst h;refine⟨?_,rfl,?_,aG.wrap_small (aEf _) az9⟩
 .have d:(2:Int)^64=18446744073709551616:=by decide
  show IntKind.wrap .u64 (Int.ofNat a)=_;simp only[IntKind.wrap,IntKind.signed,IntKind.bits,d,Bool.false_and,aCy];grind
 .show(Int.ofNat a).fdiv (2^1)=_;grind
theorem tA{a:bd}(c:a=bd.bU){zs:List Int}{C:List ah}{n:Nat}{z0:List Int}(f:C=b8 zs)(h:hq n z0 zs){p:Nat}(hp:p<n):
  ∃x:Int,gp n x=true/\a.dS 1 1 (Int.ofNat p) n=true/\a.la 0 (Int.ofNat p) 1=p/\a.ha p 1 C true=true/\a.kM C p=.d (int x):=by
 have d:=h.len;exact⟨_,h.at hp,e7 c hp,l8 c p,tw c aA1,by grind[HP]⟩
theorem HQ{a:bd}(c:a=bd.bU){zs:List Int}{C:List ah}{n:Nat}{z0:List Int}(j:C=b8 zs)(h:hq n z0 zs){p q:Nat}(hp:p<n)(aS:q<n):
  ∃(x y:Int) (f d:List ah) (g:List Int),(d=b8 g/\hq n z0 g/\gp n x=true/\gp n y=true)/\(a.dS 1 1 (Int.ofNat p) n=true/\a.dS 1 1 (Int.ofNat q) n=true/\a.la 0 (Int.ofNat p) 1=p/\a.la 0 (Int.ofNat q) 1=q)/\(a.ha p 1 C true=true/\a.ha q 1 C true=true/\a.kM C p=.d (int x)/\a.kM C q=.d (int y))/\(a.lE true p 1 C true=true/\a.kN C p [.d (int y)]=some f/\a.lE true q 1 f true=true/\a.kN f q [.d (int x)]=some d)/\aV a d:=by
 obtain⟨x,s,t,u,A,o⟩:=tA c j h hp;obtain⟨y,r,v,w,B,l⟩:=tA c j h aS;have G:=h.len;have m:∀{k:Nat} {z:Int},k<zs.length->a.kM C k=.d (int z)->z=zs.getD k 0:=λJ H=>by
  grind[HP]
 have E:=m az6 o;have F:=m az6 l;refine⟨x,y,b8 (zs.set p y),b8 (swp zs p q),swp zs p q,⟨rfl,h.swp hp aS,s,r⟩,⟨t,v,u,w⟩,⟨A,B,o,l⟩,⟨?_,?_,?_,?_⟩,aV.of c (ez _)⟩
 .grind[wT,pD]
 .grind[tz,Bk]
 .grind[wT,pD]
 .rw[tz c,Bk,E,F];rfl
def jQ(C N M D:List ah)(n:Nat):aY:=[.box C,.box [.ptr 2 0],.box (cv 3 4 5 n),.box N,.box M,.box D]
def HR(N M D:List ah)(n:Nat):Prop:=∀x y:Int,gp n x=true->gp n y=true->∃r:Int,aL 49 [.d (int x),.d (int y),.ptr 0 0] [.box [.ptr 1 0],.box (cv 2 3 4 n),.box N,.box M,.box D] (.d (int r)) [.box [.ptr 1 0],.box (cv 2 3 4 n),.box N,.box M,.box D]
theorem asN{N M:List ah}{a:List Int}{n:Nat}(g:a.length=n)(f:Flat N)(j:Flat M):HR N M (b8 a) n:=λx y d c=>by
 grind[pC,asE]
structure wU(n:Nat)(N M D:List ah):Prop where
 le:n<=1073741824
 ay9:Flat N
 ay':Flat M
 aza:Flat D
 ord:HR N M D n
def rW(f:Nat)(d:List ah)(n:Nat)(z0:List Int)(N M D:List ah):Prop:=∀c,hq n z0 c->∃a:List Int,hq n z0 a/\aL f d (jQ (b8 c) N M D n) (.tuple []) (jQ (b8 a) N M D n)
theorem Bl{f:Nat}{c:List ah}{n:Nat}{z0 zs:List Int}{N M D:List ah}(h:∃r s',(∃a:List Int,hq n z0 a/\r=.tuple []/\s'=jQ (b8 a) N M D n)/\aL f c (jQ (b8 zs) N M D n) r s'):∃a:List Int,hq n z0 a/\aL f c (jQ (b8 zs) N M D n) (.tuple []) (jQ (b8 a) N M D n):=az9
def asO(C N M D:List ah)(n a b i:Nat):ag:=cA [(0,.aP 0 0 n n 1),(1,.d (int (Int.ofNat a))),(2,.d (int (Int.ofNat b))),(3,.func 49 [] [.ptr 1 0]),(8,.d (int (Int.ofNat i)))] (jQ C N M D n)
def asP(C N M D:List ah)(n a b i j:Nat):ag:=cA [(0,.aP 0 0 n n 1),(1,.d (int (Int.ofNat a))),(2,.d (int (Int.ofNat b))),(3,.func 49 [] [.ptr 1 0]),(8,.d (int (Int.ofNat i))),(9,.d (int (Int.ofNat j)))] (jQ C N M D n)
theorem asQ{n:Nat}{z0:List Int}{N M D:List ah}(Q:wU n N M D)(a b:Nat)(Z:a<=n)(au:b<=n):rW 109 [.aP 0 0 n n 1,.d (int (Int.ofNat a)),.d (int (Int.ofNat b)),.func 49 [] [.ptr 1 0]] n z0 N M D:=by
 intro c d;refine Bl ?_;obtain⟨X,u,w,v,l⟩:=Q;unfold HR at l;refine Mu.iX [0,3,4,5] _ λE ae K k=> ?_;obtain⟨bp,a2,a3⟩:=aV.of ae u;obtain⟨bq,aT,b3⟩:=aV.of ae w;obtain⟨c1,c2,c3⟩:=aV.of ae v;clear u w v;unfold jQ cv at*;have t6:=b9 ae (n:=a) az6;generalize hC:b8 c=C at*;replace hC:=hC.symm;obtain⟨d1,d2,d3⟩:=aV.of ae (ez c);rw[<-hC]at d1 d2 d3;generalize S:a+1=i0 at*;refine ak ?_;refine⟨bX (λz:Nat×List ah=>asO z.2 N M D n a b z.1) (λz=>a<z.1/\∃g,z.2=b8 g/\hq n z0 g) (λz=>b-z.1),_,⟨(i0,C),⟨az6,c,hC,d⟩,rfl,az5⟩,?_⟩;clear d1 d2 d3 t6 S hC d;rintro _ _ ⟨⟨i,C⟩,⟨A,c,hC,d⟩,rfl,rfl⟩;dsimp only at A hC⊢;obtain⟨d1,d2,d3⟩:=aV.of ae (ez c);rw[<-hC]at d1 d2 d3;by_cases t:i<b
 .have t1:=ek ae t;refine ak ?_;refine⟨bX (λz:Nat×List ah=>asP z.2 N M D n a b i z.1) (λz=>(a<=z.1/\z.1<=i)/\∃g,z.2=b8 g/\hq n z0 g) (λz=>z.1),_,⟨(i,C),⟨⟨az6,aCw _⟩,c,hC,d⟩,rfl,az5⟩,?_⟩;clear d1 d2 d3 hC d;rintro _ _ ⟨⟨j,C⟩,⟨⟨G,R⟩,c,hC,d⟩,rfl,rfl⟩;dsimp only at G R hC⊢;obtain⟨d1,d2,d3⟩:=aV.of ae (ez c);rw[<-hC]at d1 d2 d3;have t6:=b9 ae (n:=i) az6;by_cases o:a<j
  .have t1:=D9 ae o;obtain⟨f,rfl⟩:∃f,j=f+1:=⟨j-1,az6⟩;have t7:=qx ae (n:=f+1) (m:=f) rfl az6;obtain⟨x,y,Y,H,J,⟨P,L,F,B⟩,⟨fw,eY,fa,fG⟩,⟨g',lb,hD,u8⟩,⟨v1,v2,v3,v4⟩,w1,b5,eG⟩:=HQ ae hC d (p:=(f+1)) (q:=f) az6 az6;obtain⟨r,aj⟩:=l _ _ F B;clear l;generalize V:f+1=U at*;cases cI:E.aB .lss r 0 with
   |true=>
    refine ak ?_;exact fixF (f,H) ⟨⟨az6,az6⟩,J,P,L⟩
   |false=>
    refine ak ?_;exact fixF (i+1,C) ⟨az6,c,hC,d⟩
  .have t1:=D' ae o;refine ak ?_;exact fixF (i+1,C) ⟨az6,c,hC,d⟩
 .have t1:=en ae t;replace k:=λs h=>k (.tuple []) s ⟨c,d,rfl,h⟩;rw[<-hC]at k;refine ak ?_;simp_all
def asS(C N M D:List ah)(n a b m i:Nat):ag:=cA [(0,.aP 0 0 n n 1),(1,.d (int (Int.ofNat a))),(2,.d (int (Int.ofNat b))),(3,.d (int (Int.ofNat m))),(10,.d (int (Int.ofNat i)))] (jQ C N M D n)
theorem asT{n:Nat}{z0:List Int}{N M D:List ah}(A:wU n N M D)(a b m:Nat)(H:a+m<=n)(au:b+m<=n):rW 207 [.aP 0 0 n n 1,.d (int (Int.ofNat a)),.d (int (Int.ofNat b)),.d (int (Int.ofNat m)),.func 49 [] [.ptr 1 0]] n z0 N M D:=by
 intro c d;refine Bl ?_;obtain⟨G,j,l,k,r⟩:=A;clear r;refine abn.iX [0,3,4,5] _ λE ae K f=> ?_;obtain⟨bp,a2,a3⟩:=aV.of ae j;obtain⟨bq,aT,b3⟩:=aV.of ae l;obtain⟨c1,c2,c3⟩:=aV.of ae k;clear j l k;unfold jQ cv at*;generalize hC:b8 c=C at*;replace hC:=hC.symm;obtain⟨d1,d2,d3⟩:=aV.of ae (ez c);rw[<-hC]at d1 d2 d3;refine ak ?_;refine⟨bX (λz:Nat×List ah=>asS z.2 N M D n a b m z.1) (λz=>∃o,z.2=b8 o/\hq n z0 o) (λz=>m-z.1),_,⟨(0,C),⟨c,hC,d⟩,rfl,az5⟩,?_⟩;clear d1 d2 d3 hC d;rintro _ _ ⟨⟨i,C⟩,⟨c,hC,d⟩,rfl,rfl⟩;dsimp only at hC⊢;obtain⟨d1,d2,d3⟩:=aV.of ae (ez c);rw[<-hC]at d1 d2 d3;by_cases g:i<m
 .have t1:=ek ae g;have t2:=qI ae (a:=a) (b:=i) az6;have t3:=qI ae (a:=b) (b:=i) az6;have t6:=b9 ae (n:=i) az6;obtain⟨x,y,J,t,u,⟨w,v,F,B⟩,⟨fw,eY,fa,fG⟩,⟨g',lb,hD,u8⟩,⟨v1,v2,v3,v4⟩,w1,b5,eG⟩:=HQ ae hC d (p:=(a+i)) (q:=(b+i)) az6 az6;generalize a+i=p at*;generalize b+i=q at*;refine ak ?_;exact fixF (i+1,t) ⟨u,w,v⟩
 .have t1:=en ae g;replace f:=λs h=>f (.tuple []) s ⟨c,d,rfl,h⟩;rw[<-hC]at f;refine ak ?_;simp_all
def asU(C N M D:List ah)(n m i j:Nat):ag:=cA [(0,.aP 0 0 n n 1),(2,.d (int (Int.ofNat m))),(4,.func 49 [] [.ptr 1 0]),(10,.d (int (Int.ofNat i))),(11,.d (int (Int.ofNat j)))] (jQ C N M D n)
theorem asV{n:Nat}{z0:List Int}{N M D:List ah}(t:wU n N M D)(a m b:Nat)(E:a<m)(hm:m<b)(au:b<=n):rW 161 [.aP 0 0 n n 1,.d (int (Int.ofNat a)),.d (int (Int.ofNat m)),.d (int (Int.ofNat b)),.func 49 [] [.ptr 1 0]] n z0 N M D:=by
 intro d g;refine Bl ?_;obtain⟨aq,B,H,F,U⟩:=id t;clear U;refine W9.iX [0,3,4,5] _ λad ae ai A=> ?_;obtain⟨bp,a2,a3⟩:=aV.of ae B;obtain⟨bq,aT,b3⟩:=aV.of ae H;obtain⟨c1,c2,c3⟩:=aV.of ae F;clear B H F;have f:=λa b m E au=>asT (z0:=z0) t a b m E au;clear t;unfold rW at f;unfold jQ cv at*;generalize hC:b8 d=C at*;replace hC:=hC.symm;obtain⟨d1,d2,d3⟩:=aV.of ae (ez d);rw[<-hC]at d1 d2 d3;have t1:=pE ae (a:=m) (b:=a) az6 az6;have t2:=pE ae (a:=b) (b:=m) az6 az6;obtain⟨X,Q⟩:∃k,k=m-a:=⟨_,rfl⟩;obtain⟨V,u⟩:∃k,k=b-m:=⟨_,rfl⟩;rw[<-Q]at t1;rw[<-u]at t2;refine ak ?_;refine⟨bX (λz:(Nat×Nat)×List ah=>asU z.2 N M D n m z.1.1 z.1.2) (λz=>(0<z.1.1/\0<z.1.2/\z.1.1<=m/\m+z.1.2<=n)/\∃J,z.2=b8 J/\hq n z0 J) (λz=>z.1.1+z.1.2),_,⟨((X,V),C),⟨⟨az9,az9,az9,az9⟩,d,hC,g⟩,rfl,az5⟩,?_⟩;clear d1 d2 d3 hC g t1 t2 Q u;rintro _ _ ⟨⟨⟨i,j⟩,C⟩,⟨⟨L,w,P,v⟩,d,hC,g⟩,rfl,rfl⟩;dsimp only at L w P v hC⊢;obtain⟨d1,d2,d3⟩:=aV.of ae (ez d);rw[<-hC]at d1 d2 d3;have t3:=pE ae (a:=m) (b:=i) az6 az6;by_cases G:i=j
 .have t1:=asM ae G;obtain⟨c,l,aj⟩:=f (m-i) m i az6 az6 d g;clear f;obtain⟨w1,b5,eG⟩:=aV.of ae (ez c);replace A:=λs h=>A (.tuple []) s ⟨c,l,rfl,h⟩;rw[<-hC]at aj;generalize r:b8 c=o at*;generalize m-i=p at*;refine ak ?_;simp_all
 .have t1:=asL ae G;by_cases K:j<i
  .have t2:=D9 ae K;have t4:=pE ae (a:=i) (b:=j) az6 az6;obtain⟨c,l,aj⟩:=f (m-i) m j az6 az6 d g;clear f;obtain⟨w1,b5,eG⟩:=aV.of ae (ez c);rw[<-hC]at aj;generalize r:b8 c=o at*;generalize m-i=p at*;obtain⟨Y,Z⟩:∃k,k=i-j:=⟨_,rfl⟩;rw[<-Z]at t4;refine ak ?_;exact fixF ((Y,j),o) ⟨⟨az9,w,az9,v⟩,c,r.symm,l⟩
  .have t2:=D' ae K;have t4:=qI ae (a:=m) (b:=j) az6;have t5:=pE ae (a:=m+j) (b:=i) az6 az6;have t6:=pE ae (a:=j) (b:=i) az6 az6;obtain⟨c,l,aj⟩:=f (m-i) (m+j-i) i az6 az6 d g;clear f;obtain⟨w1,b5,eG⟩:=aV.of ae (ez c);rw[<-hC]at aj;generalize r:b8 c=o at*;generalize m-i=p at*;generalize m+j-i=q at*;obtain⟨ar,zW⟩:∃k,k=m+j:=⟨_,rfl⟩;rw[<-zW]at t4 t5;obtain⟨R,S⟩:∃k,k=j-i:=⟨_,rfl⟩;rw[<-S]at t6;refine ak ?_;exact fixF ((i,R),o) ⟨⟨L,az9,P,az9⟩,c,r.symm,l⟩
theorem dt{aR:Nat->ah}{k:Nat}{v:ah}{l:List (Nat×ah)}(h:aR k=v)(a:∀p∈l,aR p.1=p.2):∀p∈(k,v)::l,aR p.1=p.2:=λp hp=>by
 rcases aCJ.1 hp with rfl|hp
 .exact h
 .exact a p hp
theorem tB{aR:Nat->ah}:∀p∈([]:List (Nat×ah)),aR p.1=p.2:=λ_ hp=>by cases hp
def asW(C N M D:List ah)(n a i j:Nat):ag:=cA [(0,.aP 0 0 n n 1),(1,.d (int (Int.ofNat a))),(4,.func 49 [] [.ptr 1 0]),(10,.d (int (Int.ofNat i))),(11,.d (int (Int.ofNat j)))] (jQ C N M D n)
def asX(C N M D:List ah)(n i k:Nat):ag:=cA [(0,.aP 0 0 n n 1),(10,.d (int (Int.ofNat i))),(13,.d (int (Int.ofNat k)))] (jQ C N M D n)
def asY(C N M D:List ah)(n m i j:Nat):ag:=cA [(0,.aP 0 0 n n 1),(2,.d (int (Int.ofNat m))),(4,.func 49 [] [.ptr 1 0]),(14,.d (int (Int.ofNat i))),(15,.d (int (Int.ofNat j)))] (jQ C N M D n)
def asZ(C N M D:List ah)(n i k:Nat):ag:=cA [(0,.aP 0 0 n n 1),(14,.d (int (Int.ofNat i))),(17,.d (int (Int.ofNat k)))] (jQ C N M D n)
def aee(C N M D:List ah)(n a m b d c p s r:Nat):ag:=cA [(0,.aP 0 0 n n 1),(1,.d (int (Int.ofNat a))),(2,.d (int (Int.ofNat m))),(3,.d (int (Int.ofNat b))),(4,.func 49 [] [.ptr 1 0]),(18,.d (int (Int.ofNat d))),(19,.d (int (Int.ofNat c))),(20,.d (int (Int.ofNat s))),(21,.d (int (Int.ofNat r))),(22,.d (int (Int.ofNat p)))] (jQ C N M D n)
set_option maxHeartbeats 40000000 in
theorem as0{n:Nat}{z0:List Int}{N M D:List ah}(fj:wU n N M D)(a m b:Nat)(bn:a<m)(hm:m<b)(au:b<=n)(G:∀a' m' cr:Nat,cr-a'<b-a->a'<m'->m'<cr->cr<=n->rW 110 [.aP 0 0 n n 1,.d (int (Int.ofNat a')),.d (int (Int.ofNat m')),.d (int (Int.ofNat cr)),.func 49 [] [.ptr 1 0]] n z0 N M D):rW 110 [.aP 0 0 n n 1,.d (int (Int.ofNat a)),.d (int (Int.ofNat m)),.d (int (Int.ofNat b)),.func 49 [] [.ptr 1 0]] n z0 N M D:=by
 intro g d;refine Bl ?_;obtain⟨aq,b4,ck,cD,v⟩:=id fj;have Q:=λs m e h1 af av=>asV (z0:=z0) fj s m e h1 af av;unfold rW at G Q;unfold HR at v;refine US.iX [0,3,4,5] _ λad ae aZ o=> ?_;obtain⟨bp,a2,a3⟩:=aV.of ae b4;obtain⟨bq,aT,b3⟩:=aV.of ae ck;obtain⟨c1,c2,c3⟩:=aV.of ae cD;clear b4 ck cD fj;unfold jQ cv at*;generalize hC:b8 g=C at*;replace hC:=hC.symm;obtain⟨d1,d2,d3⟩:=aV.of ae (ez g);rw[<-hC]at d1 d2 d3;obtain⟨l6,U⟩:∃k:Go.aG.aD->ag->Prop,k=λx f=>match x with|.ret=>∃t:List Int,hq n z0 t/\f.bM=(λ_=>none)/\f.s=[.box (b8 t),.box [.ptr 2 0],.box [.aP 3 0 n n 1,.aP 4 0 n n 1,.aP 5 0 n n 1],.box N,.box M,.box D]|.normal=>qs f [(0,.aP 0 0 n n 1),(1,.d (int (Int.ofNat a))),(2,.d (int (Int.ofNat m))),(3,.d (int (Int.ofNat b))),(4,.func 49 [] [.ptr 1 0])] (λ_=>none) [.box C,.box [.ptr 2 0],.box [.aP 3 0 n n 1,.aP 4 0 n n 1,.aP 5 0 n n 1],.box N,.box M,.box D]|_=>False:=⟨_,rfl⟩
 refine yu ae [_] l6 ?_ ?_
 .clear o G Q;have t1:=pE ae (a:=m) (b:=a) az6 az6;obtain⟨k,hk⟩:∃k,k=m-a:=⟨_,rfl⟩;rw[<-hk]at t1;have t2:=one? ae k;by_cases h1:k=1
  .rw[aCI h1]at t2;refine ak ?_;clear t1 t2;refine⟨bX (λz:Nat×Nat=>asW C N M D n a z.1 z.2) (λz=>m<=z.1/\z.1<=z.2/\z.2<=b) (λz=>z.2-z.1),_,⟨(m,b),⟨aCw _,by show m<=b;omega,aCw _⟩,rfl,az5⟩,?_⟩;rintro _ _ ⟨⟨i,j⟩,⟨B,L,w⟩,rfl,rfl⟩;dsimp only at B L w⊢;by_cases A:i<j
   .have t1:=ek ae A;have t2:=qI ae (a:=i) (b:=j) az6;obtain⟨t3,t4,t5,t6⟩:=Ea ae (a:=i+j) az6;obtain⟨h,P⟩:∃h,h=(i+j)/2:=⟨_,rfl⟩;rw[<-P]at t5 t6;have t7:=b9 ae (n:=h) az6;have NR:i<=h:=az6;have NS:h<j:=az6;obtain⟨x,c,bP,bZ,cx,nS⟩:=tA ae hC d (p:=h) az6;obtain⟨y,H,cb,cp,cy,kG⟩:=tA ae hC d (p:=a) az6;obtain⟨r,aj⟩:=v x y c H;clear v;generalize i+j=NT at*;cases cI:ad.aB .lss r 0 with
    |true=>
     refine ak ?_;exact ea (h+1,j) ⟨by show m<=h+1;omega,aBr,w⟩ aBs az5
    |false=>
     refine ak ?_;exact ea (i,h) ⟨B,aBt,by show h<=b;omega⟩ aBu az5
   .have t1:=en ae A;obtain⟨Y,hY⟩:∃Y,i=Y+1:=⟨i-1,az6⟩;have t2:=qx ae hY az6;refine ak ?_;refine⟨bX (λz:Nat×List ah=>asX z.2 N M D n i z.1) (λz=>a<=z.1/\∃t,z.2=b8 t/\hq n z0 t) (λz=>Y-z.1),_,⟨(a,C),⟨aCw _,g,hC,d⟩,rfl,az5⟩,?_⟩;clear t1 d1 d2 d3 v;rintro _ _ ⟨⟨k,C⟩,⟨aN,g,hC,d⟩,rfl,rfl⟩;dsimp only at aN hC⊢;obtain⟨d1,d2,d3⟩:=aV.of ae (ez g);rw[<-hC]at d1 d2 d3;by_cases e0:k<Y
    .have t1:=ek ae e0;have t3:=b9 ae (n:=k) az6;obtain⟨x,y,nz,J,l,⟨K,u,c,H⟩,⟨fw,eY,fa,fG⟩,⟨g',lb,hD,u8⟩,⟨v1,v2,v3,v4⟩,w1,b5,eG⟩:=HQ ae hC d (p:=k) (q:=(k+1)) az6 az6;generalize eZ:k+1=F at*;refine ak ?_;exact ea (F,J) ⟨by show a<=F;omega,l,K,u⟩ (by show Y-F<Y-k;omega) az5
    .have t1:=en ae e0;refine ak ?_
     (rw[U];subst hC;exact⟨g,d,az5,az5⟩)
  .rw[aC3 h1]at t2;refine ak ?_
   (rw[U];exact⟨(dt az5 (dt az5 (dt az5 (dt az5 (dt az5 tB))))),az5,az5⟩)
 intro x f c;cases x with
 |exit i=>rw[U]at c;exact c.elim
 |ret=>
  rw[U]at c;obtain⟨l,u,h1,af⟩:=c;obtain⟨X,bM,s⟩:=f;dsimp only at h1 af;subst h1;subst af;obtain⟨w1,b5,eG⟩:=aV.of ae (ez l);replace o:=λs h=>o (.tuple []) s ⟨l,u,rfl,h⟩;generalize b8 l=J at*;refine ak ?_;exact o _ az5
 |normal=>
  rw[U]at c;rw[qs.eq c];generalize f.aR=X;clear c U l6;obtain⟨iM,Z⟩:∃k:Go.aG.aD->ag->Prop,k=λx f=>match x with|.ret=>∃t:List Int,hq n z0 t/\f.bM=(λ_=>none)/\f.s=[.box (b8 t),.box [.ptr 2 0],.box [.aP 3 0 n n 1,.aP 4 0 n n 1,.aP 5 0 n n 1],.box N,.box M,.box D]|.normal=>qs f [(0,.aP 0 0 n n 1),(1,.d (int (Int.ofNat a))),(2,.d (int (Int.ofNat m))),(3,.d (int (Int.ofNat b))),(4,.func 49 [] [.ptr 1 0])] (λ_=>none) [.box C,.box [.ptr 2 0],.box [.aP 3 0 n n 1,.aP 4 0 n n 1,.aP 5 0 n n 1],.box N,.box M,.box D]|_=>False:=⟨_,rfl⟩
  refine yu ae [_] iM ?_ ?_
  .clear o G Q;have t1:=pE ae (a:=b) (b:=m) az6 az6;obtain⟨k,hk⟩:∃k,k=b-m:=⟨_,rfl⟩;rw[<-hk]at t1;have t2:=one? ae k;by_cases h1:k=1
   .rw[aCI h1]at t2;refine ak ?_;clear t1 t2;refine⟨bX (λz:Nat×Nat=>asY C N M D n m z.1 z.2) (λz=>a<=z.1/\z.1<=z.2/\z.2<=m) (λz=>z.2-z.1),_,⟨(a,m),⟨aCw _,by show a<=m;omega,aCw _⟩,rfl,az5⟩,?_⟩;rintro _ _ ⟨⟨i,j⟩,⟨B,L,w⟩,rfl,rfl⟩;dsimp only at B L w⊢;by_cases A:i<j
    .have t1:=ek ae A;have t2:=qI ae (a:=i) (b:=j) az6;obtain⟨t3,t4,t5,t6⟩:=Ea ae (a:=i+j) az6;obtain⟨h,P⟩:∃h,h=(i+j)/2:=⟨_,rfl⟩;rw[<-P]at t5 t6;have t7:=b9 ae (n:=h) az6;have NR:i<=h:=az6;have NS:h<j:=az6;obtain⟨x,c,bP,bZ,cx,nS⟩:=tA ae hC d (p:=m) az6;obtain⟨y,H,cb,cp,cy,kG⟩:=tA ae hC d (p:=h) az6;obtain⟨r,aj⟩:=v x y c H;clear v;generalize i+j=NT at*;cases cI:ad.aB .lss r 0 with
     |true=>
      refine ak ?_;exact ea (i,h) ⟨B,aBt,by show h<=m;omega⟩ aBu az5
     |false=>
      refine ak ?_;exact ea (h+1,j) ⟨by show a<=h+1;omega,aBr,w⟩ aBs az5
    .have t1:=en ae A;refine ak ?_;refine⟨bX (λz:Nat×List ah=>asZ z.2 N M D n i z.1) (λz=>z.1<=m/\∃t,z.2=b8 t/\hq n z0 t) (λz=>z.1),_,⟨(m,C),⟨aCw _,g,hC,d⟩,rfl,az5⟩,?_⟩;clear t1 d1 d2 d3 v;rintro _ _ ⟨⟨k,C⟩,⟨aP,g,hC,d⟩,rfl,rfl⟩;dsimp only at aP hC⊢;obtain⟨d1,d2,d3⟩:=aV.of ae (ez g);rw[<-hC]at d1 d2 d3;by_cases e0:i<k
     .have t1:=D9 ae e0;obtain⟨F,eZ⟩:∃F,k=F+1:=⟨k-1,az6⟩;have t3:=qx ae eZ az6;obtain⟨x,y,nz,J,l,⟨K,u,c,H⟩,⟨fw,eY,fa,fG⟩,⟨g',lb,hD,u8⟩,⟨v1,v2,v3,v4⟩,w1,b5,eG⟩:=HQ ae hC d (p:=k) (q:=F) az6 az6;refine ak ?_;exact ea (F,J) ⟨by show F<=m;omega,l,K,u⟩ (by show F<k;omega) az5
     .have t1:=D' ae e0;refine ak ?_
      (rw[Z];subst hC;exact⟨g,d,az5,az5⟩)
   .rw[aC3 h1]at t2;refine ak ?_
    (rw[Z];exact⟨(dt az5 (dt az5 (dt az5 (dt az5 (dt az5 tB))))),az5,az5⟩)
  intro x f c;cases x with
  |exit i=>rw[Z]at c;exact c.elim
  |ret=>
   rw[Z]at c;obtain⟨l,u,h1,af⟩:=c;obtain⟨X,bM,s⟩:=f;dsimp only at h1 af;subst h1;subst af;obtain⟨w1,b5,eG⟩:=aV.of ae (ez l);replace o:=λs h=>o (.tuple []) s ⟨l,u,rfl,h⟩;generalize b8 l=J at*;refine ak ?_;exact o _ az5
  |normal=>
   rw[Z]at c;rw[qs.eq c];generalize f.aR=X;clear c Z iM;obtain⟨mid,aU⟩:∃k,k=(a+b)/2:=⟨_,rfl⟩;have Nu:mid<b:=az6;have ly:a<=mid:=az6;have bh:2*mid<=a+b:=az6;have bk:a+b<=2*mid+1:=az6;obtain⟨ar,V⟩:∃k:Go.aG.aD->ag->Prop,k=λx f=>match x with|.normal=>∃s e:Nat,e<=b/\qs f [(0,.aP 0 0 n n 1),(1,.d (int (Int.ofNat a))),(2,.d (int (Int.ofNat m))),(3,.d (int (Int.ofNat b))),(4,.func 49 [] [.ptr 1 0]),(18,.d (int (Int.ofNat mid))),(20,.d (int (Int.ofNat s))),(24,.d (int (Int.ofNat e)))] (λ_=>none) [.box C,.box [.ptr 2 0],.box [.aP 3 0 n n 1,.aP 4 0 n n 1,.aP 5 0 n n 1],.box N,.box M,.box D]|_=>False:=⟨_,rfl⟩
   refine yu ae [_,_,_,_,_,_,_] ar ?_ ?_
   .clear o G Q;have t1:=qI ae (a:=a) (b:=b) az6;obtain⟨t2,t3,t4,t5⟩:=Ea ae (a:=a+b) az6;rw[<-aU]at t4 t5;have t6:=qI ae (a:=mid) (b:=m) az6;obtain⟨E,gk⟩:∃k,k=mid+m:=⟨_,rfl⟩;rw[<-gk]at t6;obtain⟨p,hp⟩:∃p,E=p+1:=⟨E-1,az6⟩;have t7:=qx ae hp az6;by_cases zQ:mid<m
    .have t8:=D9 ae zQ;have lC:=pE ae (a:=E) (b:=b) az6 az6;obtain⟨fr,HS⟩:∃k,k=E-b:=⟨_,rfl⟩;rw[<-HS]at lC;generalize oM:a+b=ab at*;refine ak ?_;clear t1 t2 t3 t4 t5 t6 t7 t8 lC;refine⟨bX (λz:Nat×Nat=>aee C N M D n a m b mid E p z.1 z.2) (λz=>fr<=z.1/\z.1<=z.2/\z.2<=mid) (λz=>z.2-z.1),_,⟨(fr,mid),⟨aCw _,by show fr<=mid;omega,aCw _⟩,rfl,az5⟩,?_⟩;rintro _ _ ⟨⟨i,j⟩,⟨B,L,w⟩,rfl,rfl⟩;dsimp only at B L w⊢;by_cases A:i<j
     .have t1:=ek ae A;have t2:=qI ae (a:=i) (b:=j) az6;obtain⟨t3,t4,t5,t6⟩:=Ea ae (a:=i+j) az6;obtain⟨h,P⟩:∃h,h=(i+j)/2:=⟨_,rfl⟩;rw[<-P]at t5 t6;have t7:=b9 ae (n:=h) az6;have NR:i<=h:=az6;have NS:h<j:=az6;have t8:=pE ae (a:=p) (b:=h) az6 az6;obtain⟨x,c,bP,bZ,cx,nS⟩:=tA ae hC d (p:=(p-h)) az6;obtain⟨y,H,cb,cp,cy,kG⟩:=tA ae hC d (p:=h) az6;obtain⟨r,aj⟩:=v x y c H;clear v;generalize i+j=NT at*;generalize p-h=ph at*;cases cI:ad.aB .lss r 0 with
      |true=>
       refine ak ?_;exact ea (i,h) ⟨B,aBt,by show h<=mid;omega⟩ aBu az5
      |false=>
       refine ak ?_;exact ea (h+1,j) ⟨by show fr<=h+1;omega,aBr,w⟩ aBs az5
     .have t1:=en ae A;have t2:=pE ae (a:=E) (b:=i) az6 az6;obtain⟨e,he⟩:∃e,e=E-i:=⟨_,rfl⟩;rw[<-he]at t2;refine ak ?_
      (rw[V];exact⟨i,e,az6,(dt az5 (dt az5 (dt az5 (dt az5 (dt az5 (dt az5 (dt az5 (dt az5 tB)))))))),az5,az5⟩)
    .have t8:=D' ae zQ;generalize oM:a+b=ab at*;refine ak ?_;clear t1 t2 t3 t4 t5 t6 t7 t8;refine⟨bX (λz:Nat×Nat=>aee C N M D n a m b mid E p z.1 z.2) (λz=>a<=z.1/\z.1<=z.2/\z.2<=m) (λz=>z.2-z.1),_,⟨(a,m),⟨aCw _,by show a<=m;omega,aCw _⟩,rfl,az5⟩,?_⟩;rintro _ _ ⟨⟨i,j⟩,⟨B,L,w⟩,rfl,rfl⟩;dsimp only at B L w⊢;by_cases A:i<j
     .have t1:=ek ae A;have t2:=qI ae (a:=i) (b:=j) az6;obtain⟨t3,t4,t5,t6⟩:=Ea ae (a:=i+j) az6;obtain⟨h,P⟩:∃h,h=(i+j)/2:=⟨_,rfl⟩;rw[<-P]at t5 t6;have t7:=b9 ae (n:=h) az6;have NR:i<=h:=az6;have NS:h<j:=az6;have t8:=pE ae (a:=p) (b:=h) az6 az6;obtain⟨x,c,bP,bZ,cx,nS⟩:=tA ae hC d (p:=(p-h)) az6;obtain⟨y,H,cb,cp,cy,kG⟩:=tA ae hC d (p:=h) az6;obtain⟨r,aj⟩:=v x y c H;clear v;generalize i+j=NT at*;generalize p-h=ph at*;cases cI:ad.aB .lss r 0 with
      |true=>
       refine ak ?_;exact ea (i,h) ⟨B,aBt,by show h<=m;omega⟩ aBu az5
      |false=>
       refine ak ?_;exact ea (h+1,j) ⟨by show a<=h+1;omega,aBr,w⟩ aBs az5
     .have t1:=en ae A;have t2:=pE ae (a:=E) (b:=i) az6 az6;obtain⟨e,he⟩:∃e,e=E-i:=⟨_,rfl⟩;rw[<-he]at t2;refine ak ?_
      (rw[V];exact⟨i,e,az6,(dt az5 (dt az5 (dt az5 (dt az5 (dt az5 (dt az5 (dt az5 (dt az5 tB)))))))),az5,az5⟩)
   intro x f c;cases x with
   |exit i=>rw[V]at c;exact c.elim
   |ret=>rw[V]at c;exact c.elim
   |normal=>
    rw[V]at c;obtain⟨s,e,sA,c⟩:=c;rw[qs.eq c];generalize f.aR=X;clear c V ar v;obtain⟨aB,R⟩:∃k:Go.aG.aD->ag->Prop,k=λx f=>match x with|.normal=>∃t:List Int,hq n z0 t/\qs f [(0,.aP 0 0 n n 1),(1,.d (int (Int.ofNat a))),(2,.d (int (Int.ofNat m))),(3,.d (int (Int.ofNat b))),(4,.func 49 [] [.ptr 1 0]),(18,.d (int (Int.ofNat mid))),(20,.d (int (Int.ofNat s))),(24,.d (int (Int.ofNat e)))] (λ_=>none) [.box (b8 t),.box [.ptr 2 0],.box [.aP 3 0 n n 1,.aP 4 0 n n 1,.aP 5 0 n n 1],.box N,.box M,.box D]|_=>False:=⟨_,rfl⟩
    refine yu ae [_] aB ?_ ?_
    .clear o;by_cases h1:s<m
     .have t1:=ek ae h1;by_cases af:m<e
      .have t2:=ek ae af;obtain⟨l,u,aj⟩:=Q s m e h1 af az6 g d;clear G Q;obtain⟨w1,b5,eG⟩:=aV.of ae (ez l);rw[<-hC]at aj;generalize K:b8 l=J at*;refine ak ?_
       (rw[R];subst K;exact⟨l,u,(dt az5 (dt az5 (dt az5 (dt az5 (dt az5 (dt az5 (dt az5 (dt az5 tB)))))))),az5,az5⟩)
      .have t2:=en ae af;refine ak ?_
       (rw[R];subst hC;exact⟨g,d,(dt az5 (dt az5 (dt az5 (dt az5 (dt az5 (dt az5 (dt az5 (dt az5 tB)))))))),az5,az5⟩)
     .have t1:=en ae h1;refine ak ?_
      (rw[R];subst hC;exact⟨g,d,(dt az5 (dt az5 (dt az5 (dt az5 (dt az5 (dt az5 (dt az5 (dt az5 tB)))))))),az5,az5⟩)
    clear Q;intro x f c;cases x with
    |exit i=>rw[R]at c;exact c.elim
    |ret=>rw[R]at c;exact c.elim
    |normal=>
     rw[R]at c;obtain⟨g,d,c⟩:=c;rw[qs.eq c];generalize f.aR=X;clear c R aB;clear d1 d2 d3 hC;generalize hC:b8 g=C at*;replace hC:=hC.symm;obtain⟨d1,d2,d3⟩:=aV.of ae (ez g);rw[<-hC]at d1 d2 d3;obtain⟨aM,S⟩:∃k:Go.aG.aD->ag->Prop,k=λx f=>match x with|.normal=>∃t:List Int,hq n z0 t/\qs f [(0,.aP 0 0 n n 1),(1,.d (int (Int.ofNat a))),(2,.d (int (Int.ofNat m))),(3,.d (int (Int.ofNat b))),(4,.func 49 [] [.ptr 1 0]),(18,.d (int (Int.ofNat mid))),(20,.d (int (Int.ofNat s))),(24,.d (int (Int.ofNat e)))] (λ_=>none) [.box (b8 t),.box [.ptr 2 0],.box [.aP 3 0 n n 1,.aP 4 0 n n 1,.aP 5 0 n n 1],.box N,.box M,.box D]|_=>False:=⟨_,rfl⟩
     refine yu ae [_] aM ?_ ?_
     .clear o;by_cases h1:a<s
      .have t1:=ek ae h1;by_cases af:s<mid
       .have t2:=ek ae af;obtain⟨l,u,aj⟩:=G a s mid az6 h1 af az6 g d;clear G;obtain⟨w1,b5,eG⟩:=aV.of ae (ez l);rw[<-hC]at aj;generalize K:b8 l=J at*;refine ak ?_
        (rw[S];subst K;exact⟨l,u,(dt az5 (dt az5 (dt az5 (dt az5 (dt az5 (dt az5 (dt az5 (dt az5 tB)))))))),az5,az5⟩)
       .have t2:=en ae af;refine ak ?_
        (rw[S];subst hC;exact⟨g,d,(dt az5 (dt az5 (dt az5 (dt az5 (dt az5 (dt az5 (dt az5 (dt az5 tB)))))))),az5,az5⟩)
      .have t1:=en ae h1;refine ak ?_
       (rw[S];subst hC;exact⟨g,d,(dt az5 (dt az5 (dt az5 (dt az5 (dt az5 (dt az5 (dt az5 (dt az5 tB)))))))),az5,az5⟩)
     intro x f c;cases x with
     |exit i=>rw[S]at c;exact c.elim
     |ret=>rw[S]at c;exact c.elim
     |normal=>
      rw[S]at c;obtain⟨g,d,c⟩:=c;rw[qs.eq c];generalize f.aR=X;clear c S aM;clear d1 d2 d3 hC;generalize hC:b8 g=C at*;replace hC:=hC.symm;obtain⟨d1,d2,d3⟩:=aV.of ae (ez g);rw[<-hC]at d1 d2 d3;by_cases h1:mid<e
      .have t1:=ek ae h1;by_cases af:e<b
       .have t2:=ek ae af;obtain⟨l,u,aj⟩:=G mid e b az6 h1 af az6 g d;clear G;obtain⟨w1,b5,eG⟩:=aV.of ae (ez l);rw[<-hC]at aj;replace o:=λs h=>o (.tuple []) s ⟨l,u,rfl,h⟩;generalize K:b8 l=J at*;refine ak ?_;exact o _ az5
       .have t2:=en ae af;replace o:=λs h=>o (.tuple []) s ⟨g,d,rfl,h⟩;rw[<-hC]at o;refine ak ?_;exact o _ az5
      .have t1:=en ae h1;replace o:=λs h=>o (.tuple []) s ⟨g,d,rfl,h⟩;rw[<-hC]at o;refine ak ?_;exact o _ az5
theorem aei{n:Nat}{z0:List Int}{N M D:List ah}(f:wU n N M D):∀(k a m b:Nat),b-a<=k->a<m->m<b->b<=n->rW 110 [.aP 0 0 n n 1,.d (int (Int.ofNat a)),.d (int (Int.ofNat m)),.d (int (Int.ofNat b)),.func 49 [] [.ptr 1 0]] n z0 N M D
 |0,a,m,b,h,h1,c,d=>az6
 |k+1,a,m,b,h,h1,c,d=>as0 f a m b h1 c d λa' l j g g1 g2 g3=>aei f k a' l j az6 g1 g2 g3
theorem as4{a:bd}(h:a=bd.bU){b:Nat}(au:b<=1152921504606846976):a.io .mul .i64 2 (Int.ofNat b)=Int.ofNat (2*b)/\a.io .mul .i64 (Int.ofNat b) 2=Int.ofNat (2*b):=by
 subst h;constructor
 .show IntKind.wrap .i64 (2*Int.ofNat b)=_;rw[aG.wrap_small aAo aAo];simp only[aCy];omega
 .show IntKind.wrap .i64 (Int.ofNat b*2)=_;rw[aG.wrap_small aAo aAo];simp only[aCy];omega
def aej(C N M D:List ah)(n c a b:Nat):ag:=cA [(0,.aP 0 0 n n 1),(1,.d (int (Int.ofNat n))),(2,.func 49 [] [.ptr 1 0]),(6,.d (int (Int.ofNat c))),(7,.d (int (Int.ofNat a))),(8,.d (int (Int.ofNat b)))] (jQ C N M D n)
def as5(C N M D:List ah)(n a:Nat):ag:=cA [(0,.aP 0 0 n n 1),(1,.d (int (Int.ofNat n))),(2,.func 49 [] [.ptr 1 0]),(6,.d (int (Int.ofNat a)))] (jQ C N M D n)
theorem as6{n:Nat}{z0:List Int}{N M D:List ah}(B:wU n N M D):rW 72 [.aP 0 0 n n 1,.d (int (Int.ofNat n)),.func 49 [] [.ptr 1 0]] n z0 N M D:=by
 intro c f;refine Bl ?_;obtain⟨U,G,J,H,R⟩:=id B;clear R;have u:=λa b h1 af=>asQ (z0:=z0) B a b h1 af;have t:=λa m b h1 af av=>aei (z0:=z0) B _ a m b (aCw _) h1 af av;unfold rW at u t;refine Mi.iX [0,3,4,5] _ λL ae K A=> ?_;obtain⟨bp,a2,a3⟩:=aV.of ae G;obtain⟨bq,aT,b3⟩:=aV.of ae J;obtain⟨c1,c2,c3⟩:=aV.of ae H;clear G J H B;unfold jQ cv at*;generalize hC:b8 c=C at*;replace hC:=hC.symm;obtain⟨d1,d2,d3⟩:=aV.of ae (ez c);rw[<-hC]at d1 d2 d3;refine ak ?_;refine⟨bX (λz:(Nat×Nat)×List ah=>aej z.2 N M D n 20 z.1.1 z.1.2) (λz=>(z.1.1<=n/\z.1.2=z.1.1+20)/\∃o,z.2=b8 o/\hq n z0 o) (λz=>n+20-z.1.2),_,⟨((0,20),C),⟨⟨aCu _,rfl⟩,c,hC,f⟩,rfl,az5⟩,?_⟩;clear d1 d2 d3 hC f;rintro _ _ ⟨⟨⟨a,b⟩,C⟩,⟨⟨v,F⟩,c,hC,f⟩,rfl,rfl⟩;dsimp only at v F hC⊢;obtain⟨d1,d2,d3⟩:=aV.of ae (ez c);rw[<-hC]at d1 d2 d3;by_cases r:b<=n
 .have t1:=aec ae r;have t2:L.io .add .i64 (Int.ofNat b) (Int.ofNat 20)=Int.ofNat (b+20):=qI ae az6;obtain⟨d,l,aj⟩:=u a b v r c f;clear u t;obtain⟨w1,b5,eG⟩:=aV.of ae (ez d);rw[<-hC]at aj;generalize g:b8 d=p at*;refine ak ?_;exact fixF ((b,b+20),p) ⟨⟨r,rfl⟩,d,g.symm,l⟩
 .have t1:=aed ae r;obtain⟨d,l,aj⟩:=u a n v (aCw _) c f;clear u;obtain⟨w1,b5,eG⟩:=aV.of ae (ez d);rw[<-hC]at aj;generalize g:b8 d=p at*;replace g:=g.symm;refine ak ?_;refine⟨bX (λz:Nat×List ah=>as5 z.2 N M D n z.1) (λz=>1<=z.1/\∃o,z.2=b8 o/\hq n z0 o) (λz=>n-z.1),_,⟨(20,p),⟨by show 1<=20;omega,d,g,l⟩,rfl,az5⟩,?_⟩;clear d1 d2 d3 w1 b5 eG hC f g l t1 aj;rintro _ _ ⟨⟨bs,C⟩,⟨S,c,hC,f⟩,rfl,rfl⟩;dsimp only at S hC⊢;obtain⟨d1,d2,d3⟩:=aV.of ae (ez c);rw[<-hC]at d1 d2 d3;by_cases r:bs<n
  .have t1:=ek ae r;obtain⟨m1,m2⟩:=as4 ae (b:=bs) az6;obtain⟨j,P⟩:∃k,k=2*bs:=⟨_,rfl⟩;rw[<-P]at m1 m2;refine ak ?_;refine⟨bX (λz:(Nat×Nat)×List ah=>aej z.2 N M D n bs z.1.1 z.1.2) (λz=>(z.1.1<=n/\z.1.2=z.1.1+j)/\∃o,z.2=b8 o/\hq n z0 o) (λz=>n+j-z.1.2),_,⟨((0,j),C),⟨⟨aCu _,(aDl _).symm⟩,c,hC,f⟩,rfl,az5⟩,?_⟩;clear d1 d2 d3 hC f t1;rintro _ _ ⟨⟨⟨a,b⟩,C⟩,⟨⟨v,F⟩,c,hC,f⟩,rfl,rfl⟩;dsimp only at v F hC⊢;obtain⟨d1,d2,d3⟩:=aV.of ae (ez c);rw[<-hC]at d1 d2 d3;have t2:=qI ae (a:=a) (b:=bs) az6;by_cases w:b<=n
   .have t1:=aec ae w;have t3:=qI ae (a:=b) (b:=j) az6;obtain⟨d,l,aj⟩:=t a (a+bs) b az6 az6 w c f;clear t;obtain⟨w1,b5,eG⟩:=aV.of ae (ez d);rw[<-hC]at aj;generalize g:b8 d=p at*;generalize a+bs=m at*;generalize Q:b+j=bc at*;refine ak ?_;exact fixF ((b,bc),p) ⟨⟨w,Q.symm⟩,d,g.symm,l⟩
   .have t1:=aed ae w;by_cases E:a+bs<n
    .have t3:=ek ae E;obtain⟨d,l,aj⟩:=t a (a+bs) n az6 E (aCw _) c f;clear t;obtain⟨w1,b5,eG⟩:=aV.of ae (ez d);rw[<-hC]at aj;generalize g:b8 d=p at*;generalize a+bs=m at*;refine ak ?_;exact fixF (j,p) ⟨by show 1<=j;omega,d,g.symm,l⟩
    .have t3:=en ae E;clear t;generalize a+bs=m at*;refine ak ?_;exact fixF (j,C) ⟨by show 1<=j;omega,c,hC,f⟩
  .have t1:=en ae r;replace A:=λs h=>A (.tuple []) s ⟨c,f,rfl,h⟩;rw[<-hC]at A;refine ak ?_;exact A _ az5
theorem as9{n:Nat}{z0:List Int}{N M D:List ah}(d:wU n N M D):rW 48 [.aP 0 0 n n 1,.func 49 [] [.ptr 1 0]] n z0 N M D:=by
 intro f o;refine Bl ?_;obtain⟨r,g,k,j,l⟩:=id d;clear l;obtain⟨c,m,aj⟩:=as6 (z0:=z0) d f o;refine L9.iX [0,3,4,5] _ λp ae K a=> ?_;obtain⟨bp,a2,a3⟩:=aV.of ae g;obtain⟨bq,aT,b3⟩:=aV.of ae k;obtain⟨c1,c2,c3⟩:=aV.of ae j;clear g k j d;unfold jQ cv at*;obtain⟨d1,d2,d3⟩:=aV.of ae (ez f);obtain⟨w1,b5,eG⟩:=aV.of ae (ez c);replace a:=λs h=>a (.tuple []) s ⟨c,m,rfl,h⟩;generalize b8 f=C at*;generalize b8 c=t at*;refine ak ?_;exact a _ az5
theorem HU{a:bd}(h:a=bd.bU):a.yo .dead=[]/\(∀n,a.yq n .dead=true)/\(∀f,a.yp f .dead=.dead):=by
 subst h;exact⟨rfl,λ_=>rfl,λ_=>rfl⟩
def as'(N M D:List ah)(n:Nat):ag:=cA [(0,.d (.list 1 [])),(1,.d (int 0)),(2,.d (int 0)),(3,.func 49 [] [.ptr 0 0]),(8,.d (int 1))] [.box [.ptr 1 0],.box (cv 2 3 4 n),.box N,.box M,.box D]
theorem ata{N M D:List ah}(n:Nat)(c:Flat N)(f:Flat M)(d:Flat D):aL 109 [.d (.list 1 []),.d (int 0),.d (int 0),.func 49 [] [.ptr 0 0]] [.box [.ptr 1 0],.box (cv 2 3 4 n),.box N,.box M,.box D] (.tuple []) [.box [.ptr 1 0],.box (cv 2 3 4 n),.box N,.box M,.box D]:=by
 refine Mu.fX [2,3,4] λa ae Q g=> ?_;obtain⟨bp,a2,a3⟩:=aV.of ae c;obtain⟨bq,aT,b3⟩:=aV.of ae f;obtain⟨c1,c2,c3⟩:=aV.of ae d;clear c f d;unfold cv at*;have q1:a.aB .lss 1 0=false:=aAc;have bG:a.io .add .i64 0 1=1:=aAc;have cM:a.aB .leq 20 0=false:=aAc;have dB:a.aB .lss 20 0=false:=aAc;have gE:a.len []=Nat.zero:=aAc;refine ak ?_;refine⟨bX (λ_:Unit=>as' N M D n) (λ_=>True) (λ_=>0),_,⟨(),trivial,rfl,az5⟩,?_⟩;rintro _ _ ⟨_,_,rfl,rfl⟩;refine ak ?_
 (subst ae;exact bS g az5 az5)
def atb(N M D:List ah)(n:Nat):ag:=cA [(0,.d (.list 1 [])),(1,.d (int 0)),(2,.func 49 [] [.ptr 0 0]),(6,.d (int 20)),(7,.d (int 0)),(8,.d (int 20))] [.box [.ptr 1 0],.box (cv 2 3 4 n),.box N,.box M,.box D]
def atc(N M D:List ah)(n:Nat):ag:=cA [(0,.d (.list 1 [])),(1,.d (int 0)),(2,.func 49 [] [.ptr 0 0]),(6,.d (int 20))] [.box [.ptr 1 0],.box (cv 2 3 4 n),.box N,.box M,.box D]
theorem atd{N M D:List ah}(n:Nat)(c:Flat N)(f:Flat M)(d:Flat D):aL 72 [.d (.list 1 []),.d (int 0),.func 49 [] [.ptr 0 0]] [.box [.ptr 1 0],.box (cv 2 3 4 n),.box N,.box M,.box D] (.tuple []) [.box [.ptr 1 0],.box (cv 2 3 4 n),.box N,.box M,.box D]:=by
 have aj:=ata n c f d;refine Mi.fX [2,3,4] λa ae Q g=> ?_;obtain⟨bp,a2,a3⟩:=aV.of ae c;obtain⟨bq,aT,b3⟩:=aV.of ae f;obtain⟨c1,c2,c3⟩:=aV.of ae d;clear c f d;unfold cv at*;have q1:a.aB .lss 1 0=false:=aAc;have bG:a.io .add .i64 0 1=1:=aAc;have cM:a.aB .leq 20 0=false:=aAc;have dB:a.aB .lss 20 0=false:=aAc;have gE:a.len []=Nat.zero:=aAc;refine ak ?_;refine⟨bX (λ_:Unit=>atb N M D n) (λ_=>True) (λ_=>0),_,⟨(),trivial,rfl,az5⟩,?_⟩;rintro _ _ ⟨_,_,rfl,rfl⟩;refine ak ?_;refine⟨bX (λ_:Unit=>atc N M D n) (λ_=>True) (λ_=>0),_,⟨(),trivial,rfl,az5⟩,?_⟩;rintro _ _ ⟨_,_,rfl,rfl⟩;refine ak ?_
 (subst ae;exact bS g az5 az5)
theorem ate{N M D:List ah}(n:Nat)(c:Flat N)(f:Flat M)(d:Flat D):aL 48 [.d (.list 1 []),.func 49 [] [.ptr 0 0]] [.box [.ptr 1 0],.box (cv 2 3 4 n),.box N,.box M,.box D] (.tuple []) [.box [.ptr 1 0],.box (cv 2 3 4 n),.box N,.box M,.box D]:=by
 have aj:=atd n c f d;refine L9.fX [2,3,4] λa ae Q g=> ?_;obtain⟨bp,a2,a3⟩:=aV.of ae c;obtain⟨bq,aT,b3⟩:=aV.of ae f;obtain⟨c1,c2,c3⟩:=aV.of ae d;clear c f d;unfold cv at*;have q1:a.aB .lss 1 0=false:=aAc;have bG:a.io .add .i64 0 1=1:=aAc;have cM:a.aB .leq 20 0=false:=aAc;have dB:a.aB .lss 20 0=false:=aAc;have gE:a.len []=Nat.zero:=aAc;refine ak ?_
 (subst ae;exact bS g az5 az5)
def n9(k:Nat):List fb:=(List.range k).map λi=>fb.d (int (Int.ofNat i))
def iota(n:Nat):List Int:=(List.range n).map Int.ofNat
theorem atf(k:Nat):n9 (k+1)=n9 k++[fb.d (int (Int.ofNat k))]:=by
 unfold n9;rw[List.range_succ,aCR];rfl
theorem atg(k:Nat):jS (n9 k)=b8 (iota k):=by
 unfold jS n9 b8 iota;rw[aDF,aDF];rfl
def Bp:Nat->ah
 |0=>.own 1 []
 |k+1=>.raw 1 (k+1) (n9 (k+1))
theorem ath(n:Nat):hq n (iota n) (iota n):=⟨by unfold iota;rw[aCv,List.length_range],λz a=>by
 unfold iota at a;obtain⟨i,c,rfl⟩:=aCY.1 a;have:=aDw.1 c;unfold gp;rw[aCx];exact⟨aCI (aEf _),aCI (aDN.2 this)⟩,.refl _⟩
theorem aek{a:bd}(h:a=bd.bU)(zs:List Int){n:Nat}(f:zs.length=n):a.AP 0 n n 1 (b8 zs)=some (.list 1 (zs.map int)):=by
 subst h;subst f;have h1:ja ((b8 zs).take zs.length)=some (zs.map int):=by
  rw[aDd (by rw[pD];exact aCw _)];unfold b8;induction zs with
  |nil=>rfl
  |cons z l ih=>show(match ja (l.map λz=>ah.d (int z))with|some xs=>some (int z::xs)|none=>none)=_;rw[ih];rfl
 have c:(zs.map int).all jt=true:=aCQ.2 λx d=>by obtain⟨z,_,rfl⟩:=aCY.1 d;rfl
 have g:chunks 1 zs.length (zs.map int)=zs.map int:=by
  clear h1 c;induction zs with
  |nil=>rfl
  |cons z l ih=>show int z::chunks 1 l.length (l.map int)=_;rw[ih];rfl
 show cond (Nat.ble zs.length zs.length&&Nat.blt 0 1&&Nat.ble (0+zs.length*1) (b8 zs).length) (match ja (((b8 zs).drop 0).take (zs.length*1))with
  |some l=>cond (l.all jt) (some (D.list 1 (chunks 1 zs.length l))) none
  |none=>none) none=_
 rw[pD,aDl,aEL,aDG (aCw _),aFW,h1];dsimp only;rw[c,g];rfl
def NU(N M D:List ah)(n i:Nat)(v:ah):ag:=cA [(1,.ptr 4 0),(3,v),(9,.d (int (Int.ofNat n))),(10,.d (int (Int.ofNat i)))] [.box (cv 1 2 3 n),.box N,.box M,.box D,.box [.ptr 0 0]]
theorem ael{N M:List ah}(a:List Int)(n:Nat)(A:a.length=n)(v:n<=1073741824)(c:Flat N)(d:Flat M):∃zs:List Int,hq n (iota n) zs/\aL 24 [.ptr 0 0] [.box (cv 1 2 3 n),.box N,.box M,.box (b8 a)] (.d (.list 1 (zs.map int))) [.box (cv 1 2 3 n),.box N,.box M,.box (b8 a)]:=by
 have t:wU n N M (b8 a):=⟨v,c,d,ez a,asN A c d⟩;have l:=ez a;obtain⟨zs,p,aj⟩:=as9 (z0:=iota n) t (iota n) (ath n);have w:=ate n c d l;clear t;refine⟨zs,p,?_⟩;refine Yk.fX [1,2,3,5] λg ae Q r=> ?_;obtain⟨bp,a2,a3⟩:=aV.of ae c;obtain⟨bq,aT,b3⟩:=aV.of ae d;obtain⟨c1,c2,c3⟩:=aV.of ae l;clear c d l;obtain⟨d1,d2,d3⟩:=aV.of ae (ez (iota n));obtain⟨w1,b5,eG⟩:=aV.of ae (ez zs);obtain⟨bP,bZ,cx⟩:=HU ae;have cb:=aek ae zs p.len;have cp:g.yn (n9 n)=some (b8 (iota n)):=by rw[<-atg];subst ae;rfl
 unfold jQ cv at*;have f:n=0->zs.map int=[]:=λh=>by rw[aE2.1 (p.len.trans h)];rfl
 generalize zs.map int=Z at*;generalize C:b8 zs=E at*;generalize F:b8 (iota n)=G at*;generalize b8 a=D at*;refine ak ?_;refine⟨bX (λz:Nat=>NU N M D n z (Bp z)) (λz=>z<=n) (λz=>n-z),_,⟨0,aCu _,rfl,az5⟩,?_⟩;rintro _ _ ⟨i,o,rfl,rfl⟩;by_cases j:i<n
 .have t1:=ek ae j;have t6:=b9 ae (n:=i) az6;cases i with
  |zero=>
   refine ak ?_;exact ea 1 (by show 1<=n;omega) (by show n-1<n-0;omega) az5
  |succ k=>
   have cy:g.AN (n9 (k+1)) [fb.d (int (Int.ofNat (k+1)))]=some (n9 (k+2)):=by subst ae;rw[atf (k+1)];rfl
   have kG:g.l3 (k+1) 1=k+2:=aAc;have pc:g.AO 1 1 (k+1) 1 17592186044416=true:=aCj;have bB:Bp (k+1)=.raw 1 (k+1) (n9 (k+1)):=rfl;have af:Bp (k+2)=.raw 1 (k+2) (n9 (k+2)):=rfl;have s:∀{m:Nat} {st:ag},st=NU N M D n (k+2) (Bp (k+2))->∃m,m<n-(k+1)/\bX (λz:Nat=>NU N M D n z (Bp z)) (λz=>z<=n) (λz=>n-z) m st:=λh=>ea (k+2) (by show k+2<=n;omega) (by show n-(k+2)<n-(k+1);omega) h;rw[af]at s;dsimp only;rw[bB];clear bB af o j;generalize k+1=k1 at*;generalize k+2=k2 at*;generalize n9 k1=u at*;generalize n9 k2=B at*;refine ak ?_;exact s (m:=0) az5
 .have t1:=en ae j;obtain rfl:i=n:=by show i=n;have:i<=n:=o;omega
  cases i with
  |zero=>
   have f:=f rfl;subst f;refine ak ?_
   (subst ae;exact bS r az5 az5)
  |succ k=>
   have bB:Bp (k+1)=.raw 1 (k+1) (n9 (k+1)):=rfl;dsimp only;rw[bB];clear bB o j w f;generalize n9 (k+1)=u at*;generalize k+1=k1 at*;refine ak ?_
   (subst ae;exact bS r az5 az5)
end Go.Proofs.YthffhbakgmemaaaGreatDoor
