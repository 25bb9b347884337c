/- Part of texts_said. -/
import Derived.Test.YtmgpekpnidjfoaaGreatDoorB7
import Derived.Test.YtmgpekpnidjfoaaGreatDoorB6
set_option maxRecDepth 100000
set_option maxHeartbeats 8000000
set_option linter.unusedSimpArgs false
set_option linter.unusedVariables false
namespace Go.Proofs.YtmgpekpnidjfoaaGreatDoor
open Go Go.aJ
attribute [local irreducible] bM
structure bA(ad:bn)(C:List ag):Prop where
 refs:ad.w8 (.box C)=[]
 ok:∀n,ad.xa n (.box C)=true
 ren:∀f,ad.w9 f (.box C)=.box C
theorem bA.of{ad:bn}(h:ad=bn.bY){C:List ag}(hC:Flat C):bA ad C:=⟨hC.refs h,hC.ok h,hC.ren h⟩
def c6(a b c n:Nat):List ag:=[.aS a 0 n n 1,.aS b 0 n n 1,.aS c 0 n n 1]
def gh(n:Nat)(i:Int):Bool:=decide (0<=i)&&decide (i<n)
theorem xE{n:Nat}{i:Int}(h:gh n i=true):∃k:Nat,k<n/\i=Int.ofNat k:=by
 unfold gh at h;simp only[azH,azN]at h;exact⟨i.toNat,axs,(aCj h.1).symm⟩
def bZ(zs:List Int):List ag:=zs.map λz=>.d (int z)
theorem oR(zs:List Int):(bZ zs).length=zs.length:=azG _
theorem er(zs:List Int):Flat (bZ zs):=λv hv=>azq
theorem Ma{zs:List Int}{i:Nat}(h:i<zs.length):(bZ zs)[i]?=some (.d (int zs[i])):=by
 grind[bZ]
theorem zY(zs:List Int)(i:Nat)(z:Int):(bZ zs).set i (.d (int z))=bZ (zs.set i z):=by
 grind[bZ,List.map_set]
theorem ab6(x:Int):aM 71 [.d (int x)] [] (.d (.bool false)) []:=by
 refine S6.cw λad ae Q a8=> ?_;have t1:ad.aF .neq x x=false:=axx;refine ai ?_;all_goals (subst ae;exact b5 a8 axt axr)
def Gi(x y:Int):Int:=if x<y then -1 else if y<x then 1 else 0
theorem aqs(x y:Int):aM 37 [.d (int x),.d (int y)] [] (.d (int (Gi x y))) []:=by
 have aj:=ab6 x;have aD:=ab6 y;refine SS.cw λad ae Q a8=> ?_;unfold Gi at a8;by_cases h:x<y
 .rw[aAa h]at a8;have t1:ad.aF .lss x y=true:=ayK;refine ai ?_;all_goals (subst ae;exact b5 a8 axt axr)
 .rw[aAc h]at a8;have t1:ad.aF .lss x y=false:=ayK;by_cases h2:y<x
  .rw[aAa h2]at a8;have t2:ad.aF .gtr x y=true:=by simp_all[eX]
   refine ai ?_;all_goals (subst ae;exact b5 a8 axt axr)
  .rw[aAc h2]at a8;have t2:ad.aF .gtr x y=false:=by simp_all[eX]
   refine ai ?_;all_goals (subst ae;exact b5 a8 axt axr)
theorem aqt{N M:List ag}(ds:List Int)(n a b:Nat)(a6:ds.length=n)(br:a<n)(aq:b<n)(b9:Flat N)(cd:Flat M):∃r:Int,aM 36 [.d (int (Int.ofNat a)),.d (int (Int.ofNat b)),.ptr 0 0] [.box [.ptr 1 0],.box (c6 2 3 4 n),.box N,.box M,.box (bZ ds)] (.d (int r)) [.box [.ptr 1 0],.box (c6 2 3 4 n),.box N,.box M,.box (bZ ds)]:=by
 refine⟨Gi (ds[a]' axs) (ds[b]' axs),?_⟩;have aj:=aqs (ds[a]' axs) (ds[b]' axs);unfold c6;refine X9.lq [2,3,4] λad ae Q a8=> ?_;obtain⟨f1,f2,f3⟩:=bA.of ae b9;obtain⟨g1,g2,g3⟩:=bA.of ae cd;obtain⟨h1,h2,av⟩:=bA.of ae (er ds);have t1:ad.ez 1 1 (Int.ofNat a) n=true:=fZ ae br;have t2:ad.ez 1 1 (Int.ofNat b) n=true:=fZ ae aq;have t3:=lB ae a;have t4:=lB ae b;have t5:ad.ic a 1 (bZ ds) true=true:=sj ae ayl;have t6:ad.ic b 1 (bZ ds) true=true:=sj ae ayl;have t7:=xB ae (Ma (zs:=ds) (i:=a) axs);have t8:=xB ae (Ma (zs:=ds) (i:=b) axs);generalize ds[a]' axs=x at*;generalize ds[b]' axs=y at*;generalize Gi x y=c at*;generalize bZ ds=D at*;clear b9 cd;refine ai ?_;simp_all
theorem aqu{N M D:List ag}(n:Nat)(i:Int)(b9:Flat N)(cd:Flat M)(cH:Flat D):aM 33 [.ptr 0 0,.d (int i)] [.box (c6 1 2 3 n),.box N,.box M,.box D] (.d (.bool (gh n i))) [.box (c6 1 2 3 n),.box N,.box M,.box D]:=by
 unfold c6;refine X5.lq [1,2,3] λad ae Q a8=> ?_;obtain⟨f1,f2,f3⟩:=bA.of ae b9;obtain⟨g1,g2,g3⟩:=bA.of ae cd;obtain⟨h1,h2,av⟩:=bA.of ae cH;clear b9 cd cH;by_cases hi:0<=i
 .have t1:ad.aF .geq i 0=true:=by rw[(eX ae).2.2.1];simp_all
  have t2:ad.aF .lss i (Int.ofNat n)=decide (i<n):=ayv;have t3:gh n i=decide (i<n):=by grind[gh]
  rw[t3]at a8;generalize decide (i<n)=b at*;refine ai ?_;simp_all
 .have t1:ad.aF .geq i 0=false:=by rw[(eX ae).2.2.1];simp_all
  have t3:gh n i=false:=by grind[gh]
  rw[t3]at a8;refine ai ?_;simp_all
theorem aqv{N M D:List ag}(n:Nat)(i:Int)(b9:Flat N)(cd:Flat M)(cH:Flat D):aM 138 [.d (int i),.ptr 0 0] [.box [.ptr 1 0],.box (c6 2 3 4 n),.box N,.box M,.box D] (.d (.bool (!gh n i))) [.box [.ptr 1 0],.box (c6 2 3 4 n),.box N,.box M,.box D]:=by
 have aj:=aqu (N:=N) (M:=M) (D:=D) n i b9 cd cH;unfold c6 at*;refine Ts.lq [2,3,4] λad ae Q a8=> ?_;obtain⟨f1,f2,f3⟩:=bA.of ae b9;obtain⟨g1,g2,g3⟩:=bA.of ae cd;obtain⟨h1,h2,av⟩:=bA.of ae cH;clear b9 cd cH;generalize gh n i=b at*;cases b
 .refine ai ?_;simp_all
 .refine ai ?_;simp_all
def aqw(L:List D)(k i:Nat)(N M D:List ag)(n:Nat):af:=cA [(0,.d (.list 1 L)),(1,.func 138 [] [.ptr 0 0]),(7,.d (int (Int.ofNat k))),(8,.d (int (Int.ofNat i)))] [.box [.ptr 1 0],.box (c6 2 3 4 n),.box N,.box M,.box D]
theorem aqx{N M D:List ag}(n:Nat)(l:List Int)(aH:l.length<=1073741824)(b9:Flat N)(cd:Flat M)(cH:Flat D):∃r:Int,(r<0->∀x∈l,gh n x=true)/\aM 177 [.d (.list 1 (l.map int)),.func 138 [] [.ptr 0 0]] [.box [.ptr 1 0],.box (c6 2 3 4 n),.box N,.box M,.box D] (.d (int r)) [.box [.ptr 1 0],.box (c6 2 3 4 n),.box N,.box M,.box D]:=by
 refine fL ?_;have bF:(l.map int).length=l.length:=azG _;have cl:∀i (h:i<l.length),(l.map int)[i]?=some (int l[i]):=λi h=>dv h;generalize l.map int=L at*;have ch:=λi=>aqv (N:=N) (M:=M) (D:=D) n i b9 cd cH;refine TQ.jl [2,3,4] _ λad ae K ao=> ?_;obtain⟨f1,f2,f3⟩:=bA.of ae b9;obtain⟨g1,g2,g3⟩:=bA.of ae cd;obtain⟨h1,h2,av⟩:=bA.of ae cH;clear b9 cd cH;unfold c6 at*;refine ai ?_;refine⟨b6 (λi=>aqw L (ad.len L) i N M D n) (λi=>i<=l.length/\∀x∈l.take i,gh n x=true) (λi=>l.length-i),_,⟨0,⟨azF _,λx ak=>axu⟩,rfl,axr⟩,?_⟩;rintro _ _ ⟨i,⟨hi,gP⟩,rfl,rfl⟩;dsimp only at hi gP⊢;by_cases aB:i<l.length
 .have t1:ad.aF .lss (Int.ofNat i) (Int.ofNat (ad.len L))=true:=by simp_all[aI]
  have t3:=cV ae (cl i aB);have t6:=cv ae (n:=i) axs;have aj:=ch l[i];have Mb:gh n l[i]=true->∀x∈l.take (i+1),gh n x=true:=λh x ak=>by
   rw[aAS,azQ aB]at ak;grind
  clear ch;generalize gh n l[i]=b at*;generalize l[i]=x at*;cases b with
  |true=>
   have Mb:=Mb rfl;refine ai ?_;repeat' (split<;>refine ai ?_)
   all_goals exact fixF (i+1) ⟨aB,Mb⟩
  |false=>
   have az:∀h:(Int.ofNat i:Int)<0,∀x∈l,gh n x=true:=λh=>absurd h axt;refine ai ?_;simp_all
 .have t1:ad.aF .lss (Int.ofNat i) (Int.ofNat (ad.len L))=false:=by simp_all[aI]
  have fg:∀x∈l,gh n x=true:=axv;refine ai ?_;simp_all
theorem aqy{N M D:List ag}(n:Nat)(l:List Int)(aH:l.length<=1073741824)(b9:Flat N)(cd:Flat M)(cH:Flat D):∃b:Bool,(b=false->∀x∈l,gh n x=true)/\aM 137 [.d (.list 1 (l.map int)),.func 138 [] [.ptr 0 0]] [.box [.ptr 1 0],.box (c6 2 3 4 n),.box N,.box M,.box D] (.d (.bool b)) [.box [.ptr 1 0],.box (c6 2 3 4 n),.box N,.box M,.box D]:=by
 obtain⟨r,aw,aj⟩:=aqx (N:=N) (M:=M) (D:=D) n l aH b9 cd cH;refine⟨decide (0<=r),λh=>aw axu,?_⟩;generalize l.map int=L at*;unfold c6 at*;refine YP.lq [2,3,4] λad ae Q a8=> ?_;obtain⟨f1,f2,f3⟩:=bA.of ae b9;obtain⟨g1,g2,g3⟩:=bA.of ae cd;obtain⟨h1,h2,av⟩:=bA.of ae cH;clear b9 cd cH aw aH;have t1:ad.aF .geq r 0=decide (0<=r):=by rw[(eX ae).2.2.1]
 generalize decide (0<=r)=b at*;refine ai ?_;simp_all
def ka(n:Nat)(zs:List Int):Prop:=∀z∈zs,gh n z=true
def swp(zs:List Int)(i j:Nat):List Int:=(zs.set i (zs.getD j 0)).set j (zs.getD i 0)
theorem aqz{zs:List Int}{i j:Nat}(hi:i<zs.length)(aL:j<zs.length):(swp zs i j).Perm zs:=by
 grind[swp]
theorem Gj{ad:bn}(h:ad=bn.bY){zs:List Int}{i:Nat}(hi:i<zs.length):ad.j4 (bZ zs) i=.d (int (zs.getD i 0)):=by
 grind[xB,Ma]
structure iG(n:Nat)(z0 zs:List Int):Prop where
 len:zs.length=n
 all:ka n zs
 perm:zs.Perm z0
theorem iG.swp{n:Nat}{z0 zs:List Int}(h:iG n z0 zs){i j:Nat}(hi:i<n)(aL:j<n):iG n z0 (Go.Proofs.YtmgpekpnidjfoaaGreatDoor.swp zs i j):=by
 have hp:=aqz (zs:=zs) (i:=i) (j:=j) (by grind[len]) (by grind[len]);exact⟨hp.length_eq.trans h.len,λz aQ=>h.all z (hp.mem_iff.1 aQ),hp.trans h.perm⟩
theorem iG.at{n:Nat}{z0 zs:List Int}(h:iG n z0 zs){i:Nat}(hi:i<n):gh n (zs.getD i 0)=true:=by
 have aH:=h.len;rw[aAo,azQ axs];exact h.all _ (azT _)
theorem fS{ad:bn}(h:ad=bn.bY){a b:Nat}(hh:a<b):ad.aF .lss (Int.ofNat a) (Int.ofNat b)=true:=azt
theorem f'{ad:bn}(h:ad=bn.bY){a b:Nat}(hh:¬a<b):ad.aF .lss (Int.ofNat a) (Int.ofNat b)=false:=azu
theorem C0{ad:bn}(h:ad=bn.bY){a b:Nat}(hh:b<a):ad.aF .gtr (Int.ofNat a) (Int.ofNat b)=true:=azt
theorem C1{ad:bn}(h:ad=bn.bY){a b:Nat}(hh:¬b<a):ad.aF .gtr (Int.ofNat a) (Int.ofNat b)=false:=azu
theorem ab7{ad:bn}(h:ad=bn.bY){a b:Nat}(hh:a<=b):ad.aF .leq (Int.ofNat a) (Int.ofNat b)=true:=by subst h;exact azO (Int.ofNat_le.2 hh)
theorem ab8{ad:bn}(h:ad=bn.bY){a b:Nat}(hh:¬a<=b):ad.aF .leq (Int.ofNat a) (Int.ofNat b)=false:=by subst h;exact aAg λx=>hh (Int.ofNat_le.1 x)
theorem aqA{ad:bn}(h:ad=bn.bY){a b:Nat}(hh:a≠b):ad.aF .neq (Int.ofNat a) (Int.ofNat b)=true:=by subst h;show(!decide (Int.ofNat a=Int.ofNat b))=true;grind
theorem aqB{ad:bn}(h:ad=bn.bY){a b:Nat}(hh:a=b):ad.aF .neq (Int.ofNat a) (Int.ofNat b)=false:=by subst h;subst hh;show(!decide (Int.ofNat a=Int.ofNat a))=false;simp
theorem one?{ad:bn}(h:ad=bn.bY)(a:Nat):ad.aF .eql (Int.ofNat a) 1=decide (a=1):=by
 subst h;show decide (Int.ofNat a=1)=_;grind
theorem pV{ad:bn}(h:ad=bn.bY){a b:Nat}(hh:a+b<=4611686018427387904):ad.io .add .i64 (Int.ofNat a) (Int.ofNat b)=Int.ofNat (a+b):=by
 grind[oN]
theorem oS{ad:bn}(h:ad=bn.bY){a b:Nat}(hh:b<=a)(br:a<=4611686018427387904):ad.io .sub .i64 (Int.ofNat a) (Int.ofNat b)=Int.ofNat (a-b):=by
 grind[abb]
theorem C2{ad:bn}(h:ad=bn.bY){a:Nat}(br:a<=4611686018427387904):ad.wr .u64 (Int.ofNat a)=Int.ofNat a/\ad.aF .geq 1 0=true/\ad.io .shr .u64 (Int.ofNat a) 1=Int.ofNat (a/2)/\ad.wr .i64 (Int.ofNat (a/2))=Int.ofNat (a/2):=by
 subst h;refine⟨?_,rfl,?_,aJ.wrap_small (aBV _) axv⟩
 .have h2:(2:Int)^64=18446744073709551616:=by decide
  show IntKind.wrap .u64 (Int.ofNat a)=_;simp only[IntKind.wrap,IntKind.signed,IntKind.bits,h2,aCp,azM];grind
 .show(Int.ofNat a).fdiv (2^1)=_;grind
theorem sl{ad:bn}(ae:ad=bn.bY){zs:List Int}{C:List ag}{n:Nat}{z0:List Int}(hC:C=bZ zs)(h:iG n z0 zs){p:Nat}(hp:p<n):
  ∃x:Int,gh n x=true/\ad.ez 1 1 (Int.ofNat p) n=true/\ad.lW 0 (Int.ofNat p) 1=p/\ad.ic p 1 C true=true/\ad.j4 C p=.d (int x):=by
 have aH:=h.len;exact⟨_,h.at hp,fZ ae hp,lB ae p,sj ae ayl,by grind[Gj]⟩
theorem Gk{ad:bn}(ae:ad=bn.bY){zs:List Int}{C:List ag}{n:Nat}{z0:List Int}(hC:C=bZ zs)(h:iG n z0 zs){p q:Nat}(hp:p<n)(aT:q<n):
  ∃(x y:Int) (ny ea:List ag) (dG:List Int),(ea=bZ dG/\iG n z0 dG/\gh n x=true/\gh n y=true)/\(ad.ez 1 1 (Int.ofNat p) n=true/\ad.ez 1 1 (Int.ofNat q) n=true/\ad.lW 0 (Int.ofNat p) 1=p/\ad.lW 0 (Int.ofNat q) 1=q)/\(ad.ic p 1 C true=true/\ad.ic q 1 C true=true/\ad.j4 C p=.d (int x)/\ad.j4 C q=.d (int y))/\(ad.mB true p 1 C true=true/\ad.ln C p [.d (int y)]=some ny/\ad.mB true q 1 ny true=true/\ad.ln ny q [.d (int x)]=some ea)/\bA ad ea:=by
 obtain⟨x,ak,b0,b7,c7,iy⟩:=sl ae hC h hp;obtain⟨y,hy,cT,c8,du,iZ⟩:=sl ae hC h aT;have aH:=h.len;have key:∀{k:Nat} {z:Int},k<zs.length->ad.j4 C k=.d (int z)->z=zs.getD k 0:=λau aQ=>by
  grind[Gj]
 have ex:=key axs iy;have aqC:=key axs iZ;refine⟨x,y,bZ (zs.set p y),bZ (swp zs p q),swp zs p q,⟨rfl,h.swp hp aT,ak,hy⟩,⟨b0,cT,b7,c8⟩,⟨c7,du,iy,iZ⟩,⟨?_,?_,?_,?_⟩,bA.of ae (er _)⟩
 .grind[vp,oR]
 .grind[sk,zY]
 .grind[vp,oR]
 .rw[sk ae,zY,ex,aqC];rfl
def jo(C N M D:List ag)(n:Nat):aV:=[.box C,.box [.ptr 2 0],.box (c6 3 4 5 n),.box N,.box M,.box D]
def Gl(N M D:List ag)(n:Nat):Prop:=∀x y:Int,gh n x=true->gh n y=true->∃r:Int,aM 36 [.d (int x),.d (int y),.ptr 0 0] [.box [.ptr 1 0],.box (c6 2 3 4 n),.box N,.box M,.box D] (.d (int r)) [.box [.ptr 1 0],.box (c6 2 3 4 n),.box N,.box M,.box D]
theorem aqD{N M:List ag}{ds:List Int}{n:Nat}(a6:ds.length=n)(b9:Flat N)(cd:Flat M):Gl N M (bZ ds) n:=λx y ak hy=>by
 grind[xE,aqt]
structure vv(n:Nat)(N M D:List ag):Prop where
 le:n<=1073741824
 awF:Flat N
 awG:Flat M
 awH:Flat D
 ord:Gl N M D n
def qT(f:Nat)(dL:List ag)(n:Nat)(z0:List Int)(N M D:List ag):Prop:=∀zs,iG n z0 zs->∃eF:List Int,iG n z0 eF/\aM f dL (jo (bZ zs) N M D n) (.tuple []) (jo (bZ eF) N M D n)
theorem zZ{f:Nat}{dL:List ag}{n:Nat}{z0 zs:List Int}{N M D:List ag}(h:∃r s',(∃eF:List Int,iG n z0 eF/\r=.tuple []/\s'=jo (bZ eF) N M D n)/\aM f dL (jo (bZ zs) N M D n) r s'):∃eF:List Int,iG n z0 eF/\aM f dL (jo (bZ zs) N M D n) (.tuple []) (jo (bZ eF) N M D n):=axv
def aqE(C N M D:List ag)(n a b i:Nat):af:=cA [(0,.aS 0 0 n n 1),(1,.d (int (Int.ofNat a))),(2,.d (int (Int.ofNat b))),(3,.func 36 [] [.ptr 1 0]),(8,.d (int (Int.ofNat i)))] (jo C N M D n)
def aqF(C N M D:List ag)(n a b i j:Nat):af:=cA [(0,.aS 0 0 n n 1),(1,.d (int (Int.ofNat a))),(2,.d (int (Int.ofNat b))),(3,.func 36 [] [.ptr 1 0]),(8,.d (int (Int.ofNat i))),(9,.d (int (Int.ofNat j)))] (jo C N M D n)
theorem aqG{n:Nat}{z0:List Int}{N M D:List ag}(fm:vv n N M D)(a b:Nat)(vr:a<=n)(aq:b<=n):qT 117 [.aS 0 0 n n 1,.d (int (Int.ofNat a)),.d (int (Int.ofNat b)),.func 36 [] [.ptr 1 0]] n z0 N M D:=by
 intro zs hs;refine zZ ?_;obtain⟨az,b9,cd,cH,bb⟩:=fm;unfold Gl at bb;refine KD.jl [0,3,4,5] _ λad ae K ao=> ?_;obtain⟨bh,a2,a3⟩:=bA.of ae b9;obtain⟨bq,aR,bO⟩:=bA.of ae cd;obtain⟨c1,c2,c3⟩:=bA.of ae cH;clear b9 cd cH;unfold jo c6 at*;have t6:=cv ae (n:=a) axs;generalize hC:bZ zs=C at*;replace hC:=hC.symm;obtain⟨d1,d2,d3⟩:=bA.of ae (er zs);rw[<-hC]at d1 d2 d3;generalize qB:a+1=i0 at*;refine ai ?_;refine⟨b6 (λz:Nat×List ag=>aqE z.2 N M D n a b z.1) (λz=>a<z.1/\∃eF,z.2=bZ eF/\iG n z0 eF) (λz=>b-z.1),_,⟨(i0,C),⟨axs,zs,hC,hs⟩,rfl,axr⟩,?_⟩;clear d1 d2 d3 t6 qB hC hs;rintro _ _ ⟨⟨i,C⟩,⟨Bd,zs,hC,hs⟩,rfl,rfl⟩;dsimp only at Bd hC⊢;obtain⟨d1,d2,d3⟩:=bA.of ae (er zs);rw[<-hC]at d1 d2 d3;by_cases aB:i<b
 .have t1:=fS ae aB;refine ai ?_;repeat' (split<;>refine ai ?_)
  refine⟨b6 (λz:Nat×List ag=>aqF z.2 N M D n a b i z.1) (λz=>(a<=z.1/\z.1<=i)/\∃eF,z.2=bZ eF/\iG n z0 eF) (λz=>z.1),_,⟨(i,C),⟨⟨axs,azI _⟩,zs,hC,hs⟩,rfl,axr⟩,?_⟩;clear d1 d2 d3 hC hs;rintro _ _ ⟨⟨j,C⟩,⟨⟨aqH,nQ⟩,zs,hC,hs⟩,rfl,rfl⟩;dsimp only at aqH nQ hC⊢;obtain⟨d1,d2,d3⟩:=bA.of ae (er zs);rw[<-hC]at d1 d2 d3;have t6:=cv ae (n:=i) axs;by_cases Mc:a<j
  .have t1:=C0 ae Mc;obtain⟨ki,rfl⟩:∃ki,j=ki+1:=⟨j-1,axs⟩;have t7:=tL ae (n:=ki+1) (m:=ki) rfl axs;obtain⟨x,y,ny,ea,dG,⟨gg,dW,ak,hy⟩,⟨gb,fR,fp,gd⟩,⟨gU,kW,qK,u8⟩,⟨v1,v2,v3,v4⟩,w1,bS,dZ⟩:=Gk ae hC hs (p:=(ki+1)) (q:=ki) axs axs;obtain⟨r,aj⟩:=bb _ _ ak hy;clear bb;generalize Md:ki+1=ab9 at*;cases p1:ad.aF .lss r 0 with
   |true=>
    refine ai ?_;repeat' (split<;>refine ai ?_)
    all_goals exact fixF (ki,ea) ⟨⟨axs,axs⟩,dG,gg,dW⟩
   |false=>
    refine ai ?_;repeat' (split<;>refine ai ?_)
    all_goals exact fixF (i+1,C) ⟨axs,zs,hC,hs⟩
  .have t1:=C1 ae Mc;refine ai ?_;repeat' (split<;>refine ai ?_)
   all_goals exact fixF (i+1,C) ⟨axs,zs,hC,hs⟩
 .have t1:=f' ae aB;replace ao:=λs h=>ao (.tuple []) s ⟨zs,hs,rfl,h⟩;rw[<-hC]at ao;refine ai ?_;simp_all
def aqI(C N M D:List ag)(n a b m i:Nat):af:=cA [(0,.aS 0 0 n n 1),(1,.d (int (Int.ofNat a))),(2,.d (int (Int.ofNat b))),(3,.d (int (Int.ofNat m))),(10,.d (int (Int.ofNat i)))] (jo C N M D n)
theorem aqJ{n:Nat}{z0:List Int}{N M D:List ag}(fm:vv n N M D)(a b m:Nat)(br:a+m<=n)(aq:b+m<=n):qT 199 [.aS 0 0 n n 1,.d (int (Int.ofNat a)),.d (int (Int.ofNat b)),.d (int (Int.ofNat m)),.func 36 [] [.ptr 1 0]] n z0 N M D:=by
 intro zs hs;refine zZ ?_;obtain⟨az,b9,cd,cH,bb⟩:=fm;clear bb;refine Zh.jl [0,3,4,5] _ λad ae K ao=> ?_;obtain⟨bh,a2,a3⟩:=bA.of ae b9;obtain⟨bq,aR,bO⟩:=bA.of ae cd;obtain⟨c1,c2,c3⟩:=bA.of ae cH;clear b9 cd cH;unfold jo c6 at*;generalize hC:bZ zs=C at*;replace hC:=hC.symm;obtain⟨d1,d2,d3⟩:=bA.of ae (er zs);rw[<-hC]at d1 d2 d3;refine ai ?_;refine⟨b6 (λz:Nat×List ag=>aqI z.2 N M D n a b m z.1) (λz=>∃eF,z.2=bZ eF/\iG n z0 eF) (λz=>m-z.1),_,⟨(0,C),⟨zs,hC,hs⟩,rfl,axr⟩,?_⟩;clear d1 d2 d3 hC hs;rintro _ _ ⟨⟨i,C⟩,⟨zs,hC,hs⟩,rfl,rfl⟩;dsimp only at hC⊢;obtain⟨d1,d2,d3⟩:=bA.of ae (er zs);rw[<-hC]at d1 d2 d3;by_cases aB:i<m
 .have t1:=fS ae aB;have t2:=pV ae (a:=a) (b:=i) axs;have t3:=pV ae (a:=b) (b:=i) axs;have t6:=cv ae (n:=i) axs;obtain⟨x,y,ny,ea,dG,⟨gg,dW,ak,hy⟩,⟨gb,fR,fp,gd⟩,⟨gU,kW,qK,u8⟩,⟨v1,v2,v3,v4⟩,w1,bS,dZ⟩:=Gk ae hC hs (p:=(a+i)) (q:=(b+i)) axs axs;generalize a+i=p at*;generalize b+i=q at*;refine ai ?_;repeat' (split<;>refine ai ?_)
  all_goals exact fixF (i+1,ea) ⟨dG,gg,dW⟩
 .have t1:=f' ae aB;replace ao:=λs h=>ao (.tuple []) s ⟨zs,hs,rfl,h⟩;rw[<-hC]at ao;refine ai ?_;simp_all
def aqK(C N M D:List ag)(n m i j:Nat):af:=cA [(0,.aS 0 0 n n 1),(2,.d (int (Int.ofNat m))),(4,.func 36 [] [.ptr 1 0]),(10,.d (int (Int.ofNat i))),(11,.d (int (Int.ofNat j)))] (jo C N M D n)
theorem aqL{n:Nat}{z0:List Int}{N M D:List ag}(fm:vv n N M D)(a m b:Nat)(br:a<m)(hm:m<b)(aq:b<=n):qT 169 [.aS 0 0 n n 1,.d (int (Int.ofNat a)),.d (int (Int.ofNat m)),.d (int (Int.ofNat b)),.func 36 [] [.ptr 1 0]] n z0 N M D:=by
 intro zs hs;refine zZ ?_;obtain⟨az,b9,cd,cH,bb⟩:=id fm;clear bb;refine TL.jl [0,3,4,5] _ λad ae K ao=> ?_;obtain⟨bh,a2,a3⟩:=bA.of ae b9;obtain⟨bq,aR,bO⟩:=bA.of ae cd;obtain⟨c1,c2,c3⟩:=bA.of ae cH;clear b9 cd cH;have xF:=λa b m br aq=>aqJ (z0:=z0) fm a b m br aq;clear fm;unfold qT at xF;unfold jo c6 at*;generalize hC:bZ zs=C at*;replace hC:=hC.symm;obtain⟨d1,d2,d3⟩:=bA.of ae (er zs);rw[<-hC]at d1 d2 d3;have t1:=oS ae (a:=m) (b:=a) axs axs;have t2:=oS ae (a:=b) (b:=m) axs axs;obtain⟨i0,qB⟩:∃k,k=m-a:=⟨_,rfl⟩;obtain⟨vw,Gm⟩:∃k,k=b-m:=⟨_,rfl⟩;rw[<-qB]at t1;rw[<-Gm]at t2;refine ai ?_;refine⟨b6 (λz:(Nat×Nat)×List ag=>aqK z.2 N M D n m z.1.1 z.1.2) (λz=>(0<z.1.1/\0<z.1.2/\z.1.1<=m/\m+z.1.2<=n)/\∃eF,z.2=bZ eF/\iG n z0 eF) (λz=>z.1.1+z.1.2),_,⟨((i0,vw),C),⟨⟨axv,axv,axv,axv⟩,zs,hC,hs⟩,rfl,axr⟩,?_⟩;clear d1 d2 d3 hC hs t1 t2 qB Gm;rintro _ _ ⟨⟨⟨i,j⟩,C⟩,⟨⟨hi,aL,mV,EC⟩,zs,hC,hs⟩,rfl,rfl⟩;dsimp only at hi aL mV EC hC⊢;obtain⟨d1,d2,d3⟩:=bA.of ae (er zs);rw[<-hC]at d1 d2 d3;have t3:=oS ae (a:=m) (b:=i) axs axs;by_cases cB:i=j
 .have t1:=aqB ae cB;obtain⟨dG,dW,aj⟩:=xF (m-i) m i axs axs zs hs;clear xF;obtain⟨w1,bS,dZ⟩:=bA.of ae (er dG);replace ao:=λs h=>ao (.tuple []) s ⟨dG,dW,rfl,h⟩;rw[<-hC]at aj;generalize gg:bZ dG=ea at*;generalize m-i=p at*;refine ai ?_;simp_all
 .have t1:=aqA ae cB;by_cases eQ:j<i
  .have t2:=C0 ae eQ;have t4:=oS ae (a:=i) (b:=j) axs axs;obtain⟨dG,dW,aj⟩:=xF (m-i) m j axs axs zs hs;clear xF;obtain⟨w1,bS,dZ⟩:=bA.of ae (er dG);rw[<-hC]at aj;generalize gg:bZ dG=ea at*;generalize m-i=p at*;obtain⟨hF,pq⟩:∃k,k=i-j:=⟨_,rfl⟩;rw[<-pq]at t4;refine ai ?_;repeat' (split<;>refine ai ?_)
   all_goals exact fixF ((hF,j),ea) ⟨⟨axv,aL,axv,EC⟩,dG,gg.symm,dW⟩
  .have t2:=C1 ae eQ;have t4:=pV ae (a:=m) (b:=j) axs;have t5:=oS ae (a:=m+j) (b:=i) axs axs;have t6:=oS ae (a:=j) (b:=i) axs axs;obtain⟨dG,dW,aj⟩:=xF (m-i) (m+j-i) i axs axs zs hs;clear xF;obtain⟨w1,bS,dZ⟩:=bA.of ae (er dG);rw[<-hC]at aj;generalize gg:bZ dG=ea at*;generalize m-i=p at*;generalize m+j-i=q at*;obtain⟨awI,yA⟩:∃k,k=m+j:=⟨_,rfl⟩;rw[<-yA]at t4 t5;obtain⟨ab9,Md⟩:∃k,k=j-i:=⟨_,rfl⟩;rw[<-Md]at t6;refine ai ?_;repeat' (split<;>refine ai ?_)
   all_goals exact fixF ((i,ab9),ea) ⟨⟨hi,axv,mV,axv⟩,dG,gg.symm,dW⟩
theorem dn{aP:Nat->ag}{k:Nat}{v:ag}{l:List (Nat×ag)}(h:aP k=v)(aH:∀p∈l,aP p.1=p.2):∀p∈(k,v)::l,aP p.1=p.2:=λp hp=>by
 rcases azY.1 hp with rfl|hp
 .exact h
 .exact aH p hp
theorem sn{aP:Nat->ag}:∀p∈([]:List (Nat×ag)),aP p.1=p.2:=λ_ hp=>by cases hp
def aqM(C N M D:List ag)(n a i j:Nat):af:=cA [(0,.aS 0 0 n n 1),(1,.d (int (Int.ofNat a))),(4,.func 36 [] [.ptr 1 0]),(10,.d (int (Int.ofNat i))),(11,.d (int (Int.ofNat j)))] (jo C N M D n)
def aqN(C N M D:List ag)(n i k:Nat):af:=cA [(0,.aS 0 0 n n 1),(10,.d (int (Int.ofNat i))),(13,.d (int (Int.ofNat k)))] (jo C N M D n)
def aqO(C N M D:List ag)(n m i j:Nat):af:=cA [(0,.aS 0 0 n n 1),(2,.d (int (Int.ofNat m))),(4,.func 36 [] [.ptr 1 0]),(14,.d (int (Int.ofNat i))),(15,.d (int (Int.ofNat j)))] (jo C N M D n)
def aqP(C N M D:List ag)(n i k:Nat):af:=cA [(0,.aS 0 0 n n 1),(14,.d (int (Int.ofNat i))),(17,.d (int (Int.ofNat k)))] (jo C N M D n)
def ab'(C N M D:List ag)(n a m b mid bL p s r:Nat):af:=cA [(0,.aS 0 0 n n 1),(1,.d (int (Int.ofNat a))),(2,.d (int (Int.ofNat m))),(3,.d (int (Int.ofNat b))),(4,.func 36 [] [.ptr 1 0]),(18,.d (int (Int.ofNat mid))),(19,.d (int (Int.ofNat bL))),(20,.d (int (Int.ofNat s))),(21,.d (int (Int.ofNat r))),(22,.d (int (Int.ofNat p)))] (jo C N M D n)
set_option maxHeartbeats 40000000 in
theorem aqQ{n:Nat}{z0:List Int}{N M D:List ag}(fm:vv n N M D)(a m b:Nat)(br:a<m)(hm:m<b)(aq:b<=n)(aw:∀a' m' cg:Nat,cg-a'<b-a->a'<m'->m'<cg->cg<=n->qT 118 [.aS 0 0 n n 1,.d (int (Int.ofNat a')),.d (int (Int.ofNat m')),.d (int (Int.ofNat cg)),.func 36 [] [.ptr 1 0]] n z0 N M D):qT 118 [.aS 0 0 n n 1,.d (int (Int.ofNat a)),.d (int (Int.ofNat m)),.d (int (Int.ofNat b)),.func 36 [] [.ptr 1 0]] n z0 N M D:=by
 intro zs hs;refine zZ ?_;obtain⟨az,b9,cd,cH,bb⟩:=id fm;have xG:=λs m e h1 h2 av=>aqL (z0:=z0) fm s m e h1 h2 av;unfold qT at aw xG;unfold Gl at bb;refine Tm.jl [0,3,4,5] _ λad ae K ao=> ?_;obtain⟨bh,a2,a3⟩:=bA.of ae b9;obtain⟨bq,aR,bO⟩:=bA.of ae cd;obtain⟨c1,c2,c3⟩:=bA.of ae cH;clear b9 cd cH fm;unfold jo c6 at*;generalize hC:bZ zs=C at*;replace hC:=hC.symm;obtain⟨d1,d2,d3⟩:=bA.of ae (er zs);rw[<-hC]at d1 d2 d3;obtain⟨ly,z1⟩:∃k:Go.aJ.aA->af->Prop,k=λx st=>match x with|.ret=>∃eF:List Int,iG n z0 eF/\st.bI=(λ_=>none)/\st.s=[.box (bZ eF),.box [.ptr 2 0],.box [.aS 3 0 n n 1,.aS 4 0 n n 1,.aS 5 0 n n 1],.box N,.box M,.box D]|.normal=>pH st [(0,.aS 0 0 n n 1),(1,.d (int (Int.ofNat a))),(2,.d (int (Int.ofNat m))),(3,.d (int (Int.ofNat b))),(4,.func 36 [] [.ptr 1 0])] (λ_=>none) [.box C,.box [.ptr 2 0],.box [.aS 3 0 n n 1,.aS 4 0 n n 1,.aS 5 0 n n 1],.box N,.box M,.box D]|_=>False:=⟨_,rfl⟩
 refine xb ae [_] ly ?_ ?_
 .clear ao aw xG;have t1:=oS ae (a:=m) (b:=a) axs axs;obtain⟨k,au⟩:∃k,k=m-a:=⟨_,rfl⟩;rw[<-au]at t1;have t2:=one? ae k;by_cases h1:k=1
  .rw[azO h1]at t2;conv=>cbv
   repeat' ((first|refine bG ?_|refine bH ?_|simp -proj only[t1,t2,bh,a2,a3,bq,aR,bO,c1,c2,c3,d1,d2,d3]|(split<;>(rename_i h;try simp only[h])))<;>conv=>cbv)
   clear t1 t2;refine⟨b6 (λz:Nat×Nat=>aqM C N M D n a z.1 z.2) (λz=>m<=z.1/\z.1<=z.2/\z.2<=b) (λz=>z.2-z.1),_,⟨(m,b),⟨azI _,by show m<=b;omega,azI _⟩,rfl,axr⟩,?_⟩;rintro _ _ ⟨⟨i,j⟩,⟨hi,eQ,aL⟩,rfl,rfl⟩;dsimp only at hi eQ aL⊢;by_cases aB:i<j
   .have t1:=fS ae aB;have t2:=pV ae (a:=i) (b:=j) axs;obtain⟨t3,t4,t5,t6⟩:=C2 ae (a:=i+j) axs;obtain⟨h,hh⟩:∃h,h=(i+j)/2:=⟨_,rfl⟩;rw[<-hh]at t5 t6;have t7:=cv ae (n:=h) axs;have Me:i<=h:=axs;have Mf:h<j:=axs;obtain⟨x,ak,b0,b7,c7,iy⟩:=sl ae hC hs (p:=h) axs;obtain⟨y,hy,cT,c8,du,iZ⟩:=sl ae hC hs (p:=a) axs;obtain⟨r,aj⟩:=bb x y ak hy;clear bb;generalize i+j=Mg at*;cases p1:ad.aF .lss r 0 with
    |true=>
     conv=>cbv
     repeat' ((first|refine bG ?_|refine bH ?_|simp -proj only[t1,t2,t3,t4,t5,t6,t7,b0,b7,c7,iy,cT,c8,du,iZ,p1,bh,a2,a3,bq,aR,bO,c1,c2,c3,d1,d2,d3]|(split<;>(rename_i h;try simp only[h])))<;>conv=>cbv)
     all_goals exact eb (h+1,j) ⟨by show m<=h+1;omega,ayL,aL⟩ ayM axr
    |false=>
     conv=>cbv
     repeat' ((first|refine bG ?_|refine bH ?_|simp -proj only[t1,t2,t3,t4,t5,t6,t7,b0,b7,c7,iy,cT,c8,du,iZ,p1,bh,a2,a3,bq,aR,bO,c1,c2,c3,d1,d2,d3]|(split<;>(rename_i h;try simp only[h])))<;>conv=>cbv)
     all_goals exact eb (i,h) ⟨hi,ayN,by show h<=b;omega⟩ ayO axr
   .have t1:=f' ae aB;obtain⟨iI,je⟩:∃iI,i=iI+1:=⟨i-1,axs⟩;have t2:=tL ae je axs;conv=>cbv
    repeat' ((first|refine bG ?_|refine bH ?_|simp -proj only[t1,t2,bh,a2,a3,bq,aR,bO,c1,c2,c3,d1,d2,d3]|(split<;>(rename_i h;try simp only[h])))<;>conv=>cbv)
    refine⟨b6 (λz:Nat×List ag=>aqN z.2 N M D n i z.1) (λz=>a<=z.1/\∃eF,z.2=bZ eF/\iG n z0 eF) (λz=>iI-z.1),_,⟨(a,C),⟨azI _,zs,hC,hs⟩,rfl,axr⟩,?_⟩;clear t1 d1 d2 d3 bb;rintro _ _ ⟨⟨k,C⟩,⟨aqR,zs,hC,hs⟩,rfl,rfl⟩;dsimp only at aqR hC⊢;obtain⟨d1,d2,d3⟩:=bA.of ae (er zs);rw[<-hC]at d1 d2 d3;by_cases fE:k<iI
    .have t1:=fS ae fE;have t3:=cv ae (n:=k) axs;obtain⟨x,y,ny,ea,dG,⟨gg,dW,ak,hy⟩,⟨gb,fR,fp,gd⟩,⟨gU,kW,qK,u8⟩,⟨v1,v2,v3,v4⟩,w1,bS,dZ⟩:=Gk ae hC hs (p:=k) (q:=(k+1)) axs axs;generalize fe:k+1=bN at*;conv=>cbv
     repeat' ((first|refine bG ?_|refine bH ?_|simp -proj only[t1,t2,t3,gb,fR,fp,gd,gU,kW,qK,u8,v1,v2,v3,v4,bh,a2,a3,bq,aR,bO,c1,c2,c3,d1,d2,d3,w1,bS,dZ]|(split<;>(rename_i h;try simp only[h])))<;>conv=>cbv)
     all_goals exact eb (bN,ea) ⟨by show a<=bN;omega,dG,gg,dW⟩ (by show iI-bN<iI-k;omega) axr
    .have t1:=f' ae fE;conv=>cbv
     repeat' ((first|refine bG ?_|refine bH ?_|simp -proj only[t1,t2,bh,a2,a3,bq,aR,bO,c1,c2,c3,d1,d2,d3]|(split<;>(rename_i h;try simp only[h])))<;>conv=>cbv)
     all_goals (rw[z1];subst hC;exact⟨zs,hs,axr,axr⟩)
  .rw[aAg h1]at t2;conv=>cbv
   repeat' ((first|refine bG ?_|refine bH ?_|simp -proj only[t1,t2,bh,a2,a3,bq,aR,bO,c1,c2,c3,d1,d2,d3]|(split<;>(rename_i h;try simp only[h])))<;>conv=>cbv)
   all_goals (rw[z1];exact⟨(dn axr (dn axr (dn axr (dn axr (dn axr sn))))),axr,axr⟩)
 intro x st ak;cases x with
 |exit i=>rw[z1]at ak;exact ak.elim
 |ret=>
  rw[z1]at ak;obtain⟨dG,dW,h1,h2⟩:=ak;obtain⟨aP,bI,s⟩:=st;dsimp only at h1 h2;subst h1;subst h2;obtain⟨w1,bS,dZ⟩:=bA.of ae (er dG);replace ao:=λs h=>ao (.tuple []) s ⟨dG,dW,rfl,h⟩;generalize bZ dG=ea at*;conv=>cbv
  repeat' ((first|refine bG ?_|refine bH ?_|simp -proj only[bh,a2,a3,bq,aR,bO,c1,c2,c3,w1,bS,dZ]|(split<;>(rename_i h;try simp only[h])))<;>conv=>cbv)
  all_goals exact ao _ axr
 |normal=>
  rw[z1]at ak;rw[pH.eq ak];generalize st.aP=aP;clear ak z1 ly;obtain⟨ik,wY⟩:∃k:Go.aJ.aA->af->Prop,k=λx st=>match x with|.ret=>∃eF:List Int,iG n z0 eF/\st.bI=(λ_=>none)/\st.s=[.box (bZ eF),.box [.ptr 2 0],.box [.aS 3 0 n n 1,.aS 4 0 n n 1,.aS 5 0 n n 1],.box N,.box M,.box D]|.normal=>pH st [(0,.aS 0 0 n n 1),(1,.d (int (Int.ofNat a))),(2,.d (int (Int.ofNat m))),(3,.d (int (Int.ofNat b))),(4,.func 36 [] [.ptr 1 0])] (λ_=>none) [.box C,.box [.ptr 2 0],.box [.aS 3 0 n n 1,.aS 4 0 n n 1,.aS 5 0 n n 1],.box N,.box M,.box D]|_=>False:=⟨_,rfl⟩
  refine xb ae [_] ik ?_ ?_
  .clear ao aw xG;have t1:=oS ae (a:=b) (b:=m) axs axs;obtain⟨k,au⟩:∃k,k=b-m:=⟨_,rfl⟩;rw[<-au]at t1;have t2:=one? ae k;by_cases h1:k=1
   .rw[azO h1]at t2;conv=>cbv
    repeat' ((first|refine bG ?_|refine bH ?_|simp -proj only[t1,t2,bh,a2,a3,bq,aR,bO,c1,c2,c3,d1,d2,d3]|(split<;>(rename_i h;try simp only[h])))<;>conv=>cbv)
    clear t1 t2;refine⟨b6 (λz:Nat×Nat=>aqO C N M D n m z.1 z.2) (λz=>a<=z.1/\z.1<=z.2/\z.2<=m) (λz=>z.2-z.1),_,⟨(a,m),⟨azI _,by show a<=m;omega,azI _⟩,rfl,axr⟩,?_⟩;rintro _ _ ⟨⟨i,j⟩,⟨hi,eQ,aL⟩,rfl,rfl⟩;dsimp only at hi eQ aL⊢;by_cases aB:i<j
    .have t1:=fS ae aB;have t2:=pV ae (a:=i) (b:=j) axs;obtain⟨t3,t4,t5,t6⟩:=C2 ae (a:=i+j) axs;obtain⟨h,hh⟩:∃h,h=(i+j)/2:=⟨_,rfl⟩;rw[<-hh]at t5 t6;have t7:=cv ae (n:=h) axs;have Me:i<=h:=axs;have Mf:h<j:=axs;obtain⟨x,ak,b0,b7,c7,iy⟩:=sl ae hC hs (p:=m) axs;obtain⟨y,hy,cT,c8,du,iZ⟩:=sl ae hC hs (p:=h) axs;obtain⟨r,aj⟩:=bb x y ak hy;clear bb;generalize i+j=Mg at*;cases p1:ad.aF .lss r 0 with
     |true=>
      conv=>cbv
      repeat' ((first|refine bG ?_|refine bH ?_|simp -proj only[t1,t2,t3,t4,t5,t6,t7,b0,b7,c7,iy,cT,c8,du,iZ,p1,bh,a2,a3,bq,aR,bO,c1,c2,c3,d1,d2,d3]|(split<;>(rename_i h;try simp only[h])))<;>conv=>cbv)
      all_goals exact eb (i,h) ⟨hi,ayN,by show h<=m;omega⟩ ayO axr
     |false=>
      conv=>cbv
      repeat' ((first|refine bG ?_|refine bH ?_|simp -proj only[t1,t2,t3,t4,t5,t6,t7,b0,b7,c7,iy,cT,c8,du,iZ,p1,bh,a2,a3,bq,aR,bO,c1,c2,c3,d1,d2,d3]|(split<;>(rename_i h;try simp only[h])))<;>conv=>cbv)
      all_goals exact eb (h+1,j) ⟨by show a<=h+1;omega,ayL,aL⟩ ayM axr
    .have t1:=f' ae aB;conv=>cbv
     repeat' ((first|refine bG ?_|refine bH ?_|simp -proj only[t1,bh,a2,a3,bq,aR,bO,c1,c2,c3,d1,d2,d3]|(split<;>(rename_i h;try simp only[h])))<;>conv=>cbv)
     refine⟨b6 (λz:Nat×List ag=>aqP z.2 N M D n i z.1) (λz=>z.1<=m/\∃eF,z.2=bZ eF/\iG n z0 eF) (λz=>z.1),_,⟨(m,C),⟨azI _,zs,hC,hs⟩,rfl,axr⟩,?_⟩;clear t1 d1 d2 d3 bb;rintro _ _ ⟨⟨k,C⟩,⟨aqS,zs,hC,hs⟩,rfl,rfl⟩;dsimp only at aqS hC⊢;obtain⟨d1,d2,d3⟩:=bA.of ae (er zs);rw[<-hC]at d1 d2 d3;by_cases fE:i<k
     .have t1:=C0 ae fE;obtain⟨bN,fe⟩:∃bN,k=bN+1:=⟨k-1,axs⟩;have t3:=tL ae fe axs;obtain⟨x,y,ny,ea,dG,⟨gg,dW,ak,hy⟩,⟨gb,fR,fp,gd⟩,⟨gU,kW,qK,u8⟩,⟨v1,v2,v3,v4⟩,w1,bS,dZ⟩:=Gk ae hC hs (p:=k) (q:=bN) axs axs;conv=>cbv
      repeat' ((first|refine bG ?_|refine bH ?_|simp -proj only[t1,t3,gb,fR,fp,gd,gU,kW,qK,u8,v1,v2,v3,v4,bh,a2,a3,bq,aR,bO,c1,c2,c3,d1,d2,d3,w1,bS,dZ]|(split<;>(rename_i h;try simp only[h])))<;>conv=>cbv)
      all_goals exact eb (bN,ea) ⟨by show bN<=m;omega,dG,gg,dW⟩ (by show bN<k;omega) axr
     .have t1:=C1 ae fE;conv=>cbv
      repeat' ((first|refine bG ?_|refine bH ?_|simp -proj only[t1,bh,a2,a3,bq,aR,bO,c1,c2,c3,d1,d2,d3]|(split<;>(rename_i h;try simp only[h])))<;>conv=>cbv)
      all_goals (rw[wY];subst hC;exact⟨zs,hs,axr,axr⟩)
   .rw[aAg h1]at t2;conv=>cbv
    repeat' ((first|refine bG ?_|refine bH ?_|simp -proj only[t1,t2,bh,a2,a3,bq,aR,bO,c1,c2,c3,d1,d2,d3]|(split<;>(rename_i h;try simp only[h])))<;>conv=>cbv)
    all_goals (rw[wY];exact⟨(dn axr (dn axr (dn axr (dn axr (dn axr sn))))),axr,axr⟩)
  intro x st ak;cases x with
  |exit i=>rw[wY]at ak;exact ak.elim
  |ret=>
   rw[wY]at ak;obtain⟨dG,dW,h1,h2⟩:=ak;obtain⟨aP,bI,s⟩:=st;dsimp only at h1 h2;subst h1;subst h2;obtain⟨w1,bS,dZ⟩:=bA.of ae (er dG);replace ao:=λs h=>ao (.tuple []) s ⟨dG,dW,rfl,h⟩;generalize bZ dG=ea at*;conv=>cbv
   repeat' ((first|refine bG ?_|refine bH ?_|simp -proj only[bh,a2,a3,bq,aR,bO,c1,c2,c3,w1,bS,dZ]|(split<;>(rename_i h;try simp only[h])))<;>conv=>cbv)
   all_goals exact ao _ axr
  |normal=>
   rw[wY]at ak;rw[pH.eq ak];generalize st.aP=aP;clear ak wY ik;obtain⟨mid,Ct⟩:∃k,k=(a+b)/2:=⟨_,rfl⟩;have FR:mid<b:=axs;have kM:a<=mid:=axs;have awJ:2*mid<=a+b:=axs;have awK:a+b<=2*mid+1:=axs;obtain⟨aca,z6⟩:∃k:Go.aJ.aA->af->Prop,k=λx st=>match x with|.normal=>∃s e:Nat,e<=b/\pH st [(0,.aS 0 0 n n 1),(1,.d (int (Int.ofNat a))),(2,.d (int (Int.ofNat m))),(3,.d (int (Int.ofNat b))),(4,.func 36 [] [.ptr 1 0]),(18,.d (int (Int.ofNat mid))),(20,.d (int (Int.ofNat s))),(24,.d (int (Int.ofNat e)))] (λ_=>none) [.box C,.box [.ptr 2 0],.box [.aS 3 0 n n 1,.aS 4 0 n n 1,.aS 5 0 n n 1],.box N,.box M,.box D]|_=>False:=⟨_,rfl⟩
   refine xb ae [_,_,_,_,_,_,_] aca ?_ ?_
   .clear ao aw xG;have t1:=pV ae (a:=a) (b:=b) axs;obtain⟨t2,t3,t4,t5⟩:=C2 ae (a:=a+b) axs;rw[<-Ct]at t4 t5;have t6:=pV ae (a:=mid) (b:=m) axs;obtain⟨bL,k2⟩:∃k,k=mid+m:=⟨_,rfl⟩;rw[<-k2]at t6;obtain⟨p,hp⟩:∃p,bL=p+1:=⟨bL-1,axs⟩;have t7:=tL ae hp axs;by_cases yn:mid<m
    .have t8:=C0 ae yn;have t9:=oS ae (a:=bL) (b:=b) axs axs;obtain⟨fv,Bc⟩:∃k,k=bL-b:=⟨_,rfl⟩;rw[<-Bc]at t9;generalize vr:a+b=ab at*;conv=>cbv
     repeat' ((first|refine bG ?_|refine bH ?_|simp -proj only[t1,t2,t3,t4,t5,t6,t7,t8,t9,bh,a2,a3,bq,aR,bO,c1,c2,c3,d1,d2,d3]|(split<;>(rename_i h;try simp only[h])))<;>conv=>cbv)
     clear t1 t2 t3 t4 t5 t6 t7 t8 t9;refine⟨b6 (λz:Nat×Nat=>ab' C N M D n a m b mid bL p z.1 z.2) (λz=>fv<=z.1/\z.1<=z.2/\z.2<=mid) (λz=>z.2-z.1),_,⟨(fv,mid),⟨azI _,by show fv<=mid;omega,azI _⟩,rfl,axr⟩,?_⟩;rintro _ _ ⟨⟨i,j⟩,⟨hi,eQ,aL⟩,rfl,rfl⟩;dsimp only at hi eQ aL⊢;by_cases aB:i<j
     .have t1:=fS ae aB;have t2:=pV ae (a:=i) (b:=j) axs;obtain⟨t3,t4,t5,t6⟩:=C2 ae (a:=i+j) axs;obtain⟨h,hh⟩:∃h,h=(i+j)/2:=⟨_,rfl⟩;rw[<-hh]at t5 t6;have t7:=cv ae (n:=h) axs;have Me:i<=h:=axs;have Mf:h<j:=axs;have t8:=oS ae (a:=p) (b:=h) axs axs;obtain⟨x,ak,b0,b7,c7,iy⟩:=sl ae hC hs (p:=(p-h)) axs;obtain⟨y,hy,cT,c8,du,iZ⟩:=sl ae hC hs (p:=h) axs;obtain⟨r,aj⟩:=bb x y ak hy;clear bb;generalize i+j=Mg at*;generalize p-h=ph at*;cases p1:ad.aF .lss r 0 with
      |true=>
       conv=>cbv
       repeat' ((first|refine bG ?_|refine bH ?_|simp -proj only[t8,t1,t2,t3,t4,t5,t6,t7,b0,b7,c7,iy,cT,c8,du,iZ,p1,bh,a2,a3,bq,aR,bO,c1,c2,c3,d1,d2,d3]|(split<;>(rename_i h;try simp only[h])))<;>conv=>cbv)
       all_goals exact eb (i,h) ⟨hi,ayN,by show h<=mid;omega⟩ ayO axr
      |false=>
       conv=>cbv
       repeat' ((first|refine bG ?_|refine bH ?_|simp -proj only[t8,t1,t2,t3,t4,t5,t6,t7,b0,b7,c7,iy,cT,c8,du,iZ,p1,bh,a2,a3,bq,aR,bO,c1,c2,c3,d1,d2,d3]|(split<;>(rename_i h;try simp only[h])))<;>conv=>cbv)
       all_goals exact eb (h+1,j) ⟨by show fv<=h+1;omega,ayL,aL⟩ ayM axr
     .have t1:=f' ae aB;have t2:=oS ae (a:=bL) (b:=i) axs axs;obtain⟨e,he⟩:∃e,e=bL-i:=⟨_,rfl⟩;rw[<-he]at t2;conv=>cbv
      repeat' ((first|refine bG ?_|refine bH ?_|simp -proj only[t1,t2,bh,a2,a3,bq,aR,bO,c1,c2,c3,d1,d2,d3]|(split<;>(rename_i h;try simp only[h])))<;>conv=>cbv)
      all_goals (rw[z6];exact⟨i,e,axs,(dn axr (dn axr (dn axr (dn axr (dn axr (dn axr (dn axr (dn axr sn)))))))),axr,axr⟩)
    .have t8:=C1 ae yn;generalize vr:a+b=ab at*;conv=>cbv
     repeat' ((first|refine bG ?_|refine bH ?_|simp -proj only[t1,t2,t3,t4,t5,t6,t7,t8,bh,a2,a3,bq,aR,bO,c1,c2,c3,d1,d2,d3]|(split<;>(rename_i h;try simp only[h])))<;>conv=>cbv)
     clear t1 t2 t3 t4 t5 t6 t7 t8;refine⟨b6 (λz:Nat×Nat=>ab' C N M D n a m b mid bL p z.1 z.2) (λz=>a<=z.1/\z.1<=z.2/\z.2<=m) (λz=>z.2-z.1),_,⟨(a,m),⟨azI _,by show a<=m;omega,azI _⟩,rfl,axr⟩,?_⟩;rintro _ _ ⟨⟨i,j⟩,⟨hi,eQ,aL⟩,rfl,rfl⟩;dsimp only at hi eQ aL⊢;by_cases aB:i<j
     .have t1:=fS ae aB;have t2:=pV ae (a:=i) (b:=j) axs;obtain⟨t3,t4,t5,t6⟩:=C2 ae (a:=i+j) axs;obtain⟨h,hh⟩:∃h,h=(i+j)/2:=⟨_,rfl⟩;rw[<-hh]at t5 t6;have t7:=cv ae (n:=h) axs;have Me:i<=h:=axs;have Mf:h<j:=axs;have t8:=oS ae (a:=p) (b:=h) axs axs;obtain⟨x,ak,b0,b7,c7,iy⟩:=sl ae hC hs (p:=(p-h)) axs;obtain⟨y,hy,cT,c8,du,iZ⟩:=sl ae hC hs (p:=h) axs;obtain⟨r,aj⟩:=bb x y ak hy;clear bb;generalize i+j=Mg at*;generalize p-h=ph at*;cases p1:ad.aF .lss r 0 with
      |true=>
       conv=>cbv
       repeat' ((first|refine bG ?_|refine bH ?_|simp -proj only[t8,t1,t2,t3,t4,t5,t6,t7,b0,b7,c7,iy,cT,c8,du,iZ,p1,bh,a2,a3,bq,aR,bO,c1,c2,c3,d1,d2,d3]|(split<;>(rename_i h;try simp only[h])))<;>conv=>cbv)
       all_goals exact eb (i,h) ⟨hi,ayN,by show h<=m;omega⟩ ayO axr
      |false=>
       conv=>cbv
       repeat' ((first|refine bG ?_|refine bH ?_|simp -proj only[t8,t1,t2,t3,t4,t5,t6,t7,b0,b7,c7,iy,cT,c8,du,iZ,p1,bh,a2,a3,bq,aR,bO,c1,c2,c3,d1,d2,d3]|(split<;>(rename_i h;try simp only[h])))<;>conv=>cbv)
       all_goals exact eb (h+1,j) ⟨by show a<=h+1;omega,ayL,aL⟩ ayM axr
     .have t1:=f' ae aB;have t2:=oS ae (a:=bL) (b:=i) axs axs;obtain⟨e,he⟩:∃e,e=bL-i:=⟨_,rfl⟩;rw[<-he]at t2;conv=>cbv
      repeat' ((first|refine bG ?_|refine bH ?_|simp -proj only[t1,t2,bh,a2,a3,bq,aR,bO,c1,c2,c3,d1,d2,d3]|(split<;>(rename_i h;try simp only[h])))<;>conv=>cbv)
      all_goals (rw[z6];exact⟨i,e,axs,(dn axr (dn axr (dn axr (dn axr (dn axr (dn axr (dn axr (dn axr sn)))))))),axr,axr⟩)
   intro x st ak;cases x with
   |exit i=>rw[z6]at ak;exact ak.elim
   |ret=>rw[z6]at ak;exact ak.elim
   |normal=>
    rw[z6]at ak;obtain⟨s,e,yq,ak⟩:=ak;rw[pH.eq ak];generalize st.aP=aP;clear ak z6 aca bb;obtain⟨acb,xH⟩:∃k:Go.aJ.aA->af->Prop,k=λx st=>match x with|.normal=>∃eF:List Int,iG n z0 eF/\pH st [(0,.aS 0 0 n n 1),(1,.d (int (Int.ofNat a))),(2,.d (int (Int.ofNat m))),(3,.d (int (Int.ofNat b))),(4,.func 36 [] [.ptr 1 0]),(18,.d (int (Int.ofNat mid))),(20,.d (int (Int.ofNat s))),(24,.d (int (Int.ofNat e)))] (λ_=>none) [.box (bZ eF),.box [.ptr 2 0],.box [.aS 3 0 n n 1,.aS 4 0 n n 1,.aS 5 0 n n 1],.box N,.box M,.box D]|_=>False:=⟨_,rfl⟩
    refine xb ae [_] acb ?_ ?_
    .clear ao;by_cases h1:s<m
     .have t1:=fS ae h1;by_cases h2:m<e
      .have t2:=fS ae h2;obtain⟨dG,dW,aj⟩:=xG s m e h1 h2 axs zs hs;clear aw xG;obtain⟨w1,bS,dZ⟩:=bA.of ae (er dG);rw[<-hC]at aj;generalize gg:bZ dG=ea at*;conv=>cbv
       repeat' ((first|refine bG ?_|refine bH ?_|simp -proj only[t1,t2,bh,a2,a3,bq,aR,bO,c1,c2,c3,d1,d2,d3,w1,bS,dZ]|(split<;>(rename_i h;try simp only[h])))<;>conv=>cbv)
       all_goals (rw[xH];subst gg;exact⟨dG,dW,(dn axr (dn axr (dn axr (dn axr (dn axr (dn axr (dn axr (dn axr sn)))))))),axr,axr⟩)
      .have t2:=f' ae h2;conv=>cbv
       repeat' ((first|refine bG ?_|refine bH ?_|simp -proj only[t1,t2,bh,a2,a3,bq,aR,bO,c1,c2,c3,d1,d2,d3]|(split<;>(rename_i h;try simp only[h])))<;>conv=>cbv)
       all_goals (rw[xH];subst hC;exact⟨zs,hs,(dn axr (dn axr (dn axr (dn axr (dn axr (dn axr (dn axr (dn axr sn)))))))),axr,axr⟩)
     .have t1:=f' ae h1;conv=>cbv
      repeat' ((first|refine bG ?_|refine bH ?_|simp -proj only[t1,bh,a2,a3,bq,aR,bO,c1,c2,c3,d1,d2,d3]|(split<;>(rename_i h;try simp only[h])))<;>conv=>cbv)
      all_goals (rw[xH];subst hC;exact⟨zs,hs,(dn axr (dn axr (dn axr (dn axr (dn axr (dn axr (dn axr (dn axr sn)))))))),axr,axr⟩)
    clear xG;intro x st ak;cases x with
    |exit i=>rw[xH]at ak;exact ak.elim
    |ret=>rw[xH]at ak;exact ak.elim
    |normal=>
     rw[xH]at ak;obtain⟨zs,hs,ak⟩:=ak;rw[pH.eq ak];generalize st.aP=aP;clear ak xH acb;clear d1 d2 d3 hC;generalize hC:bZ zs=C at*;replace hC:=hC.symm;obtain⟨d1,d2,d3⟩:=bA.of ae (er zs);rw[<-hC]at d1 d2 d3;obtain⟨acd,xI⟩:∃k:Go.aJ.aA->af->Prop,k=λx st=>match x with|.normal=>∃eF:List Int,iG n z0 eF/\pH st [(0,.aS 0 0 n n 1),(1,.d (int (Int.ofNat a))),(2,.d (int (Int.ofNat m))),(3,.d (int (Int.ofNat b))),(4,.func 36 [] [.ptr 1 0]),(18,.d (int (Int.ofNat mid))),(20,.d (int (Int.ofNat s))),(24,.d (int (Int.ofNat e)))] (λ_=>none) [.box (bZ eF),.box [.ptr 2 0],.box [.aS 3 0 n n 1,.aS 4 0 n n 1,.aS 5 0 n n 1],.box N,.box M,.box D]|_=>False:=⟨_,rfl⟩
     refine xb ae [_] acd ?_ ?_
     .clear ao;by_cases h1:a<s
      .have t1:=fS ae h1;by_cases h2:s<mid
       .have t2:=fS ae h2;obtain⟨dG,dW,aj⟩:=aw a s mid axs h1 h2 axs zs hs;clear aw;obtain⟨w1,bS,dZ⟩:=bA.of ae (er dG);rw[<-hC]at aj;generalize gg:bZ dG=ea at*;conv=>cbv
        repeat' ((first|refine bG ?_|refine bH ?_|simp -proj only[t1,t2,bh,a2,a3,bq,aR,bO,c1,c2,c3,d1,d2,d3,w1,bS,dZ]|(split<;>(rename_i h;try simp only[h])))<;>conv=>cbv)
        all_goals (rw[xI];subst gg;exact⟨dG,dW,(dn axr (dn axr (dn axr (dn axr (dn axr (dn axr (dn axr (dn axr sn)))))))),axr,axr⟩)
       .have t2:=f' ae h2;conv=>cbv
        repeat' ((first|refine bG ?_|refine bH ?_|simp -proj only[t1,t2,bh,a2,a3,bq,aR,bO,c1,c2,c3,d1,d2,d3]|(split<;>(rename_i h;try simp only[h])))<;>conv=>cbv)
        all_goals (rw[xI];subst hC;exact⟨zs,hs,(dn axr (dn axr (dn axr (dn axr (dn axr (dn axr (dn axr (dn axr sn)))))))),axr,axr⟩)
      .have t1:=f' ae h1;conv=>cbv
       repeat' ((first|refine bG ?_|refine bH ?_|simp -proj only[t1,bh,a2,a3,bq,aR,bO,c1,c2,c3,d1,d2,d3]|(split<;>(rename_i h;try simp only[h])))<;>conv=>cbv)
       all_goals (rw[xI];subst hC;exact⟨zs,hs,(dn axr (dn axr (dn axr (dn axr (dn axr (dn axr (dn axr (dn axr sn)))))))),axr,axr⟩)
     intro x st ak;cases x with
     |exit i=>rw[xI]at ak;exact ak.elim
     |ret=>rw[xI]at ak;exact ak.elim
     |normal=>
      rw[xI]at ak;obtain⟨zs,hs,ak⟩:=ak;rw[pH.eq ak];generalize st.aP=aP;clear ak xI acd;clear d1 d2 d3 hC;generalize hC:bZ zs=C at*;replace hC:=hC.symm;obtain⟨d1,d2,d3⟩:=bA.of ae (er zs);rw[<-hC]at d1 d2 d3;by_cases h1:mid<e
      .have t1:=fS ae h1;by_cases h2:e<b
       .have t2:=fS ae h2;obtain⟨dG,dW,aj⟩:=aw mid e b axs h1 h2 axs zs hs;clear aw;obtain⟨w1,bS,dZ⟩:=bA.of ae (er dG);rw[<-hC]at aj;replace ao:=λs h=>ao (.tuple []) s ⟨dG,dW,rfl,h⟩;generalize gg:bZ dG=ea at*;conv=>cbv
        repeat' ((first|refine bG ?_|refine bH ?_|simp -proj only[t1,t2,bh,a2,a3,bq,aR,bO,c1,c2,c3,d1,d2,d3,w1,bS,dZ]|(split<;>(rename_i h;try simp only[h])))<;>conv=>cbv)
        all_goals exact ao _ axr
       .have t2:=f' ae h2;replace ao:=λs h=>ao (.tuple []) s ⟨zs,hs,rfl,h⟩;rw[<-hC]at ao;conv=>cbv
        repeat' ((first|refine bG ?_|refine bH ?_|simp -proj only[t1,t2,bh,a2,a3,bq,aR,bO,c1,c2,c3,d1,d2,d3]|(split<;>(rename_i h;try simp only[h])))<;>conv=>cbv)
        all_goals exact ao _ axr
      .have t1:=f' ae h1;replace ao:=λs h=>ao (.tuple []) s ⟨zs,hs,rfl,h⟩;rw[<-hC]at ao;conv=>cbv
       repeat' ((first|refine bG ?_|refine bH ?_|simp -proj only[t1,bh,a2,a3,bq,aR,bO,c1,c2,c3,d1,d2,d3]|(split<;>(rename_i h;try simp only[h])))<;>conv=>cbv)
       all_goals exact ao _ axr
theorem ace{n:Nat}{z0:List Int}{N M D:List ag}(fm:vv n N M D):∀(k a m b:Nat),b-a<=k->a<m->m<b->b<=n->qT 118 [.aS 0 0 n n 1,.d (int (Int.ofNat a)),.d (int (Int.ofNat m)),.d (int (Int.ofNat b)),.func 36 [] [.ptr 1 0]] n z0 N M D
 |0,a,m,b,h,h1,h2,av=>axs
 |k+1,a,m,b,h,h1,h2,av=>aqQ fm a m b h1 h2 av λa' m' cg g g1 g2 g3=>ace fm k a' m' cg axs g1 g2 g3
theorem aqT{ad:bn}(h:ad=bn.bY){b:Nat}(aq:b<=1152921504606846976):ad.io .mul .i64 2 (Int.ofNat b)=Int.ofNat (2*b)/\ad.io .mul .i64 (Int.ofNat b) 2=Int.ofNat (2*b):=by
 subst h;constructor
 .show IntKind.wrap .i64 (2*Int.ofNat b)=_;rw[aJ.wrap_small ayj ayj];simp only[azM];omega
 .show IntKind.wrap .i64 (Int.ofNat b*2)=_;rw[aJ.wrap_small ayj ayj];simp only[azM];omega
def acf(C N M D:List ag)(n bs a b:Nat):af:=cA [(0,.aS 0 0 n n 1),(1,.d (int (Int.ofNat n))),(2,.func 36 [] [.ptr 1 0]),(6,.d (int (Int.ofNat bs))),(7,.d (int (Int.ofNat a))),(8,.d (int (Int.ofNat b)))] (jo C N M D n)
def aqU(C N M D:List ag)(n bs:Nat):af:=cA [(0,.aS 0 0 n n 1),(1,.d (int (Int.ofNat n))),(2,.func 36 [] [.ptr 1 0]),(6,.d (int (Int.ofNat bs)))] (jo C N M D n)
theorem aqV{n:Nat}{z0:List Int}{N M D:List ag}(fm:vv n N M D):qT 70 [.aS 0 0 n n 1,.d (int (Int.ofNat n)),.func 36 [] [.ptr 1 0]] n z0 N M D:=by
 intro zs hs;refine zZ ?_;obtain⟨az,b9,cd,cH,bb⟩:=id fm;clear bb;have dM:=λa b h1 h2=>aqG (z0:=z0) fm a b h1 h2;have xJ:=λa m b h1 h2 av=>ace (z0:=z0) fm _ a m b (azI _) h1 h2 av;unfold qT at dM xJ;refine KH.jl [0,3,4,5] _ λad ae K ao=> ?_;obtain⟨bh,a2,a3⟩:=bA.of ae b9;obtain⟨bq,aR,bO⟩:=bA.of ae cd;obtain⟨c1,c2,c3⟩:=bA.of ae cH;clear b9 cd cH fm;unfold jo c6 at*;generalize hC:bZ zs=C at*;replace hC:=hC.symm;obtain⟨d1,d2,d3⟩:=bA.of ae (er zs);rw[<-hC]at d1 d2 d3;refine ai ?_;refine⟨b6 (λz:(Nat×Nat)×List ag=>acf z.2 N M D n 20 z.1.1 z.1.2) (λz=>(z.1.1<=n/\z.1.2=z.1.1+20)/\∃eF,z.2=bZ eF/\iG n z0 eF) (λz=>n+20-z.1.2),_,⟨((0,20),C),⟨⟨azF _,rfl⟩,zs,hC,hs⟩,rfl,axr⟩,?_⟩;clear d1 d2 d3 hC hs;rintro _ _ ⟨⟨⟨a,b⟩,C⟩,⟨⟨qU,vr⟩,zs,hC,hs⟩,rfl,rfl⟩;dsimp only at qU vr hC⊢;obtain⟨d1,d2,d3⟩:=bA.of ae (er zs);rw[<-hC]at d1 d2 d3;by_cases uC:b<=n
 .have t1:=ab7 ae uC;have t2:ad.io .add .i64 (Int.ofNat b) (Int.ofNat 20)=Int.ofNat (b+20):=pV ae axs;obtain⟨dG,dW,aj⟩:=dM a b qU uC zs hs;clear dM xJ;obtain⟨w1,bS,dZ⟩:=bA.of ae (er dG);rw[<-hC]at aj;generalize gg:bZ dG=ea at*;refine ai ?_;repeat' (split<;>refine ai ?_)
  all_goals exact fixF ((b,b+20),ea) ⟨⟨uC,rfl⟩,dG,gg.symm,dW⟩
 .have t1:=ab8 ae uC;obtain⟨dG,dW,aj⟩:=dM a n qU (azI _) zs hs;clear dM;obtain⟨w1,bS,dZ⟩:=bA.of ae (er dG);rw[<-hC]at aj;generalize gg:bZ dG=ea at*;replace gg:=gg.symm;refine ai ?_;repeat' (split<;>refine ai ?_)
  refine⟨b6 (λz:Nat×List ag=>aqU z.2 N M D n z.1) (λz=>1<=z.1/\∃eF,z.2=bZ eF/\iG n z0 eF) (λz=>n-z.1),_,⟨(20,ea),⟨by show 1<=20;omega,dG,gg,dW⟩,rfl,axr⟩,?_⟩;clear d1 d2 d3 w1 bS dZ hC hs gg dW t1 aj;rintro _ _ ⟨⟨bs,C⟩,⟨sY,zs,hC,hs⟩,rfl,rfl⟩;dsimp only at sY hC⊢;obtain⟨d1,d2,d3⟩:=bA.of ae (er zs);rw[<-hC]at d1 d2 d3;by_cases uC:bs<n
  .have t1:=fS ae uC;obtain⟨m1,m2⟩:=aqT ae (b:=bs) axs;obtain⟨tY,aqW⟩:∃k,k=2*bs:=⟨_,rfl⟩;rw[<-aqW]at m1 m2;refine ai ?_;repeat' (split<;>refine ai ?_)
   refine⟨b6 (λz:(Nat×Nat)×List ag=>acf z.2 N M D n bs z.1.1 z.1.2) (λz=>(z.1.1<=n/\z.1.2=z.1.1+tY)/\∃eF,z.2=bZ eF/\iG n z0 eF) (λz=>n+tY-z.1.2),_,⟨((0,tY),C),⟨⟨azF _,(aAy _).symm⟩,zs,hC,hs⟩,rfl,axr⟩,?_⟩;clear d1 d2 d3 hC hs t1;rintro _ _ ⟨⟨⟨a,b⟩,C⟩,⟨⟨qU,vr⟩,zs,hC,hs⟩,rfl,rfl⟩;dsimp only at qU vr hC⊢;obtain⟨d1,d2,d3⟩:=bA.of ae (er zs);rw[<-hC]at d1 d2 d3;have t2:=pV ae (a:=a) (b:=bs) axs;by_cases Gn:b<=n
   .have t1:=ab7 ae Gn;have t3:=pV ae (a:=b) (b:=tY) axs;obtain⟨dG,dW,aj⟩:=xJ a (a+bs) b axs axs Gn zs hs;clear xJ;obtain⟨w1,bS,dZ⟩:=bA.of ae (er dG);rw[<-hC]at aj;generalize gg:bZ dG=ea at*;generalize a+bs=m at*;generalize aqX:b+tY=bc at*;refine ai ?_;repeat' (split<;>refine ai ?_)
    all_goals exact fixF ((b,bc),ea) ⟨⟨Gn,aqX.symm⟩,dG,gg.symm,dW⟩
   .have t1:=ab8 ae Gn;by_cases hm:a+bs<n
    .have t3:=fS ae hm;obtain⟨dG,dW,aj⟩:=xJ a (a+bs) n axs hm (azI _) zs hs;clear xJ;obtain⟨w1,bS,dZ⟩:=bA.of ae (er dG);rw[<-hC]at aj;generalize gg:bZ dG=ea at*;generalize a+bs=m at*;refine ai ?_;repeat' (split<;>refine ai ?_)
     all_goals exact fixF (tY,ea) ⟨by show 1<=tY;omega,dG,gg.symm,dW⟩
    .have t3:=f' ae hm;clear xJ;generalize a+bs=m at*;refine ai ?_;repeat' (split<;>refine ai ?_)
     all_goals exact fixF (tY,C) ⟨by show 1<=tY;omega,zs,hC,hs⟩
  .have t1:=f' ae uC;replace ao:=λs h=>ao (.tuple []) s ⟨zs,hs,rfl,h⟩;rw[<-hC]at ao;refine ai ?_;repeat' (split<;>refine ai ?_)
   all_goals exact ao _ axr
theorem aqY{n:Nat}{z0:List Int}{N M D:List ag}(fm:vv n N M D):qT 35 [.aS 0 0 n n 1,.func 36 [] [.ptr 1 0]] n z0 N M D:=by
 intro zs hs;refine zZ ?_;obtain⟨az,b9,cd,cH,bb⟩:=id fm;clear bb;obtain⟨dG,dW,aj⟩:=aqV (z0:=z0) fm zs hs;refine KU.jl [0,3,4,5] _ λad ae K ao=> ?_;obtain⟨bh,a2,a3⟩:=bA.of ae b9;obtain⟨bq,aR,bO⟩:=bA.of ae cd;obtain⟨c1,c2,c3⟩:=bA.of ae cH;clear b9 cd cH fm;unfold jo c6 at*;obtain⟨d1,d2,d3⟩:=bA.of ae (er zs);obtain⟨w1,bS,dZ⟩:=bA.of ae (er dG);replace ao:=λs h=>ao (.tuple []) s ⟨dG,dW,rfl,h⟩;generalize bZ zs=C at*;generalize bZ dG=ea at*;refine ai ?_;repeat' (split<;>refine ai ?_)
 all_goals exact ao _ axr
theorem Mh{ad:bn}(h:ad=bn.bY):ad.w8 .dead=[]/\(∀n,ad.xa n .dead=true)/\(∀f,ad.w9 f .dead=.dead):=by
 subst h;exact⟨rfl,λ_=>rfl,λ_=>rfl⟩
def aqZ(N M D:List ag)(n:Nat):af:=cA [(0,.d (.list 1 [])),(1,.d (int 0)),(2,.d (int 0)),(3,.func 36 [] [.ptr 0 0]),(8,.d (int 1))] [.box [.ptr 1 0],.box (c6 2 3 4 n),.box N,.box M,.box D]
theorem aq0{N M D:List ag}(n:Nat)(b9:Flat N)(cd:Flat M)(cH:Flat D):aM 117 [.d (.list 1 []),.d (int 0),.d (int 0),.func 36 [] [.ptr 0 0]] [.box [.ptr 1 0],.box (c6 2 3 4 n),.box N,.box M,.box D] (.tuple []) [.box [.ptr 1 0],.box (c6 2 3 4 n),.box N,.box M,.box D]:=by
 refine KD.lq [2,3,4] λad ae Q a8=> ?_;obtain⟨bh,a2,a3⟩:=bA.of ae b9;obtain⟨bq,aR,bO⟩:=bA.of ae cd;obtain⟨c1,c2,c3⟩:=bA.of ae cH;clear b9 cd cH;unfold c6 at*;have q1:ad.aF .lss 1 0=false:=axz;have bK:ad.io .add .i64 0 1=1:=axz;have cI:ad.aF .leq 20 0=false:=axz;have ep:ad.aF .lss 20 0=false:=axz;have gR:ad.len []=Nat.zero:=axz;refine ai ?_;refine⟨b6 (λ_:Unit=>aqZ N M D n) (λ_=>True) (λ_=>0),_,⟨(),trivial,rfl,axr⟩,?_⟩;rintro _ _ ⟨_,_,rfl,rfl⟩;refine ai ?_;all_goals (subst ae;exact b5 a8 axr axr)
def aq1(N M D:List ag)(n:Nat):af:=cA [(0,.d (.list 1 [])),(1,.d (int 0)),(2,.func 36 [] [.ptr 0 0]),(6,.d (int 20)),(7,.d (int 0)),(8,.d (int 20))] [.box [.ptr 1 0],.box (c6 2 3 4 n),.box N,.box M,.box D]
def aq2(N M D:List ag)(n:Nat):af:=cA [(0,.d (.list 1 [])),(1,.d (int 0)),(2,.func 36 [] [.ptr 0 0]),(6,.d (int 20))] [.box [.ptr 1 0],.box (c6 2 3 4 n),.box N,.box M,.box D]
theorem aq3{N M D:List ag}(n:Nat)(b9:Flat N)(cd:Flat M)(cH:Flat D):aM 70 [.d (.list 1 []),.d (int 0),.func 36 [] [.ptr 0 0]] [.box [.ptr 1 0],.box (c6 2 3 4 n),.box N,.box M,.box D] (.tuple []) [.box [.ptr 1 0],.box (c6 2 3 4 n),.box N,.box M,.box D]:=by
 have aj:=aq0 n b9 cd cH;refine KH.lq [2,3,4] λad ae Q a8=> ?_;obtain⟨bh,a2,a3⟩:=bA.of ae b9;obtain⟨bq,aR,bO⟩:=bA.of ae cd;obtain⟨c1,c2,c3⟩:=bA.of ae cH;clear b9 cd cH;unfold c6 at*;have q1:ad.aF .lss 1 0=false:=axz;have bK:ad.io .add .i64 0 1=1:=axz;have cI:ad.aF .leq 20 0=false:=axz;have ep:ad.aF .lss 20 0=false:=axz;have gR:ad.len []=Nat.zero:=axz;refine ai ?_;refine⟨b6 (λ_:Unit=>aq1 N M D n) (λ_=>True) (λ_=>0),_,⟨(),trivial,rfl,axr⟩,?_⟩;rintro _ _ ⟨_,_,rfl,rfl⟩;refine ai ?_;refine⟨b6 (λ_:Unit=>aq2 N M D n) (λ_=>True) (λ_=>0),_,⟨(),trivial,rfl,axr⟩,?_⟩;rintro _ _ ⟨_,_,rfl,rfl⟩;refine ai ?_;all_goals (subst ae;exact b5 a8 axr axr)
theorem aq4{N M D:List ag}(n:Nat)(b9:Flat N)(cd:Flat M)(cH:Flat D):aM 35 [.d (.list 1 []),.func 36 [] [.ptr 0 0]] [.box [.ptr 1 0],.box (c6 2 3 4 n),.box N,.box M,.box D] (.tuple []) [.box [.ptr 1 0],.box (c6 2 3 4 n),.box N,.box M,.box D]:=by
 have aj:=aq3 n b9 cd cH;refine KU.lq [2,3,4] λad ae Q a8=> ?_;obtain⟨bh,a2,a3⟩:=bA.of ae b9;obtain⟨bq,aR,bO⟩:=bA.of ae cd;obtain⟨c1,c2,c3⟩:=bA.of ae cH;clear b9 cd cH;unfold c6 at*;have q1:ad.aF .lss 1 0=false:=axz;have bK:ad.io .add .i64 0 1=1:=axz;have cI:ad.aF .leq 20 0=false:=axz;have ep:ad.aF .lss 20 0=false:=axz;have gR:ad.len []=Nat.zero:=axz;refine ai ?_;all_goals (subst ae;exact b5 a8 axr axr)
def nz(k:Nat):List fb:=(List.range k).map λi=>fb.d (int (Int.ofNat i))
def iota(n:Nat):List Int:=(List.range n).map Int.ofNat
theorem aq5(k:Nat):nz (k+1)=nz k++[fb.d (int (Int.ofNat k))]:=by
 unfold nz;rw[List.range_succ,az5];rfl
theorem aq6(k:Nat):ju (nz k)=bZ (iota k):=by
 unfold ju nz bZ iota;rw[aBd,aBd];rfl
def z7:Nat->ag
 |0=>.own 1 []
 |k+1=>.raw 1 (k+1) (nz (k+1))
theorem aq7(n:Nat):iG n (iota n) (iota n):=⟨by unfold iota;rw[azG,List.length_range],λz aQ=>by
 unfold iota at aQ;obtain⟨i,hi,rfl⟩:=aAn.1 aQ;have:=aAH.1 hi;unfold gh;rw[azH];exact⟨azO (aBV _),azO (aA5.2 this)⟩,.refl _⟩
theorem acg{ad:bn}(h:ad=bn.bY)(zs:List Int){n:Nat}(az:zs.length=n):ad.Ca 0 n n 1 (bZ zs)=some (.list 1 (zs.map int)):=by
 subst h;subst az;have h1:jr ((bZ zs).take zs.length)=some (zs.map int):=by
  rw[aAP (by rw[oR];exact azI _)];unfold bZ;induction zs with
  |nil=>rfl
  |cons z l ih=>show(match jr (l.map λz=>ag.d (int z))with|some xs=>some (int z::xs)|none=>none)=_;rw[ih];rfl
 have h2:(zs.map int).all jt=true:=azX.2 λx ak=>by obtain⟨z,_,rfl⟩:=aAn.1 ak;rfl
 have av:chunks 1 zs.length (zs.map int)=zs.map int:=by
  clear h1 h2;induction zs with
  |nil=>rfl
  |cons z l ih=>show int z::chunks 1 l.length (l.map int)=_;rw[ih];rfl
 show cond (Nat.ble zs.length zs.length&&Nat.blt 0 1&&Nat.ble (0+zs.length*1) (bZ zs).length) (match jr (((bZ zs).drop 0).take (zs.length*1))with
  |some l=>cond (l.all jt) (some (D.list 1 (chunks 1 zs.length l))) none
  |none=>none) none=_
 rw[oR,aAy,aBU,aA4 (azI _),aCD,h1];dsimp only;rw[h2,av];rfl
def Mi(N M D:List ag)(n i:Nat)(v:ag):af:=cA [(1,.ptr 4 0),(3,v),(9,.d (int (Int.ofNat n))),(10,.d (int (Int.ofNat i)))] [.box (c6 1 2 3 n),.box N,.box M,.box D,.box [.ptr 0 0]]
theorem ach{N M:List ag}(ds:List Int)(n:Nat)(a6:ds.length=n)(az:n<=1073741824)(b9:Flat N)(cd:Flat M):∃zs:List Int,iG n (iota n) zs/\aM 17 [.ptr 0 0] [.box (c6 1 2 3 n),.box N,.box M,.box (bZ ds)] (.d (.list 1 (zs.map int))) [.box (c6 1 2 3 n),.box N,.box M,.box (bZ ds)]:=by
 have fm:vv n N M (bZ ds):=⟨az,b9,cd,er ds,aqD a6 b9 cd⟩;have cH:=er ds;obtain⟨zs,hs,aj⟩:=aqY (z0:=iota n) fm (iota n) (aq7 n);have ch:=aq4 n b9 cd cH;clear fm;refine⟨zs,hs,?_⟩;refine SN.lq [1,2,3,5] λad ae Q a8=> ?_;obtain⟨bh,a2,a3⟩:=bA.of ae b9;obtain⟨bq,aR,bO⟩:=bA.of ae cd;obtain⟨c1,c2,c3⟩:=bA.of ae cH;clear b9 cd cH;obtain⟨d1,d2,d3⟩:=bA.of ae (er (iota n));obtain⟨w1,bS,dZ⟩:=bA.of ae (er zs);obtain⟨b0,b7,c7⟩:=Mh ae;have cT:=acg ae zs hs.len;have c8:ad.w7 (nz n)=some (bZ (iota n)):=by rw[<-aq6];subst ae;rfl
 unfold jo c6 at*;have aQ:n=0->zs.map int=[]:=λh=>by rw[aCf.1 (hs.len.trans h)];rfl
 generalize zs.map int=Z at*;generalize awL:bZ zs=awM at*;generalize awN:bZ (iota n)=awO at*;generalize bZ ds=D at*;refine ai ?_;refine⟨b6 (λz:Nat=>Mi N M D n z (z7 z)) (λz=>z<=n) (λz=>n-z),_,⟨0,azF _,rfl,axr⟩,?_⟩;rintro _ _ ⟨i,hi,rfl,rfl⟩;by_cases aB:i<n
 .have t1:=fS ae aB;have t6:=cv ae (n:=i) axs;cases i with
  |zero=>
   refine ai ?_;repeat' (split<;>refine ai ?_)
   all_goals exact eb 1 (by show 1<=n;omega) (by show n-1<n-0;omega) axr
  |succ k=>
   have du:ad.zj (nz (k+1)) [fb.d (int (Int.ofNat (k+1)))]=some (nz (k+2)):=by subst ae;rw[aq5 (k+1)];rfl
   have iZ:ad.lp (k+1) 1=k+2:=axz;have s7:ad.zk 1 1 (k+1) 1 17592186044416=true:=azv;have h0:z7 (k+1)=.raw 1 (k+1) (nz (k+1)):=rfl;have h2:z7 (k+2)=.raw 1 (k+2) (nz (k+2)):=rfl;have bm:∀{m:Nat} {st:af},st=Mi N M D n (k+2) (z7 (k+2))->∃m,m<n-(k+1)/\b6 (λz:Nat=>Mi N M D n z (z7 z)) (λz=>z<=n) (λz=>n-z) m st:=λh=>eb (k+2) (by show k+2<=n;omega) (by show n-(k+2)<n-(k+1);omega) h;rw[h2]at bm;dsimp only;rw[h0];clear h0 h2 hi aB;generalize k+1=bN at*;generalize k+2=cz at*;generalize nz bN=aci at*;generalize nz cz=R2 at*;refine ai ?_;repeat' (split<;>refine ai ?_)
   all_goals exact bm (m:=0) axr
 .have t1:=f' ae aB;obtain rfl:i=n:=by show i=n;have:i<=n:=hi;omega
  cases i with
  |zero=>
   have aQ:=aQ rfl;subst aQ;refine ai ?_;repeat' (split<;>refine ai ?_)
   all_goals (subst ae;exact b5 a8 axr axr)
  |succ k=>
   have h0:z7 (k+1)=.raw 1 (k+1) (nz (k+1)):=rfl;dsimp only;rw[h0];clear h0 hi aB ch aQ;generalize nz (k+1)=aci at*;generalize k+1=bN at*;refine ai ?_;repeat' (split<;>refine ai ?_)
   all_goals (subst ae;exact b5 a8 axr axr)
end Go.Proofs.YtmgpekpnidjfoaaGreatDoor
