/- Part of parts_said. -/
import Derived.Test.YthffhbakgmemaaaGreatDoorB4
set_option maxRecDepth 100000
set_option maxHeartbeats 8000000
set_option linter.unusedSimpArgs false
set_option linter.unusedVariables false
namespace Go.Proofs.YthffhbakgmemaaaGreatDoor
open Go Go.aG
attribute [local irreducible] bD
theorem wR{a:Type}(f:a->Nat)(l:List a){i:Nat}(h:i<l.length):fS f (l.take (i+1))=fS f (l.take i)+(200+f l[i]):=by
 rw[aDg,aCB h,aD5,rO];rfl
theorem vf{a:Type}(f:a->Nat):∀(l:List a) (i:Nat),fS f (l.take i)<=fS f l
 |[],i=>az7
 |x::l,0=>aCu _
 |x::l,i+1=>by have:=vf f l i;show 200+f x+fS f (l.take i)<=200+f x+fS f l;omega
theorem yM{a:Type}(f:a->Nat)(l:List a){i:Nat}(h:i<l.length):f l[i]+200<=fS f l:=by
 have h1:=wR f l h;grind[vf]
theorem wS(a:List ax)(sep:ax)(c:sep.length<=100)(h:lens a<=100000000000):∃s:ax,s.length+100*a.length<=lens a/\aL 131 [.d (.list 1 (a.map .str)),.d (.str sep)] [] (.d (.str s)) []:=by
 have h1:=Ns c a;have d:=tt a;exact⟨_,h1,Gz exts.C8 exts.j (HA a) az6 az6⟩
theorem rT{c:Type}{l:List c}{a:c}{n:Nat}(h:l.length=n):(l++[a]).length=n+1:=az9
theorem arS(c:dO)(l:List (ax×ax))(k:c.on=l.map fm)(Z:j0 l<=10000000000):∃s:ax,s.length<=j0 l/\aL 226 [.d (.agg c.cs)] [] (.d (.str s)) []:=by
 refine eW ?_;have p:(l.map fm).length=l.length:=aCv _;have m:∀i (h:i<l.length),(l.map fm)[i]?=some (fm l[i]):=λi h=>cY h;rw[<-k]at p m;clear k;have wL:l.length<=j0 l:=ko _ _;obtain⟨c1,c2,c3,M,N,S,F,X,P,Q,Y,J,r,U,V,H⟩:=c;dsimp only at*;generalize E:r=L at*;refine XA.cn _ λa ae K o=> ?_;refine ak ?_;refine⟨bX (λz:Nat×List D=>cA [(3,.own 1 z.2),(7,.d (.list 2 L)),(8,.d (int (Int.ofNat (a.len L)))),(9,.d (int (Int.ofNat z.1)))] []) (λz=>z.1<=l.length/\∃d:List ax,z.2=d.map .str/\d.length=z.1/\lens d<=j0 (l.take z.1)+3*z.1) λz=>l.length-z.1,_,⟨(0,[]),⟨aCu _,[],rfl,rfl,aCu _⟩,rfl,az5⟩,?_⟩;rintro _ _ ⟨⟨i,B⟩,⟨u,d,e9,j,w⟩,rfl,rfl⟩;dsimp only at u j w e9⊢;have v:=yF (l:=d);have oK:=tt d;have C:j0 (l.take i)<=j0 l:=vf (λx:(ax×ax)=>x.1.length+x.2.length) _ _;by_cases f:i<l.length
 .have g1:a.aB .lss (Int.ofNat i) (Int.ofNat (a.len L))=true:=by simp_all[aH]
  have g2:=cH ae (m i f);have g3:=b9 ae (n:=i) az6;have g:j0 (l.take (i+1))=j0 (l.take i)+(200+(l[i].1.length+l[i].2.length)):=wR (λx:(ax×ax)=>x.1.length+x.2.length) l f;have G:(l[i].1.length+l[i].2.length)+200<=j0 l:=yM (λx:(ax×ax)=>x.1.length+x.2.length) l f;have A:∀s:ax,s.length<=(l[i].1.length+l[i].2.length)+3->lens (d++[s])<=j0 (l.take (i+1))+3*(i+1):=by
   intro s h;rw[tu,g];show lens d+(200+s.length+0)<=_;omega
  rw[<-e9]at v;clear g;unfold fm at g2;generalize l[i]=x at*;obtain⟨bP,bZ⟩:=x;dsimp only at*;have h1:a.fL bP [32,61,32]=true:=aAj;have af:a.fL (a.cV bP [32,61,32]) bZ=true:=aAh;refine ak ?_;exact fixF (i+1,a.app B [.str (a.cV (a.cV bP [32,61,32]) bZ)]) ⟨f,d++[(a.cV (a.cV bP [32,61,32]) bZ)],aAm,rT j,A _ aCf⟩
 .have R:i=l.length:=by omega
  have g1:a.aB .lss (Int.ofNat i) (Int.ofNat (a.len L))=false:=aAa;obtain⟨t,g,aj⟩:=wS d [44,32] az' az6;rw[<-e9]at aj;refine ak ?_;exact o _ _ ⟨t,az6,rfl,az5⟩
theorem arT(c:dO)(l:List (ax×ax×ax))(k:c.aw=l.map eK)(hw:j1 l<=10000000000):∃s:ax,s.length<=j1 l/\aL 227 [.d (.agg c.cs)] [] (.d (.str s)) []:=by
 refine eW ?_;have p:(l.map eK).length=l.length:=aCv _;have m:∀i (h:i<l.length),(l.map eK)[i]?=some (eK l[i]):=λi h=>cY h;rw[<-k]at p m;clear k;have wL:l.length<=j1 l:=ko _ _;obtain⟨c1,c2,c3,N,P,U,G,Y,Q,R,Z,M,V,r,X,J⟩:=c;dsimp only at*;generalize E:r=L at*;refine XC.cn _ λa ae K o=> ?_;refine ak ?_;refine⟨bX (λz:Nat×List D=>cA [(3,.own 1 z.2),(7,.d (.list 3 L)),(8,.d (int (Int.ofNat (a.len L)))),(9,.d (int (Int.ofNat z.1)))] []) (λz=>z.1<=l.length/\∃d:List ax,z.2=d.map .str/\d.length=z.1/\lens d<=j1 (l.take z.1)+6*z.1) λz=>l.length-z.1,_,⟨(0,[]),⟨aCu _,[],rfl,rfl,aCu _⟩,rfl,az5⟩,?_⟩;rintro _ _ ⟨⟨i,B⟩,⟨u,d,e9,j,w⟩,rfl,rfl⟩;dsimp only at u j w e9⊢;have v:=yF (l:=d);have oK:=tt d;have C:j1 (l.take i)<=j1 l:=vf (λx:(ax×ax×ax)=>x.1.length+x.2.1.length+x.2.2.length) _ _;by_cases f:i<l.length
 .have g1:a.aB .lss (Int.ofNat i) (Int.ofNat (a.len L))=true:=by simp_all[aH]
  have g2:=cH ae (m i f);have g3:=b9 ae (n:=i) az6;have g:j1 (l.take (i+1))=j1 (l.take i)+(200+(l[i].1.length+l[i].2.1.length+l[i].2.2.length)):=wR (λx:(ax×ax×ax)=>x.1.length+x.2.1.length+x.2.2.length) l f;have H:(l[i].1.length+l[i].2.1.length+l[i].2.2.length)+200<=j1 l:=yM (λx:(ax×ax×ax)=>x.1.length+x.2.1.length+x.2.2.length) l f;have A:∀s:ax,s.length<=(l[i].1.length+l[i].2.1.length+l[i].2.2.length)+6->lens (d++[s])<=j1 (l.take (i+1))+6*(i+1):=by
   intro s h;rw[tu,g];show lens d+(200+s.length+0)<=_;omega
  rw[<-e9]at v;clear g;unfold eK at g2;generalize l[i]=x at*;obtain⟨bP,bZ,cx⟩:=x;dsimp only at*;have h1:a.fL bP [40]=true:=aAj;have af:a.fL (a.cV bP [40]) bZ=true:=aAh;have av:a.fL (a.cV (a.cV bP [40]) bZ) [41,32,97,115,32]=true:=aAh;have F:a.fL (a.cV (a.cV (a.cV bP [40]) bZ) [41,32,97,115,32]) cx=true:=aAh;refine ak ?_;exact fixF (i+1,a.app B [.str (a.cV (a.cV (a.cV (a.cV bP [40]) bZ) [41,32,97,115,32]) cx)]) ⟨f,d++[(a.cV (a.cV (a.cV (a.cV bP [40]) bZ) [41,32,97,115,32]) cx)],aAm,rT j,A _ aCf⟩
 .have S:i=l.length:=by omega
  have g1:a.aB .lss (Int.ofNat i) (Int.ofNat (a.len L))=false:=aAa;obtain⟨t,g,aj⟩:=wS d [44,32] az' az6;rw[<-e9]at aj;refine ak ?_;exact o _ _ ⟨t,az6,rfl,az5⟩
theorem arU(c:dO)(l:List (ax×Bool))(k:c.ob=l.map fp)(Z:j2 l<=10000000000):∃s:ax,s.length<=j2 l/\aL 228 [.d (.agg c.cs)] [] (.d (.str s)) []:=by
 refine eW ?_;have u:(l.map fp).length=l.length:=aCv _;have m:∀i (h:i<l.length),(l.map fp)[i]?=some (fp l[i]):=λi h=>cY h;rw[<-k]at u m;clear k;have wL:l.length<=j2 l:=ko _ _;obtain⟨c1,c2,c3,M,N,S,F,X,P,Q,Y,J,U,V,v,H⟩:=c;dsimp only at*;generalize E:v=L at*;refine Zk.cn _ λd ae K r=> ?_;refine ak ?_;refine⟨bX (λz:Nat×List D=>cA [(3,.own 1 z.2),(8,.d (.list 2 L)),(9,.d (int (Int.ofNat (d.len L)))),(10,.d (int (Int.ofNat z.1)))] []) (λz=>z.1<=l.length/\∃a:List ax,z.2=a.map .str/\a.length=z.1/\lens a<=j2 (l.take z.1)+5*z.1) λz=>l.length-z.1,_,⟨(0,[]),⟨aCu _,[],rfl,rfl,aCu _⟩,rfl,az5⟩,?_⟩;rintro _ _ ⟨⟨i,p⟩,⟨w,a,e9,g,B⟩,rfl,rfl⟩;dsimp only at w g B e9⊢;have A:=yF (l:=a);have oK:=tt a;have C:j2 (l.take i)<=j2 l:=vf (λx:(ax×Bool)=>x.1.length) _ _;by_cases f:i<l.length
 .have g1:d.aB .lss (Int.ofNat i) (Int.ofNat (d.len L))=true:=by simp_all[aH]
  have g2:=cH ae (m i f);have g3:=b9 ae (n:=i) az6;have j:j2 (l.take (i+1))=j2 (l.take i)+(200+(l[i].1.length)):=wR (λx:(ax×Bool)=>x.1.length) l f;have G:(l[i].1.length)+200<=j2 l:=yM (λx:(ax×Bool)=>x.1.length) l f;have o:∀s:ax,s.length<=(l[i].1.length)+5->lens (a++[s])<=j2 (l.take (i+1))+5*(i+1):=by
   intro s h;rw[tu,j];show lens a+(200+s.length+0)<=_;omega
  rw[<-e9]at A;clear j;unfold fp at g2;generalize l[i]=x at*;obtain⟨bP,bZ⟩:=x;dsimp only at*;have h1:d.fL bP [32,100,111,119,110]=true:=aAj;cases bZ with
  |true=>
   refine ak ?_;exact fixF (i+1,d.app p [.str (d.cV bP [32,100,111,119,110])]) ⟨f,a++[(d.cV bP [32,100,111,119,110])],aAm,rT g,o _ aAa⟩
  |false=>
   refine ak ?_;exact fixF (i+1,d.app p [.str bP]) ⟨f,a++[bP],aAm,rT g,o _ az7⟩
 .have R:i=l.length:=by omega
  have g1:d.aB .lss (Int.ofNat i) (Int.ofNat (d.len L))=false:=aAa;obtain⟨t,j,aj⟩:=wS a [44,32] az' az6;rw[<-e9]at aj;refine ak ?_;exact r _ _ ⟨t,az6,rfl,az5⟩
theorem e7{a:bd}(h:a=bd.bU){z n i:Nat}(hi:i<n):a.dS z z (Int.ofNat i) n=true:=aAa
theorem l8{a:bd}(h:a=bd.bU)(i:Nat):a.la 0 (Int.ofNat i) 1=i:=by
 simp_all[uV]
theorem tw{a:bd}(h:a=bd.bU){C:List ah}{i:Nat}(hi:i<C.length):a.ha i 1 C true=true:=by
 rw[(uV h).2.1,aCI az6];rfl
theorem wT{a:bd}(h:a=bd.bU){C:List ah}{i:Nat}(hi:i<C.length):a.lE true i 1 C true=true:=by
 rw[(uV h).2.2.1,aCI az6];rfl
theorem yN{a:bd}(h:a=bd.bU){C:List ah}{i:Nat}{x:D}(hi:C[i]?=some (.d x)):a.kM C i=.d x:=by
 subst h;show snap (C.getD i .undef)=_;rw[aC4,hi];rfl
theorem tz{a:bd}(h:a=bd.bU)(C:List ah)(i:Nat)(v:ah):a.kN C i [v]=some (C.set i v):=aAn
theorem l9{c:bd}(h:c=bd.bU)(a b:Nat):c.ns (Int.ofNat a) (Int.ofNat b)=a-b:=aAn
theorem qH{a:bd}(h:a=bd.bU){l m n c:Nat}(h1:l<=m)(d:m<=n)(f:n<=c):a.mC true (Int.ofNat l) (Int.ofNat m) (Int.ofNat n) c=true:=by
 simp_all[uV]
theorem adX{a:bd}(h:a=bd.bU){C:List ah}{o n:Nat}(hi:o+n<=C.length):a.wy true o n 1 C=true:=by
 simp_all[uV]
def gy(a:List ax):List ah:=a.map λs=>.d (.str s)
theorem ND(a:List ax):(gy a).length=a.length:=aCv _
theorem mJ(a:List ax):Flat (gy a):=λv hv=>aCg
theorem adY{a:List ax}{i:Nat}(h:i<a.length):(gy a)[i]?=some (.d (.str a[i])):=by
 grind[gy]
theorem arV(a:List ax)(i:Nat)(s:ax):(gy a).set i (.d (.str s))=gy (a.set i s):=by
 grind[gy,List.map_set]
theorem NF(v:ah):∀(n:Nat) (C:List ah) (i:Nat),i+n<=C.length->putCells C i (List.replicate n v)=C.take i++List.replicate n v++C.drop (i+n)
 |0,C,i,h=>by show C=_;simp
 |n+1,C,i,h=>by
  show putCells (C.set i v) (i+1) (List.replicate n v)=_;rw[NF v n _ _ az9,aDg,aDf az6,aFf (aCw _),aGg az6];grind
theorem adZ(s:ax):aL 179 [.d (.str s)] [] (.d (.bool (decide (s=[])))) []:=by
 refine aa7.ct λc ae Q a=> ?_;refine ak ?_
 (subst ae;exact bS a az5 az5)
def arW(C:List ah)(n i:Nat):ag:=cA [(0,.aP 0 0 n n 1),(1,.d (.fn 179)),(7,.d (int (Int.ofNat n))),(8,.d (int (Int.ofNat i)))] [.box C]
theorem arX(a:List ax)(n:Nat)(l:a.length=n)(j:n<=1073741824):∃r:Int,(r= -1\/∃k:Nat,k<n/\r=Int.ofNat k)/\aL 220 [.aP 0 0 n n 1,.d (.fn 179)] [.box (gy a)] (.d (int r)) [.box (gy a)]:=by
 refine eW ?_;refine Mp.iX [0] _ λc ae K g=> ?_;have f0:=(mJ a).refs ae;have f1:=(mJ a).ok ae;have m:=ND a;have cv:∀i (h:i<a.length),(gy a)[i]?=some (.d (.str a[i])):=λi h=>adY h;generalize gy a=C at*;refine ak ?_;refine⟨bX (λi=>arW C n i) (λi=>i<=n) (λi=>n-i),_,⟨0,aCu _,rfl,az5⟩,?_⟩;rintro _ _ ⟨i,f,rfl,rfl⟩;dsimp only at f⊢;by_cases d:i<n
 .have t1:c.aB .lss (Int.ofNat i) (Int.ofNat n)=true:=by simp_all[aH]
  have t2:c.dS 1 1 (Int.ofNat i) n=true:=e7 ae d;have t3:=l8 ae i;have t4:c.ha i 1 C true=true:=tw ae az6;have t5:=yN ae (cv i az6);have t6:=b9 ae (n:=i) az6;have aj:=adZ (a[i]' az6);generalize (a[i]' az6)=x at*;generalize au:decide (x=[])=b at*;cases b with
  |true=>
   refine ak ?_;grind
  |false=>
   refine ak ?_;exact fixF (i+1) d
 .have t1:c.aB .lss (Int.ofNat i) (Int.ofNat n)=false:=by simp_all[aH]
  refine ak ?_;simp_all
theorem arY(ss:List ax)(i:Nat):lens (ss.take i)+lens (ss.drop i)=lens ss:=by
 rw[<-tu,aD6]
theorem ad0(s:ax)(ss:List ax):lens (s::ss)=200+s.length+lens ss:=rfl
theorem arZ{ts:List ax}{i j:Nat}(c:i<j)(a:j<ts.length):lens ((ts.set i ts[j]).take (i+1))+lens ((ts.set i ts[j]).drop (j+1))=lens (ts.take i)+lens (ts.drop j):=by
 rw[aDg,aDf az6,aFf (aCw _),aGg az6,aEK a,ad0,tu];show lens (ts.take i)+(200+ts[j].length+0)+_=_;omega
theorem ad1{ts:List ax}{j:Nat}(a:j<ts.length):lens (ts.drop (j+1))<=lens (ts.drop j):=by
 grind[List.drop_eq_getElem_cons,ad0]
def ar0(C:List ah)(n i j:Nat):ag:=cA [(0,.aP 0 0 n n 1),(1,.d (.fn 179)),(5,.d (int (Int.ofNat i))),(6,.d (int (Int.ofNat j)))] [.box C]
theorem ar1(ss:List ax)(n:Nat)(t:ss.length=n)(bB:0<n)(L:n<=1073741824):∃(i:Nat) (c:List ax),i<=n/\c.length=n/\lens (c.take i)<=lens ss/\aL 178 [.aP 0 0 n n 1,.d (.fn 179)] [.box (gy ss)] (.aP 0 0 i n 1) [.box (gy c)]:=by
 suffices h:∃r E,(∃(i:Nat) (c:List ax),i<=n/\c.length=n/\lens (c.take i)<=lens ss/\r=.aP 0 0 i n 1/\E=[.box (gy c)])/\aL 178 [.aP 0 0 n n 1,.d (.fn 179)] [.box (gy ss)] r E by
  grind
 obtain⟨r,H,aj⟩:=arX ss n t L;refine aa5.iX [0] _ λa ae K d=> ?_;have f0:=(mJ ss).refs ae;have f1:=(mJ ss).ok ae;have f2:=(mJ ss).ren ae;rcases H with rfl|⟨k,hk,rfl⟩
 .have t1:a.aB .eql (-1) (-1)=true:=by simp_all[aH]
  have f:lens (ss.take n)<=lens ss:=az9;replace d:=λs h=>d (.aP 0 0 n n 1) s ⟨n,ss,aCw _,t,f,rfl,h⟩;generalize gy ss=C at*;refine ak ?_;simp_all
 have t1:a.aB .eql (Int.ofNat k) (-1)=false:=aAa;have t6:=b9 ae (n:=k) az6;have f:lens (ss.take k)+lens (ss.drop (k+1))<=lens ss:=by grind[arY,ad1]
 have S:=d;have M:gy ss=gy ss:=rfl;generalize v:gy ss=C at aj f0 f1 f2;obtain⟨U,N⟩:∃m,m=k+1:=⟨_,rfl⟩;rw[<-N]at t6 f;refine ak ?_;refine⟨bX (λz:Nat×Nat×List ah=>ar0 z.2.2 n z.1 z.2.1) (λz=>∃ts:List ax,z.2.2=gy ts/\ts.length=n/\z.1<z.2.1/\z.2.1<=n/\lens (ts.take z.1)+lens (ts.drop z.2.1)<=lens ss) (λz=>n-z.2.1),_,⟨(k,U,C),⟨ss,v.symm,t,az9,az9,f⟩,rfl,az5⟩,?_⟩;clear f0 f1 f2 t6 t1 aj v f S M;rintro _ _ ⟨⟨i,j,C⟩,⟨ts,u,P,A,J,Q⟩,rfl,rfl⟩;dsimp only at u A J Q⊢;have f0:=(mJ ts).refs ae;have f1:=(mJ ts).ok ae;have f2:=(mJ ts).ren ae;have F:=ND ts;rw[<-u]at f0 f1 f2 F;by_cases o:j<n
 .have V:j<ts.length:=by omega
  have t1:a.aB .lss (Int.ofNat j) (Int.ofNat n)=true:=aAa;have t2:a.dS 1 1 (Int.ofNat j) n=true:=e7 ae o;have t3:=l8 ae j;have t4:a.ha j 1 C true=true:=tw ae az6;have t5:a.kM C j=.d (.str (ts[j])):=by grind[yN,adY]
  have t6:=b9 ae (n:=j) az6;have aj:=adZ (ts[j]);have eY:a.dS 1 1 (Int.ofNat i) n=true:=e7 ae az6;have fa:=l8 ae i;have fG:a.lE true i 1 C true=true:=wT ae az6;have g':a.kN C i [.d (.str (ts[j]))]=some (gy (ts.set i (ts[j]))):=by grind[tz,arV]
  have lb:=b9 ae (n:=i) az6;have g0:=(mJ (ts.set i (ts[j]))).refs ae;have g1:=(mJ (ts.set i (ts[j]))).ok ae;have p:(ts.set i (ts[j])).length=n:=az8;have X:=arZ (ts:=ts) A az6;have Y:=ad1 (ts:=ts) (j:=j) az6;generalize (ts.set i (ts[j]))=g at*;generalize (ts[j])=x at*;generalize au:decide (x=[])=b at*;generalize B:gy g=w at*;cases b with
  |true=>
   refine ak ?_;exact fixF (i,j+1,C) ⟨ts,u,P,az9,o,az9⟩
  |false=>
   refine ak ?_;exact fixF (i+1,j+1,w) ⟨g,B.symm,p,az8,o,az8⟩
 .have t1:a.aB .lss (Int.ofNat j) (Int.ofNat n)=false:=by simp_all[aH]
  have fw:a.mC true (Int.ofNat i) (Int.ofNat n) (Int.ofNat n) n=true:=qH ae az6 (aCw _) (aCw _);have eY:a.aB .eql (Int.ofNat i) (Int.ofNat n)=false:=aAg;have fa:=l8 ae i;have fG:=l9 ae n i;obtain⟨m,R⟩:∃m,m=n-i:=⟨_,rfl⟩;rw[<-R]at fG;have g':a.wy true i m 1 C=true:=adX ae az6;have lb:a.qp C i m [.d (.str [])]=some (gy (ts.take i++List.replicate m [])):=by
   have h1:a.qp C i m [.d (.str [])]=some (putCells C i (List.replicate m [ah.d (.str [])]).flatten):=aAc;have af:(List.replicate m [ah.d (.str [])]).flatten=List.replicate m (ah.d (.str [])):=az7;grind[NF,gy,List.drop_eq_nil_of_le,List.map_take,List.map_replicate]
  have p:(ts.take i++List.replicate m ([]:ax)).length=n:=az9;have G:lens ((ts.take i++List.replicate m ([]:ax)).take i)<=lens ss:=az9;have g1:=(mJ (ts.take i++List.replicate m [])).ok ae;generalize (ts.take i++List.replicate m ([]:ax))=g at*;replace d:=λs h=>d (.aP 0 0 i n 1) s ⟨i,g,az6,p,G,rfl,h⟩;generalize B:gy g=w at*;have v1:a.mC true 0 (Int.ofNat i) (Int.ofNat n) n=true:=qH (l:=0) ae az6 az6 (aCw _);have v2:a.aB .eql 0 (Int.ofNat n)=false:=aAg;have v3:a.la 0 0 1=0:=l8 ae 0;have v4:a.ns (Int.ofNat i) 0=i:=l9 ae i 0;have v5:a.ns (Int.ofNat n) 0=n:=l9 ae n 0;refine ak ?_;simp_all
theorem ad2:∀a:List ax,ja (gy a)=some (a.map D.str)
 |[]=>rfl
 |s::a=>by
  show(match ja (gy a)with|some xs=>some (D.str s::xs)|none=>none)=_;rw[ad2 a];rfl
theorem ar3(a:List ax)(i n:Nat)(h:i<=n)(c:a.length=n):Gy [.box (gy a)] (.aP 0 0 i n 1)=some (a.take i):=by
 show(cond (Nat.ble i n&&Nat.ble (0+i) (gy a).length) (match ja (((gy a).drop 0).take i)with
   |some l=>aG.fx l
   |none=>none) none)=_
 rw[aDG h,aDG (by grind[ND]),List.drop_zero];have h1:(gy a).take i=gy (a.take i):=by grind[gy,List.map_take]
 grind[ad2,HA]
theorem HL(a:List ax)(n:Nat)(f:a.length=n)(bB:0<n)(d:n<=1073741824)(k:lens a<=100000000000):∃(s:ax) (C:List ah),s.length<=lens a/\aL 130 [.aP 0 0 n n 1] [.box (gy a)] (.d (.str s)) [.box C]:=by
 obtain⟨i,c,g,j,p,aj⟩:=ar1 a n f bB d;have h1:=Ns (sep:=[32]) az' (c.take i);have af:=tt (c.take i);have aC:=Gz (P:=a1) (gl:=gl) exts.C8 exts.j (sep:=[32]) (ar3 c i n g j) az6 az6;generalize s9 [32] (c.take i)=t at aC h1;refine⟨t,gy c,az6,?_⟩;refine aaT.fX [0] λm ae Q l=> ?_;have f0:=(mJ a).refs ae;have f1:=(mJ a).ok ae;have f2:=(mJ a).ren ae;have g0:=(mJ c).refs ae;have g1:=(mJ c).ok ae;have g2:=(mJ c).ren ae;generalize gy a=C at*;generalize gy c=o at*;refine ak ?_;simp_all
theorem NG(a b:ax)(h:a.length+b.length<=90000000000):∃(s:ax) (C:List ah),s.length<=400+a.length+b.length/\aL 130 [.aP 0 0 2 2 1] [.box [.d (.str a),.d (.str b)]] (.d (.str s)) [.box C]:=by
 obtain⟨s,C,h1,c⟩:=HL [a,b] 2 rfl az' az' (by show 200+a.length+(200+b.length+0)<=_;omega);exact⟨s,C,by have h1:s.length<=200+a.length+(200+b.length+0):=h1;omega,c⟩
theorem Bg(a b c d:ax)(h:a.length+b.length+c.length+d.length<=90000000000):∃(s:ax) (C:List ah),s.length<=800+a.length+b.length+c.length+d.length/\aL 130 [.aP 0 0 4 4 1] [.box [.d (.str a),.d (.str b),.d (.str c),.d (.str d)]] (.d (.str s)) [.box C]:=by
 obtain⟨s,C,h1,f⟩:=HL [a,b,c,d] 4 rfl az' az' (by show 200+a.length+(200+b.length+(200+c.length+(200+d.length+0)))<=_;omega);exact⟨s,C,by have h1:s.length<=200+a.length+(200+b.length+(200+c.length+(200+d.length+0))):=h1;omega,f⟩
theorem NH(a b c d e:ax)(h:a.length+b.length+c.length+d.length+e.length<=90000000000):∃(s:ax) (C:List ah),s.length<=1000+a.length+b.length+c.length+d.length+e.length/\aL 130 [.aP 0 0 5 5 1] [.box [.d (.str a),.d (.str b),.d (.str c),.d (.str d),.d (.str e)]] (.d (.str s)) [.box C]:=by
 obtain⟨s,C,h1,f⟩:=HL [a,b,c,d,e] 5 rfl az' az' (by show 200+a.length+(200+b.length+(200+c.length+(200+d.length+(200+e.length+0))))<=_;omega);exact⟨s,C,by have h1:s.length<=200+a.length+(200+b.length+(200+c.length+(200+d.length+(200+e.length+0)))):=h1;omega,f⟩
theorem ar4(c:dO)(xs:List aD)(ns:List ax)(p:c.xs=aD.ds xs)(r:c.ns=ns.map .str)(g:∀x∈xs,wK x)(X:8*aD.ws xs+fl ns<=20000000000):∃s:ax,s.length<=8*aD.ws xs+fl ns/\aL 225 [.d (.agg c.cs)] [] (.d (.str s)) []:=by
 refine eW ?_;have u:(aD.ds xs).length=xs.length:=aD.u2 xs;have k:∀i (h:i<xs.length),(aD.ds xs)[i]?=some (.agg xs[i].bQ.cs):=by
  intro i h;rw[kn,aDC,aCB h];exact congrArg some (aD.nr _)
 have B:(ns.map D.str).length=ns.length:=aCv _;have o:∀i (h:i<ns.length),(ns.map D.str)[i]?=some (D.str ns[i]):=λi h=>cY h;rw[<-p]at u k;rw[<-r]at B o;clear p r;have p8:200*xs.length<=aD.ws xs:=by
  clear u k g X;induction xs with
  |nil=>simp
  |cons y l g=>grind[aD.ws,aD.rQ]
 obtain⟨c1,c2,c3,F,G,K,C,R,H,J,N,L,M,P,Q,E⟩:=c;dsimp only at*;refine VA.cn _ λa ae ar A=> ?_;refine ak ?_;refine⟨bX (λz:Nat×List D=>lZ [(1,.dw 1 0),(3,.own 1 z.2),(8,.d (.list 7 L)),(9,.d (int (Int.ofNat (a.len L)))),(10,.d (int (Int.ofNat z.1)))] [(1,(dO.cs ⟨c1,c2,c3,F,G,K,C,R,H,J,N,L,M,P,Q,E⟩).map .d)] []) (λz=>z.1<=xs.length/\∃d:List ax,z.2=d.map .str/\d.length=z.1/\lens d<=8*aD.ws (xs.take z.1)+fl (ns.take z.1)) λz=>xs.length-z.1,_,⟨(0,[]),⟨aCu _,[],rfl,rfl,aCu _⟩,rfl,az5⟩,?_⟩;rintro _ _ ⟨⟨i,v⟩,⟨S,d,e9,j,V⟩,rfl,rfl⟩;dsimp only at S j V e9⊢;have U:=yF (l:=d);have oK:=tt d;have Z:fl (ns.take i)<=fl ns:=vf (λx:ax=>x.length) _ _;have aI:aD.ws (xs.take i)<=aD.ws xs:=by
  grind[aD.yx,List.take_append_drop]
 by_cases f:i<xs.length
 .have g1:a.aB .lss (Int.ofNat i) (Int.ofNat (a.len L))=true:=by simp_all[aH]
  have g2:=cH ae (k i f);have g3:=b9 ae (n:=i) az6;obtain⟨t,w,aj⟩:=g xs[i] (aCC f);have aM:aD.ws (xs.take (i+1))=aD.ws (xs.take i)+xs[i].w:=by
   rw[aDg,aCB f,aD5,aD.yx];rfl
  have aN:aD.ws (xs.take (i+1))<=aD.ws xs:=by
   grind[aD.yx,List.take_append_drop]
  rw[<-e9]at U;have h1:a.fL t [32,97,115,32]=true:=aAj;by_cases m:i<ns.length
  .have g4:a.aB .lss (Int.ofNat i) (Int.ofNat (a.len N))=true:=by simp_all[aH]
   have g5:=cH ae (o i m);have Y:fl (ns.take (i+1))=fl (ns.take i)+(200+ns[i].length):=wR (λx:ax=>x.length) ns m;have aB:ns[i].length+200<=fl ns:=yM (λx:ax=>x.length) ns m;clear g;generalize xs[i]=x at*;generalize x.bQ=c at aj g2;generalize ns[i]=nm at*;have af:a.fL (a.cV t [32,97,115,32]) nm=true:=aAh;conv=>cbv
   repeat' ((first|refine dD ?_|refine dE ?_|simp -proj only[g1,g2,g3,g4,g5]|(split<;>(rename_i h;try simp only[h])))<;>conv=>cbv)
   exact ea (i+1,a.app v [.str (a.cV (a.cV t [32,97,115,32]) nm)]) ⟨f,d++[a.cV (a.cV t [32,97,115,32]) nm],aAm,rT j,by
    rw[tu];show lens d+(200+(a.cV (a.cV t [32,97,115,32]) nm).length+0)<=_;simp only[aH ae,aCF,aCU,aDm];omega⟩ (show xs.length-(i+1)<xs.length-i by omega) az5
  .have g4:a.aB .lss (Int.ofNat i) (Int.ofNat (a.len N))=false:=by simp_all[aH]
   have Y:fl (ns.take (i+1))=fl (ns.take i):=by grind[List.take_of_length_le]
   clear g;generalize xs[i]=x at*;generalize x.bQ=c at aj g2;have af:a.fL (a.cV t [32,97,115,32]) []=true:=aAa;refine ak ?_
   exact ea (i+1,a.app v [.str (a.cV (a.cV t [32,97,115,32]) [])]) ⟨f,d++[a.cV (a.cV t [32,97,115,32]) []],aAm,rT j,by
    rw[tu];show lens d+(200+(a.cV (a.cV t [32,97,115,32]) []).length+0)<=_;simp only[aH ae,aCF,aCU,aDm];omega⟩ (show xs.length-(i+1)<xs.length-i by omega) az5
 .have e8:i=xs.length:=by omega
  have g1:a.aB .lss (Int.ofNat i) (Int.ofNat (a.len L))=false:=aAa;obtain⟨t,w,aj⟩:=wS d [44,32] az' az6;rw[<-e9]at aj;refine ak ?_;exact A _ _ ⟨t,az6,rfl,az5⟩
def D5(c:dO)(w:Nat):Prop:=∃s:ax,s.length<=8*w/\aL 134 [.d (.agg c.cs)] [] (.d (.str s)) []
theorem ar6{c:dO}{w:Nat}(h:D5 c w)(f:w<=dr)(j:c.n.length<=w):∃s:ax,s.length<=8*w+2/\aL 223 [.d (.agg c.cs)] [] (.d (.str s)) []:=by
 obtain⟨t,g,aj⟩:=h;unfold dr at f;refine eW ?_;obtain⟨c1,c2,c3,n,o,u,k,B,p,r,C,m,v,z,A,l⟩:=c;dsimp only at*;refine Zi.cn _ λa ae K d=> ?_;have h1:a.fL [40] t=true:=aAj;have af:a.fL (a.cV [40] t) [41]=true:=aAh;refine ak ?_;repeat' (split<;>refine ak ?_)
 .exact d _ _ ⟨c2,az6,rfl,az5⟩
 exact d _ _ ⟨_,aAa,rfl,az5⟩
theorem ar7(c:dO)(l:List dO)(u:c.a=l.map λx=>.agg x.cs){k n f m j o g d:ax}
  (aj:aL 224 [.d (.agg (j3.cs ⟨c.ch,c.iG,c.j4,c.j5,c.j6,c.j7,c.cl⟩))] [] (.d (.str k)) [])
  (aC:aL 225 [.d (.agg c.cs)] [] (.d (.str n)) [])
  (aX:aL 226 [.d (.agg c.cs)] [] (.d (.str f)) [])
  (bR:aL 227 [.d (.agg c.cs)] [] (.d (.str m)) [])
  (cF:aL 228 [.d (.agg c.cs)] [] (.d (.str j)) [])
  (dR:aL 131 [.d (.list 1 c.ns),.d (.str [44,32])] [] (.d (.str o)) [])
  (wN:aL 181 [.d (int c.cJ)] [] (.d (.str g)) [])
  (p:(l.length<=1/\d=[])\/∃h:1<l.length,aL 223 [.d (.agg l[1].cs)] [] (.d (.str d)) [])
  (au:k.length+n.length+f.length+m.length+j.length+o.length+g.length+d.length<=50000000000):
  ∃s:ax,s.length<=900+k.length+n.length+f.length+m.length+j.length+o.length+g.length+d.length/\aL 182 [.d (.agg c.cs)] [] (.d (.str s)) []:=by
 obtain⟨s2,dI,af,b5⟩:=NG [119,104,101,114,101] k az9;obtain⟨kK,vg,av,eG⟩:=NG [107,101,101,112] n az9;obtain⟨oB,aN,v,jw⟩:=Bg [106,111,105,110] d [111,110] f az9;obtain⟨G,aP,w,ni⟩:=Bg [108,101,102,116] d [111,110] f az9;obtain⟨H,ai,A,wc⟩:=Bg [103,114,111,117,112] o [58] m az9;obtain⟨M,j3,C,Z⟩:=NG [117,110,105,111,110] d az9;obtain⟨J,ar,B,ay⟩:=Bg [102,105,114,115,116] g [98,121] j az9;obtain⟨aB,aI,E,aM⟩:=Bg [102,105,114,115,116] g [] j az9;simp only[aCU,aDm]at af av v w A C B E;refine eW ?_;have z:(l.map λx=>D.agg x.cs).length=l.length:=aCv _;have t:∀i (h:i<l.length),(l.map λx=>D.agg x.cs)[i]?=some (.agg l[i].cs):=λi h=>cY h;rw[<-u]at z t;clear u;obtain⟨c1,c2,L,c4,c5,eA,bQ,eQ,c9,e1,eR,X,eD,eE,eF,bz⟩:=c;dsimp only at*;refine Vi.cn _ λa ae K r=> ?_;rcases p with⟨aE,rfl⟩|⟨aE,p⟩
 .have g1:a.aB .gtr (Int.ofNat (a.len L)) 1=false:=by simp only[aH ae,aCy,aCE];omega
  refine ak ?_;repeat' (split<;>refine ak ?_)
  all_goals exact r _ _ ⟨_,by first|omega|(show 8<=_;omega),rfl,az5⟩
 .have g1:a.aB .gtr (Int.ofNat (a.len L)) 1=true:=by simp only[aH ae,aCy,aCA];omega
  have g2:=cH ae (t 1 aE);have g3:a.dS 16 16 1 (a.len L)=true:=aAa;generalize l[1]=y at*;obtain⟨cb,cp,cy,kG,pc,uz,x6,F,N,P,Q,R,S,U,V,Y⟩:=y;dsimp only[dO.cs]at g2 p;replace g2:a.get L 1=_:=g2;refine ak ?_;repeat' (split<;>refine ak ?_)
  all_goals exact r _ _ ⟨_,by first|omega|(show 8<=_;omega),rfl,az5⟩
theorem ar8(c:dO)(l:List dO)(B:Nat)(m:c.a=l.map λx=>.agg x.cs){ts:ax}(aC:aL 182 [.d (.agg c.cs)] [] (.d (.str ts)) [])
  (n:∀h:0<l.length,∃d:ax,d.length+3+ts.length<=B/\aL 134 [.d (.agg l[0].cs)] [] (.d (.str d)) []) (j:c.n.length<=B) (V:B<=50000000000):
  ∃s:ax,s.length<=B/\aL 134 [.d (.agg c.cs)] [] (.d (.str s)) []:=by
 refine eW ?_;have o:(l.map λx=>D.agg x.cs).length=l.length:=aCv _;have k:∀i (h:i<l.length),(l.map λx=>D.agg x.cs)[i]?=some (.agg l[i].cs):=λi h=>cY h;rw[<-m]at o k;clear m;obtain⟨c1,c2,L,G,H,N,E,S,J,M,U,X,P,Q,R,F⟩:=c;dsimp only at*;refine YM.cn _ λa ae K f=> ?_;by_cases g:0<l.length
 .obtain⟨d,aS,aj⟩:=n g;have g1:a.aB .eql (Int.ofNat (a.len L)) 0=false:=aAg;have g2:=cH ae (k 0 g);have g3:a.dS 16 16 0 (a.len L)=true:=aAa;have h1:a.fL d [32,124,32]=true:=aAj;have af:a.fL (a.cV d [32,124,32]) ts=true:=aAh;clear n;generalize l[0]=y at*;obtain⟨cb,cp,cy,kG,pc,Y,Z,p,r,t,u,v,w,z,A,C⟩:=y;dsimp only[dO.cs]at g2 aj;replace g2:a.get L 0=_:=g2;refine ak ?_;repeat' (split<;>refine ak ?_)
  .exact f _ _ ⟨c2,j,rfl,az5⟩
  exact f _ _ ⟨_,aAC,rfl,az5⟩
 .have g1:a.aB .eql (Int.ofNat (a.len L)) 0=true:=by simp_all[aH]
  refine ak ?_;repeat' (split<;>refine ak ?_)
  all_goals exact f _ _ ⟨c2,j,rfl,az5⟩
theorem bj.ar9(y:bj):y.n.length<=y.w:=by
 obtain⟨k,a,l,c,f,m,j,aw,g,d⟩:=y;show a.length<=500+a.length+_+_+_+_+_+_+_;omega
theorem bj.A9:∀{l:List bj} {y:bj},bj.nu l->y∈l->y.good
 |x::l,y,h,a=>by
  rcases aCJ.1 a with rfl|a
  .exact h.1
  .exact bj.A9 h.2 a
theorem ar':∀(n:Nat) (x:bj),x.w<=n->x.good->x.w<=dr->D5 x.bz x.w:=by
 intro n;induction n with
 |zero=>
  intro x h;obtain⟨ay,M,l,c,ns,xs,P,aw,ob,cJ⟩:=x;have h:500+M.length+bj.ws l+c.w+fl ns+aD.ws xs+j0 P+j1 aw+j2 ob<=0:=h;omega
 |succ n ih=>
  intro x h w L;have A:x=.mk x.k x.n x.l x.c x.ns x.xs x.on x.aw x.ob x.cJ:=aAY;have k9:x.w=500+x.n.length+bj.ws x.l+x.c.w+fl x.ns+aD.ws x.xs+j0 x.on+j1 x.aw+j2 x.ob:=aAY;have K:eb x.cJ/\x.c.good/\aD.nu x.xs/\bj.nu x.l:=by cases x;exact w
  clear A;obtain⟨g1,g2,g3,g4⟩:=K;unfold dr at L;have ad:∀y∈x.xs,y.w<=aD.ws x.xs:=λy f=>u' f;obtain⟨U,h1,B⟩:=adu _ x.c (aCw _) g2 aAl;obtain⟨ht,Z,v⟩:=ar4 x.bz x.xs x.ns rfl rfl (λy f=>adu _ y (aCw _) (A9 g3 f) aAl) az6;obtain⟨hc,av,z⟩:=arS x.bz x.on rfl az6;obtain⟨V,Y,G⟩:=arT x.bz x.aw rfl az6;obtain⟨to,bN,H⟩:=arU x.bz x.ob rfl az6;obtain⟨Q,p,J⟩:=wS x.ns [44,32] az' (by show fl x.ns<=_;omega);replace p:Q.length+100*x.ns.length<=fl x.ns:=p;obtain⟨s3,hK,R⟩:=DB g1;have aS:∀y∈x.l,y.w<=bj.ws x.l->D5 y.bz y.w:=λy f X=>ih y az6 (bj.A9 g4 f) aAl;have o:x.bz.a=(x.l.map bj.bz).map λx=>.agg x.cs:=by
   show bj.ds x.l=_;rw[bj.kn,aDF];rfl
  have C:(x.l=[]\/∃a r,x.l=a::r/\a.w<=bj.ws x.l/\(r=[]\/∃b s,r=b::s/\a.w+b.w<=bj.ws x.l)):=by
   match x.l with
   |[]=>simp
   |[a]=>exact .inr ⟨a,[],rfl,by show a.w<=a.w+0;omega,.inl rfl⟩
   |a::b::r=>grind[bj.ws]
  have k:∀(d:ax) (g:Nat),d.length<=8*g+2->g<=bj.ws x.l->((x.l.map bj.bz).length<=1/\d=[]\/∃h:1<(x.l.map bj.bz).length,aL 223 [.d (.agg (x.l.map bj.bz)[1].cs)] [] (.d (.str d)) [])->
    (∀(h:0<(x.l.map bj.bz).length),∃m,m+g<=bj.ws x.l/\D5 (x.l.map bj.bz)[0] m)->D5 x.bz x.w:=by
   intro d g t uv u E;obtain⟨ts,fK,S⟩:=ar7 x.bz (x.l.map bj.bz) o B v z G H J R u az6;refine ar8 x.bz (x.l.map bj.bz) (8*x.w) o S (λh=> ?_) (by show x.n.length<=_;omega) az6;obtain⟨m,ng,n5,ao,ar⟩:=E h;grind
  rcases C with aE|⟨a,r,aE,F,j|⟨b,s,j,N⟩⟩
  .refine k [] 0 az7 az6 (.inl ⟨az8,rfl⟩) λh=> ?_;grind
  .subst j;refine k [] 0 az7 az6 (.inl ⟨az9,rfl⟩) λh=>⟨a.w,az6,?_⟩;grind
  .subst j;obtain⟨d,t,u⟩:=ar6 (aS b (by rw[aE];simp) az6) aAl b.ar9;refine k d b.w t az6 (.inr ⟨by rw[aE];simp,?_⟩) λh=>⟨a.w,N,?_⟩
   .simp only[aE,aDe,aFV,aGh];omega
   .have:=aS a az9 F;simp only[aE,aDe,aGh];omega
theorem asd(a b c d e f g:ax)(h:a.length+b.length+c.length+d.length+e.length+f.length+g.length<=90000000000):∃(s:ax) (C:List ah),s.length<=1400+a.length+b.length+c.length+d.length+e.length+f.length+g.length/\aL 130 [.aP 0 0 7 7 1] [.box [.d (.str a),.d (.str b),.d (.str c),.d (.str d),.d (.str e),.d (.str f),.d (.str g)]] (.d (.str s)) [.box C]:=by
 obtain⟨s,C,h1,j⟩:=HL [a,b,c,d,e,f,g] 7 rfl az' az' (by show 200+a.length+(200+b.length+(200+c.length+(200+d.length+(200+e.length+(200+f.length+(200+g.length+0))))))<=_;omega);exact⟨s,C,by have h1:s.length<=200+a.length+(200+b.length+(200+c.length+(200+d.length+(200+e.length+(200+f.length+(200+g.length+0)))))):=h1;omega,j⟩
theorem eS{c:bd}(h:c=bd.bU):(∀a b,c.aB .eql a b=decide (a=b))/\(∀a b,c.aB .lss a b=decide (a<b))/\(∀a b,c.aB .geq a b=decide (b<=a))/\(∀a b,c.aB .gtr a b=decide (b<a)):=by subst h;exact⟨λ_ _=>rfl,λ_ _=>rfl,λ_ _=>rfl,λ_ _=>rfl⟩
theorem HM{a:bd}(h:a=bd.bU){z k:Nat}{i:Int}(h1:0<=i)(c:i<k):a.dS z z i k=true:=aAa
theorem ase(c:lH)(h1:eb c.s1)(af:eb c.s2):∃s:ax,s.length<=60/\aL 132 [.d (.agg c.cs)] [] (.d (.str s)) []:=by
 refine eW ?_;obtain⟨t1,l1,aj⟩:=DB h1;obtain⟨t2,R,aC⟩:=DB af;obtain⟨k,n,L,d,J,M,I,⟨c1,c2,c3,o,p,u,j,B,r,t,C,m,v,z,A,l⟩,E,H⟩:=c;dsimp only at*;refine WY.cn _ λa ae K f=> ?_;have g:a.len [.str [],.str [104,111,117,114,108,121],.str [100,97,105,108,121],.str [119,101,101,107,108,121],.str [109,111,110,116,104,108,121],.str [115,116,97,116,105,99]]=6:=by rw[yG ae];rfl
 by_cases P:d<1
 .have cI:a.aB .lss d 1=true:=by rw[(eS ae).2.1];simp_all
  refine ak ?_;exact f _ _ ⟨[],aCu _,rfl,az5⟩
 have cI:a.aB .lss d 1=false:=aBq;by_cases au:6<=d
 .have d':a.aB .geq d (Int.ofNat 6)=true:=by rw[(eS ae).2.2.1];simp_all
  conv=>cbv
  repeat' ((first|refine dD ?_|refine dE ?_|simp -proj only[cI,d',g]|(split<;>(rename_i h;try simp only[h])))<;>conv=>cbv)
  exact f _ _ ⟨[],aCu _,rfl,az5⟩
 have d':a.aB .geq d (Int.ofNat 6)=false:=by rw[(eS ae).2.2.1];simp_all
 have F:d=1\/d=2\/d=3\/d=4\/d=5:=az6;have N:a.dS 1 1 d 6=true:=HM ae az6 az6;have Q:∀w:ax,a.get [.str [],.str [104,111,117,114,108,121],.str [100,97,105,108,121],.str [119,101,101,107,108,121],.str [109,111,110,116,104,108,121],.str [115,116,97,116,105,99]] d=.str w->w.length<=7->uW a [] (fR a1 gl) gl Md [.d (.agg (lH.cs ⟨k,n,L,d,J,M,I,⟨c1,c2,c3,o,p,u,j,B,r,t,C,m,v,z,A,l⟩,E,H⟩))] [] K:=by
  intro w G S;have q1:a.fL w [32]=true:=aAj;have bG:a.fL (a.cV w [32]) t1=true:=aAh;have cM:a.fL (a.cV (a.cV w [32]) t1) [46,46]=true:=aAh;have dB:a.fL (a.cV (a.cV (a.cV w [32]) t1) [46,46]) t2=true:=aAh;conv=>cbv
  repeat' ((first|refine dD ?_|refine dE ?_|simp -proj only[cI,d',g,G]|(split<;>(rename_i h;try simp only[h])))<;>conv=>cbv)
  exact f _ _ ⟨_,aAC,rfl,az5⟩
 rcases F with rfl|rfl|rfl|rfl|rfl
 .simp_all[oJ]
 .simp_all[oJ]
 .simp_all[oJ]
 all_goals simp_all[oJ]
theorem asf(z:jo)(k:z.good)(o:z.a.length+z.b.length<=10000000000):∃s:ax,s.length<=1030+z.a.length+z.b.length/\aL 133 [.d (ef z)] [] (.d (.str s)) []:=by
 refine eW ?_;obtain⟨t1,l1,aj⟩:=DB k.2;obtain⟨a,c,n,b⟩:=z;dsimp only at*;refine WZ.cn _ λd ae K g=> ?_;have j:d.len [.str [],.str [115,97,109,101],.str [108,97,115,116],.str [115,104,105,102,116],.str [119,105,116,104,105,110],.str [97,108,108]]=6:=by simp_all[yG]
 by_cases r:c<1
 .have cI:d.aB .lss c 1=true:=by rw[(eS ae).2.1];simp_all
  refine ak ?_;exact g _ _ ⟨[],aCu _,rfl,az5⟩
 have cI:d.aB .lss c 1=false:=aBq;by_cases au:6<=c
 .have d':d.aB .geq c (Int.ofNat 6)=true:=by rw[(eS ae).2.2.1];simp_all
  conv=>cbv
  repeat' ((first|refine dD ?_|refine dE ?_|simp -proj only[cI,d',j]|(split<;>(rename_i h;try simp only[h])))<;>conv=>cbv)
  exact g _ _ ⟨[],aCu _,rfl,az5⟩
 have d':d.aB .geq c (Int.ofNat 6)=false:=by rw[(eS ae).2.2.1];simp_all
 have l:c=1\/c=2\/c=3\/c=4\/c=5:=az6;have p:d.dS 1 1 c 6=true:=HM ae az6 az6;have f:∀w:ax,d.get [.str [],.str [115,97,109,101],.str [108,97,115,116],.str [115,104,105,102,116],.str [119,105,116,104,105,110],.str [97,108,108]] c=.str w->w.length<=6->uW d [] (fR a1 gl) gl Me [.d (.agg [.str a,int c,int n,.str b])] [] K:=by
  intro w m B;obtain⟨v,u,q1,w1⟩:=NH a w t1 [97,115] b az9;obtain⟨A,t,bG,b5⟩:=NH a w [] [97,115] b az9;simp only[aCU,aDm]at q1 bG;conv=>cbv
  repeat' ((first|refine dD ?_|refine dE ?_|simp -proj only[cI,d',j,m]|(split<;>(rename_i h;try simp only[h])))<;>conv=>cbv)
  all_goals exact g _ _ ⟨_,az6,rfl,az5⟩
 rcases l with rfl|rfl|rfl|rfl|rfl
 .exact f [115,97,109,101] aBd az'
 .exact f [108,97,115,116] aBd az'
 .exact f [115,104,105,102,116] aBd az'
 .exact f [119,105,116,104,105,110] aBd az'
 .exact f [97,108,108] aBd az'
theorem asg(c:lH)(l:List (ax×Int))(u:ax)(w:c.bm=l.map bF)(hk:c.k=1)(hw:j8 l+c.n.length<=10000000000)(hp:u.length<=60)(HN:aL 132 [.d (.agg c.cs)] [] (.d (.str u)) []):∃s:ax,s.length<=1000+c.n.length+j8 l/\aL 96 [.d (.agg c.cs)] [] (.d (.str s)) []:=by
 refine eW ?_;have K:(l.map bF).length=l.length:=aCv _;have A:∀i (h:i<l.length),(l.map bF)[i]?=some (bF l[i]):=λi h=>cY h;rw[<-w]at K A;clear w;have wL:l.length<=j8 l:=ko _ _;obtain⟨k,n,L,R,s1,s2,I,⟨c1,c2,c3,P,Q,V,J,eQ,S,U,eR,N,X,Y,Z,M⟩,fZ,ms⟩:=c;dsimp only at*;subst hk;refine Ha.cn _ λa ae ar G=> ?_;have uY:a.aB .eql 1 1=true:=aAf;refine ak ?_;refine⟨bX (λz:Nat×List D=>lZ [(1,.dw 1 0),(3,.own 1 z.2),(14,.d (.list 2 L)),(15,.d (int (Int.ofNat (a.len L)))),(16,.d (int (Int.ofNat z.1)))] [(1,(lH.cs ⟨1,n,L,R,s1,s2,I,⟨c1,c2,c3,P,Q,V,J,eQ,S,U,eR,N,X,Y,Z,M⟩,fZ,ms⟩).map .d)] []) (λz=>z.1<=l.length/\∃d:List ax,z.2=d.map .str/\d.length=z.1/\lens d<=j8 (l.take z.1)+5*z.1) λz=>l.length-z.1,_,⟨(0,[]),⟨aCu _,[],rfl,rfl,aCu _⟩,rfl,az5⟩,?_⟩;rintro _ _ ⟨⟨i,p⟩,⟨hi,d,e9,j,hs⟩,rfl,rfl⟩;dsimp only at hi j hs e9⊢;have hm:=yF (l:=d);have oK:=tt d;have Be:j8 (l.take i)<=j8 l:=vf (λx:ax×Int=>x.1.length) _ _;by_cases f:i<l.length
 .have g1:a.aB .lss (Int.ofNat i) (Int.ofNat (a.len L))=true:=by simp_all[aH]
  have g2:=cH ae (A i f);have g3:=b9 ae (n:=i) az6;have r:j8 (l.take (i+1))=j8 (l.take i)+(200+l[i].1.length):=wR (λx:ax×Int=>x.1.length) l f;have bn:l[i].1.length+200<=j8 l:=yM (λx:ax×Int=>x.1.length) l f;have o:∀s:ax,s.length<=l[i].1.length+5->lens (d++[s])<=j8 (l.take (i+1))+5*(i+1):=by
   intro s h;rw[tu,r];show lens d+(200+s.length+0)<=_;omega
  rw[<-e9]at hm;clear r;unfold bF at g2;generalize l[i]=x at*;obtain⟨bP,g⟩:=x;dsimp only at*;have m:a.len [.str [105,110,116],.str [116,101,120,116]]=2:=by grind[yG]
  have h1:a.fL bP [32]=true:=aAj;have af:a.fL (a.cV bP [32]) [105,110,116]=true:=aAh;have av:a.fL (a.cV bP [32]) [116,101,120,116]=true:=aAh;have B:a.dS 1 1 0 2=true:=HM ae az' az';have E:a.dS 1 1 1 2=true:=HM ae az' az';have F:a.get [.str [105,110,116],.str [116,101,120,116]] 0=.str [105,110,116]:=by grind[oJ]
  have C:a.get [.str [105,110,116],.str [116,101,120,116]] 1=.str [116,101,120,116]:=by simp_all[oJ]
  have ow:a.io .sub .i64 1 1=0:=aAd;have ri:a.io .sub .i64 2 1=1:=aAd;have v:a.aB .lss 2 1=false:=aAZ;by_cases q1:2<g
  .have cI:a.aB .gtr g 2=true:=by rw[(eS ae).2.2.2];simp_all
   conv=>cbv
   repeat' ((first|refine dD ?_|refine dE ?_|simp -proj only[g1,g2,g3,cI,m,E,C,ri,v]|(split<;>(rename_i h;try simp only[h])))<;>conv=>cbv)
   exact fixF (i+1,a.app p [.str (a.cV (a.cV bP [32]) [116,101,120,116])]) ⟨f,d++[a.cV (a.cV bP [32]) [116,101,120,116]],aAm,rT j,o _ aAa⟩
  have cI:a.aB .gtr g 2=false:=by rw[(eS ae).2.2.2];simp_all
  by_cases bG:g=2
  .subst bG;conv=>cbv
   repeat' ((first|refine dD ?_|refine dE ?_|simp -proj only[g1,g2,g3,cI,m,E,C,ri,v]|(split<;>(rename_i h;try simp only[h])))<;>conv=>cbv)
   exact fixF (i+1,a.app p [.str (a.cV (a.cV bP [32]) [116,101,120,116])]) ⟨f,d++[a.cV (a.cV bP [32]) [116,101,120,116]],aAm,rT j,o _ aAa⟩
  by_cases cM:g<1
  .have d':a.aB .lss g 1=true:=by rw[(eS ae).2.1];simp_all
   conv=>cbv
   repeat' ((first|refine dD ?_|refine dE ?_|simp -proj only[g1,g2,g3,cI,d',m,B,F,ow]|(split<;>(rename_i h;try simp only[h])))<;>conv=>cbv)
   exact fixF (i+1,a.app p [.str (a.cV (a.cV bP [32]) [105,110,116])]) ⟨f,d++[a.cV (a.cV bP [32]) [105,110,116]],aAm,rT j,o _ aAa⟩
  .obtain rfl:g=1:=by omega
   have d':a.aB .lss 1 1=false:=aAZ;conv=>cbv
   repeat' ((first|refine dD ?_|refine dE ?_|simp -proj only[g1,g2,g3,cI,d',m,B,F,ow]|(split<;>(rename_i h;try simp only[h])))<;>conv=>cbv)
   exact fixF (i+1,a.app p [.str (a.cV (a.cV bP [32]) [105,110,116])]) ⟨f,d++[a.cV (a.cV bP [32]) [105,110,116]],aAm,rT j,o _ aAa⟩
 .have e8:i=l.length:=by omega
  have g1:a.aB .lss (Int.ofNat i) (Int.ofNat (a.len L))=false:=aAa;obtain⟨t,r,aj⟩:=wS d [44,32] az' az6;rw[<-e9]at aj;have h1:a.fL [40] t=true:=aAj;have af:a.fL (a.cV [40] t) [41]=true:=aAh;have av:(a.cV (a.cV [40] t) [41]).length=t.length+2:=aAa;obtain⟨s,ai,q1,w1⟩:=Bg [115,111,117,114,99,101] n (a.cV (a.cV [40] t) [41]) u (by grind[List.length_cons]);simp only[aCU,aDm]at q1;have aZ:a.fL s [59,10]=true:=aAj;have H:(a.cV s [59,10]).length<=1000+n.length+j8 l:=aAC;refine ak ?_;repeat' (split<;>refine ak ?_)
  all_goals exact G _ _ ⟨_,H,rfl,az5⟩
theorem ash(c:lH)(l:List jo)(m g:ax)(p:∀z∈l,z.good)(r:c.bV=l.map ef)(Z:c.k=2)(hw:jN l+c.n.length+g.length<=10000000000)(hp:m.length<=60)(HN:aL 132 [.d (.agg c.cs)] [] (.d (.str m)) [])(V:aL 134 [.d (.agg c.pl.cs)] [] (.d (.str g)) []):∃s:ax,s.length<=1500+c.n.length+7*jN l+g.length/\aL 96 [.d (.agg c.cs)] [] (.d (.str s)) []:=by
 refine eW ?_;have B:(l.map ef).length=l.length:=aCv _;have u:∀i (h:i<l.length),(l.map ef)[i]?=some (ef l[i]):=λi h=>cY h;rw[<-r]at B u;clear r;have wL:l.length<=jN l:=ko _ _;obtain⟨k,n,S,H,s1,s2,L,⟨c1,c2,c3,F,G,M,A,R,J,K,U,E,N,P,Q,C⟩,X,ms⟩:=c;dsimp only at*;subst Z;refine Ha.cn _ λa ae aB v=> ?_;have uY:a.aB .eql 2 1=false:=aAf;have aI:a.aB .eql 2 2=true:=aAf;refine ak ?_;refine⟨bX (λz:Nat×List D=>lZ [(1,.dw 1 0),(6,.own 1 z.2),(50,.d (.list 4 L)),(51,.d (int (Int.ofNat (a.len L)))),(52,.d (int (Int.ofNat z.1)))] [(1,(lH.cs ⟨2,n,S,H,s1,s2,L,⟨c1,c2,c3,F,G,M,A,R,J,K,U,E,N,P,Q,C⟩,X,ms⟩).map .d)] []) (λz=>z.1<=l.length/\∃d:List ax,z.2=d.map .str/\d.length=z.1/\lens d<=7*jN (l.take z.1)) λz=>l.length-z.1,_,⟨(0,[]),⟨aCu _,[],rfl,rfl,aCu _⟩,rfl,az5⟩,?_⟩;rintro _ _ ⟨⟨i,ai⟩,⟨Y,d,e9,o,hs⟩,rfl,rfl⟩;dsimp only at Y o hs e9⊢;have hm:=yF (l:=d);have oK:=tt d;have Be:jN (l.take i)<=jN l:=vf (λx:jo=>x.a.length+x.b.length) _ _;by_cases f:i<l.length
 .have g1:a.aB .lss (Int.ofNat i) (Int.ofNat (a.len L))=true:=by simp_all[aH]
  have g2:=cH ae (u i f);have g3:=b9 ae (n:=i) az6;have j:jN (l.take (i+1))=jN (l.take i)+(200+(l[i].a.length+l[i].b.length)):=wR (λx:jo=>x.a.length+x.b.length) l f;have bn:l[i].a.length+l[i].b.length+200<=jN l:=yM (λx:jo=>x.a.length+x.b.length) l f;obtain⟨t,ui,aj⟩:=asf l[i] (p _ (aCC f)) az6;have lf:lens (d++[t])<=7*jN (l.take (i+1)):=by
   rw[tu,j];show lens d+(200+t.length+0)<=_;omega
  rw[<-e9]at hm;clear j p;unfold ef at g2 aj;generalize l[i]=x at*;obtain⟨bP,bZ,cx,nS⟩:=x;dsimp only at*;refine ak ?_;exact fixF (i+1,a.app ai [.str t]) ⟨f,d++[t],aAm,rT o,lf⟩
 .have e8:i=l.length:=by omega
  have g1:a.aB .lss (Int.ofNat i) (Int.ofNat (a.len L))=false:=aAa;obtain⟨t,j,aj⟩:=wS d [44,32] az' az6;rw[<-e9]at aj;obtain⟨s,ar,q1,w1⟩:=asd [97,115,115,101,116] n m [102,114,111,109] t [100,111] g az9;simp only[aCU,aDm]at q1;have aZ:a.fL s [59,10]=true:=aAj;have w:(a.cV s [59,10]).length<=1500+n.length+7*jN l+g.length:=aAC;dsimp only[dO.cs]at V;refine ak ?_;repeat' (split<;>refine ak ?_)
  all_goals exact v _ _ ⟨_,w,rfl,az5⟩
theorem asj(c:lH)(l:List ax)(m:c.ms=l.map .str)(h1:c.k≠1)(af:c.k≠2)(R:c.fZ.length<=1000000000/\fl l+c.n.length<=10000000000):∃s:ax,s.length<=1100+c.n.length+2*c.fZ.length+fl l/\aL 96 [.d (.agg c.cs)] [] (.d (.str s)) []:=by
 refine eW ?_;obtain⟨d,f,aj⟩:=wS l [44,32] az' (by show fl l<=_;omega);replace f:d.length+100*l.length<=fl l:=f;rw[<-m]at aj;have aC:=MZ c.fZ;obtain⟨j,Q,aX⟩:=AW 2 0 c.fZ az6 eb.zero;unfold oE at aX;obtain⟨s,C,q1,w1⟩:=NH [115,99,104,101,100,117,108,101] c.n j [109,97,107,101,115] d az9;simp only[aCU,aDm]at q1;obtain⟨k,n,S,B,V,X,L,⟨c1,c2,c3,z,A,G,u,N,E,F,P,w,H,J,M,v⟩,p,U⟩:=c;dsimp only at*;refine Ha.cn _ λa ae K g=> ?_;have uY:a.aB .eql k 1=false:=aAf;have t:a.aB .eql k 2=false:=aAf;have r:a.fL s [59,10]=true:=aAj;have o:(a.cV s [59,10]).length<=1100+n.length+2*p.length+fl l:=aAC;refine ak ?_;repeat' (split<;>refine ak ?_)
 all_goals exact g _ _ ⟨_,o,rfl,az5⟩
theorem asn(x:cC)(c:x.Good)(l:x.w<=dr):∃s:ax,s.length<=8*x.w/\aL 96 [.d (.agg x.dX.cs)] [] (.d (.str s)) []:=by
 have m:x.w=1000+x.n.length+j8 x.bm+jN x.bV+x.pl.w+x.fZ.length+fl x.ms:=rfl;unfold dr at l;obtain⟨g,hp,d⟩:=ase x.dX c.s1 c.s2;by_cases h1:x.k=1
 .obtain⟨s,a,e⟩:=asg x.dX x.bm g rfl h1 (by show _+x.n.length<=_;omega) hp d;exact⟨s,by have a:s.length<=1000+x.n.length+j8 x.bm:=a;omega,e⟩
 by_cases f:x.k=2
 .obtain⟨j,aS,k⟩:=ar' _ x.pl (aCw _) c.pl aAl;obtain⟨s,a,e⟩:=ash x.dX x.bV g j c.bV rfl f (by show _+x.n.length+_<=_;omega) hp d k;exact⟨s,by have a:s.length<=1500+x.n.length+7*jN x.bV+j.length:=a;omega,e⟩
 .obtain⟨s,a,e⟩:=asj x.dX x.ms rfl h1 f (by show x.fZ.length<=_/\_+x.n.length<=_;omega);exact⟨s,by have a:s.length<=1100+x.n.length+2*x.fZ.length+fl x.ms:=a;omega,e⟩
def aso(L:List D)(a:ax)(n i:Nat):ag:=cA [(0,.d (.list 25 L)),(4,.ptr 0 0),(10,.d (.list 25 L)),(11,.d (int (Int.ofNat n))),(12,.d (int (Int.ofNat i)))] [.h' 179 5 a]
theorem asp(a x:ax)(h:a.length+x.length<=140737488355328):aL 95 [.ptr 0 0,.d (.str x)] [.h' 179 5 a] (.tuple [.d (.int .i64 x.length),.d .iK]) [.h' 179 5 (a++x)]:=TT exts.pg exts.w rfl h
theorem asq(a:ax):aL 97 [.ptr 0 0] [.h' 179 5 a] (.d (.str a)) [.h' 179 5 a]:=TU exts.cs exts.s rfl
theorem ad3(l:List cC)(p:∀x∈l,x.Good)(u:hE l<=dr):∃(t:ax) (e:Int),(e=0->t.length<=8*hE l/\∃a:Int,aL 45 [.d (.str t)] [] (.tuple [.d (.list 25 (l.map cC.d)),.d (int a),.d (int 0)]) [])/\aL 65 [.d (.list 25 (l.map cC.d))] [] (.tuple [.d (.str t),.d (int e)]) []:=by
 refine Dp ?_;have N:(l.map cC.d).length=l.length:=aCv _;have r:∀i (h:i<l.length),(l.map cC.d)[i]?=some (.agg l[i].dX.cs):=λi h=>cY h;have o:∀f:List cC,hE f<=dr->∃b:Bool,(b=true->f=l)/\aL 98 [.d (.list 25 (f.map cC.d)),.d (.list 25 (l.map cC.d)),.d (.fn 99)] [] (.d (.bool b)) []:=λf h=>aqy f l h;have wL:l.length<=hE l:=ko _ _;have jV:=u;unfold dr at u;refine aar.cn _ λg ae K k=> ?_;generalize E:l.map cC.d=L at*;refine ak ?_;refine⟨bX (λz:Nat×ax=>aso L z.2 (g.len L) z.1) (λz=>z.1<=l.length/\z.2.length<=8*hE (l.take z.1)) λz=>l.length-z.1,_,⟨(0,[]),⟨aCu _,aCu _⟩,rfl,az5⟩,?_⟩;rintro _ _ ⟨⟨i,d⟩,⟨A,au⟩,rfl,rfl⟩;dsimp only at A au⊢;have C:hE (l.take i)<=hE l:=vf cC.w _ _;by_cases j:i<l.length
 .have g1:g.aB .lss (Int.ofNat i) (Int.ofNat (g.len L))=true:=by simp_all[aH]
  have g2:=cH ae (r i j);have g3:=b9 ae (n:=i) az6;have F:hE (l.take (i+1))=hE (l.take i)+(200+l[i].w):=wR cC.w l j;have M:l[i].w+200<=hE l:=yM cC.w l j;obtain⟨t,ui,aj⟩:=asn l[i] (p _ (aCC j)) az6;have aC:=asp d t az6;have B:(d++t).length<=8*hE (l.take (i+1)):=az9;generalize ((t.length:Nat):Int)=tl at aC;clear p o r;generalize l[i].dX=c at aj g2;generalize k4:d++t=w at*;obtain⟨ai,n,S,V,s1,s2,I,⟨c1,c2,c3,R,U,eA,J,eQ,X,Y,eR,Q,eD,eE,eF,P⟩,fZ,ms⟩:=c;dsimp only[lH.cs]at*;refine ak ?_;exact fixF (i+1,w) ⟨j,B⟩
 .have Z:i=l.length:=by omega
  have g1:g.aB .lss (Int.ofNat i) (Int.ofNat (g.len L))=false:=aAa;have aj:=asq d;obtain⟨f,a,e,⟨lh,nX,G,H⟩,aC⟩:=ap2 d;obtain⟨b,v,aX⟩:=o f aAl;have m:b=true->e=0->d.length<=8*hE l/\∃a:Int,aL 45 [.d (.str d)] [] (.tuple [.d (.list 25 L),.d (int a),.d (int 0)]) []:=λhj s=>⟨az6,a,az8⟩;clear o v;generalize f.map cC.d=jv at*;cases cI:g.aB .neq e 0 with
  |true=>
   refine ak ?_;exact k _ _ ⟨[],20,λh=>absurd h az',rfl,az5⟩
  |false=>
   have s:e=0:=aAa;cases b with
   |false=>
    refine ak ?_;exact k _ _ ⟨[],20,λh=>absurd h az',rfl,az5⟩
   |true=>
    have m:=m rfl s;refine ak ?_;exact k _ _ ⟨d,0,λ_=>m,rfl,az5⟩
end Go.Proofs.YthffhbakgmemaaaGreatDoor
