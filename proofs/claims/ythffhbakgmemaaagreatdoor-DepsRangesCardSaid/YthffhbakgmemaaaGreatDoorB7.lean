/- Part of ranges_said. -/
import Derived.Test.YthffhbakgmemaaaGreatDoorB4
set_option maxRecDepth 100000
set_option maxHeartbeats 8000000
set_option linter.unusedSimpArgs false
set_option linter.unusedVariables false
namespace Go.Proofs.YthffhbakgmemaaaGreatDoor
open Go Go.aH
attribute [local irreducible] bG
theorem vX{α:Type}(f:α->Nat)(l:List α){i:Nat}(h:i<l.length):fS f (l.take (i+1))=fS f (l.take i)+(200+f l[i]):=by
 rw[aA9,aAj h,aBM,q9];rfl
theorem uD{α:Type}(f:α->Nat):∀(l:List α) (i:Nat),fS f (l.take i)<=fS f l
 |[],i=>axX
 |x::l,0=>aAa _
 |x::l,i+1=>by have:=uD f l i;show 200+f x+fS f (l.take i)<=200+f x+fS f l;omega
theorem yd{α:Type}(f:α->Nat)(l:List α){i:Nat}(h:i<l.length):f l[i]+200<=fS f l:=by
 have h1:=vX f l h;grind[uD]
theorem vY(ss:List aw)(sep:aw)(hs:sep.length<=100)(h:lens ss<=100000000000):∃s:aw,s.length+100*ss.length<=lens ss/\aM 131 [.d (.list 1 (ss.map .str)),.d (.str sep)] [] (.d (.str s)) []:=by
 have h1:=Mw hs ss;have sh:=sN ss;exact⟨_,h1,FM exts.Cw exts.j (GI ss) axW axW⟩
theorem rf{α:Type}{l:List α}{a:α}{n:Nat}(h:l.length=n):(l++[a]).length=n+1:=axZ
theorem aqu(c:ef)(l:List (aw×aw))(az:c.on=l.map fx)(hw:kg l<=10000000000):∃s:aw,s.length<=kg l/\aM 226 [.d (.agg c.cs)] [] (.d (.str s)) []:=by
 refine fK ?_;have bE:(l.map fx).length=l.length:=aAb _;have bY:∀i (h:i<l.length),(l.map fx)[i]?=some (fx l[i]):=λi h=>c7 h;rw[<-az]at bE bY;clear az;have vS:l.length<=kg l:=lJ _ _;obtain⟨c1,c2,c3,c4,c5,eI,bQ,e0,c9,fj,e9,c12,eN,eR,eS,bB⟩:=c;dsimp only at*;generalize ME:eN=L at*;refine X'.cu _ λad ae K ao=> ?_;refine af ?_;refine⟨bX (λz:Nat×List D=>cx [(3,.own 1 z.2),(7,.d (.list 2 L)),(8,.d (int (Int.ofNat (ad.len L)))),(9,.d (int (Int.ofNat z.1)))] []) (λz=>z.1<=l.length/\∃ss:List aw,z.2=ss.map .str/\ss.length=z.1/\lens ss<=kg (l.take z.1)+3*z.1) λz=>l.length-z.1,_,⟨(0,[]),⟨aAa _,[],rfl,rfl,aAa _⟩,rfl,axV⟩,?_⟩;rintro _ _ ⟨⟨i,out⟩,⟨hi,ss,fa,aI,hs⟩,rfl,rfl⟩;dsimp only at hi aI hs fa⊢;have hm:=x6 (l:=ss);have ot:=sN ss;have AA:kg (l.take i)<=kg l:=uD (λx:(aw×aw)=>x.1.length+x.2.length) _ _;by_cases aA:i<l.length
 .have g1:ad.aD .lss (Int.ofNat i) (Int.ofNat (ad.len L))=true:=by simp_all[aJ]
  have g2:=cz ae (bY i aA);have g3:=cd ae (n:=i) axW;have aE:kg (l.take (i+1))=kg (l.take i)+(200+(l[i].1.length+l[i].2.length)):=vX (λx:(aw×aw)=>x.1.length+x.2.length) l aA;have bp:(l[i].1.length+l[i].2.length)+200<=kg l:=yd (λx:(aw×aw)=>x.1.length+x.2.length) l aA;have kL:∀s:aw,s.length<=(l[i].1.length+l[i].2.length)+3->lens (ss++[s])<=kg (l.take (i+1))+3*(i+1):=by
   intro s h;rw[sO,aE];show lens ss+(200+s.length+0)<=_;omega
  rw[<-fa]at hm;clear aE;unfold fx at g2;generalize l[i]=x at*;obtain⟨b',cr⟩:=x;dsimp only at*;have h1:ad.fJ b' [32,61,32]=true:=aya;have sh:ad.fJ (ad.cQ b' [32,61,32]) cr=true:=ax8;refine af ?_;exact fixF (i+1,ad.app out [.str (ad.cQ (ad.cQ b' [32,61,32]) cr)]) ⟨aA,ss++[(ad.cQ (ad.cQ b' [32,61,32]) cr)],ayd,rf aI,kL _ azT⟩
 .have dV:i=l.length:=by omega
  have g1:ad.aD .lss (Int.ofNat i) (Int.ofNat (ad.len L))=false:=ax1;obtain⟨t,aE,aj⟩:=vY ss [44,32] ax0 axW;rw[<-fa]at aj;refine af ?_;exact ao _ _ ⟨t,axW,rfl,axV⟩
theorem aqv(c:ef)(l:List (aw×aw×aw))(az:c.ai=l.map eM)(hw:kh l<=10000000000):∃s:aw,s.length<=kh l/\aM 227 [.d (.agg c.cs)] [] (.d (.str s)) []:=by
 refine fK ?_;have bE:(l.map eM).length=l.length:=aAb _;have bY:∀i (h:i<l.length),(l.map eM)[i]?=some (eM l[i]):=λi h=>c7 h;rw[<-az]at bE bY;clear az;have vS:l.length<=kh l:=lJ _ _;obtain⟨c1,c2,c3,c4,c5,eI,bQ,e0,c9,fj,e9,c12,eN,eR,eS,bB⟩:=c;dsimp only at*;generalize ME:eR=L at*;refine Yb.cu _ λad ae K ao=> ?_;refine af ?_;refine⟨bX (λz:Nat×List D=>cx [(3,.own 1 z.2),(7,.d (.list 3 L)),(8,.d (int (Int.ofNat (ad.len L)))),(9,.d (int (Int.ofNat z.1)))] []) (λz=>z.1<=l.length/\∃ss:List aw,z.2=ss.map .str/\ss.length=z.1/\lens ss<=kh (l.take z.1)+6*z.1) λz=>l.length-z.1,_,⟨(0,[]),⟨aAa _,[],rfl,rfl,aAa _⟩,rfl,axV⟩,?_⟩;rintro _ _ ⟨⟨i,out⟩,⟨hi,ss,fa,aI,hs⟩,rfl,rfl⟩;dsimp only at hi aI hs fa⊢;have hm:=x6 (l:=ss);have ot:=sN ss;have AA:kh (l.take i)<=kh l:=uD (λx:(aw×aw×aw)=>x.1.length+x.2.1.length+x.2.2.length) _ _;by_cases aA:i<l.length
 .have g1:ad.aD .lss (Int.ofNat i) (Int.ofNat (ad.len L))=true:=by simp_all[aJ]
  have g2:=cz ae (bY i aA);have g3:=cd ae (n:=i) axW;have aE:kh (l.take (i+1))=kh (l.take i)+(200+(l[i].1.length+l[i].2.1.length+l[i].2.2.length)):=vX (λx:(aw×aw×aw)=>x.1.length+x.2.1.length+x.2.2.length) l aA;have bp:(l[i].1.length+l[i].2.1.length+l[i].2.2.length)+200<=kh l:=yd (λx:(aw×aw×aw)=>x.1.length+x.2.1.length+x.2.2.length) l aA;have kL:∀s:aw,s.length<=(l[i].1.length+l[i].2.1.length+l[i].2.2.length)+6->lens (ss++[s])<=kh (l.take (i+1))+6*(i+1):=by
   intro s h;rw[sO,aE];show lens ss+(200+s.length+0)<=_;omega
  rw[<-fa]at hm;clear aE;unfold eM at g2;generalize l[i]=x at*;obtain⟨b',cr,dE⟩:=x;dsimp only at*;have h1:ad.fJ b' [40]=true:=aya;have sh:ad.fJ (ad.cQ b' [40]) cr=true:=ax8;have av:ad.fJ (ad.cQ (ad.cQ b' [40]) cr) [41,32,97,115,32]=true:=ax8;have aW:ad.fJ (ad.cQ (ad.cQ (ad.cQ b' [40]) cr) [41,32,97,115,32]) dE=true:=ax8;refine af ?_;exact fixF (i+1,ad.app out [.str (ad.cQ (ad.cQ (ad.cQ (ad.cQ b' [40]) cr) [41,32,97,115,32]) dE)]) ⟨aA,ss++[(ad.cQ (ad.cQ (ad.cQ (ad.cQ b' [40]) cr) [41,32,97,115,32]) dE)],ayd,rf aI,kL _ azT⟩
 .have dV:i=l.length:=by omega
  have g1:ad.aD .lss (Int.ofNat i) (Int.ofNat (ad.len L))=false:=ax1;obtain⟨t,aE,aj⟩:=vY ss [44,32] ax0 axW;rw[<-fa]at aj;refine af ?_;exact ao _ _ ⟨t,axW,rfl,axV⟩
theorem aqw(c:ef)(l:List (aw×Bool))(az:c.ob=l.map fy)(hw:ki l<=10000000000):∃s:aw,s.length<=ki l/\aM 228 [.d (.agg c.cs)] [] (.d (.str s)) []:=by
 refine fK ?_;have bE:(l.map fy).length=l.length:=aAb _;have bY:∀i (h:i<l.length),(l.map fy)[i]?=some (fy l[i]):=λi h=>c7 h;rw[<-az]at bE bY;clear az;have vS:l.length<=ki l:=lJ _ _;obtain⟨c1,c2,c3,c4,c5,eI,bQ,e0,c9,fj,e9,c12,eN,eR,eS,bB⟩:=c;dsimp only at*;generalize ME:eS=L at*;refine UM.cu _ λad ae K ao=> ?_;refine af ?_;refine⟨bX (λz:Nat×List D=>cx [(3,.own 1 z.2),(8,.d (.list 2 L)),(9,.d (int (Int.ofNat (ad.len L)))),(10,.d (int (Int.ofNat z.1)))] []) (λz=>z.1<=l.length/\∃ss:List aw,z.2=ss.map .str/\ss.length=z.1/\lens ss<=ki (l.take z.1)+5*z.1) λz=>l.length-z.1,_,⟨(0,[]),⟨aAa _,[],rfl,rfl,aAa _⟩,rfl,axV⟩,?_⟩;rintro _ _ ⟨⟨i,out⟩,⟨hi,ss,fa,aI,hs⟩,rfl,rfl⟩;dsimp only at hi aI hs fa⊢;have hm:=x6 (l:=ss);have ot:=sN ss;have AA:ki (l.take i)<=ki l:=uD (λx:(aw×Bool)=>x.1.length) _ _;by_cases aA:i<l.length
 .have g1:ad.aD .lss (Int.ofNat i) (Int.ofNat (ad.len L))=true:=by simp_all[aJ]
  have g2:=cz ae (bY i aA);have g3:=cd ae (n:=i) axW;have aE:ki (l.take (i+1))=ki (l.take i)+(200+(l[i].1.length)):=vX (λx:(aw×Bool)=>x.1.length) l aA;have bp:(l[i].1.length)+200<=ki l:=yd (λx:(aw×Bool)=>x.1.length) l aA;have kL:∀s:aw,s.length<=(l[i].1.length)+5->lens (ss++[s])<=ki (l.take (i+1))+5*(i+1):=by
   intro s h;rw[sO,aE];show lens ss+(200+s.length+0)<=_;omega
  rw[<-fa]at hm;clear aE;unfold fy at g2;generalize l[i]=x at*;obtain⟨b',cr⟩:=x;dsimp only at*;have h1:ad.fJ b' [32,100,111,119,110]=true:=aya;cases cr with
  |true=>
   refine af ?_;exact fixF (i+1,ad.app out [.str (ad.cQ b' [32,100,111,119,110])]) ⟨aA,ss++[(ad.cQ b' [32,100,111,119,110])],ayd,rf aI,kL _ ax1⟩
  |false=>
   refine af ?_;exact fixF (i+1,ad.app out [.str b']) ⟨aA,ss++[b'],ayd,rf aI,kL _ axX⟩
 .have dV:i=l.length:=by omega
  have g1:ad.aD .lss (Int.ofNat i) (Int.ofNat (ad.len L))=false:=ax1;obtain⟨t,aE,aj⟩:=vY ss [44,32] ax0 axW;rw[<-fa]at aj;refine af ?_;exact ao _ _ ⟨t,axW,rfl,axV⟩
theorem fT{ad:bm}(h:ad=bm.bU){z n i:Nat}(hi:i<n):ad.er z z (Int.ofNat i) n=true:=ax1
theorem lg{ad:bm}(h:ad=bm.bU)(i:Nat):ad.l9 0 (Int.ofNat i) 1=i:=by
 simp_all[uh]
theorem rh{ad:bm}(h:ad=bm.bU){C:List ah}{i:Nat}(hi:i<C.length):ad.hL i 1 C true=true:=by
 rw[(uh h).2.1,aAk axW];rfl
theorem vZ{ad:bm}(h:ad=bm.bU){C:List ah}{i:Nat}(hi:i<C.length):ad.mR true i 1 C true=true:=by
 rw[(uh h).2.2.1,aAk axW];rfl
theorem v7{ad:bm}(h:ad=bm.bU){C:List ah}{i:Nat}{x:D}(hi:C[i]?=some (.d x)):ad.jS C i=.d x:=by
 subst h;show snap (C.getD i .undef)=_;rw[aAL,hi];rfl
theorem sR{ad:bm}(h:ad=bm.bU)(C:List ah)(i:Nat)(v:ah):ad.lC C i [v]=some (C.set i v):=ayj
theorem uE{ad:bm}(h:ad=bm.bU)(a b:Nat):ad.ns (Int.ofNat a) (Int.ofNat b)=a-b:=ayj
theorem ye{ad:bm}(h:ad=bm.bU){l m n c:Nat}(h1:l<=m)(sh:m<=n)(av:n<=c):ad.pW true (Int.ofNat l) (Int.ofNat m) (Int.ofNat n) c=true:=by
 simp_all[uh]
theorem acG{ad:bm}(h:ad=bm.bU){C:List ah}{o n:Nat}(hi:o+n<=C.length):ad.zU true o n 1 C=true:=by
 simp_all[uh]
def gA(ss:List aw):List ah:=ss.map λs=>.d (.str s)
theorem MF(ss:List aw):(gA ss).length=ss.length:=aAb _
theorem mo(ss:List aw):Flat (gA ss):=λv hv=>azU
theorem acH{ss:List aw}{i:Nat}(h:i<ss.length):(gA ss)[i]?=some (.d (.str ss[i])):=by
 grind[gA]
theorem aqx(ss:List aw)(i:Nat)(s:aw):(gA ss).set i (.d (.str s))=gA (ss.set i s):=by
 grind[gA,List.map_set]
theorem MG(v:ah):∀(n:Nat) (C:List ah) (i:Nat),i+n<=C.length->putCells C i (List.replicate n v)=C.take i++List.replicate n v++C.drop (i+n)
 |0,C,i,h=>by show C=_;simp
 |n+1,C,i,h=>by
  show putCells (C.set i v) (i+1) (List.replicate n v)=_;rw[MG v n _ _ axZ,aA9,aAW axW,List.take_set_of_le (aAd _),List.drop_set_of_lt axW];grind
theorem acI(s:aw):aM 179 [.d (.str s)] [] (.d (.bool (decide (s=[])))) []:=by
 refine alZ.cn λad ae Q aV=> ?_;refine af ?_
 (subst ae;exact bZ aV axV axV)
def aqy(C:List ah)(n i:Nat):ag:=cx [(0,.aN 0 0 n n 1),(1,.d (.fn 179)),(7,.d (int (Int.ofNat n))),(8,.d (int (Int.ofNat i)))] [.box C]
theorem aqz(ss:List aw)(n:Nat)(jb:ss.length=n)(ay:n<=1073741824):∃r:Int,(r= -1\/∃k:Nat,k<n/\r=Int.ofNat k)/\aM 220 [.aN 0 0 n n 1,.d (.fn 179)] [.box (gA ss)] (.d (int r)) [.box (gA ss)]:=by
 refine fK ?_;refine aDH.jt [0] _ λad ae K ao=> ?_;have f0:=(mo ss).refs ae;have f1:=(mo ss).ok ae;have hC:=MF ss;have cR:∀i (h:i<ss.length),(gA ss)[i]?=some (.d (.str ss[i])):=λi h=>acH h;generalize gA ss=C at*;refine af ?_;refine⟨bX (λi=>aqy C n i) (λi=>i<=n) (λi=>n-i),_,⟨0,aAa _,rfl,axV⟩,?_⟩;rintro _ _ ⟨i,hi,rfl,rfl⟩;dsimp only at hi⊢;by_cases aA:i<n
 .have t1:ad.aD .lss (Int.ofNat i) (Int.ofNat n)=true:=by simp_all[aJ]
  have t2:ad.er 1 1 (Int.ofNat i) n=true:=fT ae aA;have t3:=lg ae i;have t4:ad.hL i 1 C true=true:=rh ae axW;have t5:=v7 ae (cR i axW);have t6:=cd ae (n:=i) axW;have aj:=acI (ss[i]' axW);generalize (ss[i]' axW)=x at*;generalize au:decide (x=[])=b at*;cases b with
  |true=>
   refine af ?_;grind
  |false=>
   refine af ?_;exact fixF (i+1) aA
 .have t1:ad.aD .lss (Int.ofNat i) (Int.ofNat n)=false:=by simp_all[aJ]
  refine af ?_;simp_all
theorem aqA(ss:List aw)(i:Nat):lens (ss.take i)+lens (ss.drop i)=lens ss:=by
 rw[<-sO,aCq]
theorem acJ(s:aw)(ss:List aw):lens (s::ss)=200+s.length+lens ss:=rfl
theorem aqB{ts:List aw}{i j:Nat}(eP:i<j)(aK:j<ts.length):lens ((ts.set i ts[j]).take (i+1))+lens ((ts.set i ts[j]).drop (j+1))=lens (ts.take i)+lens (ts.drop j):=by
 rw[aA9,aAW axW,List.take_set_of_le (aAd _),List.drop_set_of_lt axW,aBg aK,acJ,sO];show lens (ts.take i)+(200+ts[j].length+0)+_=_;omega
theorem acK{ts:List aw}{j:Nat}(aK:j<ts.length):lens (ts.drop (j+1))<=lens (ts.drop j):=by
 grind[List.drop_eq_getElem_cons,acJ]
def aqC(C:List ah)(n i j:Nat):ag:=cx [(0,.aN 0 0 n n 1),(1,.d (.fn 179)),(5,.d (int (Int.ofNat i))),(6,.d (int (Int.ofNat j)))] [.box C]
theorem aqD(ss:List aw)(n:Nat)(jb:ss.length=n)(wb:0<n)(ay:n<=1073741824):∃(i:Nat) (ss':List aw),i<=n/\ss'.length=n/\lens (ss'.take i)<=lens ss/\aM 178 [.aN 0 0 n n 1,.d (.fn 179)] [.box (gA ss)] (.aN 0 0 i n 1) [.box (gA ss')]:=by
 suffices h:∃r s',(∃(i:Nat) (ss':List aw),i<=n/\ss'.length=n/\lens (ss'.take i)<=lens ss/\r=.aN 0 0 i n 1/\s'=[.box (gA ss')])/\aM 178 [.aN 0 0 n n 1,.d (.fn 179)] [.box (gA ss)] r s' by
  grind
 obtain⟨r,ax,aj⟩:=aqz ss n jb ay;refine ZO.jt [0] _ λad ae K ao=> ?_;have f0:=(mo ss).refs ae;have f1:=(mo ss).ok ae;have f2:=(mo ss).ren ae;rcases ax with rfl|⟨k,aq,rfl⟩
 .have t1:ad.aD .eql (-1) (-1)=true:=by simp_all[aJ]
  have fg:lens (ss.take n)<=lens ss:=axZ;replace ao:=λs h=>ao (.aN 0 0 n n 1) s ⟨n,ss,aAd _,jb,fg,rfl,h⟩;generalize gA ss=C at*;refine af ?_;simp_all
 have t1:ad.aD .eql (Int.ofNat k) (-1)=false:=ax1;have t6:=cd ae (n:=k) axW;have fg:lens (ss.take k)+lens (ss.drop (k+1))<=lens ss:=by grind[aqA,acK]
 have kx:=ao;have aqE:gA ss=gA ss:=rfl;generalize acL:gA ss=C at aj f0 f1 f2;obtain⟨k1,fQ⟩:∃m,m=k+1:=⟨_,rfl⟩;rw[<-fQ]at t6 fg;refine af ?_;refine⟨bX (λz:Nat×Nat×List ah=>aqC z.2.2 n z.1 z.2.1) (λz=>∃ts:List aw,z.2.2=gA ts/\ts.length=n/\z.1<z.2.1/\z.2.1<=n/\lens (ts.take z.1)+lens (ts.drop z.2.1)<=lens ss) (λz=>n-z.2.1),_,⟨(k,k1,C),⟨ss,acL.symm,jb,axZ,axZ,fg⟩,rfl,axV⟩,?_⟩;clear f0 f1 f2 t6 t1 aj acL fg kx aqE;rintro _ _ ⟨⟨i,j,C⟩,⟨ts,hC,hB,eP,aK,hle⟩,rfl,rfl⟩;dsimp only at hC eP aK hle⊢;have f0:=(mo ts).refs ae;have f1:=(mo ts).ok ae;have f2:=(mo ts).ren ae;have aqF:=MF ts;rw[<-hC]at f0 f1 f2 aqF;by_cases aA:j<n
 .have awQ:j<ts.length:=by omega
  have t1:ad.aD .lss (Int.ofNat j) (Int.ofNat n)=true:=ax1;have t2:ad.er 1 1 (Int.ofNat j) n=true:=fT ae aA;have t3:=lg ae j;have t4:ad.hL j 1 C true=true:=rh ae axW;have t5:ad.jS C j=.d (.str (ts[j])):=by grind[v7,acH]
  have t6:=cd ae (n:=j) axW;have aj:=acI (ts[j]);have gW:ad.er 1 1 (Int.ofNat i) n=true:=fT ae axW;have gd:=lg ae i;have hK:ad.mR true i 1 C true=true:=vZ ae axW;have gY:ad.lC C i [.d (.str (ts[j]))]=some (gA (ts.set i (ts[j]))):=by grind[sR,aqx]
  have kJ:=cd ae (n:=i) axW;have g0:=(mo (ts.set i (ts[j]))).refs ae;have g1:=(mo (ts.set i (ts[j]))).ok ae;have jm:(ts.set i (ts[j])).length=n:=axY;have awR:=aqB (ts:=ts) eP axW;have awS:=acK (ts:=ts) (j:=j) axW;generalize (ts.set i (ts[j]))=oU at*;generalize (ts[j])=x at*;generalize au:decide (x=[])=b at*;generalize gi:gA oU=d' at*;cases b with
  |true=>
   refine af ?_;exact fixF (i,j+1,C) ⟨ts,hC,hB,axZ,aA,axZ⟩
  |false=>
   refine af ?_;exact fixF (i+1,j+1,d') ⟨oU,gi.symm,jm,axY,aA,axY⟩
 .have t1:ad.aD .lss (Int.ofNat j) (Int.ofNat n)=false:=by simp_all[aJ]
  have gE:ad.pW true (Int.ofNat i) (Int.ofNat n) (Int.ofNat n) n=true:=ye ae axW (aAd _) (aAd _);have gW:ad.aD .eql (Int.ofNat i) (Int.ofNat n)=false:=ayb;have gd:=lg ae i;have hK:=uE ae n i;obtain⟨m,hm⟩:∃m,m=n-i:=⟨_,rfl⟩;rw[<-hm]at hK;have gY:ad.zU true i m 1 C=true:=acG ae axW;have kJ:ad.zV C i m [.d (.str [])]=some (gA (ts.take i++List.replicate m [])):=by
   have h1:ad.zV C i m [.d (.str [])]=some (putCells C i (List.replicate m [ah.d (.str [])]).flatten):=ax3;have sh:(List.replicate m [ah.d (.str [])]).flatten=List.replicate m (ah.d (.str [])):=axX;grind[MG,gA,List.drop_eq_nil_of_le,List.map_take,List.map_replicate]
  have jm:(ts.take i++List.replicate m ([]:aw)).length=n:=axZ;have aqG:lens ((ts.take i++List.replicate m ([]:aw)).take i)<=lens ss:=axZ;have g1:=(mo (ts.take i++List.replicate m [])).ok ae;generalize (ts.take i++List.replicate m ([]:aw))=oU at*;replace ao:=λs h=>ao (.aN 0 0 i n 1) s ⟨i,oU,axW,jm,aqG,rfl,h⟩;generalize gi:gA oU=d' at*;have v1:ad.pW true 0 (Int.ofNat i) (Int.ofNat n) n=true:=ye (l:=0) ae axW axW (aAd _);have v2:ad.aD .eql 0 (Int.ofNat n)=false:=ayb;have v3:ad.l9 0 0 1=0:=lg ae 0;have v4:ad.ns (Int.ofNat i) 0=i:=uE ae i 0;have v5:ad.ns (Int.ofNat n) 0=n:=uE ae n 0;refine af ?_;simp_all
theorem acM:∀ss:List aw,jz (gA ss)=some (ss.map D.str)
 |[]=>rfl
 |s::ss=>by
  show(match jz (gA ss)with|some xs=>some (D.str s::xs)|none=>none)=_;rw[acM ss];rfl
theorem aqH(ss:List aw)(i n:Nat)(h:i<=n)(aI:ss.length=n):FL [.box (gA ss)] (.aN 0 0 i n 1)=some (ss.take i):=by
 show(cond (Nat.ble i n&&Nat.ble (0+i) (gA ss).length) (match jz (((gA ss).drop 0).take i)with
   |some l=>aH.fu l
   |none=>none) none)=_
 rw[aBD h,aBD (by grind[MF]),List.drop_zero];have h1:(gA ss).take i=gA (ss.take i):=by grind[gA,List.map_take]
 grind[acM,GI]
theorem GR(ss:List aw)(n:Nat)(jb:ss.length=n)(wb:0<n)(ay:n<=1073741824)(aI:lens ss<=100000000000):∃(s:aw) (C:List ah),s.length<=lens ss/\aM 130 [.aN 0 0 n n 1] [.box (gA ss)] (.d (.str s)) [.box C]:=by
 obtain⟨i,ss',hi,tu,hle,aj⟩:=aqD ss n jb wb ay;have h1:=Mw (sep:=[32]) ax0 (ss'.take i);have sh:=sN (ss'.take i);have aF:=FM (P:=a1) (gl:=gl) exts.Cw exts.j (sep:=[32]) (aqH ss' i n hi tu) axW axW;generalize sx [32] (ss'.take i)=t at aF h1;refine⟨t,gA ss',axW,?_⟩;refine aFv.kf [0] λad ae Q aV=> ?_;have f0:=(mo ss).refs ae;have f1:=(mo ss).ok ae;have f2:=(mo ss).ren ae;have g0:=(mo ss').refs ae;have g1:=(mo ss').ok ae;have g2:=(mo ss').ren ae;generalize gA ss=C at*;generalize gA ss'=awT at*;refine af ?_;simp_all
theorem MH(a b:aw)(h:a.length+b.length<=90000000000):∃(s:aw) (C:List ah),s.length<=400+a.length+b.length/\aM 130 [.aN 0 0 2 2 1] [.box [.d (.str a),.d (.str b)]] (.d (.str s)) [.box C]:=by
 obtain⟨s,C,h1,sh⟩:=GR [a,b] 2 rfl ax0 ax0 (by show 200+a.length+(200+b.length+0)<=_;omega);exact⟨s,C,by have h1:s.length<=200+a.length+(200+b.length+0):=h1;omega,sh⟩
theorem AB(a b c d:aw)(h:a.length+b.length+c.length+d.length<=90000000000):∃(s:aw) (C:List ah),s.length<=800+a.length+b.length+c.length+d.length/\aM 130 [.aN 0 0 4 4 1] [.box [.d (.str a),.d (.str b),.d (.str c),.d (.str d)]] (.d (.str s)) [.box C]:=by
 obtain⟨s,C,h1,sh⟩:=GR [a,b,c,d] 4 rfl ax0 ax0 (by show 200+a.length+(200+b.length+(200+c.length+(200+d.length+0)))<=_;omega);exact⟨s,C,by have h1:s.length<=200+a.length+(200+b.length+(200+c.length+(200+d.length+0))):=h1;omega,sh⟩
theorem MI(a b c d e:aw)(h:a.length+b.length+c.length+d.length+e.length<=90000000000):∃(s:aw) (C:List ah),s.length<=1000+a.length+b.length+c.length+d.length+e.length/\aM 130 [.aN 0 0 5 5 1] [.box [.d (.str a),.d (.str b),.d (.str c),.d (.str d),.d (.str e)]] (.d (.str s)) [.box C]:=by
 obtain⟨s,C,h1,sh⟩:=GR [a,b,c,d,e] 5 rfl ax0 ax0 (by show 200+a.length+(200+b.length+(200+c.length+(200+d.length+(200+e.length+0))))<=_;omega);exact⟨s,C,by have h1:s.length<=200+a.length+(200+b.length+(200+c.length+(200+d.length+(200+e.length+0)))):=h1;omega,sh⟩
theorem aqI(c:ef)(xs:List aB)(ns:List aw)(ak:c.xs=aB.ds xs)(ay:c.ns=ns.map .str)(ih:∀x∈xs,vR x)(hw:8*aB.ws xs+fw ns<=20000000000):∃s:aw,s.length<=8*aB.ws xs+fw ns/\aM 225 [.d (.agg c.cs)] [] (.d (.str s)) []:=by
 refine fK ?_;have bE:(aB.ds xs).length=xs.length:=aB.uo xs;have bY:∀i (h:i<xs.length),(aB.ds xs)[i]?=some (.agg xs[i].bQ.cs):=by
  intro i h;rw[ld,aA4,aAj h];exact congrArg some (aB.mU _)
 have b3:(ns.map D.str).length=ns.length:=aAb _;have sS:∀i (h:i<ns.length),(ns.map D.str)[i]?=some (D.str ns[i]):=λi h=>c7 h;rw[<-ak]at bE bY;rw[<-ay]at b3 sS;clear ak ay;have qO:200*xs.length<=aB.ws xs:=by
  clear bE bY ih hw;induction xs with
  |nil=>simp
  |cons y l ih=>grind[aB.ws,aB.sP]
 obtain⟨c1,c2,c3,c4,c5,eI,bQ,e0,c9,fj,N,L,eN,eR,eS,bB⟩:=c;dsimp only at*;refine Z4.cu _ λad ae K ao=> ?_;refine af ?_;refine⟨bX (λz:Nat×List D=>pV [(1,.dT 1 0),(3,.own 1 z.2),(8,.d (.list 7 L)),(9,.d (int (Int.ofNat (ad.len L)))),(10,.d (int (Int.ofNat z.1)))] [(1,(ef.cs ⟨c1,c2,c3,c4,c5,eI,bQ,e0,c9,fj,N,L,eN,eR,eS,bB⟩).map .d)] []) (λz=>z.1<=xs.length/\∃ss:List aw,z.2=ss.map .str/\ss.length=z.1/\lens ss<=8*aB.ws (xs.take z.1)+fw (ns.take z.1)) λz=>xs.length-z.1,_,⟨(0,[]),⟨aAa _,[],rfl,rfl,aAa _⟩,rfl,axV⟩,?_⟩;rintro _ _ ⟨⟨i,out⟩,⟨hi,ss,fa,aI,hs⟩,rfl,rfl⟩;dsimp only at hi aI hs fa⊢;have hm:=x6 (l:=ss);have ot:=sN ss;have AA:fw (ns.take i)<=fw ns:=uD (λx:aw=>x.length) _ _;have aqJ:aB.ws (xs.take i)<=aB.ws xs:=by
  grind[aB.xY,List.take_append_drop]
 by_cases aA:i<xs.length
 .have g1:ad.aD .lss (Int.ofNat i) (Int.ofNat (ad.len L))=true:=by simp_all[aJ]
  have g2:=cz ae (bY i aA);have g3:=cd ae (n:=i) axW;obtain⟨t,aE,aj⟩:=ih xs[i] (aAl aA);have awU:aB.ws (xs.take (i+1))=aB.ws (xs.take i)+xs[i].w:=by
   rw[aA9,aAj aA,aBM,aB.xY];rfl
  have awV:aB.ws (xs.take (i+1))<=aB.ws xs:=by
   grind[aB.xY,List.take_append_drop]
  rw[<-fa]at hm;have h1:ad.fJ t [32,97,115,32]=true:=aya;by_cases vu:i<ns.length
  .have g4:ad.aD .lss (Int.ofNat i) (Int.ofNat (ad.len N))=true:=by simp_all[aJ]
   have g5:=cz ae (sS i vu);have xx:fw (ns.take (i+1))=fw (ns.take i)+(200+ns[i].length):=vX (λx:aw=>x.length) ns vu;have akY:ns[i].length+200<=fw ns:=yd (λx:aw=>x.length) ns vu;clear ih;generalize xs[i]=x at*;generalize x.bQ=c at aj g2;generalize ns[i]=nm at*;have sh:ad.fJ (ad.cQ t [32,97,115,32]) nm=true:=ax8;conv=>cbv
   repeat' ((first|refine cZ ?_|refine c6 ?_|simp -proj only[g1,g2,g3,g4,g5]|(split<;>(rename_i h;try simp only[h])))<;>conv=>cbv)
   exact ec (i+1,ad.app out [.str (ad.cQ (ad.cQ t [32,97,115,32]) nm)]) ⟨aA,ss++[ad.cQ (ad.cQ t [32,97,115,32]) nm],ayd,rf aI,by
    rw[sO];show lens ss+(200+(ad.cQ (ad.cQ t [32,97,115,32]) nm).length+0)<=_;simp only[aJ ae,aAA,aAu,aA6];omega⟩ (show xs.length-(i+1)<xs.length-i by omega) axV
  .have g4:ad.aD .lss (Int.ofNat i) (Int.ofNat (ad.len N))=false:=by simp_all[aJ]
   have xx:fw (ns.take (i+1))=fw (ns.take i):=by grind[List.take_of_length_le]
   clear ih;generalize xs[i]=x at*;generalize x.bQ=c at aj g2;have sh:ad.fJ (ad.cQ t [32,97,115,32]) []=true:=ax1;refine af ?_
   exact ec (i+1,ad.app out [.str (ad.cQ (ad.cQ t [32,97,115,32]) [])]) ⟨aA,ss++[ad.cQ (ad.cQ t [32,97,115,32]) []],ayd,rf aI,by
    rw[sO];show lens ss+(200+(ad.cQ (ad.cQ t [32,97,115,32]) []).length+0)<=_;simp only[aJ ae,aAA,aAu,aA6];omega⟩ (show xs.length-(i+1)<xs.length-i by omega) axV
 .have dV:i=xs.length:=by omega
  have g1:ad.aD .lss (Int.ofNat i) (Int.ofNat (ad.len L))=false:=ax1;obtain⟨t,aE,aj⟩:=vY ss [44,32] ax0 axW;rw[<-fa]at aj;refine af ?_;exact ao _ _ ⟨t,axW,rfl,axV⟩
def Dq(c:ef)(w:Nat):Prop:=∃s:aw,s.length<=8*w/\aM 134 [.d (.agg c.cs)] [] (.d (.str s)) []
theorem aqK{c:ef}{w:Nat}(h:Dq c w)(hw:w<=dJ)(ay:c.n.length<=w):∃s:aw,s.length<=8*w+2/\aM 223 [.d (.agg c.cs)] [] (.d (.str s)) []:=by
 obtain⟨t,aE,aj⟩:=h;unfold dJ at hw;refine fK ?_;obtain⟨c1,c2,c3,c4,c5,eI,bQ,e0,c9,fj,e9,c12,eN,eR,eS,bB⟩:=c;dsimp only at*;refine aE0.cu _ λad ae K ao=> ?_;have h1:ad.fJ [40] t=true:=aya;have sh:ad.fJ (ad.cQ [40] t) [41]=true:=ax8;refine af ?_;repeat' (split<;>refine af ?_)
 .exact ao _ _ ⟨c2,axW,rfl,axV⟩
 exact ao _ _ ⟨_,ax1,rfl,axV⟩
theorem aqL(c:ef)(l:List ef)(bp:c.a=l.map λx=>.agg x.cs){Dr hj g' Ds to tn sn sec:aw}
  (aj:aM 224 [.d (.agg (mj.cs ⟨c.cH,c.k3,c.mW,c.mX,c.mY,c.mZ,c.dH⟩))] [] (.d (.str Dr)) [])
  (aF:aM 225 [.d (.agg c.cs)] [] (.d (.str hj)) [])
  (aZ:aM 226 [.d (.agg c.cs)] [] (.d (.str g')) [])
  (bP:aM 227 [.d (.agg c.cs)] [] (.d (.str Ds)) [])
  (cK:aM 228 [.d (.agg c.cs)] [] (.d (.str to)) [])
  (dO:aM 131 [.d (.list 1 c.ns),.d (.str [44,32])] [] (.d (.str tn)) [])
  (vU:aM 181 [.d (int c.cD)] [] (.d (.str sn)) [])
  (jI:(l.length<=1/\sec=[])\/∃h:1<l.length,aM 223 [.d (.agg l[1].cs)] [] (.d (.str sec)) [])
  (au:Dr.length+hj.length+g'.length+Ds.length+to.length+tn.length+sn.length+sec.length<=50000000000):
  ∃s:aw,s.length<=900+Dr.length+hj.length+g'.length+Ds.length+to.length+tn.length+sn.length+sec.length/\aM 182 [.d (.agg c.cs)] [] (.d (.str s)) []:=by
 obtain⟨s2,d',sh,bW⟩:=MH [119,104,101,114,101] Dr axZ;obtain⟨kE,v8,av,fb⟩:=MH [107,101,101,112] hj axZ;obtain⟨k5,awW,aW,jP⟩:=AB [106,111,105,110] sec [111,110] g' axZ;obtain⟨zF,awX,bL,oc⟩:=AB [108,101,102,116] sec [111,110] g' axZ;obtain⟨zG,awY,cW,B9⟩:=AB [103,114,111,117,112] tn [58] Ds axZ;obtain⟨zI,mj,hx,awZ⟩:=MH [117,110,105,111,110] sec axZ;obtain⟨zH,aw0,hI,aw1⟩:=AB [102,105,114,115,116] sn [98,121] to axZ;obtain⟨aw2,aw3,iD,aw4⟩:=AB [102,105,114,115,116] sn [] to axZ;simp only[aAu,aA6]at sh av aW bL cW hx hI iD;refine fK ?_;have bE:(l.map λx=>D.agg x.cs).length=l.length:=aAb _;have bY:∀i (h:i<l.length),(l.map λx=>D.agg x.cs)[i]?=some (.agg l[i].cs):=λi h=>c7 h;rw[<-bp]at bE bY;clear bp;obtain⟨c1,c2,L,c4,c5,eI,bQ,e0,c9,fj,e9,X,eN,eR,eS,bB⟩:=c;dsimp only at*;refine X2.cu _ λad ae K ao=> ?_;rcases jI with⟨aI,rfl⟩|⟨aI,jI⟩
 .have g1:ad.aD .gtr (Int.ofNat (ad.len L)) 1=false:=by simp only[aJ ae,aAh,aAp];omega
  refine af ?_;repeat' (split<;>refine af ?_)
  all_goals exact ao _ _ ⟨_,by first|omega|(show 8<=_;omega),rfl,axV⟩
 .have g1:ad.aD .gtr (Int.ofNat (ad.len L)) 1=true:=by simp only[aJ ae,aAh,aAi];omega
  have g2:=cz ae (bY 1 aI);have g3:ad.er 16 16 1 (ad.len L)=true:=ax1;generalize l[1]=y at*;obtain⟨de,dp,dF,lz,sd,zn,Fi,B8,Fj,JW,aqM,aqN,aqO,aqP,aqQ,aqR⟩:=y;dsimp only[ef.cs]at g2 jI;replace g2:ad.get L 1=_:=g2;refine af ?_;repeat' (split<;>refine af ?_)
  all_goals exact ao _ _ ⟨_,by first|omega|(show 8<=_;omega),rfl,axV⟩
theorem aqS(c:ef)(l:List ef)(B:Nat)(bp:c.a=l.map λx=>.agg x.cs){ts:aw}(aF:aM 182 [.d (.agg c.cs)] [] (.d (.str ts)) [])
  (ih:∀h:0<l.length,∃nO:aw,nO.length+3+ts.length<=B/\aM 134 [.d (.agg l[0].cs)] [] (.d (.str nO)) []) (ay:c.n.length<=B) (eJ:B<=50000000000):
  ∃s:aw,s.length<=B/\aM 134 [.d (.agg c.cs)] [] (.d (.str s)) []:=by
 refine fK ?_;have bE:(l.map λx=>D.agg x.cs).length=l.length:=aAb _;have bY:∀i (h:i<l.length),(l.map λx=>D.agg x.cs)[i]?=some (.agg l[i].cs):=λi h=>c7 h;rw[<-bp]at bE bY;clear bp;obtain⟨c1,c2,L,c4,c5,eI,bQ,e0,c9,fj,e9,X,eN,eR,eS,bB⟩:=c;dsimp only at*;refine XI.cu _ λad ae K ao=> ?_;by_cases aI:0<l.length
 .obtain⟨nO,aS,aj⟩:=ih aI;have g1:ad.aD .eql (Int.ofNat (ad.len L)) 0=false:=ayb;have g2:=cz ae (bY 0 aI);have g3:ad.er 16 16 0 (ad.len L)=true:=ax1;have h1:ad.fJ nO [32,124,32]=true:=aya;have sh:ad.fJ (ad.cQ nO [32,124,32]) ts=true:=ax8;clear ih;generalize l[0]=y at*;obtain⟨de,dp,dF,lz,sd,zn,Fi,B8,Fj,JW,aqM,aqN,aqO,aqP,aqQ,aqR⟩:=y;dsimp only[ef.cs]at g2 aj;replace g2:ad.get L 0=_:=g2;refine af ?_;repeat' (split<;>refine af ?_)
  .exact ao _ _ ⟨c2,ay,rfl,axV⟩
  exact ao _ _ ⟨_,ays,rfl,axV⟩
 .have g1:ad.aD .eql (Int.ofNat (ad.len L)) 0=true:=by simp_all[aJ]
  refine af ?_;repeat' (split<;>refine af ?_)
  all_goals exact ao _ _ ⟨c2,ay,rfl,axV⟩
theorem bk.aqT(y:bk):y.n.length<=y.w:=by
 obtain⟨k,nm,l,c,ns,xs,on,ai,ob,cD⟩:=y;show nm.length<=500+nm.length+_+_+_+_+_+_+_;omega
theorem bk.Au:∀{l:List bk} {y:bk},bk.mV l->y∈l->y.good
 |x::l,y,h,wa=>by
  rcases aAs.1 wa with rfl|wa
  .exact h.1
  .exact bk.Au h.2 wa
theorem aqU:∀(n:Nat) (x:bk),x.w<=n->x.good->x.w<=dJ->Dq x.bB x.w:=by
 intro n;induction n with
 |zero=>
  intro x h;obtain⟨k,nm,l,c,ns,xs,on,ai,ob,cD⟩:=x;have h:500+nm.length+bk.ws l+c.w+fw ns+aB.ws xs+kg on+kh ai+ki ob<=0:=h;omega
 |succ n ih=>
  intro x h aC hw;have ak:x=.mk x.k x.n x.l x.c x.ns x.xs x.on x.ai x.ob x.cD:=ayL;have NO:x.w=500+x.n.length+bk.ws x.l+x.c.w+fw x.ns+aB.ws x.xs+kg x.on+kh x.ai+ki x.ob:=ayL;have fD:dG x.cD/\x.c.good/\aB.mV x.xs/\bk.mV x.l:=by cases x;exact aC
  clear ak;obtain⟨g1,g2,g3,g4⟩:=fD;unfold dJ at hw;have aqJ:∀y∈x.xs,y.w<=aB.ws x.xs:=λy wa=>x8 wa;obtain⟨Dr,h1,aj⟩:=aci _ x.c (aAd _) g2 ayc;obtain⟨hj,sh,aF⟩:=aqI x.bB x.xs x.ns rfl rfl (λy wa=>aci _ y (aAd _) (Au g3 wa) ayc) axW;obtain⟨g',av,aZ⟩:=aqu x.bB x.on rfl axW;obtain⟨Ds,aW,bP⟩:=aqv x.bB x.ai rfl axW;obtain⟨to,bL,cK⟩:=aqw x.bB x.ob rfl axW;obtain⟨tn,cW,dO⟩:=vY x.ns [44,32] ax0 (by show fw x.ns<=_;omega);replace cW:tn.length+100*x.ns.length<=fw x.ns:=cW;obtain⟨sn,hx,vU⟩:=C' g1;have aS:∀y∈x.l,y.w<=bk.ws x.l->Dq y.bB y.w:=λy wa Qq=>ih y axW (bk.Au g4 wa) ayc;have bp:x.bB.a=(x.l.map bk.bB).map λx=>.agg x.cs:=by
   show bk.ds x.l=_;rw[bk.ld,aBE];rfl
  have aqV:(x.l=[]\/∃a r,x.l=a::r/\a.w<=bk.ws x.l/\(r=[]\/∃b fN,r=b::fN/\a.w+b.w<=bk.ws x.l)):=by
   match x.l with
   |[]=>simp
   |[a]=>exact .inr ⟨a,[],rfl,by show a.w<=a.w+0;omega,.inl rfl⟩
   |a::b::r=>grind[bk.ws]
  have key:∀(sec:aw) (w1:Nat),sec.length<=8*w1+2->w1<=bk.ws x.l->((x.l.map bk.bB).length<=1/\sec=[]\/∃h:1<(x.l.map bk.bB).length,aM 223 [.d (.agg (x.l.map bk.bB)[1].cs)] [] (.d (.str sec)) [])->
    (∀(h:0<(x.l.map bk.bB).length),∃w0,w0+w1<=bk.ws x.l/\Dq (x.l.map bk.bB)[0] w0)->Dq x.bB x.w:=by
   intro sec w1 hs tH jI aqW;obtain⟨ts,hB,uz⟩:=aqL x.bB (x.l.map bk.bB) bp aj aF aZ bP cK dO vU jI axW;refine aqS x.bB (x.l.map bk.bB) (8*x.w) bp uz (λh=> ?_) (by show x.n.length<=_;omega) axW;obtain⟨w0,mN,nO,aw5,uF⟩:=aqW h;grind
  rcases aqV with aI|⟨a,r,aI,aqX,ax|⟨b,fN,ax,wc⟩⟩
  .refine key [] 0 axX axW (.inl ⟨axY,rfl⟩) λh=> ?_;grind
  .subst ax;refine key [] 0 axX axW (.inl ⟨axZ,rfl⟩) λh=>⟨a.w,axW,?_⟩;grind
  .subst ax;obtain⟨sec,hs,jI⟩:=aqK (aS b (by rw[aI];simp) axW) ayc b.aqT;refine key sec b.w hs axW (.inr ⟨by rw[aI];simp,?_⟩) λh=>⟨a.w,wc,?_⟩
   .simp only[aI,aAP,aCN,aDb];omega
   .have:=aS a axZ aqX;simp only[aI,aAP,aDb];omega
theorem aqY(a b c d e f g:aw)(h:a.length+b.length+c.length+d.length+e.length+f.length+g.length<=90000000000):∃(s:aw) (C:List ah),s.length<=1400+a.length+b.length+c.length+d.length+e.length+f.length+g.length/\aM 130 [.aN 0 0 7 7 1] [.box [.d (.str a),.d (.str b),.d (.str c),.d (.str d),.d (.str e),.d (.str f),.d (.str g)]] (.d (.str s)) [.box C]:=by
 obtain⟨s,C,h1,sh⟩:=GR [a,b,c,d,e,f,g] 7 rfl ax0 ax0 (by show 200+a.length+(200+b.length+(200+c.length+(200+d.length+(200+e.length+(200+f.length+(200+g.length+0))))))<=_;omega);exact⟨s,C,by have h1:s.length<=200+a.length+(200+b.length+(200+c.length+(200+d.length+(200+e.length+(200+f.length+(200+g.length+0)))))):=h1;omega,sh⟩
theorem eF{ad:bm}(h:ad=bm.bU):(∀a b,ad.aD .eql a b=decide (a=b))/\(∀a b,ad.aD .lss a b=decide (a<b))/\(∀a b,ad.aD .geq a b=decide (b<=a))/\(∀a b,ad.aD .gtr a b=decide (b<a)):=by subst h;exact⟨λ_ _=>rfl,λ_ _=>rfl,λ_ _=>rfl,λ_ _=>rfl⟩
theorem GU{ad:bm}(h:ad=bm.bU){z k:Nat}{i:Int}(h1:0<=i)(sh:i<k):ad.er z z i k=true:=ax1
theorem aqZ(c:lb)(h1:dG c.s1)(sh:dG c.s2):∃s:aw,s.length<=60/\aM 132 [.d (.agg c.cs)] [] (.d (.str s)) []:=by
 refine fK ?_;obtain⟨t1,l1,aj⟩:=C' h1;obtain⟨t2,l2,aF⟩:=C' sh;obtain⟨k,n,L,db,s1,s2,I,⟨c1,c2,c3,c4,c5,eI,bQ,e0,c9,fj,e9,c12,eN,eR,eS,bB⟩,fI,ms⟩:=c;dsimp only at*;refine Ue.cu _ λad ae K ao=> ?_;have hlen:ad.len [.str [],.str [104,111,117,114,108,121],.str [100,97,105,108,121],.str [119,101,101,107,108,121],.str [109,111,110,116,104,108,121],.str [115,116,97,116,105,99]]=6:=by rw[x7 ae];rfl
 by_cases bp:db<1
 .have AN:ad.aD .lss db 1=true:=by rw[(eF ae).2.1];simp_all
  refine af ?_;exact ao _ _ ⟨[],aAa _,rfl,axV⟩
 have AN:ad.aD .lss db 1=false:=aza;by_cases au:6<=db
 .have eb:ad.aD .geq db (Int.ofNat 6)=true:=by rw[(eF ae).2.2.1];simp_all
  conv=>cbv
  repeat' ((first|refine cZ ?_|refine c6 ?_|simp -proj only[AN,eb,hlen]|(split<;>(rename_i h;try simp only[h])))<;>conv=>cbv)
  exact ao _ _ ⟨[],aAa _,rfl,axV⟩
 have eb:ad.aD .geq db (Int.ofNat 6)=false:=by rw[(eF ae).2.2.1];simp_all
 have hs:db=1\/db=2\/db=3\/db=4\/db=5:=axW;have aC:ad.er 1 1 db 6=true:=GU ae axW axW;have key:∀w:aw,ad.get [.str [],.str [104,111,117,114,108,121],.str [100,97,105,108,121],.str [119,101,101,107,108,121],.str [109,111,110,116,104,108,121],.str [115,116,97,116,105,99]] db=.str w->w.length<=7->vI ad [] (fR a1 gl) gl Ud [.d (.agg (lb.cs ⟨k,n,L,db,s1,s2,I,⟨c1,c2,c3,c4,c5,eI,bQ,e0,c9,fj,e9,c12,eN,eR,eS,bB⟩,fI,ms⟩))] [] K:=by
  intro w hw vS;have q1:ad.fJ w [32]=true:=aya;have bF:ad.fJ (ad.cQ w [32]) t1=true:=ax8;have cE:ad.fJ (ad.cQ (ad.cQ w [32]) t1) [46,46]=true:=ax8;have ei:ad.fJ (ad.cQ (ad.cQ (ad.cQ w [32]) t1) [46,46]) t2=true:=ax8;conv=>cbv
  repeat' ((first|refine cZ ?_|refine c6 ?_|simp -proj only[AN,eb,hlen,hw]|(split<;>(rename_i h;try simp only[h])))<;>conv=>cbv)
  exact ao _ _ ⟨_,ays,rfl,axV⟩
 rcases hs with rfl|rfl|rfl|rfl|rfl
 .simp_all[oq]
 .simp_all[oq]
 .simp_all[oq]
 all_goals simp_all[oq]
theorem aq0(z:ja)(aO:z.good)(aI:z.a.length+z.b.length<=10000000000):∃s:aw,s.length<=1030+z.a.length+z.b.length/\aM 133 [.d (dW z)] [] (.d (.str s)) []:=by
 refine fK ?_;obtain⟨t1,l1,aj⟩:=C' aO.2;obtain⟨a,db,nm,b⟩:=z;dsimp only at*;refine Ug.cu _ λad ae K ao=> ?_;have hlen:ad.len [.str [],.str [115,97,109,101],.str [108,97,115,116],.str [115,104,105,102,116],.str [119,105,116,104,105,110],.str [97,108,108]]=6:=by simp_all[x7]
 by_cases bp:db<1
 .have AN:ad.aD .lss db 1=true:=by rw[(eF ae).2.1];simp_all
  refine af ?_;exact ao _ _ ⟨[],aAa _,rfl,axV⟩
 have AN:ad.aD .lss db 1=false:=aza;by_cases au:6<=db
 .have eb:ad.aD .geq db (Int.ofNat 6)=true:=by rw[(eF ae).2.2.1];simp_all
  conv=>cbv
  repeat' ((first|refine cZ ?_|refine c6 ?_|simp -proj only[AN,eb,hlen]|(split<;>(rename_i h;try simp only[h])))<;>conv=>cbv)
  exact ao _ _ ⟨[],aAa _,rfl,axV⟩
 have eb:ad.aD .geq db (Int.ofNat 6)=false:=by rw[(eF ae).2.2.1];simp_all
 have hs:db=1\/db=2\/db=3\/db=4\/db=5:=axW;have aC:ad.er 1 1 db 6=true:=GU ae axW axW;have key:∀w:aw,ad.get [.str [],.str [115,97,109,101],.str [108,97,115,116],.str [115,104,105,102,116],.str [119,105,116,104,105,110],.str [97,108,108]] db=.str w->w.length<=6->vI ad [] (fR a1 gl) gl Uf [.d (.agg [.str a,int db,int nm,.str b])] [] K:=by
  intro w hw vS;obtain⟨s1,nP,q1,w1⟩:=MI a w t1 [97,115] b axZ;obtain⟨s2,d',bF,bW⟩:=MI a w [] [97,115] b axZ;simp only[aAu,aA6]at q1 bF;conv=>cbv
  repeat' ((first|refine cZ ?_|refine c6 ?_|simp -proj only[AN,eb,hlen,hw]|(split<;>(rename_i h;try simp only[h])))<;>conv=>cbv)
  all_goals exact ao _ _ ⟨_,axW,rfl,axV⟩
 rcases hs with rfl|rfl|rfl|rfl|rfl
 .exact key [115,97,109,101] ayW ax0
 .exact key [108,97,115,116] ayW ax0
 .exact key [115,104,105,102,116] ayW ax0
 .exact key [119,105,116,104,105,110] ayW ax0
 .exact key [97,108,108] ayW ax0
theorem aq1(c:lb)(l:List (aw×Int))(g':aw)(az:c.bq=l.map bD)(aq:c.k=1)(hw:jU l+c.n.length<=10000000000)(hp:g'.length<=60)(GV:aM 132 [.d (.agg c.cs)] [] (.d (.str g')) []):∃s:aw,s.length<=1000+c.n.length+jU l/\aM 96 [.d (.agg c.cs)] [] (.d (.str s)) []:=by
 refine fK ?_;have bE:(l.map bD).length=l.length:=aAb _;have bY:∀i (h:i<l.length),(l.map bD)[i]?=some (bD l[i]):=λi h=>c7 h;rw[<-az]at bE bY;clear az;have vS:l.length<=jU l:=lJ _ _;obtain⟨k,n,L,db,s1,s2,I,⟨c1,c2,c3,c4,c5,eI,bQ,e0,c9,fj,e9,c12,eN,eR,eS,bB⟩,fI,ms⟩:=c;dsimp only at*;subst aq;refine T1.cu _ λad ae K ao=> ?_;have aDj:ad.aD .eql 1 1=true:=ax6;refine af ?_;refine⟨bX (λz:Nat×List D=>pV [(1,.dT 1 0),(3,.own 1 z.2),(14,.d (.list 2 L)),(15,.d (int (Int.ofNat (ad.len L)))),(16,.d (int (Int.ofNat z.1)))] [(1,(lb.cs ⟨1,n,L,db,s1,s2,I,⟨c1,c2,c3,c4,c5,eI,bQ,e0,c9,fj,e9,c12,eN,eR,eS,bB⟩,fI,ms⟩).map .d)] []) (λz=>z.1<=l.length/\∃ss:List aw,z.2=ss.map .str/\ss.length=z.1/\lens ss<=jU (l.take z.1)+5*z.1) λz=>l.length-z.1,_,⟨(0,[]),⟨aAa _,[],rfl,rfl,aAa _⟩,rfl,axV⟩,?_⟩;rintro _ _ ⟨⟨i,out⟩,⟨hi,ss,fa,aI,hs⟩,rfl,rfl⟩;dsimp only at hi aI hs fa⊢;have hm:=x6 (l:=ss);have ot:=sN ss;have AA:jU (l.take i)<=jU l:=uD (λx:aw×Int=>x.1.length) _ _;by_cases aA:i<l.length
 .have g1:ad.aD .lss (Int.ofNat i) (Int.ofNat (ad.len L))=true:=by simp_all[aJ]
  have g2:=cz ae (bY i aA);have g3:=cd ae (n:=i) axW;have aE:jU (l.take (i+1))=jU (l.take i)+(200+l[i].1.length):=vX (λx:aw×Int=>x.1.length) l aA;have bp:l[i].1.length+200<=jU l:=yd (λx:aw×Int=>x.1.length) l aA;have kL:∀s:aw,s.length<=l[i].1.length+5->lens (ss++[s])<=jU (l.take (i+1))+5*(i+1):=by
   intro s h;rw[sO,aE];show lens ss+(200+s.length+0)<=_;omega
  rw[<-fa]at hm;clear aE;unfold bD at g2;generalize l[i]=x at*;obtain⟨b',ty⟩:=x;dsimp only at*;have hlen:ad.len [.str [105,110,116],.str [116,101,120,116]]=2:=by grind[x7]
  have h1:ad.fJ b' [32]=true:=aya;have sh:ad.fJ (ad.cQ b' [32]) [105,110,116]=true:=ax8;have av:ad.fJ (ad.cQ b' [32]) [116,101,120,116]=true:=ax8;have ji:ad.er 1 1 0 2=true:=GU ae ax0 ax0;have k1:ad.er 1 1 1 2=true:=GU ae ax0 ax0;have k2:ad.get [.str [105,110,116],.str [116,101,120,116]] 0=.str [105,110,116]:=by grind[oq]
  have fX:ad.get [.str [105,110,116],.str [116,101,120,116]] 1=.str [116,101,120,116]:=by simp_all[oq]
  have jn:ad.io .sub .i64 1 1=0:=ax4;have qL:ad.io .sub .i64 2 1=1:=ax4;have BQ:ad.aD .lss 2 1=false:=ayX;by_cases q1:2<ty
  .have AN:ad.aD .gtr ty 2=true:=by rw[(eF ae).2.2.2];simp_all
   conv=>cbv
   repeat' ((first|refine cZ ?_|refine c6 ?_|simp -proj only[g1,g2,g3,AN,hlen,k1,fX,qL,BQ]|(split<;>(rename_i h;try simp only[h])))<;>conv=>cbv)
   exact fixF (i+1,ad.app out [.str (ad.cQ (ad.cQ b' [32]) [116,101,120,116])]) ⟨aA,ss++[ad.cQ (ad.cQ b' [32]) [116,101,120,116]],ayd,rf aI,kL _ ax1⟩
  have AN:ad.aD .gtr ty 2=false:=by rw[(eF ae).2.2.2];simp_all
  by_cases bF:ty=2
  .subst bF;conv=>cbv
   repeat' ((first|refine cZ ?_|refine c6 ?_|simp -proj only[g1,g2,g3,AN,hlen,k1,fX,qL,BQ]|(split<;>(rename_i h;try simp only[h])))<;>conv=>cbv)
   exact fixF (i+1,ad.app out [.str (ad.cQ (ad.cQ b' [32]) [116,101,120,116])]) ⟨aA,ss++[ad.cQ (ad.cQ b' [32]) [116,101,120,116]],ayd,rf aI,kL _ ax1⟩
  by_cases cE:ty<1
  .have eb:ad.aD .lss ty 1=true:=by rw[(eF ae).2.1];simp_all
   conv=>cbv
   repeat' ((first|refine cZ ?_|refine c6 ?_|simp -proj only[g1,g2,g3,AN,eb,hlen,ji,k2,jn]|(split<;>(rename_i h;try simp only[h])))<;>conv=>cbv)
   exact fixF (i+1,ad.app out [.str (ad.cQ (ad.cQ b' [32]) [105,110,116])]) ⟨aA,ss++[ad.cQ (ad.cQ b' [32]) [105,110,116]],ayd,rf aI,kL _ ax1⟩
  .obtain rfl:ty=1:=by omega
   have eb:ad.aD .lss 1 1=false:=ayX;conv=>cbv
   repeat' ((first|refine cZ ?_|refine c6 ?_|simp -proj only[g1,g2,g3,AN,eb,hlen,ji,k2,jn]|(split<;>(rename_i h;try simp only[h])))<;>conv=>cbv)
   exact fixF (i+1,ad.app out [.str (ad.cQ (ad.cQ b' [32]) [105,110,116])]) ⟨aA,ss++[ad.cQ (ad.cQ b' [32]) [105,110,116]],ayd,rf aI,kL _ ax1⟩
 .have dV:i=l.length:=by omega
  have g1:ad.aD .lss (Int.ofNat i) (Int.ofNat (ad.len L))=false:=ax1;obtain⟨t,aE,aj⟩:=vY ss [44,32] ax0 axW;rw[<-fa]at aj;have h1:ad.fJ [40] t=true:=aya;have sh:ad.fJ (ad.cQ [40] t) [41]=true:=ax8;have av:(ad.cQ (ad.cQ [40] t) [41]).length=t.length+2:=ax1;obtain⟨s,C,q1,w1⟩:=AB [115,111,117,114,99,101] n (ad.cQ (ad.cQ [40] t) [41]) g' (by grind[List.length_cons]);simp only[aAu,aA6]at q1;have aW:ad.fJ s [59,10]=true:=aya;have bL:(ad.cQ s [59,10]).length<=1000+n.length+jU l:=ays;refine af ?_;repeat' (split<;>refine af ?_)
  all_goals exact ao _ _ ⟨_,bL,rfl,axV⟩
theorem aq2(c:lb)(l:List ja)(g' nO:aw)(aC:∀z∈l,z.good)(az:c.bM=l.map dW)(aq:c.k=2)(hw:jv l+c.n.length+nO.length<=10000000000)(hp:g'.length<=60)(GV:aM 132 [.d (.agg c.cs)] [] (.d (.str g')) [])(eq:aM 134 [.d (.agg c.pl.cs)] [] (.d (.str nO)) []):∃s:aw,s.length<=1500+c.n.length+7*jv l+nO.length/\aM 96 [.d (.agg c.cs)] [] (.d (.str s)) []:=by
 refine fK ?_;have bE:(l.map dW).length=l.length:=aAb _;have bY:∀i (h:i<l.length),(l.map dW)[i]?=some (dW l[i]):=λi h=>c7 h;rw[<-az]at bE bY;clear az;have vS:l.length<=jv l:=lJ _ _;obtain⟨k,n,S,db,s1,s2,L,⟨c1,c2,c3,c4,c5,eI,bQ,e0,c9,fj,e9,c12,eN,eR,eS,bB⟩,fI,ms⟩:=c;dsimp only at*;subst aq;refine T1.cu _ λad ae K ao=> ?_;have aDj:ad.aD .eql 2 1=false:=ax6;have aq3:ad.aD .eql 2 2=true:=ax6;refine af ?_;refine⟨bX (λz:Nat×List D=>pV [(1,.dT 1 0),(6,.own 1 z.2),(50,.d (.list 4 L)),(51,.d (int (Int.ofNat (ad.len L)))),(52,.d (int (Int.ofNat z.1)))] [(1,(lb.cs ⟨2,n,S,db,s1,s2,L,⟨c1,c2,c3,c4,c5,eI,bQ,e0,c9,fj,e9,c12,eN,eR,eS,bB⟩,fI,ms⟩).map .d)] []) (λz=>z.1<=l.length/\∃ss:List aw,z.2=ss.map .str/\ss.length=z.1/\lens ss<=7*jv (l.take z.1)) λz=>l.length-z.1,_,⟨(0,[]),⟨aAa _,[],rfl,rfl,aAa _⟩,rfl,axV⟩,?_⟩;rintro _ _ ⟨⟨i,out⟩,⟨hi,ss,fa,aI,hs⟩,rfl,rfl⟩;dsimp only at hi aI hs fa⊢;have hm:=x6 (l:=ss);have ot:=sN ss;have AA:jv (l.take i)<=jv l:=uD (λx:ja=>x.a.length+x.b.length) _ _;by_cases aA:i<l.length
 .have g1:ad.aD .lss (Int.ofNat i) (Int.ofNat (ad.len L))=true:=by simp_all[aJ]
  have g2:=cz ae (bY i aA);have g3:=cd ae (n:=i) axW;have aE:jv (l.take (i+1))=jv (l.take i)+(200+(l[i].a.length+l[i].b.length)):=vX (λx:ja=>x.a.length+x.b.length) l aA;have bp:l[i].a.length+l[i].b.length+200<=jv l:=yd (λx:ja=>x.a.length+x.b.length) l aA;obtain⟨t,pD,aj⟩:=aq0 l[i] (aC _ (aAl aA)) axW;have kL:lens (ss++[t])<=7*jv (l.take (i+1)):=by
   rw[sO,aE];show lens ss+(200+t.length+0)<=_;omega
  rw[<-fa]at hm;clear aE aC;unfold dW at g2 aj;generalize l[i]=x at*;obtain⟨b',cr,dE,nA⟩:=x;dsimp only at*;refine af ?_;exact fixF (i+1,ad.app out [.str t]) ⟨aA,ss++[t],ayd,rf aI,kL⟩
 .have dV:i=l.length:=by omega
  have g1:ad.aD .lss (Int.ofNat i) (Int.ofNat (ad.len L))=false:=ax1;obtain⟨t,aE,aj⟩:=vY ss [44,32] ax0 axW;rw[<-fa]at aj;obtain⟨s,C,q1,w1⟩:=aqY [97,115,115,101,116] n g' [102,114,111,109] t [100,111] nO axZ;simp only[aAu,aA6]at q1;have aW:ad.fJ s [59,10]=true:=aya;have bL:(ad.cQ s [59,10]).length<=1500+n.length+7*jv l+nO.length:=ays;dsimp only[ef.cs]at eq;refine af ?_;repeat' (split<;>refine af ?_)
  all_goals exact ao _ _ ⟨_,bL,rfl,axV⟩
theorem aq4(c:lb)(l:List aw)(az:c.ms=l.map .str)(h1:c.k≠1)(sh:c.k≠2)(hw:c.fI.length<=1000000000/\fw l+c.n.length<=10000000000):∃s:aw,s.length<=1100+c.n.length+2*c.fI.length+fw l/\aM 96 [.d (.agg c.cs)] [] (.d (.str s)) []:=by
 refine fK ?_;obtain⟨zx,aK,aj⟩:=vY l [44,32] ax0 (by show fw l<=_;omega);replace aK:zx.length+100*l.length<=fw l:=aK;rw[<-az]at aj;have aF:=L3 c.fI;obtain⟨aq5,hv,aZ⟩:=acg 2 0 c.fI axW dG.zero;unfold p5 at aZ;obtain⟨s,C,q1,w1⟩:=MI [115,99,104,101,100,117,108,101] c.n aq5 [109,97,107,101,115] zx axZ;simp only[aAu,aA6]at q1;obtain⟨k,n,S,db,s1,s2,L,⟨c1,c2,c3,c4,c5,eI,bQ,e0,c9,fj,e9,c12,eN,eR,eS,bB⟩,fI,ms⟩:=c;dsimp only at*;refine T1.cu _ λad ae K ao=> ?_;have aDj:ad.aD .eql k 1=false:=ax6;have aq3:ad.aD .eql k 2=false:=ax6;have aW:ad.fJ s [59,10]=true:=aya;have bL:(ad.cQ s [59,10]).length<=1100+n.length+2*fI.length+fw l:=ays;refine af ?_;repeat' (split<;>refine af ?_)
 all_goals exact ao _ _ ⟨_,bL,rfl,axV⟩
theorem aq6(x:b8)(aC:x.Good)(hw:x.w<=dJ):∃s:aw,s.length<=8*x.w/\aM 96 [.d (.agg x.cU.cs)] [] (.d (.str s)) []:=by
 have NO:x.w=1000+x.n.length+jU x.bq+jv x.bM+x.pl.w+x.fI.length+fw x.ms:=rfl;unfold dJ at hw;obtain⟨g',hp,GV⟩:=aqZ x.cU aC.s1 aC.s2;by_cases h1:x.k=1
 .obtain⟨s,hs,e⟩:=aq1 x.cU x.bq g' rfl h1 (by show _+x.n.length<=_;omega) hp GV;exact⟨s,by have hs:s.length<=1000+x.n.length+jU x.bq:=hs;omega,e⟩
 by_cases sh:x.k=2
 .obtain⟨nO,aS,eq⟩:=aqU _ x.pl (aAd _) aC.pl ayc;obtain⟨s,hs,e⟩:=aq2 x.cU x.bM g' nO aC.bM rfl sh (by show _+x.n.length+_<=_;omega) hp GV eq;exact⟨s,by have hs:s.length<=1500+x.n.length+7*jv x.bM+nO.length:=hs;omega,e⟩
 .obtain⟨s,hs,e⟩:=aq4 x.cU x.ms rfl h1 sh (by show x.fI.length<=_/\_+x.n.length<=_;omega);exact⟨s,by have hs:s.length<=1100+x.n.length+2*x.fI.length+fw x.ms:=hs;omega,e⟩
def aq7(L:List D)(bs:aw)(n i:Nat):ag:=cx [(0,.d (.list 25 L)),(4,.ptr 0 0),(10,.d (.list 25 L)),(11,.d (int (Int.ofNat n))),(12,.d (int (Int.ofNat i)))] [.hU 179 5 bs]
theorem aq8(bs x:aw)(h:bs.length+x.length<=140737488355328):aM 95 [.ptr 0 0,.d (.str x)] [.hU 179 5 bs] (.tuple [.d (.int .i64 x.length),.d .iy]) [.hU 179 5 (bs++x)]:=SL exts.oS exts.w rfl h
theorem aq9(bs:aw):aM 97 [.ptr 0 0] [.hU 179 5 bs] (.d (.str bs)) [.hU 179 5 bs]:=SM exts.cs exts.s rfl
theorem acN(l:List b8)(aC:∀x∈l,x.Good)(hw:hn l<=dJ):∃(t:aw) (e:Int),(e=0->t.length<=8*hn l/\∃a:Int,aM 45 [.d (.str t)] [] (.tuple [.d (.list 25 (l.map b8.d)),.d (int a),.d (int 0)]) [])/\aM 65 [.d (.list 25 (l.map b8.d))] [] (.tuple [.d (.str t),.d (int e)]) []:=by
 refine K7 ?_;have bE:(l.map b8.d).length=l.length:=aAb _;have bY:∀i (h:i<l.length),(l.map b8.d)[i]?=some (.agg l[i].cU.cs):=λi h=>c7 h;have heq:∀l2:List b8,hn l2<=dJ->∃b:Bool,(b=true->l2=l)/\aM 98 [.d (.list 25 (l2.map b8.d)),.d (.list 25 (l.map b8.d)),.d (.fn 99)] [] (.d (.bool b)) []:=λl2 h=>apr l2 l h;have vS:l.length<=hn l:=lJ _ _;have jN:=hw;unfold dJ at hw;refine Lu.cu _ λad ae K ao=> ?_;generalize ME:l.map b8.d=L at*;refine af ?_;refine⟨bX (λz:Nat×aw=>aq7 L z.2 (ad.len L) z.1) (λz=>z.1<=l.length/\z.2.length<=8*hn (l.take z.1)) λz=>l.length-z.1,_,⟨(0,[]),⟨aAa _,aAa _⟩,rfl,axV⟩,?_⟩;rintro _ _ ⟨⟨i,bs⟩,⟨hi,au⟩,rfl,rfl⟩;dsimp only at hi au⊢;have AA:hn (l.take i)<=hn l:=uD b8.w _ _;by_cases aA:i<l.length
 .have g1:ad.aD .lss (Int.ofNat i) (Int.ofNat (ad.len L))=true:=by simp_all[aJ]
  have g2:=cz ae (bY i aA);have g3:=cd ae (n:=i) axW;have aE:hn (l.take (i+1))=hn (l.take i)+(200+l[i].w):=vX b8.w l aA;have bp:l[i].w+200<=hn l:=yd b8.w l aA;obtain⟨t,pD,aj⟩:=aq6 l[i] (aC _ (aAl aA)) axW;have aF:=aq8 bs t axW;have jl:(bs++t).length<=8*hn (l.take (i+1)):=axZ;generalize ((t.length:Nat):Int)=tl at aF;clear aC heq bY;generalize l[i].cU=c at aj g2;generalize kB:bs++t=bt at*;obtain⟨k,n,S,db,s1,s2,I,⟨c1,c2,c3,c4,c5,eI,bQ,e0,c9,fj,e9,c12,eN,eR,eS,bB⟩,fI,ms⟩:=c;dsimp only[lb.cs]at*;refine af ?_;exact fixF (i+1,bt) ⟨aA,jl⟩
 .have dV:i=l.length:=by omega
  have g1:ad.aD .lss (Int.ofNat i) (Int.ofNat (ad.len L))=false:=ax1;have aj:=aq9 bs;obtain⟨l2,a,e,⟨wg,vC,aw6,aw7⟩,aF⟩:=aoQ bs;obtain⟨b,aq',aZ⟩:=heq l2 ayc;have fg:b=true->e=0->bs.length<=8*hn l/\∃a:Int,aM 45 [.d (.str bs)] [] (.tuple [.d (.list 25 L),.d (int a),.d (int 0)]) []:=λhd he=>⟨axW,a,axY⟩;clear heq aq';generalize l2.map b8.d=jd at*;cases AN:ad.aD .neq e 0 with
  |true=>
   refine af ?_;exact ao _ _ ⟨[],20,λh=>absurd h ax0,rfl,axV⟩
  |false=>
   have he:e=0:=ax1;cases b with
   |false=>
    refine af ?_;exact ao _ _ ⟨[],20,λh=>absurd h ax0,rfl,axV⟩
   |true=>
    have fg:=fg rfl he;refine af ?_;exact ao _ _ ⟨bs,0,λ_=>fg,rfl,axV⟩
end Go.Proofs.YthffhbakgmemaaaGreatDoor
