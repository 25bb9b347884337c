/- Part of ranges_said. -/
import Derived.Test.YthffhbakgmemaaaGreatDoorB13
set_option maxRecDepth 100000
set_option maxHeartbeats 8000000
set_option linter.unusedSimpArgs false
set_option linter.unusedVariables false
namespace Go.Proofs.YthffhbakgmemaaaGreatDoor
open Go Go.aH
attribute [local irreducible] bG
structure lj(n B:Nat)(M:List ah):Prop where
 len:M.length=n
 get:∀i,i<n->∃l:List Int,(km n l/\l.length<=B)/\M.getD i .undef=.own 1 (l.map int)
theorem lj.mono{n B My:Nat}{M:List ah}(h:lj n B M)(au:B<=My):lj n My M:=⟨h.len,λi hi=>by
 obtain⟨l,⟨h1,sh⟩,av⟩:=h.get i hi;exact⟨l,⟨h1,axW⟩,av⟩⟩
theorem lj.flat{n B:Nat}{M:List ah}(h:lj n B M):Flat M:=λv hv=>by
 obtain⟨i,hi,rfl⟩:=aBs hv;obtain⟨l,_,aC⟩:=h.get i (by rw[<-h.len];exact hi);rw[aAL,aAj hi]at aC;exact .inr ⟨_,_,aC⟩
theorem lj.nd{n B:Nat}{M:List ah}(h:lj n B M)(au:B<=1073741824):ov n M:=⟨h.len,h.flat,λi hi=>by
 obtain⟨l,⟨h1,sh⟩,av⟩:=h.get i hi;exact⟨l,⟨h1,axW⟩,by rw[av];rfl⟩⟩
theorem lj.set{n B:Nat}{M:List ah}(h:lj n B M){d:Nat}(aY:d<n){l:List Int}(aI:km n l/\l.length<=B){x:Int}(ak:gj n x=true):lj n (B+1) (M.set d (.own 1 ((l++[x]).map int))):=⟨by rw[aBm];exact h.len,λi hi=>by
 by_cases e:d=i
 .subst e;refine⟨l++[x],⟨λz aO=> ?_,by rw[aAA];show l.length+1<=_;omega⟩,by rw[aAL,aAW (by rw[h.len];exact aY)];rfl⟩;rcases aAT.1 aO with aO|aO
  .exact aI.1 z aO
  .rw[aAF.1 aO];exact ak
 .obtain⟨l2,⟨h1,sh⟩,av⟩:=h.get i hi;exact⟨l2,⟨h1,axW⟩,az4⟩⟩
theorem ov.set{n:Nat}{N:List ah}(h:ov n N){i:Nat}{l:List Int}(aI:km n l/\l.length<=1073741824):ov n (N.set i (.d (.list 1 (l.map int)))):=⟨by rw[aBm];exact h.len,λv hv=>by
 rcases aB3 hv with hv|rfl
 .exact h.flat v hv
 .exact .inl ⟨_,rfl⟩,λj aK=>by
 by_cases e:i=j
 .subst e;exact⟨l,aI,by rw[aAL,aAW (by rw[h.len];exact aK)];rfl⟩
 .obtain⟨l2,h1,av⟩:=h.get j aK;exact⟨l2,h1,az4⟩⟩
def AV(ls:List (List Int))(i:Nat)(N:List ah):Prop:=∀j l,j<i->ls[j]?=some l->∃z:List Int,N.getD j .undef=.d (.list 1 (z.map int))/\∀x,x∈z↔x∈l
theorem AV.set{ls:List (List Int)}{i:Nat}{N:List ah}(h:AV ls i N){l z:List Int}(aI:ls[i]?=some l)(hi:i<N.length)(aO:∀x,x∈z↔x∈l):AV ls (i+1) (N.set i (.d (.list 1 (z.map int)))):=λj k aK aq=>by
 by_cases e:i=j
 .subst e;rw[aI]at aq;cases aq;exact⟨z,by simp[hi],aO⟩
 .obtain⟨y,h1,sh⟩:=h j k axW aq;exact⟨y,by rw[aAL,aAQ e,<-aAL];exact h1,sh⟩
theorem atp(n:Nat):(List.replicate n [ah.own 1 []]).flatten=List.replicate n (.own 1 []):=axX
theorem adM(n B:Nat):lj n B (List.replicate n (.own 1 [])):=⟨aDc,λi hi=>⟨[],⟨λ_ h=>(aAO h).elim,aAa _⟩,by rw[aAL,List.getElem?_replicate_of_lt hi];rfl⟩⟩
theorem adN{n i:Nat}(h:i<n):gj n (Int.ofNat i)=true:=az1
def atq(N M D:List ah)(n:Nat)(mu:List Go.aH.D)(k i:Nat):ag:=cx [(6,.ptr 4 0),(31,.d (.list 1 mu)),(32,.d (int (Int.ofNat k))),(33,.d (int (Int.ofNat i)))] [.box N,.box M,.box D,.box [.aN 0 0 n n 1,.aN 1 0 n n 1,.aN 2 0 n n 1],.box [.ptr 3 0]]
def atr(N M D:List ah)(n:Nat)(mu:List Go.aH.D)(k i:Nat)(Z:List Go.aH.D)(q j:Nat):ag:=cx [(6,.ptr 4 0),(7,.d (int (Int.ofNat i))),(31,.d (.list 1 mu)),(32,.d (int (Int.ofNat k))),(33,.d (int (Int.ofNat i))),(57,.d (.list 1 Z)),(58,.d (int (Int.ofNat q))),(59,.d (int (Int.ofNat j)))] [.box N,.box M,.box D,.box [.aN 0 0 n n 1,.aN 1 0 n n 1,.aN 2 0 n n 1],.box [.ptr 3 0],.box [.d (.list 1 [])]]
def ats(N M D:List ah)(n:Nat)(mu L:List Go.aH.D)(k i:Nat)(Z:List Go.aH.D)(q j:Nat):ag:=cx [(6,.ptr 4 0),(7,.d (int (Int.ofNat i))),(31,.d (.list 1 mu)),(32,.d (int (Int.ofNat k))),(33,.d (int (Int.ofNat i))),(57,.d (.list 1 Z)),(58,.d (int (Int.ofNat q))),(59,.d (int (Int.ofNat j)))] [.box N,.box M,.box D,.box [.aN 0 0 n n 1,.aN 1 0 n n 1,.aN 2 0 n n 1],.box [.ptr 3 0],.box [.d (.list 1 L)],.dead]
set_option maxHeartbeats 40000000 in
theorem att(n:Nat)(ls:List (List Int))(ay:n<=32)(aI:ls.length<=33554432)(ru:∀l∈ls,l.length<=33554432):∃r s,((∃e:Int,e≠0/\r=.tuple [.d .dP,.d (int e)]/\s=[])\/(∃(N M:List ah) (ds:List Int),(n<=1024/\ds.length=n/\ov n N/\ov n M/\AV ls ls.length N)/\r=.tuple [.ptr 3 0,.d (int 0)]/\s=[.box N,.box M,.box (bV ds),.box [.aN 0 0 n n 1,.aN 1 0 n n 1,.aN 2 0 n n 1],.box [.ptr 3 0]]))/\aM 103 [.d (int (Int.ofNat n)),.d (.list 1 (ls.map λl=>Go.aH.D.list 1 (l.map int)))] [] r s:=by
 have bE:(ls.map λl=>Go.aH.D.list 1 (l.map int)).length=ls.length:=aAb _;have bY:∀i (h:i<ls.length),(ls.map λl=>Go.aH.D.list 1 (l.map int))[i]?=some (.list 1 (ls[i].map int)):=λi h=>c7 h;generalize (ls.map λl=>Go.aH.D.list 1 (l.map int))=mu at*;refine aEt.jt [0,1,2,6] _ λad ae K ao=> ?_;obtain⟨k,aq⟩:∃k,k=ls.length:=⟨_,rfl⟩;have t0:ad.len mu=k:=azg;have q1:ad.aD .lss (Int.ofNat n) 0=false:=by rw[(eF ae).2.1];exact aAK λh=>by simp only[aAh]at h;omega
 have bF:ad.aD .gtr (Int.ofNat n) 1024=decide (1024<n):=by
  rw[(eF ae).2.2.2];by_cases e:1024<n
  .rw[aAk e];exact aAk (aBF.2 e)
  .rw[aAK e];exact aAK λx=>e (aBF.1 x)
 by_cases kA:1024<n
 .rw[aAk kA]at bF;refine af ?_;exact ao _ _ (.inl ⟨_,ax0,rfl,axV⟩)
 rw[aAK kA]at bF;by_cases t':n<k
 .have cE:=Du ae t';refine af ?_;exact ao _ _ (.inl ⟨_,ax0,rfl,axV⟩)
 have cE:=Dv ae t';have de:ad.vG (Int.ofNat n) 137438953472=true:=by
  subst ae;show(decide ((0:Int)<=Int.ofNat n)&&decide (Int.ofNat n<=137438953472))=true;simp only[aAh,aAc,aAi];omega
 have qd:ad.vG (Int.ofNat n) 45812984490=true:=by
  subst ae;show(decide ((0:Int)<=Int.ofNat n)&&decide (Int.ofNat n<=45812984490))=true;simp only[aAh,aAc,aAi];omega
 have dp:ad.xK n [.d (int 0)]=some (bV (List.replicate n 0)):=by
  subst ae;show some (List.replicate n [ah.d (int 0)]).flatten=_;congr 1;unfold bV;rw[List.map_replicate];simp
 have dF:ad.xK n [.own 1 []]=some (List.replicate n (.own 1 [])):=by
  subst ae;exact congrArg some (atp n)
 have Hn:=adM n (0*33554432);have Nn:ov n (List.replicate n (.own 1 [])):=(adM n 0).nd axW;obtain⟨ds,wx,tF⟩:∃ds,ds=List.replicate n (0:Int)/\ds.length=n:=⟨_,rfl,aDc⟩;rw[<-wx]at dp;clear wx;have cv:=et ds;generalize List.replicate n (ah.own 1 [])=adO at*;obtain⟨bw,a2,a3⟩:=br.of ae Nn.flat;obtain⟨c1,c2,c3⟩:=br.of ae cv;obtain⟨fO,z2,z3⟩:=MW ae;generalize atu:bV ds=D at*;conv=>cbv
 repeat' ((first|refine cZ ?_|refine c6 ?_|refine z6 ax9 ?_|refine z7 ax9 ?_|simp -proj only[t0,q1,bF,cE,qd,de,dp,dF,bw,a2,a3,c1,c2,c3]|(split<;>(rename_i h;try simp only[h])))<;>conv=>cbv)
 refine⟨bX (λz:Nat×List ah×List ah=>atq z.2.1 z.2.2 D n mu k z.1) (λz=>z.1<=ls.length/\ov n z.2.1/\lj n (z.1*33554432) z.2.2/\AV ls z.1 z.2.1) (λz=>ls.length-z.1),_,⟨(0,adO,adO),⟨aAa _,Nn,Hn,λ_ _ h=>absurd h (aBh _)⟩,rfl,axV⟩,?_⟩;clear qd de dp dF q1 bF cE bw a2 a3 Nn Hn;rintro _ _ ⟨⟨i,N,M⟩,⟨hi,b3,b7,Hq⟩,rfl,rfl⟩;dsimp only at hi b3 b7 Hq⊢;obtain⟨bw,a2,a3⟩:=br.of ae b3.flat;obtain⟨bJ,a6,cq⟩:=br.of ae b7.flat;by_cases aA:i<k
 .have t1:=eT ae aA;replace aA:i<ls.length:=by omega
  have t3:=cz ae (bY i aA);have t6:=cd ae (n:=i) axW;have oK:=ru _ (aAl aA);have Fg:ls[i]?=some ls[i]:=aAj aA;generalize ls[i]=l at*;obtain⟨b,au,aj⟩:=arv (N:=N) (M:=M) (D:=D) n l axW b3.flat b7.flat cv;have aF:=ar6 (l.map int);unfold cR at aj;cases b with
  |true=>
   generalize l.map int=L at*;refine af ?_;exact ao _ _ (.inl ⟨_,ax0,rfl,axV⟩)
  |false=>
   have jE:=au rfl;cases l with
   |nil=>
    obtain⟨res,En,tt,vp⟩:∃res:List Int,res.length<=33554432/\km n res/\res=[]:=⟨[],aAa _,(λ_ h=>(aAO h).elim),rfl⟩;have kC:∀x,x∈res↔x∈([]:List Int):=λ_=>by rw[vp]
    have aZ:=ar';have bP:=asc;replace aj:bG _ _ _ [.d (.list 1 []),_] _ _ _:=aj;replace aF:bG _ _ _ [.d (.list 1 [])] _ _ _:=aF;replace t3:_=Go.aH.D.list 1 []:=t3;have r1:Go.aH.D.list 1 []=.list 1 (res.map int):=by rw[vp];rfl
    have dw:i<n:=axW;have Np:=Hq.set Fg (by rw[b3.len];omega) kC;obtain⟨gE,gW,gd⟩:ad.er 1 1 (Int.ofNat i) n=true/\ad.l9 0 (Int.ofNat i) 1=i/\ad.mR true i 1 N true=true:=⟨fT ae dw,lg ae i,vZ ae (by rw[b3.len];exact dw)⟩;have hK:ad.lC N i [.d (.list 1 (res.map int))]=some (N.set i (.d (.list 1 (res.map int)))):=sR ae _ _ _;have mv:=b3.set (i:=i) (l:=res) ⟨tt,axW⟩;have gY:ad.hL i 1 (N.set i (.d (.list 1 (res.map int)))) true=true:=rh ae (by rw[mv.len];exact dw);have kJ:ad.jS (N.set i (.d (.list 1 (res.map int)))) i=.d (.list 1 (res.map int)):=v7 ae az5;obtain⟨b',cr,dE⟩:=br.of ae mv.flat;have rv:(res.map int).length=res.length:=aAb _;have ow:∀j (h:j<res.length),(res.map int)[j]?=some (int res[j]):=λj h=>c7 h;generalize N.set i (.d (.list 1 (res.map int)))=lO at*;generalize res.map int=Z at*;obtain⟨q,aS⟩:∃q,q=res.length:=⟨_,rfl⟩;have t4:ad.len Z=q:=by subst ae;exact rv.trans aS.symm
    have atv:Z=[]:=by injection r1 with _ h;exact h.symm
    subst atv;refine af ?_;clear bw a2 a3;obtain⟨bw,a2,a3⟩:=And.intro b' (And.intro cr dE);refine⟨bX (λz:Nat×List ah=>atr lO z.2 D n mu k i [] q z.1) (λz=>z.1<=res.length/\lj n (i*33554432+z.1) z.2) (λz=>res.length-z.1),_,⟨(0,M),⟨aAa _,az6⟩,rfl,axV⟩,?_⟩;clear b7 bJ a6 cq;rintro _ _ ⟨⟨j,M⟩,⟨aK,b7⟩,rfl,rfl⟩;dsimp only at aK b7⊢;obtain⟨bJ,a6,cq⟩:=br.of ae b7.flat;by_cases qh:j<q
    .exact absurd qh (by rw[aS,vp];exact aBh _)
    .have t1:=eY ae qh;have Nq:lj n ((i+1)*33554432) M:=b7.mono axW;refine af ?_;exact fixF (i+1,lO,M) ⟨aA,mv,Nq,Np⟩
   |cons x l=>
    have jb:(x::l).length=l.length+1:=rfl;obtain⟨zs,hp,aZ⟩:=asa (x::l) l.length jb axW;have xh:sV (l.length+1) n zs:=⟨hp.length_eq.trans jb,λz aO=>jE z (hp.mem_iff.1 aO)⟩;obtain⟨res,⟨En,tt,kC⟩,bP⟩:=asf (l.length+1) n zs xh axW axW;replace kC:=λz=>(kC z).trans hp.mem_iff;replace En:res.length<=33554432:=by omega
    have adP:=et zs;obtain⟨v1,v2,v3⟩:=br.of ae adP;clear adP hp xh;generalize bV zs=C at*;generalize (x::l).map int=L at*;generalize l.length+1=m at*;have dw:i<n:=axW;have Np:=Hq.set Fg (by rw[b3.len];omega) kC;obtain⟨gE,gW,gd⟩:ad.er 1 1 (Int.ofNat i) n=true/\ad.l9 0 (Int.ofNat i) 1=i/\ad.mR true i 1 N true=true:=⟨fT ae dw,lg ae i,vZ ae (by rw[b3.len];exact dw)⟩;have hK:ad.lC N i [.d (.list 1 (res.map int))]=some (N.set i (.d (.list 1 (res.map int)))):=sR ae _ _ _;have mv:=b3.set (i:=i) (l:=res) ⟨tt,axW⟩;have gY:ad.hL i 1 (N.set i (.d (.list 1 (res.map int)))) true=true:=rh ae (by rw[mv.len];exact dw);have kJ:ad.jS (N.set i (.d (.list 1 (res.map int)))) i=.d (.list 1 (res.map int)):=v7 ae az5;obtain⟨b',cr,dE⟩:=br.of ae mv.flat;have rv:(res.map int).length=res.length:=aAb _;have ow:∀j (h:j<res.length),(res.map int)[j]?=some (int res[j]):=λj h=>c7 h;generalize N.set i (.d (.list 1 (res.map int)))=lO at*;generalize res.map int=Z at*;obtain⟨q,aS⟩:∃q,q=res.length:=⟨_,rfl⟩;have t4:ad.len Z=q:=by subst ae;exact rv.trans aS.symm
    refine af ?_;clear bw a2 a3;obtain⟨bw,a2,a3⟩:=And.intro b' (And.intro cr dE);refine⟨bX (λz:Nat×List ah=>ats lO z.2 D n mu L k i Z q z.1) (λz=>z.1<=res.length/\lj n (i*33554432+z.1) z.2) (λz=>res.length-z.1),_,⟨(0,M),⟨aAa _,az6⟩,rfl,axV⟩,?_⟩;clear b7 bJ a6 cq;rintro _ _ ⟨⟨j,M⟩,⟨aK,b7⟩,rfl,rfl⟩;dsimp only at aK b7⊢;obtain⟨bJ,a6,cq⟩:=br.of ae b7.flat;by_cases qh:j<q
    .have t1:=eT ae qh;have t2:=cd ae (n:=j) axW;obtain⟨d,yr,G5⟩:=wh (tt _ (aAl (show j<res.length by omega)));have t3:ad.get Z (Int.ofNat j)=int (Int.ofNat d):=cz ae (by rw[ow j axW,G5]);obtain⟨l2,jm,fD⟩:=b7.get d yr;have axA:(l2.map int).length=l2.length:=aAb _;have adt:=b7.len;have adQ:=b7.set yr jm (adN dw);have gE:ad.er 1 1 (Int.ofNat d) n=true:=fT ae yr;have gW:=lg ae d;have gd:ad.zT d M=true:=by subst ae;show Nat.blt d M.length=true;rw[adt];exact aBD yr
     obtain⟨DF,Hr⟩:∃DF,DF=M.set d .undef:=⟨_,rfl⟩;have hK:ad.CG M d=some DF:=by subst ae;rw[Hr];rfl
     have gY:ad.CF M d=.own 1 (l2.map int):=by subst ae;exact fD
     have kJ:ad.mR true d 1 DF true=true:=vZ ae (by rw[Hr,aBm];omega);have xt:ad.app (l2.map int) [int (Int.ofNat i)]=(l2++[Int.ofNat i]).map int:=by subst ae;rw[aAy];rfl
     have jH:ad.lC DF d [.own 1 (ad.app (l2.map int) [int (Int.ofNat i)])]=some (M.set d (.own 1 ((l2++[Int.ofNat i]).map int))):=by rw[sR ae,Hr,xt,aCI]
     obtain⟨w1,bW,fb⟩:=br.of ae adQ.flat;have hlen:l2.length<=2000000000:=by have:=jm.2;have:i*33554432<=32*33554432:=aAV _ axW;omega
     clear xt Hr fD jm b7;generalize l2.map int=jd at*;generalize M.set d (.own 1 ((l2++[Int.ofNat i]).map int))=M2 at*;refine af ?_;exact fixF (j+1,M2) ⟨by show j+1<=res.length;omega,by show lj n (i*33554432+(j+1)) M2;rw[<-aB4];exact adQ⟩
    .have t1:=eY ae qh;have Nq:lj n ((i+1)*33554432) M:=b7.mono axW;refine af ?_;exact fixF (i+1,lO,M) ⟨aA,mv,Nq,Np⟩
 .have t1:=eY ae aA;have adR:=b7.nd (by have:i*33554432<=32*33554432:=aAV _ axW;omega);obtain⟨b,iN,nC,aj⟩:=asj n axW b3 adR ds tF;rw[atu]at aj;have rq:=et iN;obtain⟨w1,bW,fb⟩:=br.of ae rq;have He:∀s,s=[.box N,.box M,.box (bV iN),.box [.aN 0 0 n n 1,.aN 1 0 n n 1,.aN 2 0 n n 1],.box [.ptr 3 0]]->K (.tuple [.ptr 3 0,.d (int 0)]) s:=λs h=>ao _ _ (.inr ⟨N,M,iN,⟨axW,nC,b3,adR,λj l h=>Hq j l axW⟩,rfl,h⟩);unfold cR at aj;generalize bV iN=rm at*;cases b with
  |false=>
   refine af ?_;exact ao _ _ (.inl ⟨_,ax0,rfl,axV⟩)
  |true=>
   refine af ?_;exact He _ axV
def wy(s:aw):Go.aH.D->Bool
 |.str t=>decide (s=t)
 |_=>false
def lP(s:aw):List (Go.aH.D×ah)->Option ah
 |[]=>none
 |e::es=>if wy s e.1 then some e.2 else lP s es
def cC(s:aw)(v:ah):List (Go.aH.D×ah)->List (Go.aH.D×ah)
 |[]=>[(.str s,v)]
 |e::es=>if wy s e.1 then(.str s,v)::es else e::cC s v es
theorem Nr(s:aw)(v:ah)(t:aw):∀es,lP t (cC s v es)=if t=s then some v else lP t es
 |[]=>by simp[lP,cC,wy]
 |e::es=>by
  have ih:=Nr s v t es;have aq:wy s e.1=true->wy t e.1=true->t=s:=by cases e.1<;>grind[wy]
  have hs:wy t (.str s)=decide (t=s):=rfl;unfold cC;split
  .simp only[lP,hs];grind
  .simp only[lP,ih];grind
theorem Ns(s:aw)(v:ah):∀(es:List (Go.aH.D×ah)) (i:Nat),(∀e∈es,∃t,e.1=.str t)->
  (e3 false [2] (.str s) es i=some none/\lP s es=none/\es++[(.str s,v)]=cC s v es)\/∃j e,e3 false [2] (.str s) es i=some (some (i+j))/\es[j]?=some e/\lP s es=some e.2/\es.set j (.str s,v)=cC s v es
 |[],i,_=>.inl ⟨rfl,rfl,rfl⟩
 |e::es,i,h=>by
  obtain⟨t,aE⟩:=h e aAX;obtain⟨k,x⟩:=e;subst aE;have wb:e3 false [2] (.str s) ((.str t,x)::es) i=match some (decide (s=t)&&true)with|some true=>some (some i)|some false=>e3 false [2] (.str s) es (i+1)|none=>none:=rfl
  have aq:wy s (.str t)=decide (s=t):=rfl;by_cases aY:s=t
  .subst aY;rw[aAk rfl]at aq wb;exact .inr ⟨0,_,wb,rfl,by simp[lP,aq],by simp[cC,aq]⟩
  .simp only[aY,decide_false,aC']at wb aq;rw[wb];rcases Ns s v es (i+1) λe he=>h e (aBe _ he)with sh|⟨j,e,sh⟩
   .left;simp[lP,cC,aq,sh]
   .exact .inr ⟨j+1,e,by rw[sh.1];congr 2;omega,sh.2.1,by simp[lP,aq,sh],by simp[cC,aq,sh]⟩
theorem atw{ad:bm}(ae:ad=bm.bU)(s:aw){es:List (Go.aH.D×ah)}(h:∀e∈es,∃t,e.1=.str t):ad.xP false [2] (.str s) es=some (lP s es):=by
 subst ae;show sy false [2] (.str s) es=_;unfold sy;rcases Ns s .undef es 0 h with h1|⟨j,e,h1,sh,av,_⟩
 .simp[h1]
 .rw[h1];simp[sh,av]
theorem atx{ad:bm}(ae:ad=bm.bU)(s:aw)(v:ah){es:List (Go.aH.D×ah)}(h:∀e∈es,∃t,e.1=.str t):ad.xQ false [2] (.str s) v es=some (cC s v es):=by
 subst ae;show q6 false [2] (.str s) v es=_;unfold q6;rcases Ns s v es 0 h with h1|⟨j,e,h1,sh,av,aW⟩
 .rw[h1.1,<-h1.2.2];rfl
 .rw[h1,<-aW];simp[np]
def sZ(es:List (Go.aH.D×ah)):Prop:=∀e∈es,(∃t,e.1=.str t)/\∃x,e.2=.d x
theorem sZ.flat{es:List (Go.aH.D×ah)}(h:sZ es):o0 es:=λe he=>(h e he).2
theorem sZ.put{ad:bm}(ae:ad=bm.bU){es:List (Go.aH.D×ah)}(h:sZ es)(s:aw)(x:Go.aH.D):∃l',ad.xQ false [2] (.str s) (.d x) es=some l'/\sZ l':=by
 subst ae;show ∃l',q6 false [2] (.str s) (.d x) es=some l'/\_;unfold q6;rcases CN s es 0 (λe he=>(h e he).1)with h1|⟨j,h1,sh⟩
 .rw[h1];refine⟨_,rfl,λe he=> ?_⟩;rcases aAT.1 he with he|he
  .exact h e he
  .cases aAF.1 he;exact⟨⟨s,rfl⟩,_,rfl⟩
 .rw[sh];refine⟨_,rfl,λe he=> ?_⟩;rcases aB3 he with he|rfl
  .exact h e he
  .exact⟨⟨s,rfl⟩,_,rfl⟩
def aty(ay:Bool)(bn:Nat):ah:=cond ay (.aN 1 0 bn bn 24) (.d (.list 24 []))
def cy.Hs(m:cy):Bool->Bool->aU
 |true,true=>[eD m.L m.t m.ps (.aN 1 0 m.bn m.bn 24) (.aN 2 0 m.ns m.ns 12) (.ptr 6 0) (.map 8),.box m.N,.box m.S,.box m.b0,.box m.b6,.box m.b4,.box (cR 3 4 5 m.gn),.box [.ptr 6 0],.map m.P]
 |true,false=>[eD m.L m.t m.ps (.aN 1 0 m.bn m.bn 24) (.own 12 []) (.ptr 5 0) (.map 7),.box m.N,.box m.b0,.box m.b6,.box m.b4,.box (cR 2 3 4 m.gn),.box [.ptr 5 0],.map m.P]
 |false,true=>[eD m.L m.t m.ps (.own 24 []) (.aN 1 0 m.ns m.ns 12) (.ptr 5 0) (.map 7),.box m.S,.box m.b0,.box m.b6,.box m.b4,.box (cR 2 3 4 m.gn),.box [.ptr 5 0],.map m.P]
 |false,false=>[eD m.L m.t m.ps (.own 24 []) (.own 12 []) (.ptr 4 0) (.map 6),.box m.b0,.box m.b6,.box m.b4,.box (cR 1 2 3 m.gn),.box [.ptr 4 0],.map m.P]
def adS:Bool->Bool->List Nat
 |true,true=>[1,2,3,4,5,8]
 |true,false=>[1,2,3,4,7]
 |false,true=>[1,2,3,4,7]
 |false,false=>[1,2,3,6]
structure s0(n:Nat)(m:cy):Prop where
 gn:m.gn=n
 b0:ov n m.b0
 b6:ov n m.b6
 b4:∃ds:List Int,ds.length=n/\m.b4=bV ds
 P:sZ m.P
def adT(l:List cX):Prop:=∀i j (hi:i<l.length) (aK:j<l.length),l[i].n=l[j].n->i=j
structure AW(l:List cX)(zs:List Int)(k:Nat)(es:List (Go.aH.D×ah)):Prop where
 a:adT l->∀j i (h:i<l.length),j<k->zs[j]?=some (Int.ofNat i)->lP l[i].n es=some (.d (int (Int.ofNat j)))
 b:∀s,(∀x∈l,x.n≠s)->lP s es=none
theorem AW.put{l:List cX}{zs:List Int}{k:Nat}{es:List (Go.aH.D×ah)}(h:AW l zs k es)(aY:zs.Nodup){i:Nat}(hi:i<l.length)(aO:zs[k]?=some (Int.ofNat i)):AW l zs (k+1) (cC l[i].n (.d (int (Int.ofNat k))) es):=⟨λcv j p hp aK aS=>by
 rw[Nr];split
 .rename_i ay;have:=cv _ _ _ _ ay;subst this;have:=(List.getElem?_inj (aBk.1 aO).1 aY).1 (aO.trans aS.symm);rw[this]
 .exact h.a cv j p hp axZ aS,λs hs=>by rw[Nr,aAG λe=>hs _ (aAl hi) e.symm];exact h.b s hs⟩
structure DG(n:Nat)(l:List cX)(m:cy):Prop where
 ne:AV (l.map (lN l)) (l.map (lN l)).length m.b0
 Nt:∃zs,iw n (iota n) zs/\aM 24 [.ptr 0 0] [.box (cR 1 2 3 n),.box m.b0,.box m.b6,.box m.b4] (.d (.list 1 (zs.map int))) [.box (cR 1 2 3 n),.box m.b0,.box m.b6,.box m.b4]/\AW l zs n m.P
def atz(m:cy)(ay hs:Bool)(q j:Nat)(R:List Go.aH.D):ag:=cx [(0,.ptr 0 0),(4,.own 1 R),(15,aty ay m.bn),(16,.d (int (Int.ofNat q))),(17,.d (int (Int.ofNat j)))] (m.st ay hs false)
def atA(m:cy)(ay hs:Bool)(q j:Nat)(R:List Go.aH.D)(e:Int):ag:=cx [(0,.ptr 0 0),(4,.own 1 R),(8,.d (int e)),(74,.d (int (Int.ofNat q))),(75,.d (int (Int.ofNat j)))] (m.st ay hs false)
def atB(m:cy)(ay hs:Bool)(Z:List Go.aH.D)(q j:Nat):ag:=cx [(0,.ptr 0 0),(49,.d (.list 1 Z)),(50,.d (int (Int.ofNat q))),(51,.d (int (Int.ofNat j)))] (m.Hs ay hs)
theorem atC(m:cy)(hm:m.Ok)(ay hs:Bool)(l:List cX)(b3:m.N=ha l)(aI:l.length=m.bn)(au:m.bn<=32)(wb:ay=false->l=[])(lk:List Int)(jQ:m.ps=lk.map int)(lY:lk.length=m.bn)(dV:∀y∈l,y.bM.length<=33554432):
  ∃(a e:Int) (s:aU),((e≠0/\s=m.st ay hs false)\/(e=0/\∃(b0 b6 b4:List ah) (P:List (Go.aH.D×ah)),(s0 m.bn {m with gn:=m.bn,b0:=b0,b6:=b6,b4:=b4,P:=P}/\DG m.bn l {m with gn:=m.bn,b0:=b0,b6:=b6,b4:=b4,P:=P})/\s=({m with gn:=m.bn,b0:=b0,b6:=b6,b4:=b4,P:=P}:cy).Hs ay hs))/\aM 68 [.ptr 0 0] (m.st ay hs false) (.tuple [.d (int a),.d (int e)]) s:=by
 suffices h:∃r s',(∃(a e:Int),((e≠0/\s'=m.st ay hs false)\/(e=0/\∃(b0 b6 b4:List ah) (P:List (Go.aH.D×ah)),(s0 m.bn {m with gn:=m.bn,b0:=b0,b6:=b6,b4:=b4,P:=P}/\DG m.bn l {m with gn:=m.bn,b0:=b0,b6:=b6,b4:=b4,P:=P})/\s'=({m with gn:=m.bn,b0:=b0,b6:=b6,b4:=b4,P:=P}:cy).Hs ay hs))/\r=.tuple [.d (int a),.d (int e)])/\aM 68 [.ptr 0 0] (m.st ay hs false) r s' by
  obtain⟨_,s,⟨a,e,h1,rfl⟩,h⟩:=h;exact⟨a,e,s,h1,h⟩
 have aDg:=λ(j:Nat) (aK:j<l.length)=>atj m hm hs l b3 aI axW l[j] (by have:=dV _ (aAl aK);omega);have ru:∀x∈l.map (lN l),km m.bn x/\x.length<=33554432:=λx ak=>by
  obtain⟨y,wa,rfl⟩:=aAR.1 ak;refine⟨λz aO=> ?_,by unfold lN;rw[aAb];exact dV y wa⟩;obtain⟨w,_,rfl⟩:=aAR.1 aO;rw[<-aI];exact atk (List.length_pos_of_mem wa) _
 have adU:(l.map (lN l)).length=m.bn:=by rw[aAb];exact aI
 obtain⟨r,s,ax,aj⟩:=att m.bn (l.map (lN l)) axW axW λx ak=>(ru x ak).2;have yC:=λ(i:Nat) (hi:i<m.bn)=>atm m hm hs (l.map (lN l)) m.bn adU au ru i hi;obtain⟨L,t,bn,N,ps,ns,S,gn,b0,b6,b4,P⟩:=m;dsimp only at b3 aI au jQ lY adU aj yC ru aDg;have Nu:∀j (h:j<l.length),((l.take (j+1)).map λx=>Go.aH.D.list 1 ((lN l x).map int))=((l.take j).map λx=>Go.aH.D.list 1 ((lN l x).map int))++[.list 1 ((lN l l[j]).map int)]:=λj h=>by
  rw[aA9,aAj h,aAy];rfl
 have Nv:((l.map (lN l)).map λx=>Go.aH.D.list 1 (x.map int))=l.map λx=>Go.aH.D.list 1 ((lN l x).map int):=by rw[aBE];rfl
 rw[Nv]at aj;simp only[Nv]at yC;clear Nv;refine Y8.jt (adS ay hs) _ λad ae K ao=> ?_;obtain⟨bw,a2,a3⟩:=br.of ae hm.N;obtain⟨bJ,a6,cq⟩:=br.of ae hm.S;dsimp only at bw a2 a3 bJ a6 cq;have adV:ay=false->bn=0:=λh=>by rw[<-aI,wb h];rfl
 have r0:ay=false->ad.len []=bn:=λh=>by subst ae;rw[adV h];rfl
 have Nw:∀j (aK:j<l.length),ad.er 24 24 (Int.ofNat j) bn=true/\ad.hL (j*24) 24 N true=true/\ad.oZ N (j*24) 24=.d (.agg l[j].c24.cs):=λj aK=>⟨fT ae axW,by rw[b3];exact sX ae aK (j:=0) (n:=24) ax0,by rw[b3];exact M3 ae aK⟩;have Nx:∀j (aK:j<l.length),ad.er 24 24 (Int.ofNat j) bn=true/\ad.hL (j*24+0) 1 N true=true/\ad.jS N (j*24+0)=.d (.str l[j].n):=λj aK=>⟨fT ae axW,by rw[b3];exact sX ae aK ax0,by rw[b3];exact DB ae aK ax0 rfl⟩;have Ny:ad.len ps=bn:=az7;have Nz:∀i (h:i<bn),ad.get ps (Int.ofNat i)=int (lk[i]'(by rw[lY];exact h)):=λi h=>cz ae az8;have aC:lM ay:=trivial;have fH:lM hs:=trivial;cases ay<;>cases hs;all_goals
  dsimp only[cy.st,adS,eD]at ao⊢;refine af ?_;refine⟨bX (λz:Nat×List Go.aH.D=>atz ⟨L,t,bn,N,ps,ns,S,gn,b0,b6,b4,P⟩ (cS aC) (cS fH) bn z.1 z.2) (λz=>z.1<=bn/\z.2=(l.take z.1).map λx=>Go.aH.D.list 1 ((lN l x).map int)) (λz=>bn-z.1),_,⟨(0,[]),⟨aAa _,rfl⟩,rfl,axV⟩,?_⟩;rintro _ _ ⟨⟨j,R⟩,⟨aK,ch⟩,rfl,rfl⟩;dsimp only at aK ch⊢;by_cases aA:j<bn
  .have ep:j<l.length:=by omega
   first
   |exact absurd (wb rfl▸ep) (aBh _)
   |skip
   all_goals
    have bN:=eT ae aA;have gf:=cd ae (n:=j) axW;obtain⟨w1,fb,jP⟩:=Nw j ep;have bW:=pZ ae j 24;have L7:=aDg j ep;dsimp only[cy.st,eD]at L7;have ng:=Nu j ep;rw[<-ch]at ng;have sW:R.length<=1024:=az9;have ij:∀x,ad.app R x=R++x:=λx=>ax3;rw[<-ij]at ng;clear aDg yC aj Nu Nw Nx ru ij;generalize (lN l l[j]).map int=atD at*;generalize l[j].c24=w at*;obtain⟨n,s2,rr,AP,Hg,Hh,IF,⟨c1,c2,qj,c4,c5,eI,bQ,e0,c9,fj,e9,X,eN,eR,eS,bB⟩,code⟩:=w;generalize j*24=M' at*;refine af ?_;exact fixF (j+1,ad.app R [.list 1 atD]) ⟨aA,ng.symm⟩
  .have bN:=eY ae aA;rw[aBa axW]at ch;rw[<-ch]at aj;simp only[<-ch]at yC;have sW:R.length<=1024:=by rw[ch,aAb];omega
   clear Nu aDg Nw ch;rcases ax with⟨e,he,rfl,rfl⟩|⟨b0,b6,ds,⟨_,wx,NA,NB,my⟩,rfl,rfl⟩
   .have t1:ad.aD .eql e 0=false:=by rw[(eF ae).1];exact aAK he
    refine af ?_;refine⟨bX (λi:Nat=>atA ⟨L,t,bn,N,ps,ns,S,gn,b0,b6,b4,P⟩ (cS aC) (cS fH) bn i R e) (λi=>i<=bn) (λi=>bn-i),_,⟨0,aAa _,rfl,axV⟩,?_⟩;clear aj bN aA;rintro _ _ ⟨i,hi,rfl,rfl⟩;dsimp only at hi⊢;by_cases aA:i<bn
    .have ep:i<l.length:=by omega
     first
     |exact absurd (wb rfl▸ep) (aBh _)
     |skip
     all_goals
      have bN:=eT ae aA;have b5:ad.er 1 1 (Int.ofNat i) bn=true:=fT ae aA;have dq:=Nz i aA;have gf:=cd ae (n:=i) axW;obtain⟨b,wo⟩:=yC i aA;dsimp only[cy.st,eD]at wo;clear yC;generalize (lk[i]' axW)=aDl at*;cases b with
      |true=>
       conv=>cbv
       repeat' ((first|refine cZ ?_|refine c6 ?_|simp -proj only[bN,b5,dq,Ny,bw,a2,a3,bJ,a6,cq]|(split<;>(rename_i h;try simp only[h])))<;>conv=>cbv)
       exact ao _ _ ⟨aDl,e,.inl ⟨he,axV⟩,rfl⟩
      |false=>
       refine af ?_;exact fixF (i+1) aA
    .have bN:=eY ae aA;refine af ?_;exact ao _ _ ⟨0,e,.inl ⟨he,axV⟩,rfl⟩
   .have t1:ad.aD .eql 0 0=true:=by rw[(eF ae).1];rfl
    obtain⟨zs,nu,ry⟩:=ac7 ds bn wx axW NA.flat NB.flat;obtain⟨c1,c2,c3⟩:=br.of ae NA.flat;obtain⟨d1,d2,d3⟩:=br.of ae NB.flat;obtain⟨b',cr,dE⟩:=br.of ae (et ds);obtain⟨de,dp,dF⟩:=lh.of ae (C:=[]) (λe he=>by cases he);have rv:(zs.map int).length=zs.length:=aAb _;have ow:∀i (h:i<zs.length),(zs.map int)[i]?=some (int zs[i]):=λi h=>c7 h;have atE:sZ []:=λe he=>by cases he
    obtain⟨b4,adW⟩:∃b4,b4=bV ds:=⟨_,rfl⟩;rw[<-adW]at aj ry b' cr dE;have atF:=ry;have yA:AW l zs 0 []:=⟨λ_ _ _ _ h=>absurd h (aBh _),λ_ _=>rfl⟩;have atG:zs.Nodup:=nu.perm.nodup_iff.2 (List.Pairwise.map _ (λ_ _ h e=>h (aCP e)) List.nodup_range);unfold cR at ry;dsimp only at aj;generalize atH:zs.map int=wz at*;have pJ:ad.len wz=bn:=by subst ae;exact rv.trans nu.len
    refine af ?_;refine⟨bX (λz:Nat×List (Go.aH.D×ah)=>atB ⟨L,t,bn,N,ps,ns,S,bn,b0,b6,b4,z.2⟩ (cS aC) (cS fH) wz bn z.1) (λz=>z.1<=bn/\sZ z.2/\AW l zs z.1 z.2) (λz=>bn-z.1),_,⟨(0,[]),⟨aAa _,atE,yA⟩,rfl,axV⟩,?_⟩;clear aj ry bN aA de dp dF yC;rintro _ _ ⟨⟨k,es⟩,⟨aq,jF,dr⟩,rfl,rfl⟩;dsimp only at aq jF dr⊢;obtain⟨de,dp,dF⟩:=lh.of ae jF.flat;by_cases aA:k<bn
    .have ep:k<l.length:=by omega
     first
     |exact absurd (wb rfl▸ep) (aBh _)
     |skip
     all_goals
      have qM:=nu.len;have bN:=eT ae aA;have b5:ad.er 1 1 (Int.ofNat k) bn=true:=fT ae aA;have dq:=cz ae (ow k axW);have gf:=cd ae (n:=k) axW;obtain⟨i,dw,n2⟩:=wh (nu.all _ (aAl (show k<zs.length by omega)));rw[n2]at dq;obtain⟨w1,fb,jP⟩:=Nx i axW;have bW:=pZ ae i 24;have oc:ad.lD (i*24) 0=i*24+0:=p2 ae _ _;obtain⟨adJ,qF,adX⟩:=jF.put ae (l[i]' axW).n (int (Int.ofNat k));have su:=dr.put atG (i:=i) axW (by rw[<-n2];exact aAj _);rw[<-aBO (qF.symm.trans (atx ae _ _ λe he=>(jF e he).1))]at su;obtain⟨fO,z2,z3⟩:=lh.of ae adX.flat;clear Nx n2;generalize (l[i]' axW).n=nm at*;generalize i*24=aD at*;generalize aD+0=axB at*;refine af ?_;exact fixF (k+1,adJ) ⟨aA,adX,su⟩
    .have bN:=eY ae aA;refine af ?_;exact ao _ _ ⟨0,0,.inr ⟨rfl,b0,b6,b4,es,⟨⟨rfl,NA,NB,⟨ds,wx,adW⟩,jF⟩,my,zs,nu,by rw[atH];exact atF,(show k=bn by omega)▸dr⟩,axV⟩,rfl⟩
end Go.Proofs.YthffhbakgmemaaaGreatDoor
