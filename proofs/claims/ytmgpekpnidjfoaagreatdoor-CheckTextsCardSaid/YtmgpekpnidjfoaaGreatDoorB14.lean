/- Part of texts_said. -/
import Derived.Test.YtmgpekpnidjfoaaGreatDoorB13
set_option maxRecDepth 100000
set_option maxHeartbeats 8000000
set_option linter.unusedSimpArgs false
set_option linter.unusedVariables false
namespace Go.Proofs.YtmgpekpnidjfoaaGreatDoor
open Go Go.aJ
attribute [local irreducible] bM
structure k3(n B:Nat)(M:List ag):Prop where
 len:M.length=n
 get:∀i,i<n->∃l:List Int,(ka n l/\l.length<=B)/\M.getD i .undef=.own 1 (l.map int)
theorem k3.mono{n B LS:Nat}{M:List ag}(h:k3 n B M)(aq:B<=LS):k3 n LS M:=⟨h.len,λi hi=>by
 obtain⟨l,⟨h1,h2⟩,av⟩:=h.get i hi;exact⟨l,⟨h1,axs⟩,av⟩⟩
theorem k3.flat{n B:Nat}{M:List ag}(h:k3 n B M):Flat M:=λv hv=>by
 obtain⟨i,hi,rfl⟩:=aA9 hv;obtain⟨l,_,aE⟩:=h.get i (by rw[<-h.len];exact hi);rw[aAo,azQ hi]at aE;exact .inr ⟨_,_,aE⟩
theorem k3.nd{n B:Nat}{M:List ag}(h:k3 n B M)(aq:B<=1073741824):n1 n M:=⟨h.len,h.flat,λi hi=>by
 obtain⟨l,⟨h1,h2⟩,av⟩:=h.get i hi;exact⟨l,⟨h1,axs⟩,by rw[av];rfl⟩⟩
theorem k3.set{n B:Nat}{M:List ag}(h:k3 n B M){d:Nat}(a6:d<n){l:List Int}(aH:ka n l/\l.length<=B){x:Int}(ak:gh n x=true):k3 n (B+1) (M.set d (.own 1 ((l++[x]).map int))):=⟨by rw[aAN];exact h.len,λi hi=>by
 by_cases e:d=i
 .subst e;refine⟨l++[x],⟨λz aQ=> ?_,by rw[az6];show l.length+1<=_;omega⟩,by rw[aAo,aAq (by rw[h.len];exact a6)];rfl⟩;rcases aAu.1 aQ with aQ|aQ
  .exact aH.1 z aQ
  .rw[az9.1 aQ];exact ak
 .obtain⟨l2,⟨h1,h2⟩,av⟩:=h.get i hi;exact⟨l2,⟨h1,axs⟩,azA⟩⟩
theorem n1.set{n:Nat}{N:List ag}(h:n1 n N){i:Nat}{l:List Int}(aH:ka n l/\l.length<=1073741824):n1 n (N.set i (.d (.list 1 (l.map int)))):=⟨by rw[aAN];exact h.len,λv hv=>by
 rcases aBr hv with hv|rfl
 .exact h.flat v hv
 .exact .inl ⟨_,rfl⟩,λj aL=>by
 by_cases e:i=j
 .subst e;exact⟨l,aH,by rw[aAo,aAq (by rw[h.len];exact aL)];rfl⟩
 .obtain⟨l2,h1,av⟩:=h.get j aL;exact⟨l2,h1,azA⟩⟩
theorem asA(n:Nat):(List.replicate n [ag.own 1 []]).flatten=List.replicate n (.own 1 []):=axt
theorem acT(n B:Nat):k3 n B (List.replicate n (.own 1 [])):=⟨aCF,λi hi=>⟨[],⟨λ_ h=>(aAi h).elim,azF _⟩,by rw[aAo,List.getElem?_replicate_of_lt hi];rfl⟩⟩
theorem asB{n i:Nat}(h:i<n):gh n (Int.ofNat i)=true:=azx
def asC(N M D:List ag)(n:Nat)(l9:List Go.aJ.D)(k i:Nat):af:=cA [(6,.ptr 4 0),(31,.d (.list 1 l9)),(32,.d (int (Int.ofNat k))),(33,.d (int (Int.ofNat i)))] [.box N,.box M,.box D,.box [.aS 0 0 n n 1,.aS 1 0 n n 1,.aS 2 0 n n 1],.box [.ptr 3 0]]
def asD(N M D:List ag)(n:Nat)(l9:List Go.aJ.D)(k i:Nat)(Z:List Go.aJ.D)(q j:Nat):af:=cA [(6,.ptr 4 0),(7,.d (int (Int.ofNat i))),(31,.d (.list 1 l9)),(32,.d (int (Int.ofNat k))),(33,.d (int (Int.ofNat i))),(57,.d (.list 1 Z)),(58,.d (int (Int.ofNat q))),(59,.d (int (Int.ofNat j)))] [.box N,.box M,.box D,.box [.aS 0 0 n n 1,.aS 1 0 n n 1,.aS 2 0 n n 1],.box [.ptr 3 0],.box [.d (.list 1 [])]]
def asE(N M D:List ag)(n:Nat)(l9 L:List Go.aJ.D)(k i:Nat)(Z:List Go.aJ.D)(q j:Nat):af:=cA [(6,.ptr 4 0),(7,.d (int (Int.ofNat i))),(31,.d (.list 1 l9)),(32,.d (int (Int.ofNat k))),(33,.d (int (Int.ofNat i))),(57,.d (.list 1 Z)),(58,.d (int (Int.ofNat q))),(59,.d (int (Int.ofNat j)))] [.box N,.box M,.box D,.box [.aS 0 0 n n 1,.aS 1 0 n n 1,.aS 2 0 n n 1],.box [.ptr 3 0],.box [.d (.list 1 L)],.dead]
set_option maxHeartbeats 40000000 in
theorem asF(n:Nat)(ls:List (List Int))(az:n<=32)(aH:ls.length<=33554432)(qZ:∀l∈ls,l.length<=33554432):∃r s,((∃e:Int,e≠0/\r=.tuple [.d .dO,.d (int e)]/\s=[])\/(∃(N M:List ag) (ds:List Int),(n<=1024/\ds.length=n/\n1 n N/\n1 n M)/\r=.tuple [.ptr 3 0,.d (int 0)]/\s=[.box N,.box M,.box (bZ ds),.box [.aS 0 0 n n 1,.aS 1 0 n n 1,.aS 2 0 n n 1],.box [.ptr 3 0]]))/\aM 86 [.d (int (Int.ofNat n)),.d (.list 1 (ls.map λl=>Go.aJ.D.list 1 (l.map int)))] [] r s:=by
 have bF:(ls.map λl=>Go.aJ.D.list 1 (l.map int)).length=ls.length:=azG _;have cl:∀i (h:i<ls.length),(ls.map λl=>Go.aJ.D.list 1 (l.map int))[i]?=some (.list 1 (ls[i].map int)):=λi h=>dv h;generalize (ls.map λl=>Go.aJ.D.list 1 (l.map int))=l9 at*;refine Wz.jl [0,1,2,6] _ λad ae K ao=> ?_;obtain⟨k,au⟩:∃k,k=ls.length:=⟨_,rfl⟩;have t0:ad.len l9=k:=by subst ae;exact bF.trans au.symm
 have q1:ad.aF .lss (Int.ofNat n) 0=false:=by rw[(eX ae).2.1];exact aAg λh=>by simp only[azM]at h;omega
 have bK:ad.aF .gtr (Int.ofNat n) 1024=decide (1024<n):=by
  rw[(eX ae).2.2.2];by_cases e:1024<n
  .rw[azO e];exact azO (aA5.2 e)
  .rw[aAg e];exact aAg λx=>e (aA5.1 x)
 by_cases kn:1024<n
 .rw[azO kn]at bK;refine ai ?_;repeat' (split<;>refine ai ?_)
  all_goals exact ao _ _ (.inl ⟨_,axw,rfl,axr⟩)
 rw[aAg kn]at bK;by_cases Bx:n<k
 .have cI:=C0 ae Bx;refine ai ?_;repeat' (split<;>refine ai ?_)
  all_goals exact ao _ _ (.inl ⟨_,axw,rfl,axr⟩)
 have cI:=C1 ae Bx;have cT:ad.u2 (Int.ofNat n) 137438953472=true:=by
  subst ae;show(decide ((0:Int)<=Int.ofNat n)&&decide (Int.ofNat n<=137438953472))=true;simp only[azM,azH,azN];omega
 have pT:ad.u2 (Int.ofNat n) 45812984490=true:=by
  subst ae;show(decide ((0:Int)<=Int.ofNat n)&&decide (Int.ofNat n<=45812984490))=true;simp only[azM,azH,azN];omega
 have c8:ad.w6 n [.d (int 0)]=some (bZ (List.replicate n 0)):=by
  subst ae;show some (List.replicate n [ag.d (int 0)]).flatten=_;congr 1;unfold bZ;rw[List.map_replicate];simp
 have du:ad.w6 n [.own 1 []]=some (List.replicate n (.own 1 [])):=by
  subst ae;exact congrArg some (asA n)
 have GQ:=acT n (0*33554432);have MI:n1 n (List.replicate n (.own 1 [])):=(acT n 0).nd axs;obtain⟨ds,vE,yt⟩:∃ds,ds=List.replicate n (0:Int)/\ds.length=n:=⟨_,rfl,aCF⟩;rw[<-vE]at c8;clear vE;have cH:=er ds;generalize List.replicate n (ag.own 1 [])=acU at*;obtain⟨bh,a2,a3⟩:=bA.of ae MI.flat;obtain⟨c1,c2,c3⟩:=bA.of ae cH;obtain⟨g',z2,z3⟩:=Mh ae;generalize asG:bZ ds=D at*;conv=>cbv
 repeat' ((first|refine bG ?_|refine bH ?_|refine zq axG ?_|refine zr axG ?_|simp -proj only[t0,q1,bK,cI,pT,cT,c8,du,bh,a2,a3,c1,c2,c3]|(split<;>(rename_i h;try simp only[h])))<;>conv=>cbv)
 refine⟨b6 (λz:Nat×List ag×List ag=>asC z.2.1 z.2.2 D n l9 k z.1) (λz=>z.1<=ls.length/\n1 n z.2.1/\k3 n (z.1*33554432) z.2.2) (λz=>ls.length-z.1),_,⟨(0,acU,acU),⟨azF _,MI,GQ⟩,rfl,axr⟩,?_⟩;clear pT cT c8 du q1 bK cI bh a2 a3 MI GQ;rintro _ _ ⟨⟨i,N,M⟩,⟨hi,b9,cd⟩,rfl,rfl⟩;dsimp only at hi b9 cd⊢;obtain⟨bh,a2,a3⟩:=bA.of ae b9.flat;obtain⟨bq,aR,bO⟩:=bA.of ae cd.flat;by_cases aB:i<k
 .have t1:=fS ae aB;replace aB:i<ls.length:=by omega
  have t3:=cV ae (cl i aB);have t6:=cv ae (n:=i) axs;have o8:=qZ _ (azT aB);generalize ls[i]=l at*;obtain⟨b,aq,aj⟩:=aqy (N:=N) (M:=M) (D:=D) n l axs b9.flat cd.flat cH;have aD:=aq9 (l.map int);unfold c6 at aj;cases b with
  |true=>
   generalize l.map int=L at*;refine ai ?_;repeat' (split<;>refine ai ?_)
   all_goals exact ao _ _ (.inl ⟨_,axw,rfl,axr⟩)
  |false=>
   have jy:=aq rfl;cases l with
   |nil=>
    obtain⟨res,DR,sO,wM⟩:∃res:List Int,res.length<=33554432/\ka n res/\res=[]:=⟨[],azF _,(λ_ h=>(aAi h).elim),rfl⟩;have aW:=arc;have bQ:=ari;replace aj:bM _ _ _ [.d (.list 1 []),_] _ _ _:=aj;replace aD:bM _ _ _ [.d (.list 1 [])] _ _ _:=aD;replace t3:_=Go.aJ.D.list 1 []:=t3;have sR:Go.aJ.D.list 1 []=.list 1 (res.map int):=by rw[wM];rfl
    have dM:i<n:=axs;obtain⟨gb,fR,fp⟩:ad.ez 1 1 (Int.ofNat i) n=true/\ad.lW 0 (Int.ofNat i) 1=i/\ad.mB true i 1 N true=true:=⟨fZ ae dM,lB ae i,vp ae (by rw[b9.len];exact dM)⟩;have gd:ad.ln N i [.d (.list 1 (res.map int))]=some (N.set i (.d (.list 1 (res.map int)))):=sk ae _ _ _;have l':=b9.set (i:=i) (l:=res) ⟨sO,axs⟩;have gU:ad.ic i 1 (N.set i (.d (.list 1 (res.map int)))) true=true:=sj ae (by rw[l'.len];exact dM);have kW:ad.j4 (N.set i (.d (.list 1 (res.map int)))) i=.d (.list 1 (res.map int)):=xB ae azB;obtain⟨b0,b7,c7⟩:=bA.of ae l'.flat;have xT:(res.map int).length=res.length:=azG _;have Af:∀j (h:j<res.length),(res.map int)[j]?=some (int res[j]):=λj h=>dv h;generalize N.set i (.d (.list 1 (res.map int)))=lE at*;generalize res.map int=Z at*;obtain⟨q,aT⟩:∃q,q=res.length:=⟨_,rfl⟩;have t4:ad.len Z=q:=by subst ae;exact xT.trans aT.symm
    have asH:Z=[]:=by injection sR with _ h;exact h.symm
    subst asH;refine ai ?_;repeat' (split<;>refine ai ?_)
    clear bh a2 a3;obtain⟨bh,a2,a3⟩:=And.intro b0 (And.intro b7 c7);refine⟨b6 (λz:Nat×List ag=>asD lE z.2 D n l9 k i [] q z.1) (λz=>z.1<=res.length/\k3 n (i*33554432+z.1) z.2) (λz=>res.length-z.1),_,⟨(0,M),⟨azF _,azC⟩,rfl,axr⟩,?_⟩;clear cd bq aR bO;rintro _ _ ⟨⟨j,M⟩,⟨aL,cd⟩,rfl,rfl⟩;dsimp only at aL cd⊢;obtain⟨bq,aR,bO⟩:=bA.of ae cd.flat;by_cases pX:j<q
    .exact absurd pX (by rw[aT,wM];exact aAM _)
    .have t1:=f' ae pX;have MJ:k3 n ((i+1)*33554432) M:=cd.mono axs;refine ai ?_;repeat' (split<;>refine ai ?_)
     all_goals exact fixF (i+1,lE,M) ⟨aB,l',MJ⟩
   |cons x l=>
    have k2:(x::l).length=l.length+1:=rfl;obtain⟨zs,hp,aW⟩:=ard (x::l) l.length k2 axs;have yI:sq (l.length+1) n zs:=⟨hp.length_eq.trans k2,λz aQ=>jy z (hp.mem_iff.1 aQ)⟩;obtain⟨res,⟨DR,sO⟩,bQ⟩:=arl (l.length+1) n zs yI axs axs;replace DR:res.length<=33554432:=by omega
    have acV:=er zs;obtain⟨v1,v2,v3⟩:=bA.of ae acV;clear acV hp yI;generalize bZ zs=C at*;generalize (x::l).map int=L at*;generalize l.length+1=m at*;have dM:i<n:=axs;obtain⟨gb,fR,fp⟩:ad.ez 1 1 (Int.ofNat i) n=true/\ad.lW 0 (Int.ofNat i) 1=i/\ad.mB true i 1 N true=true:=⟨fZ ae dM,lB ae i,vp ae (by rw[b9.len];exact dM)⟩;have gd:ad.ln N i [.d (.list 1 (res.map int))]=some (N.set i (.d (.list 1 (res.map int)))):=sk ae _ _ _;have l':=b9.set (i:=i) (l:=res) ⟨sO,axs⟩;have gU:ad.ic i 1 (N.set i (.d (.list 1 (res.map int)))) true=true:=sj ae (by rw[l'.len];exact dM);have kW:ad.j4 (N.set i (.d (.list 1 (res.map int)))) i=.d (.list 1 (res.map int)):=xB ae azB;obtain⟨b0,b7,c7⟩:=bA.of ae l'.flat;have xT:(res.map int).length=res.length:=azG _;have Af:∀j (h:j<res.length),(res.map int)[j]?=some (int res[j]):=λj h=>dv h;generalize N.set i (.d (.list 1 (res.map int)))=lE at*;generalize res.map int=Z at*;obtain⟨q,aT⟩:∃q,q=res.length:=⟨_,rfl⟩;have t4:ad.len Z=q:=by subst ae;exact xT.trans aT.symm
    refine ai ?_;repeat' (split<;>refine ai ?_)
    clear bh a2 a3;obtain⟨bh,a2,a3⟩:=And.intro b0 (And.intro b7 c7);refine⟨b6 (λz:Nat×List ag=>asE lE z.2 D n l9 L k i Z q z.1) (λz=>z.1<=res.length/\k3 n (i*33554432+z.1) z.2) (λz=>res.length-z.1),_,⟨(0,M),⟨azF _,azC⟩,rfl,axr⟩,?_⟩;clear cd bq aR bO;rintro _ _ ⟨⟨j,M⟩,⟨aL,cd⟩,rfl,rfl⟩;dsimp only at aL cd⊢;obtain⟨bq,aR,bO⟩:=bA.of ae cd.flat;by_cases pX:j<q
    .have t1:=fS ae pX;have t2:=cv ae (n:=j) axs;obtain⟨d,xO,Gp⟩:=xE (sO _ (azT (show j<res.length by omega)));have t3:ad.get Z (Int.ofNat j)=int (Int.ofNat d):=cV ae (by rw[Af j axs,Gp]);obtain⟨l2,jh,ff⟩:=cd.get d xO;have aw9:(l2.map int).length=l2.length:=azG _;have acy:=cd.len;have acW:=cd.set xO jh (asB dM);have gb:ad.ez 1 1 (Int.ofNat d) n=true:=fZ ae xO;have fR:=lB ae d;have fp:ad.zg d M=true:=by subst ae;show Nat.blt d M.length=true;rw[acy];exact aA4 xO
     obtain⟨Dd,GV⟩:∃Dd,Dd=M.set d .undef:=⟨_,rfl⟩;have gd:ad.B' M d=some Dd:=by subst ae;rw[GV];rfl
     have gU:ad.B9 M d=.own 1 (l2.map int):=by subst ae;exact ff
     have kW:ad.mB true d 1 Dd true=true:=vp ae (by rw[GV,aAN];omega);have wN:ad.app (l2.map int) [int (Int.ofNat i)]=(l2++[Int.ofNat i]).map int:=by subst ae;rw[az5];rfl
     have qK:ad.ln Dd d [.own 1 (ad.app (l2.map int) [int (Int.ofNat i)])]=some (M.set d (.own 1 ((l2++[Int.ofNat i]).map int))):=by rw[sk ae,GV,wN,aB9]
     obtain⟨w1,bS,dZ⟩:=bA.of ae acW.flat;have hlen:l2.length<=2000000000:=by have:=jh.2;have:i*33554432<=32*33554432:=aAl _ axs;omega
     clear wN GV ff jh cd;generalize l2.map int=iX at*;generalize M.set d (.own 1 ((l2++[Int.ofNat i]).map int))=M2 at*;refine ai ?_;repeat' (split<;>refine ai ?_)
     all_goals exact fixF (j+1,M2) ⟨by show j+1<=res.length;omega,by show k3 n (i*33554432+(j+1)) M2;rw[<-aBD];exact acW⟩
    .have t1:=f' ae pX;have MJ:k3 n ((i+1)*33554432) M:=cd.mono axs;refine ai ?_;repeat' (split<;>refine ai ?_)
     all_goals exact fixF (i+1,lE,M) ⟨aB,l',MJ⟩
 .have t1:=f' ae aB;have acX:=cd.nd (by have:i*33554432<=32*33554432:=aAl _ axs;omega);obtain⟨b,iE,mX,aj⟩:=arq n axs b9 acX ds yt;rw[asG]at aj;have qX:=er iE;obtain⟨w1,bS,dZ⟩:=bA.of ae qX;have GD:∀s,s=[.box N,.box M,.box (bZ iE),.box [.aS 0 0 n n 1,.aS 1 0 n n 1,.aS 2 0 n n 1],.box [.ptr 3 0]]->K (.tuple [.ptr 3 0,.d (int 0)]) s:=λs h=>ao _ _ (.inr ⟨N,M,iE,⟨axs,mX,b9,acX⟩,rfl,h⟩);unfold c6 at aj;generalize bZ iE=qW at*;cases b with
  |false=>
   refine ai ?_;repeat' (split<;>refine ai ?_)
   all_goals exact ao _ _ (.inl ⟨_,axw,rfl,axr⟩)
  |true=>
   refine ai ?_;repeat' (split<;>refine ai ?_)
   all_goals exact GD _ axr
def vF(es:List (Go.aJ.D×ag)):Prop:=∀e∈es,(∃t,e.1=.str t)/\∃x,e.2=.d x
theorem vF.flat{es:List (Go.aJ.D×ag)}(h:vF es):oG es:=λe he=>(h e he).2
theorem vF.put{ad:bn}(ae:ad=bn.bY){es:List (Go.aJ.D×ag)}(h:vF es)(s:ax)(x:Go.aJ.D):∃lX,ad.zm false [2] (.str s) (.d x) es=some lX/\vF lX:=by
 subst ae;show ∃lX,tF false [2] (.str s) (.d x) es=some lX/\_;unfold tF;rcases Cg s es 0 (λe he=>(h e he).1)with h1|⟨j,h1,h2⟩
 .rw[h1];refine⟨_,rfl,λe he=> ?_⟩;rcases aAu.1 he with he|he
  .exact h e he
  .cases az9.1 he;exact⟨⟨s,rfl⟩,_,rfl⟩
 .rw[h2];refine⟨_,rfl,λe he=> ?_⟩;rcases aBr he with he|rfl
  .exact h e he
  .exact⟨⟨s,rfl⟩,_,rfl⟩
def asI(az:Bool)(bL:Nat):ag:=cond az (.aS 1 0 bL bL 24) (.d (.list 24 []))
def cP.GX(m:cP):Bool->Bool->aV
 |true,true=>[eh m.L m.t m.ps (.aS 1 0 m.bL m.bL 24) (.aS 2 0 m.ns m.ns 12) (.ptr 6 0) (.map 8),.box m.N,.box m.S,.box m.ct,.box m.cu,.box m.cp,.box (c6 3 4 5 m.gn),.box [.ptr 6 0],.map m.P]
 |true,false=>[eh m.L m.t m.ps (.aS 1 0 m.bL m.bL 24) (.own 12 []) (.ptr 5 0) (.map 7),.box m.N,.box m.ct,.box m.cu,.box m.cp,.box (c6 2 3 4 m.gn),.box [.ptr 5 0],.map m.P]
 |false,true=>[eh m.L m.t m.ps (.own 24 []) (.aS 1 0 m.ns m.ns 12) (.ptr 5 0) (.map 7),.box m.S,.box m.ct,.box m.cu,.box m.cp,.box (c6 2 3 4 m.gn),.box [.ptr 5 0],.map m.P]
 |false,false=>[eh m.L m.t m.ps (.own 24 []) (.own 12 []) (.ptr 4 0) (.map 6),.box m.ct,.box m.cu,.box m.cp,.box (c6 1 2 3 m.gn),.box [.ptr 4 0],.map m.P]
def acY:Bool->Bool->List Nat
 |true,true=>[1,2,3,4,5,8]
 |true,false=>[1,2,3,4,7]
 |false,true=>[1,2,3,4,7]
 |false,false=>[1,2,3,6]
structure vG(n:Nat)(m:cP):Prop where
 gn:m.gn=n
 ct:n1 n m.ct
 cu:n1 n m.cu
 cp:∃ds:List Int,ds.length=n/\m.cp=bZ ds
 P:vF m.P
def asJ(m:cP)(az hs:Bool)(q j:Nat)(R:List Go.aJ.D):af:=cA [(0,.ptr 0 0),(4,.own 1 R),(15,asI az m.bL),(16,.d (int (Int.ofNat q))),(17,.d (int (Int.ofNat j)))] (m.st az hs false)
def asK(m:cP)(az hs:Bool)(q j:Nat)(R:List Go.aJ.D)(e:Int):af:=cA [(0,.ptr 0 0),(4,.own 1 R),(8,.d (int e)),(74,.d (int (Int.ofNat q))),(75,.d (int (Int.ofNat j)))] (m.st az hs false)
def asL(m:cP)(az hs:Bool)(Z:List Go.aJ.D)(q j:Nat):af:=cA [(0,.ptr 0 0),(49,.d (.list 1 Z)),(50,.d (int (Int.ofNat q))),(51,.d (int (Int.ofNat j)))] (m.GX az hs)
theorem asM(m:cP)(hm:m.Ok)(az hs:Bool)(l:List dj)(b9:m.N=gY l)(aH:l.length=m.bL)(aq:m.bL<=32)(h0:az=false->l=[])(k4:List Int)(jJ:m.ps=k4.map int)(lM:k4.length=m.bL)(e7:∀y∈l,y.b1.length<=33554432):
  ∃(a e:Int) (s:aV),((e≠0/\s=m.st az hs false)\/(e=0/\∃(ct cu cp:List ag) (P:List (Go.aJ.D×ag)),vG m.bL {m with gn:=m.bL,ct:=ct,cu:=cu,cp:=cp,P:=P}/\s=({m with gn:=m.bL,ct:=ct,cu:=cu,cp:=cp,P:=P}:cP).GX az hs))/\aM 50 [.ptr 0 0] (m.st az hs false) (.tuple [.d (int a),.d (int e)]) s:=by
 suffices h:∃r s',(∃(a e:Int),((e≠0/\s'=m.st az hs false)\/(e=0/\∃(ct cu cp:List ag) (P:List (Go.aJ.D×ag)),vG m.bL {m with gn:=m.bL,ct:=ct,cu:=cu,cp:=cp,P:=P}/\s'=({m with gn:=m.bL,ct:=ct,cu:=cu,cp:=cp,P:=P}:cP).GX az hs))/\r=.tuple [.d (int a),.d (int e)])/\aM 50 [.ptr 0 0] (m.st az hs false) r s' by
  obtain⟨_,s,⟨a,e,h1,rfl⟩,h⟩:=h;exact⟨a,e,s,h1,h⟩
 have hnd:=λ(j:Nat) (aL:j<l.length)=>ast m hm hs l b9 aH axs l[j] (by have:=e7 _ (azT aL);omega);have qZ:∀x∈l.map (n6 l),ka m.bL x/\x.length<=33554432:=λx ak=>by
  obtain⟨y,hy,rfl⟩:=aAn.1 ak;refine⟨λz aQ=> ?_,by unfold n6;rw[azG];exact e7 y hy⟩;obtain⟨w,_,rfl⟩:=aAn.1 aQ;rw[<-aH];exact asu (List.length_pos_of_mem hy) _
 have acZ:(l.map (n6 l)).length=m.bL:=by rw[azG];exact aH
 obtain⟨r,s,aw,aj⟩:=asF m.bL (l.map (n6 l)) axs axs λx ak=>(qZ x ak).2;have xU:=λ(i:Nat) (hi:i<m.bL)=>asx m hm hs (l.map (n6 l)) m.bL acZ aq qZ i hi;obtain⟨L,t,bL,N,ps,ns,S,gn,ct,cu,cp,P⟩:=m;dsimp only at b9 aH aq jJ lM acZ aj xU qZ hnd;have MK:∀j (h:j<l.length),((l.take (j+1)).map λx=>Go.aJ.D.list 1 ((n6 l x).map int))=((l.take j).map λx=>Go.aJ.D.list 1 ((n6 l x).map int))++[.list 1 ((n6 l l[j]).map int)]:=λj h=>by
  rw[aAS,azQ h,az5];rfl
 have ML:((l.map (n6 l)).map λx=>Go.aJ.D.list 1 (x.map int))=l.map λx=>Go.aJ.D.list 1 ((n6 l x).map int):=by rw[aBd];rfl
 rw[ML]at aj;simp only[ML]at xU;clear ML;refine UN.jl (acY az hs) _ λad ae K ao=> ?_;obtain⟨bh,a2,a3⟩:=bA.of ae hm.N;obtain⟨bq,aR,bO⟩:=bA.of ae hm.S;dsimp only at bh a2 a3 bq aR bO;have ac0:az=false->bL=0:=λh=>by rw[<-aH,h0 h];rfl
 have r0:az=false->ad.len []=bL:=λh=>by subst ae;rw[ac0 h];rfl
 have MN:∀j (aL:j<l.length),ad.ez 24 24 (Int.ofNat j) bL=true/\ad.ic (j*24) 24 N true=true/\ad.pF N (j*24) 24=.d (.agg l[j].c24.cs):=λj aL=>⟨fZ ae axs,by rw[b9];exact sr ae aL (j:=0) (n:=24) axw,by rw[b9];exact Mn ae aL⟩;have MO:∀j (aL:j<l.length),ad.ez 24 24 (Int.ofNat j) bL=true/\ad.ic (j*24+0) 1 N true=true/\ad.j4 N (j*24+0)=.d (.str l[j].n):=λj aL=>⟨fZ ae axs,by rw[b9];exact sr ae aL axw,by rw[b9];exact C7 ae aL axw rfl⟩;have MP:ad.len ps=bL:=azD;have MQ:∀i (h:i<bL),ad.get ps (Int.ofNat i)=int (k4[i]'(by rw[lM];exact h)):=λi h=>cV ae azE;have aE:n5 az:=trivial;have iU:n5 hs:=trivial;cases az<;>cases hs;all_goals
  dsimp only[cP.st,acY,eh]at ao⊢;refine ai ?_;repeat' (split<;>refine ai ?_)
  refine⟨b6 (λz:Nat×List Go.aJ.D=>asJ ⟨L,t,bL,N,ps,ns,S,gn,ct,cu,cp,P⟩ (eA aE) (eA iU) bL z.1 z.2) (λz=>z.1<=bL/\z.2=(l.take z.1).map λx=>Go.aJ.D.list 1 ((n6 l x).map int)) (λz=>bL-z.1),_,⟨(0,[]),⟨azF _,rfl⟩,rfl,axr⟩,?_⟩;rintro _ _ ⟨⟨j,R⟩,⟨aL,cX⟩,rfl,rfl⟩;dsimp only at aL cX⊢;by_cases aB:j<bL
  .have gB:j<l.length:=by omega
   first
   |exact absurd (h0 rfl▸gB) (aAM _)
   |skip
   all_goals
    have bU:=fS ae aB;have gS:=cv ae (n:=j) axs;obtain⟨w1,dZ,iP⟩:=MN j gB;have bS:=qJ ae j 24;have Lu:=hnd j gB;dsimp only[cP.st,eh]at Lu;have qV:=MK j gB;rw[<-cX]at qV;have vy:R.length<=1024:=by rw[cX,azG,aAT];omega
    have kr:∀x,ad.app R x=R++x:=λx=>axz;rw[<-kr]at qV;clear hnd xU aj MK MN MO qZ kr;generalize (n6 l l[j]).map int=asN at*;generalize l[j].c24=w at*;obtain⟨n,s2,vB,Aa,GG,GH,IN,⟨c1,c2,qY,c4,c5,eN,bT,e1,c9,fr,fa,X,eP,eT,eU,bB⟩,code⟩:=w;generalize j*24=acz at*;refine ai ?_;repeat' (split<;>refine ai ?_)
    all_goals exact fixF (j+1,ad.app R [.list 1 asN]) ⟨aB,qV.symm⟩
  .have bU:=f' ae aB;rw[aAP axs]at cX;rw[<-cX]at aj;simp only[<-cX]at xU;have vy:R.length<=1024:=by rw[cX,azG];omega
   clear MK hnd MN cX;rcases aw with⟨e,he,rfl,rfl⟩|⟨ct,cu,ds,⟨_,vE,MR,MS⟩,rfl,rfl⟩
   .have t1:ad.aF .eql e 0=false:=by rw[(eX ae).1];exact aAg he
    refine ai ?_;repeat' (split<;>refine ai ?_)
    refine⟨b6 (λi:Nat=>asK ⟨L,t,bL,N,ps,ns,S,gn,ct,cu,cp,P⟩ (eA aE) (eA iU) bL i R e) (λi=>i<=bL) (λi=>bL-i),_,⟨0,azF _,rfl,axr⟩,?_⟩;clear aj bU aB;rintro _ _ ⟨i,hi,rfl,rfl⟩;dsimp only at hi⊢;by_cases aB:i<bL
    .have gB:i<l.length:=by omega
     first
     |exact absurd (h0 rfl▸gB) (aAM _)
     |skip
     all_goals
      have bU:=fS ae aB;have b4:ad.ez 1 1 (Int.ofNat i) bL=true:=fZ ae aB;have dm:=MQ i aB;have gS:=cv ae (n:=i) axs;obtain⟨b,vC⟩:=xU i aB;dsimp only[cP.st,eh]at vC;clear xU;generalize (k4[i]' axs)=pv at*;cases b with
      |true=>
       conv=>cbv
       repeat' ((first|refine bG ?_|refine bH ?_|simp -proj only[bU,b4,dm,MP,bh,a2,a3,bq,aR,bO]|(split<;>(rename_i h;try simp only[h])))<;>conv=>cbv)
       all_goals exact ao _ _ ⟨pv,e,.inl ⟨he,axr⟩,rfl⟩
      |false=>
       refine ai ?_;repeat' (split<;>refine ai ?_)
       all_goals exact fixF (i+1) aB
    .have bU:=f' ae aB;refine ai ?_;repeat' (split<;>refine ai ?_)
     all_goals exact ao _ _ ⟨0,e,.inl ⟨he,axr⟩,rfl⟩
   .have t1:ad.aF .eql 0 0=true:=by rw[(eX ae).1];rfl
    obtain⟨zs,rA,sv⟩:=ach ds bL vE axs MR.flat MS.flat;obtain⟨c1,c2,c3⟩:=bA.of ae MR.flat;obtain⟨d1,d2,d3⟩:=bA.of ae MS.flat;obtain⟨b0,b7,c7⟩:=bA.of ae (er ds);obtain⟨cT,c8,du⟩:=lD.of ae (C:=[]) (λe he=>by cases he);have xT:(zs.map int).length=zs.length:=azG _;have Af:∀i (h:i<zs.length),(zs.map int)[i]?=some (int zs[i]):=λi h=>dv h;have asO:vF []:=λe he=>by cases he
    obtain⟨cp,ac1⟩:∃cp,cp=bZ ds:=⟨_,rfl⟩;rw[<-ac1]at aj sv b0 b7 c7;unfold c6 at sv;dsimp only at aj;generalize zs.map int=Ag at*;have ta:ad.len Ag=bL:=by subst ae;exact xT.trans rA.len
    refine ai ?_;repeat' (split<;>refine ai ?_)
    refine⟨b6 (λz:Nat×List (Go.aJ.D×ag)=>asL ⟨L,t,bL,N,ps,ns,S,bL,ct,cu,cp,z.2⟩ (eA aE) (eA iU) Ag bL z.1) (λz=>z.1<=bL/\vF z.2) (λz=>bL-z.1),_,⟨(0,[]),⟨azF _,asO⟩,rfl,axr⟩,?_⟩;clear aj sv bU aB cT c8 du xU;rintro _ _ ⟨⟨k,es⟩,⟨au,kU⟩,rfl,rfl⟩;dsimp only at au kU⊢;obtain⟨cT,c8,du⟩:=lD.of ae kU.flat;by_cases aB:k<bL
    .have gB:k<l.length:=by omega
     first
     |exact absurd (h0 rfl▸gB) (aAM _)
     |skip
     all_goals
      have OA:=rA.len;have bU:=fS ae aB;have b4:ad.ez 1 1 (Int.ofNat k) bL=true:=fZ ae aB;have dm:=cV ae (Af k axs);have gS:=cv ae (n:=k) axs;obtain⟨i,dM,rv⟩:=xE (rA.all _ (azT (show k<zs.length by omega)));rw[rv]at dm;obtain⟨w1,dZ,iP⟩:=MO i axs;have bS:=qJ ae i 24;have ku:ad.lp (i*24) 0=i*24+0:=pI ae _ _;obtain⟨acQ,ry,mN⟩:=kU.put ae (l[i]' axs).n (int (Int.ofNat k));obtain⟨g',z2,z3⟩:=lD.of ae mN.flat;clear MO rv;generalize (l[i]' axs).n=nm at*;generalize i*24=aF at*;generalize aF+0=aw' at*;refine ai ?_;repeat' (split<;>refine ai ?_)
      all_goals exact fixF (k+1,acQ) ⟨aB,mN⟩
    .have bU:=f' ae aB;refine ai ?_;repeat' (split<;>refine ai ?_)
     all_goals exact ao _ _ ⟨0,0,.inr ⟨rfl,ct,cu,cp,es,⟨rfl,MR,MS,⟨ds,vE,ac1⟩,kU⟩,axr⟩,rfl⟩
end Go.Proofs.YtmgpekpnidjfoaaGreatDoor
