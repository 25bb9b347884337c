/- Part of parts_said. -/
import Derived.Test.YthffhbakgmemaaaGreatDoorB13
set_option maxRecDepth 100000
set_option maxHeartbeats 8000000
set_option linter.unusedSimpArgs false
set_option linter.unusedVariables false
namespace Go.Proofs.YthffhbakgmemaaaGreatDoor
open Go Go.aG
attribute [local irreducible] bD
structure lI(n B:Nat)(M:List ah):Prop where
 len:M.length=n
 get:∀i,i<n->∃l:List Int,(kR n l/\l.length<=B)/\M.getD i .undef=.own 1 (l.map int)
theorem lI.mono{n B a:Nat}{M:List ah}(h:lI n B M)(au:B<=a):lI n a M:=⟨h.len,λi d=>by
 obtain⟨l,⟨h1,f⟩,c⟩:=h.get i d;exact⟨l,⟨h1,az6⟩,c⟩⟩
theorem lI.flat{n B:Nat}{M:List ah}(h:lI n B M):Flat M:=λv d=>by
 obtain⟨i,c,rfl⟩:=aDJ d;obtain⟨l,_,a⟩:=h.get i (by rw[<-h.len];exact c);rw[aC4,aCB c]at a;exact .inr ⟨_,_,a⟩
theorem lI.nd{n B:Nat}{M:List ah}(h:lI n B M)(au:B<=1073741824):oO n M:=⟨h.len,h.flat,λi c=>by
 obtain⟨l,⟨h1,d⟩,a⟩:=h.get i c;exact⟨l,⟨h1,az6⟩,by rw[a];rfl⟩⟩
theorem lI.set{n B:Nat}{M:List ah}(h:lI n B M){d:Nat}(f:d<n){l:List Int}(a:kR n l/\l.length<=B){x:Int}(c:gp n x=true):lI n (B+1) (M.set d (.own 1 ((l++[x]).map int))):=⟨by rw[aDE];exact h.len,λi g=>by
 by_cases e:d=i
 .subst e;refine⟨l++[x],⟨λz aM=> ?_,by rw[aCF];show l.length+1<=_;omega⟩,by rw[aC4,aDf (by rw[h.len];exact f)];rfl⟩;rcases aC9.1 aM with aM|aM
  .exact a.1 z aM
  .rw[aCS.1 aM];exact c
 .obtain⟨j,⟨h1,k⟩,av⟩:=h.get i g;exact⟨j,⟨h1,az6⟩,aCo⟩⟩
theorem oO.set{n:Nat}{N:List ah}(h:oO n N){i:Nat}{l:List Int}(d:kR n l/\l.length<=1073741824):oO n (N.set i (.d (.list 1 (l.map int)))):=⟨by rw[aDE];exact h.len,λv a=>by
 rcases aD7 a with a|rfl
 .exact h.flat v a
 .exact .inl ⟨_,rfl⟩,λj c=>by
 by_cases e:i=j
 .subst e;exact⟨l,d,by rw[aC4,aDf (by rw[h.len];exact c)];rfl⟩
 .obtain⟨f,h1,av⟩:=h.get j c;exact⟨f,h1,aCo⟩⟩
def Bx(ls:List (List Int))(i:Nat)(N:List ah):Prop:=∀j l,j<i->ls[j]?=some l->∃z:List Int,N.getD j .undef=.d (.list 1 (z.map int))/\∀x,x∈z↔x∈l
theorem Bx.set{ls:List (List Int)}{i:Nat}{N:List ah}(h:Bx ls i N){l z:List Int}(c:ls[i]?=some l)(hi:i<N.length)(d:∀x,x∈z↔x∈l):Bx ls (i+1) (N.set i (.d (.list 1 (z.map int)))):=λj k g a=>by
 by_cases e:i=j
 .subst e;rw[c]at a;cases a;exact⟨z,by simp[hi],d⟩
 .obtain⟨y,h1,f⟩:=h j k az6 a;exact⟨y,by rw[aC4,aDb e,<-aC4];exact h1,f⟩
theorem auH(n:Nat):(List.replicate n [ah.own 1 []]).flatten=List.replicate n (.own 1 []):=az7
theorem aeX(n B:Nat):lI n B (List.replicate n (.own 1 [])):=⟨aEF,λi a=>⟨[],⟨λ_ h=>(aC5 h).elim,aCu _⟩,by rw[aC4,List.getElem?_replicate_of_lt a];rfl⟩⟩
theorem auI{n i:Nat}(h:i<n):gp n (Int.ofNat i)=true:=aCl
def auJ(N M D:List ah)(n:Nat)(a:List Go.aG.D)(k i:Nat):ag:=cA [(6,.ptr 4 0),(31,.d (.list 1 a)),(32,.d (int (Int.ofNat k))),(33,.d (int (Int.ofNat i)))] [.box N,.box M,.box D,.box [.aP 0 0 n n 1,.aP 1 0 n n 1,.aP 2 0 n n 1],.box [.ptr 3 0]]
def auK(N M D:List ah)(n:Nat)(a:List Go.aG.D)(k i:Nat)(Z:List Go.aG.D)(q j:Nat):ag:=cA [(6,.ptr 4 0),(7,.d (int (Int.ofNat i))),(31,.d (.list 1 a)),(32,.d (int (Int.ofNat k))),(33,.d (int (Int.ofNat i))),(57,.d (.list 1 Z)),(58,.d (int (Int.ofNat q))),(59,.d (int (Int.ofNat j)))] [.box N,.box M,.box D,.box [.aP 0 0 n n 1,.aP 1 0 n n 1,.aP 2 0 n n 1],.box [.ptr 3 0],.box [.d (.list 1 [])]]
def auL(N M D:List ah)(n:Nat)(a L:List Go.aG.D)(k i:Nat)(Z:List Go.aG.D)(q j:Nat):ag:=cA [(6,.ptr 4 0),(7,.d (int (Int.ofNat i))),(31,.d (.list 1 a)),(32,.d (int (Int.ofNat k))),(33,.d (int (Int.ofNat i))),(57,.d (.list 1 Z)),(58,.d (int (Int.ofNat q))),(59,.d (int (Int.ofNat j)))] [.box N,.box M,.box D,.box [.aP 0 0 n n 1,.aP 1 0 n n 1,.aP 2 0 n n 1],.box [.ptr 3 0],.box [.d (.list 1 L)],.dead]
set_option maxHeartbeats 40000000 in
theorem auM(n:Nat)(ls:List (List Int))(aq:n<=32)(aE:ls.length<=33554432)(r4:∀l∈ls,l.length<=33554432):∃r s,((∃e:Int,e≠0/\r=.tuple [.d .dJ,.d (int e)]/\s=[])\/(∃(N M:List ah) (g:List Int),(n<=1024/\g.length=n/\oO n N/\oO n M/\Bx ls ls.length N)/\r=.tuple [.ptr 3 0,.d (int 0)]/\s=[.box N,.box M,.box (b8 g),.box [.aP 0 0 n n 1,.aP 1 0 n n 1,.aP 2 0 n n 1],.box [.ptr 3 0]]))/\aL 103 [.d (int (Int.ofNat n)),.d (.list 1 (ls.map λl=>Go.aG.D.list 1 (l.map int)))] [] r s:=by
 have bx:(ls.map λl=>Go.aG.D.list 1 (l.map int)).length=ls.length:=aCv _;have bY:∀i (h:i<ls.length),(ls.map λl=>Go.aG.D.list 1 (l.map int))[i]?=some (.list 1 (ls[i].map int)):=λi h=>cY h;generalize (ls.map λl=>Go.aG.D.list 1 (l.map int))=F at*;refine WL.iX [0,1,2,6] _ λc ae aP u=> ?_;obtain⟨k,hk⟩:∃k,k=ls.length:=⟨_,rfl⟩;have t0:c.len F=k:=by subst ae;exact bx.trans hk.symm
 have q1:c.aB .lss (Int.ofNat n) 0=false:=by rw[(eS ae).2.1];exact aC3 λh=>by simp only[aCy]at h;omega
 have bG:c.aB .gtr (Int.ofNat n) 1024=decide (1024<n):=by
  rw[(eS ae).2.2.2];by_cases e:1024<n
  .rw[aCI e];exact aCI (aDN.2 e)
  .rw[aC3 e];exact aC3 λx=>e (aDN.1 x)
 by_cases ka:1024<n
 .rw[aCI ka]at bG;refine ak ?_;exact u _ _ (.inl ⟨_,az',rfl,az5⟩)
 rw[aC3 ka]at bG;by_cases X:n<k
 .have cM:=D9 ae X;refine ak ?_;exact u _ _ (.inl ⟨_,az',rfl,az5⟩)
 have cM:=D' ae X;have cb:c.wz (Int.ofNat n) 137438953472=true:=by
  subst ae;show(decide ((0:Int)<=Int.ofNat n)&&decide (Int.ofNat n<=137438953472))=true;simp only[aCy,aCx,aCA];omega
 have qE:c.wz (Int.ofNat n) 45812984490=true:=by
  subst ae;show(decide ((0:Int)<=Int.ofNat n)&&decide (Int.ofNat n<=45812984490))=true;simp only[aCy,aCx,aCA];omega
 have cp:c.ym n [.d (int 0)]=some (b8 (List.replicate n 0)):=by
  subst ae;show some (List.replicate n [ah.d (int 0)]).flatten=_;congr 1;unfold b8;rw[aFX];simp
 have cy:c.ym n [.own 1 []]=some (List.replicate n (.own 1 [])):=by
  subst ae;exact congrArg some (auH n)
 have Ih:=aeX n (0*33554432);have J:oO n (List.replicate n (.own 1 [])):=(aeX n 0).nd az6;obtain⟨g,w7,rj⟩:∃g,g=List.replicate n (0:Int)/\g.length=n:=⟨_,rfl,aEF⟩;rw[<-w7]at cp;clear w7;have cD:=ez g;generalize List.replicate n (ah.own 1 [])=aB at*;obtain⟨bp,a2,a3⟩:=aV.of ae J.flat;obtain⟨c1,c2,c3⟩:=aV.of ae cD;obtain⟨hl,z2,z3⟩:=HU ae;generalize aR:b8 g=D at*;conv=>cbv
 repeat' ((first|refine dD ?_|refine dE ?_|refine amX aAk ?_|refine amY aAk ?_|simp -proj only[t0,q1,bG,cM,qE,cb,cp,cy,bp,a2,a3,c1,c2,c3]|(split<;>(rename_i h;try simp only[h])))<;>conv=>cbv)
 refine⟨bX (λz:Nat×List ah×List ah=>auJ z.2.1 z.2.2 D n F k z.1) (λz=>z.1<=ls.length/\oO n z.2.1/\lI n (z.1*33554432) z.2.2/\Bx ls z.1 z.2.1) (λz=>ls.length-z.1),_,⟨(0,aB,aB),⟨aCu _,J,Ih,λ_ _ h=>absurd h (aDs _)⟩,rfl,az5⟩,?_⟩;clear qE cb cp cy q1 bG cM bp a2 a3 J Ih;rintro _ _ ⟨⟨i,N,M⟩,⟨hi,b4,ck,B⟩,rfl,rfl⟩;dsimp only at hi b4 ck B⊢;obtain⟨bp,a2,a3⟩:=aV.of ae b4.flat;obtain⟨bq,aT,b3⟩:=aV.of ae ck.flat;by_cases o:i<k
 .have t1:=ek ae o;replace o:i<ls.length:=by omega
  have t3:=cH ae (bY i o);have t6:=b9 ae (n:=i) az6;have ot:=r4 _ (aCC o);have Y:ls[i]?=some ls[i]:=aCB o;generalize ls[i]=l at*;obtain⟨b,au,aj⟩:=asJ (N:=N) (M:=M) (D:=D) n l az6 b4.flat ck.flat cD;have aC:=atj (l.map int);unfold cv at aj;cases b with
  |true=>
   generalize l.map int=L at*;refine ak ?_;exact u _ _ (.inl ⟨_,az',rfl,az5⟩)
  |false=>
   have jX:=au rfl;cases l with
   |nil=>
    obtain⟨a,Fa,G,S⟩:∃a:List Int,a.length<=33554432/\kR n a/\a=[]:=⟨[],aCu _,(λ_ h=>(aC5 h).elim),rfl⟩;have v:∀x,x∈a↔x∈([]:List Int):=λ_=>by rw[S]
    have aX:=atn;have bR:=atq;replace aj:bD _ _ _ [.d (.list 1 []),_] _ _ _:=aj;replace aC:bD _ _ _ [.d (.list 1 [])] _ _ _:=aC;replace t3:_=Go.aG.D.list 1 []:=t3;have sH:Go.aG.D.list 1 []=.list 1 (a.map int):=by rw[S];rfl
    have di:i<n:=az6;have K:=B.set Y (by rw[b4.len];omega) v;obtain⟨fw,eY,fa⟩:c.dS 1 1 (Int.ofNat i) n=true/\c.la 0 (Int.ofNat i) 1=i/\c.lE true i 1 N true=true:=⟨e7 ae di,l8 ae i,wT ae (by rw[b4.len];exact di)⟩;have fG:c.kN N i [.d (.list 1 (a.map int))]=some (N.set i (.d (.list 1 (a.map int)))):=tz ae _ _ _;have p:=b4.set (i:=i) (l:=a) ⟨G,az6⟩;have g':c.ha i 1 (N.set i (.d (.list 1 (a.map int)))) true=true:=tw ae (by rw[p.len];exact di);have lb:c.kM (N.set i (.d (.list 1 (a.map int)))) i=.d (.list 1 (a.map int)):=yN ae aCp;obtain⟨bP,bZ,cx⟩:=aV.of ae p.flat;have U:(a.map int).length=a.length:=aCv _;have V:∀j (h:j<a.length),(a.map int)[j]?=some (int a[j]):=λj h=>cY h;generalize N.set i (.d (.list 1 (a.map int)))=w at*;generalize a.map int=Z at*;obtain⟨q,aS⟩:∃q,q=a.length:=⟨_,rfl⟩;have t4:c.len Z=q:=by subst ae;exact U.trans aS.symm
    have aU:Z=[]:=by injection sH with _ h;exact h.symm
    subst aU;refine ak ?_;clear bp a2 a3;obtain⟨bp,a2,a3⟩:=And.intro bP (And.intro bZ cx);refine⟨bX (λz:Nat×List ah=>auK w z.2 D n F k i [] q z.1) (λz=>z.1<=a.length/\lI n (i*33554432+z.1) z.2) (λz=>a.length-z.1),_,⟨(0,M),⟨aCu _,aCq⟩,rfl,az5⟩,?_⟩;clear ck bq aT b3;rintro _ _ ⟨⟨j,M⟩,⟨Q,ck⟩,rfl,rfl⟩;dsimp only at Q ck⊢;obtain⟨bq,aT,b3⟩:=aV.of ae ck.flat;by_cases A:j<q
    .exact absurd A (by rw[aS,S];exact aDs _)
    .have t1:=en ae A;have P:lI n ((i+1)*33554432) M:=ck.mono az6;refine ak ?_;exact fixF (i+1,w,M) ⟨o,p,P,K⟩
   |cons x l=>
    have gk:(x::l).length=l.length+1:=rfl;obtain⟨zs,hp,aX⟩:=ato (x::l) l.length gk az6;have z6:tC (l.length+1) n zs:=⟨hp.length_eq.trans gk,λz aM=>jX z (hp.mem_iff.1 aM)⟩;obtain⟨a,⟨Fa,G,v⟩,bR⟩:=att (l.length+1) n zs z6 az6 az6;replace v:=λz=>(v z).trans hp.mem_iff;replace Fa:a.length<=33554432:=by omega
    have aN:=ez zs;obtain⟨v1,v2,v3⟩:=aV.of ae aN;clear aN hp z6;generalize b8 zs=C at*;generalize (x::l).map int=L at*;generalize l.length+1=m at*;have di:i<n:=az6;have K:=B.set Y (by rw[b4.len];omega) v;obtain⟨fw,eY,fa⟩:c.dS 1 1 (Int.ofNat i) n=true/\c.la 0 (Int.ofNat i) 1=i/\c.lE true i 1 N true=true:=⟨e7 ae di,l8 ae i,wT ae (by rw[b4.len];exact di)⟩;have fG:c.kN N i [.d (.list 1 (a.map int))]=some (N.set i (.d (.list 1 (a.map int)))):=tz ae _ _ _;have p:=b4.set (i:=i) (l:=a) ⟨G,az6⟩;have g':c.ha i 1 (N.set i (.d (.list 1 (a.map int)))) true=true:=tw ae (by rw[p.len];exact di);have lb:c.kM (N.set i (.d (.list 1 (a.map int)))) i=.d (.list 1 (a.map int)):=yN ae aCp;obtain⟨bP,bZ,cx⟩:=aV.of ae p.flat;have U:(a.map int).length=a.length:=aCv _;have V:∀j (h:j<a.length),(a.map int)[j]?=some (int a[j]):=λj h=>cY h;generalize N.set i (.d (.list 1 (a.map int)))=w at*;generalize a.map int=Z at*;obtain⟨q,aS⟩:∃q,q=a.length:=⟨_,rfl⟩;have t4:c.len Z=q:=by subst ae;exact U.trans aS.symm
    refine ak ?_;clear bp a2 a3;obtain⟨bp,a2,a3⟩:=And.intro bP (And.intro bZ cx);refine⟨bX (λz:Nat×List ah=>auL w z.2 D n F L k i Z q z.1) (λz=>z.1<=a.length/\lI n (i*33554432+z.1) z.2) (λz=>a.length-z.1),_,⟨(0,M),⟨aCu _,aCq⟩,rfl,az5⟩,?_⟩;clear ck bq aT b3;rintro _ _ ⟨⟨j,M⟩,⟨Q,ck⟩,rfl,rfl⟩;dsimp only at Q ck⊢;obtain⟨bq,aT,b3⟩:=aV.of ae ck.flat;by_cases A:j<q
    .have t1:=ek ae A;have t2:=b9 ae (n:=j) az6;obtain⟨d,H,HV⟩:=pC (G _ (aCC (show j<a.length by omega)));have t3:c.get Z (Int.ofNat j)=int (Int.ofNat d):=cH ae (by rw[V j az6,HV]);obtain⟨f,R,fk⟩:=ck.get d H;have aZ:(f.map int).length=f.length:=aCv _;have aQ:=ck.len;have ai:=ck.set H R (auI di);have fw:c.dS 1 1 (Int.ofNat d) n=true:=e7 ae H;have eY:=l8 ae d;have fa:c.AL d M=true:=by subst ae;show Nat.blt d M.length=true;rw[aQ];exact aDG H
     obtain⟨t,E⟩:∃t,t=M.set d .undef:=⟨_,rfl⟩;have fG:c.Dg M d=some t:=by subst ae;rw[E];rfl
     have g':c.Df M d=.own 1 (f.map int):=by subst ae;exact fk
     have lb:c.lE true d 1 t true=true:=wT ae (by rw[E,aDE];omega);have xZ:c.app (f.map int) [int (Int.ofNat i)]=(f++[Int.ofNat i]).map int:=by subst ae;rw[aCR];rfl
     have hD:c.kN t d [.own 1 (c.app (f.map int) [int (Int.ofNat i)])]=some (M.set d (.own 1 ((f++[Int.ofNat i]).map int))):=by rw[tz ae,E,xZ,aFu]
     obtain⟨w1,b5,eG⟩:=aV.of ae ai.flat;have bg:f.length<=2000000000:=by have:=R.2;have:i*33554432<=32*33554432:=aDi _ az6;omega
     clear xZ E fk R ck;generalize f.map int=jv at*;generalize M.set d (.own 1 ((f++[Int.ofNat i]).map int))=M2 at*;refine ak ?_;exact fixF (j+1,M2) ⟨by show j+1<=a.length;omega,by show lI n (i*33554432+(j+1)) M2;rw[<-aEg];exact ai⟩
    .have t1:=en ae A;have P:lI n ((i+1)*33554432) M:=ck.mono az6;refine ak ?_;exact fixF (i+1,w,M) ⟨o,p,P,K⟩
 .have t1:=en ae o;have ar:=ck.nd (by have:i*33554432<=32*33554432:=aDi _ az6;omega);obtain⟨b,iZ,k7,aj⟩:=atx n az6 b4 ar g rj;rw[aR]at aj;have rZ:=ez iZ;obtain⟨w1,b5,eG⟩:=aV.of ae rZ;have H4:∀s,s=[.box N,.box M,.box (b8 iZ),.box [.aP 0 0 n n 1,.aP 1 0 n n 1,.aP 2 0 n n 1],.box [.ptr 3 0]]->aP (.tuple [.ptr 3 0,.d (int 0)]) s:=λs h=>u _ _ (.inr ⟨N,M,iZ,⟨az6,k7,b4,ar,λj l h=>B j l az6⟩,rfl,h⟩);unfold cv at aj;generalize b8 iZ=rY at*;cases b with
  |false=>
   refine ak ?_;exact u _ _ (.inl ⟨_,az',rfl,az5⟩)
  |true=>
   refine ak ?_;exact H4 _ az5
def w8(s:ax):Go.aG.D->Bool
 |.str t=>decide (s=t)
 |_=>false
def lJ(s:ax):List (Go.aG.D×ah)->Option ah
 |[]=>none
 |e::es=>if w8 s e.1 then some e.2 else lJ s es
def cK(s:ax)(v:ah):List (Go.aG.D×ah)->List (Go.aG.D×ah)
 |[]=>[(.str s,v)]
 |e::es=>if w8 s e.1 then(.str s,v)::es else e::cK s v es
theorem Ol(s:ax)(v:ah)(t:ax):∀es,lJ t (cK s v es)=if t=s then some v else lJ t es
 |[]=>by simp[lJ,cK,w8]
 |e::es=>by
  have c:=Ol s v t es;have d:w8 s e.1=true->w8 t e.1=true->t=s:=by cases e.1<;>grind[w8]
  have a:w8 t (.str s)=decide (t=s):=rfl;unfold cK;split
  .simp only[lJ,a];grind
  .simp only[lJ,c];grind
theorem Im(s:ax)(v:ah):∀(es:List (Go.aG.D×ah)) (i:Nat),(∀e∈es,∃t,e.1=.str t)->
  (e4 false [2] (.str s) es i=some none/\lJ s es=none/\es++[(.str s,v)]=cK s v es)\/∃j e,e4 false [2] (.str s) es i=some (some (i+j))/\es[j]?=some e/\lJ s es=some e.2/\es.set j (.str s,v)=cK s v es
 |[],i,_=>.inl ⟨rfl,rfl,rfl⟩
 |e::es,i,h=>by
  obtain⟨t,f⟩:=h e aDa;obtain⟨k,x⟩:=e;subst f;have bB:e4 false [2] (.str s) ((.str t,x)::es) i=match some (decide (s=t)&&true)with|some true=>some (some i)|some false=>e4 false [2] (.str s) es (i+1)|none=>none:=rfl
  have a:w8 s (.str t)=decide (s=t):=rfl;by_cases d:s=t
  .subst d;rw[aCI rfl]at a bB;exact .inr ⟨0,_,bB,rfl,by simp[lJ,a],by simp[cK,a]⟩
  .simp only[d,decide_false,Bool.false_and]at bB a;rw[bB];rcases Im s v es (i+1) λe g=>h e (aDu _ g)with c|⟨j,e,c⟩
   .left;simp[lJ,cK,a,c]
   .exact .inr ⟨j+1,e,by rw[c.1];congr 2;omega,c.2.1,by simp[lJ,a,c],by simp[cK,a,c]⟩
theorem azC{a:bd}(c:a=bd.bU)(s:ax){es:List (Go.aG.D×ah)}(h:∀e∈es,∃t,e.1=.str t):a.yr false [2] (.str s) es=some (lJ s es):=by
 subst c;show tc false [2] (.str s) es=_;unfold tc;rcases Im s .undef es 0 h with h1|⟨j,e,h1,d,f,_⟩
 .simp[h1]
 .rw[h1];simp[d,f]
theorem auP{a:bd}(d:a=bd.bU)(s:ax)(v:ah){es:List (Go.aG.D×ah)}(h:∀e∈es,∃t,e.1=.str t):a.yt false [2] (.str s) v es=some (cK s v es):=by
 subst d;show rL false [2] (.str s) v es=_;unfold rL;rcases Im s v es 0 h with h1|⟨j,e,h1,f,g,c⟩
 .rw[h1.1,<-h1.2.2];rfl
 .rw[h1,<-c];simp[nI]
def qN(es:List (Go.aG.D×ah)):Prop:=∀e∈es,(∃t,e.1=.str t)/\∃x,e.2=.d (int x)
theorem qN.flat{es:List (Go.aG.D×ah)}(h:qN es):po es:=λe a=>⟨_,(h e a).2.choose_spec⟩
theorem qN.put{c:bd}(d:c=bd.bU){es:List (Go.aG.D×ah)}(h:qN es)(s:ax)(x:Int):∃a,c.yt false [2] (.str s) (.d (int x)) es=some a/\qN a:=by
 subst d;show ∃a,rL false [2] (.str s) (.d (int x)) es=some a/\_;unfold rL;rcases Dm s es 0 (λe he=>(h e he).1)with h1|⟨j,h1,f⟩
 .rw[h1];refine⟨_,rfl,λe he=> ?_⟩;rcases aC9.1 he with he|he
  .exact h e he
  .cases aCS.1 he;exact⟨⟨s,rfl⟩,_,rfl⟩
 .rw[f];refine⟨_,rfl,λe he=> ?_⟩;rcases aD7 he with he|rfl
  .exact h e he
  .exact⟨⟨s,rfl⟩,_,rfl⟩
def auQ(c:Bool)(a:Nat):ah:=cond c (.aP 1 0 a a 24) (.d (.list 24 []))
def bw.Io(m:bw):Bool->Bool->aY
 |true,true=>[dc m.L m.t m.ps (.aP 1 0 m.bf m.bf 24) (.aP 2 0 m.ns m.ns 12) (.ptr 6 0) (.map 8),.box m.N,.box m.S,.box m.bI,.box m.bJ,.box m.bH,.box (cv 3 4 5 m.gn),.box [.ptr 6 0],.map m.P]
 |true,false=>[dc m.L m.t m.ps (.aP 1 0 m.bf m.bf 24) (.own 12 []) (.ptr 5 0) (.map 7),.box m.N,.box m.bI,.box m.bJ,.box m.bH,.box (cv 2 3 4 m.gn),.box [.ptr 5 0],.map m.P]
 |false,true=>[dc m.L m.t m.ps (.own 24 []) (.aP 1 0 m.ns m.ns 12) (.ptr 5 0) (.map 7),.box m.S,.box m.bI,.box m.bJ,.box m.bH,.box (cv 2 3 4 m.gn),.box [.ptr 5 0],.map m.P]
 |false,false=>[dc m.L m.t m.ps (.own 24 []) (.own 12 []) (.ptr 4 0) (.map 6),.box m.bI,.box m.bJ,.box m.bH,.box (cv 1 2 3 m.gn),.box [.ptr 4 0],.map m.P]
def ae2:Bool->Bool->List Nat
 |true,true=>[1,2,3,4,5,8]
 |true,false=>[1,2,3,4,7]
 |false,true=>[1,2,3,4,7]
 |false,false=>[1,2,3,6]
structure tF(n:Nat)(m:bw):Prop where
 gn:m.gn=n
 bI:oO n m.bI
 bJ:oO n m.bJ
 bH:∃ds:List Int,ds.length=n/\m.bH=b8 ds
 P:qN m.P
def Bz(l:List b1):Prop:=∀i j (c:i<l.length) (a:j<l.length),l[i].n=l[j].n->i=j
structure BA(l:List b1)(zs:List Int)(k:Nat)(es:List (Go.aG.D×ah)):Prop where
 a:Bz l->∀j i (h:i<l.length),j<k->zs[j]?=some (Int.ofNat i)->lJ l[i].n es=some (.d (int (Int.ofNat j)))
 b:∀s,(∀x∈l,x.n≠s)->lJ s es=none
theorem BA.put{l:List b1}{zs:List Int}{k:Nat}{es:List (Go.aG.D×ah)}(h:BA l zs k es)(f:zs.Nodup){i:Nat}(hi:i<l.length)(a:zs[k]?=some (Int.ofNat i)):BA l zs (k+1) (cK l[i].n (.d (int (Int.ofNat k))) es):=⟨λc j p hp g aS=>by
 rw[Ol];split
 .rename_i aq;have:=c _ _ _ _ aq;subst this;have:=(List.getElem?_inj (aDA.1 a).1 f).1 (a.trans aS.symm);rw[this]
 .exact h.a c j p hp az9 aS,λs d=>by rw[Ol,aCV λe=>d _ (aCC hi) e.symm];exact h.b s d⟩
structure Ek(n:Nat)(l:List b1)(m:bw):Prop where
 ne:Bx (l.map (nD l)) (l.map (nD l)).length m.bI
 ae3:∃zs,hq n (iota n) zs/\aL 24 [.ptr 0 0] [.box (cv 1 2 3 n),.box m.bI,.box m.bJ,.box m.bH] (.d (.list 1 (zs.map int))) [.box (cv 1 2 3 n),.box m.bI,.box m.bJ,.box m.bH]/\BA l zs n m.P
def auR(m:bw)(a c:Bool)(q j:Nat)(R:List Go.aG.D):ag:=cA [(0,.ptr 0 0),(4,.own 1 R),(15,auQ a m.bf),(16,.d (int (Int.ofNat q))),(17,.d (int (Int.ofNat j)))] (m.st a c false)
def auS(m:bw)(a c:Bool)(q j:Nat)(R:List Go.aG.D)(e:Int):ag:=cA [(0,.ptr 0 0),(4,.own 1 R),(8,.d (int e)),(74,.d (int (Int.ofNat q))),(75,.d (int (Int.ofNat j)))] (m.st a c false)
def auT(m:bw)(a c:Bool)(Z:List Go.aG.D)(q j:Nat):ag:=cA [(0,.ptr 0 0),(49,.d (.list 1 Z)),(50,.d (int (Int.ofNat q))),(51,.d (int (Int.ofNat j)))] (m.Io a c)
theorem auU(m:bw)(B:m.Ok)(aq hs:Bool)(l:List b1)(t:m.N=gB l)(u:l.length=m.bf)(au:m.bf<=32)(bB:aq=false->l=[])(F:List Int)(gM:m.ps=F.map int)(iC:F.length=m.bf)(e8:∀y∈l,y.bV.length<=33554432):
  ∃(a e:Int) (s:aY),((e≠0/\s=m.st aq hs false)\/(e=0/\∃(bI bJ bH:List ah) (P:List (Go.aG.D×ah)),(tF m.bf {m with gn:=m.bf,bI:=bI,bJ:=bJ,bH:=bH,P:=P}/\Ek m.bf l {m with gn:=m.bf,bI:=bI,bJ:=bJ,bH:=bH,P:=P})/\s=({m with gn:=m.bf,bI:=bI,bJ:=bJ,bH:=bH,P:=P}:bw).Io aq hs))/\aL 68 [.ptr 0 0] (m.st aq hs false) (.tuple [.d (int a),.d (int e)]) s:=by
 suffices h:∃ar s',(∃(a e:Int),((e≠0/\s'=m.st aq hs false)\/(e=0/\∃(bI bJ bH:List ah) (P:List (Go.aG.D×ah)),(tF m.bf {m with gn:=m.bf,bI:=bI,bJ:=bJ,bH:=bH,P:=P}/\Ek m.bf l {m with gn:=m.bf,bI:=bI,bJ:=bJ,bH:=bH,P:=P})/\s'=({m with gn:=m.bf,bI:=bI,bJ:=bJ,bH:=bH,P:=P}:bw).Io aq hs))/\ar=.tuple [.d (int a),.d (int e)])/\aL 68 [.ptr 0 0] (m.st aq hs false) ar s' by
  obtain⟨_,s,⟨a,e,h1,rfl⟩,h⟩:=h;exact⟨a,e,s,h1,h⟩
 have H:=λ(j:Nat) (f:j<l.length)=>auA m B hs l t u az6 l[j] (by have:=e8 _ (aCC f);omega);have G:∀x∈l.map (nD l),kR m.bf x/\x.length<=33554432:=λx Y=>by
  obtain⟨y,aQ,rfl⟩:=aCY.1 Y;refine⟨λz aM=> ?_,by unfold nD;rw[aCv];exact e8 y aQ⟩;obtain⟨aZ,_,rfl⟩:=aCY.1 aM;rw[<-u];exact auB (List.length_pos_of_mem aQ) _
 have aP:(l.map (nD l)).length=m.bf:=by rw[aCv];exact u
 obtain⟨ar,s,aA,aj⟩:=auM m.bf (l.map (nD l)) az6 az6 λx Y=>(G x Y).2;have r:=λ(i:Nat) (hi:i<m.bf)=>auE m B hs (l.map (nD l)) m.bf aP au G i hi;obtain⟨L,aN,bf,N,ps,ns,S,gn,bI,bJ,bH,P⟩:=m;dsimp only at t u au gM iC aP aj r G H;have J:∀j (h:j<l.length),((l.take (j+1)).map λx=>Go.aG.D.list 1 ((nD l x).map int))=((l.take j).map λx=>Go.aG.D.list 1 ((nD l x).map int))++[.list 1 ((nD l l[j]).map int)]:=λj h=>by
  rw[aDg,aCB h,aCR];rfl
 have K:((l.map (nD l)).map λx=>Go.aG.D.list 1 (x.map int))=l.map λx=>Go.aG.D.list 1 ((nD l x).map int):=aBw;rw[K]at aj;simp only[K]at r;clear K;refine aax.iX (ae2 aq hs) _ λc ae bC A=> ?_;obtain⟨bp,a2,a3⟩:=aV.of ae B.N;obtain⟨bq,aT,b3⟩:=aV.of ae B.S;dsimp only at bp a2 a3 bq aT b3;have bg:aq=false->bf=0:=λh=>by rw[<-u,bB h];rfl
 have r0:aq=false->c.len []=bf:=λh=>by subst ae;rw[bg h];rfl
 have M:∀j (f:j<l.length),c.dS 24 24 (Int.ofNat j) bf=true/\c.ha (j*24) 24 N true=true/\c.l0 N (j*24) 24=.d (.agg l[j].c24.cs):=λj f=>⟨e7 ae az6,by rw[t];exact r1 ae f (j:=0) (n:=24) az',by rw[t];exact HW ae f⟩;have Q:∀j (f:j<l.length),c.dS 24 24 (Int.ofNat j) bf=true/\c.ha (j*24+0) 1 N true=true/\c.kM N (j*24+0)=.d (.str l[j].n):=λj f=>⟨e7 ae az6,by rw[t];exact r1 ae f az',by rw[t];exact Ef ae f az' rfl⟩;have Ot:c.len ps=bf:=aCr;have Ou:∀i (h:i<bf),c.get ps (Int.ofNat i)=int (F[i]'(by rw[iC];exact h)):=λi h=>cH ae aCs;have X:h6 aq:=trivial;have fy:h6 hs:=trivial;cases aq<;>cases hs;all_goals
  dsimp only[bw.st,ae2,dc]at A⊢;refine ak ?_;refine⟨bX (λz:Nat×List Go.aG.D=>auR ⟨L,aN,bf,N,ps,ns,S,gn,bI,bJ,bH,P⟩ (dj X) (dj fy) bf z.1 z.2) (λz=>z.1<=bf/\z.2=(l.take z.1).map λx=>Go.aG.D.list 1 ((nD l x).map int)) (λz=>bf-z.1),_,⟨(0,[]),⟨aCu _,rfl⟩,rfl,az5⟩,?_⟩;rintro _ _ ⟨⟨j,R⟩,⟨f,bK⟩,rfl,rfl⟩;dsimp only at f bK⊢;by_cases d:j<bf
  .have p:j<l.length:=by omega
   first
   |exact absurd (bB rfl▸p) (aDs _)
   |skip
   all_goals
    have b7:=ek ae d;have jj:=b9 ae (n:=j) az6;obtain⟨w1,eG,jw⟩:=M j p;have b5:=kf ae j 24;have bm:=H j p;dsimp only[bw.st,dc]at bm;have iu:=J j p;rw[<-bK]at iu;have oa:R.length<=1024:=by rw[bK,aCv,aDk];omega
    have mu:∀x,c.app R x=R++x:=λx=>aAc;rw[<-mu]at iu;clear H r aj J M Q G mu;generalize (nD l l[j]).map int=bn at*;generalize l[j].c24=aZ at*;obtain⟨n,s2,r3,Bt,H7,H8,jR,⟨c1,c2,r2,c4,c5,eA,bQ,eQ,c9,e1,eR,bE,eD,eE,eF,bz⟩,bN⟩:=aZ;generalize j*24=N4 at*;refine ak ?_;exact fixF (j+1,c.app R [.list 1 bn]) ⟨d,iu.symm⟩
  .have b7:=en ae d;rw[aDd az6]at bK;rw[<-bK]at aj;simp only[<-bK]at r;have oa:R.length<=1024:=aAX;clear J H M bK;rcases aA with⟨e,o,rfl,rfl⟩|⟨bI,bJ,ds,⟨_,w7,U,V,mQ⟩,rfl,rfl⟩
   .have t1:c.aB .eql e 0=false:=by rw[(eS ae).1];exact aC3 o
    refine ak ?_;refine⟨bX (λi:Nat=>auS ⟨L,aN,bf,N,ps,ns,S,gn,bI,bJ,bH,P⟩ (dj X) (dj fy) bf i R e) (λi=>i<=bf) (λi=>bf-i),_,⟨0,aCu _,rfl,az5⟩,?_⟩;clear aj b7 d;rintro _ _ ⟨i,hi,rfl,rfl⟩;dsimp only at hi⊢;by_cases d:i<bf
    .have p:i<l.length:=by omega
     first
     |exact absurd (bB rfl▸p) (aDs _)
     |skip
     all_goals
      have b7:=ek ae d;have cq:c.dS 1 1 (Int.ofNat i) bf=true:=e7 ae d;have dG:=Ou i d;have jj:=b9 ae (n:=i) az6;obtain⟨b,w5⟩:=r i d;dsimp only[bw.st,dc]at w5;clear r;generalize (F[i]' az6)=sx at*;cases b with
      |true=>
       conv=>cbv
       repeat' ((first|refine dD ?_|refine dE ?_|simp -proj only[b7,cq,dG,Ot,bp,a2,a3,bq,aT,b3]|(split<;>(rename_i h;try simp only[h])))<;>conv=>cbv)
       exact A _ _ ⟨sx,e,.inl ⟨o,az5⟩,rfl⟩
      |false=>
       refine ak ?_;exact fixF (i+1) d
    .have b7:=en ae d;refine ak ?_;exact A _ _ ⟨0,e,.inl ⟨o,az5⟩,rfl⟩
   .have t1:c.aB .eql 0 0=true:=by rw[(eS ae).1];rfl
    obtain⟨g,w,E⟩:=ael ds bf w7 az6 U.flat V.flat;obtain⟨c1,c2,c3⟩:=aV.of ae U.flat;obtain⟨d1,d2,d3⟩:=aV.of ae V.flat;obtain⟨bP,bZ,cx⟩:=aV.of ae (ez ds);obtain⟨cb,cp,cy⟩:=fU.of ae (C:=[]) (λe o=>by cases o);have y4:(g.map int).length=g.length:=aCv _;have By:∀i (h:i<g.length),(g.map int)[i]?=some (int g[i]):=λi h=>cY h;have br:qN []:=λe o=>by cases o
    obtain⟨bH,aR⟩:∃bH,bH=b8 ds:=⟨_,rfl⟩;rw[<-aR]at aj E bP bZ cx;have bt:=E;have y3:BA l g 0 []:=⟨λ_ _ _ _ h=>absurd h (aDs _),λ_ _=>rfl⟩;have bu:g.Nodup:=w.perm.nodup_iff.2 (aGl _ (λ_ _ h e=>h (aEG e)) List.nodup_range);unfold cv at E;dsimp only at aj;generalize bk:g.map int=kS at*;have uB:c.len kS=bf:=by subst ae;exact y4.trans w.len
    refine ak ?_;refine⟨bX (λz:Nat×List (Go.aG.D×ah)=>auT ⟨L,aN,bf,N,ps,ns,S,bf,bI,bJ,bH,z.2⟩ (dj X) (dj fy) kS bf z.1) (λz=>z.1<=bf/\qN z.2/\BA l g z.1 z.2) (λz=>bf-z.1),_,⟨(0,[]),⟨aCu _,br,y3⟩,rfl,az5⟩,?_⟩;clear aj E b7 d cb cp cy r;rintro _ _ ⟨⟨k,es⟩,⟨hk,v,Z⟩,rfl,rfl⟩;dsimp only at hk v Z⊢;obtain⟨cb,cp,cy⟩:=fU.of ae v.flat;by_cases d:k<bf
    .have p:k<l.length:=by omega
     first
     |exact absurd (bB rfl▸p) (aDs _)
     |skip
     all_goals
      have oy:=w.len;have b7:=ek ae d;have cq:c.dS 1 1 (Int.ofNat k) bf=true:=e7 ae d;have dG:=cH ae (By k az6);have jj:=b9 ae (n:=k) az6;obtain⟨i,di,jE⟩:=pC (w.all _ (aCC (show k<g.length by omega)));rw[jE]at dG;obtain⟨w1,eG,jw⟩:=Q i az6;have b5:=kf ae i 24;have ni:c.l3 (i*24) 0=i*24+0:=qt ae _ _;obtain⟨bh,re,aU⟩:=v.put ae (l[i]' az6).n (Int.ofNat k);have s7:=Z.put bu (i:=i) az6 (by rw[<-jE];exact aCB _);rw[<-aDM (re.symm.trans (auP ae _ _ λe o=>(v e o).1))]at s7;obtain⟨hl,z2,z3⟩:=fU.of ae aU.flat;clear Q jE;generalize (l[i]' az6).n=nm at*;generalize i*24=aB at*;generalize aB+0=bM at*;refine ak ?_;exact fixF (k+1,bh) ⟨d,aU,s7⟩
    .have b7:=en ae d;refine ak ?_;exact A _ _ ⟨0,0,.inr ⟨rfl,bI,bJ,bH,es,⟨⟨rfl,U,V,⟨ds,w7,aR⟩,v⟩,mQ,g,w,by rw[bk];exact bt,(show k=bf by omega)▸Z⟩,az5⟩,rfl⟩
end Go.Proofs.YthffhbakgmemaaaGreatDoor
