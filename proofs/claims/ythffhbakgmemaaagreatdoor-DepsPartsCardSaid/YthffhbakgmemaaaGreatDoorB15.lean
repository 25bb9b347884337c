/- Part of parts_said. -/
import Derived.Test.YthffhbakgmemaaaGreatDoorB14
set_option maxRecDepth 100000
set_option maxHeartbeats 8000000
set_option linter.unusedSimpArgs false
set_option linter.unusedVariables false
namespace Go.Proofs.YthffhbakgmemaaaGreatDoor
open Go Go.aG
attribute [local irreducible] bD
theorem au1{a:bd}(h:a=bd.bU){l:List b1}{i:Nat}(hi:i<l.length)(bm:List (ax×Int)):a.lE true (i*24+2) 1 (gB l) true=true/\a.kN (gB l) (i*24+2) [.d (.list 2 (bm.map bF))]=some (gB (l.set i {l[i]with bm:=bm})):=by
 have c:i<(wY l).length:=aBV;refine⟨G1 h (yY l) c az',?_⟩;unfold gB;rw[G2 h (yY l) c (by show 2+1<=24;omega),Ed];unfold wY;rw[aFh];rfl
theorem au2{a:bd}(h:a=bd.bU){l:List b1}{i:Nat}(hi:i<l.length):a.l0 (gB l) (i*24+7) 16=.d (.agg l[i].pl.bz.cs):=by
 unfold gB;rw[Um h (yY l) aBV az',Ed];rfl
def b1.key(x:b1):b1:={x with bm:=[]}
abbrev vu(l a:List b1):Prop:=a.map b1.key=l.map b1.key/\∀y∈a,y.bm.length<=1073741824
def au3(m:bw)(a c:Bool)(Z:List Go.aG.D)(q k:Nat):ag:=cA [(0,.ptr 0 0),(18,.d (.list 1 Z)),(19,.d (int (Int.ofNat q))),(20,.d (int (Int.ofNat k)))] (m.st a c true)
def au4(m:bw)(c f:Bool)(Z:List Go.aG.D)(q k i a:Nat)(R g:List Go.aG.D)(d j:Nat):ag:=cA [(0,.ptr 0 0),(5,.d (int (Int.ofNat i))),(6,.ptr 1 a),(7,.own 3 R),(18,.d (.list 1 Z)),(19,.d (int (Int.ofNat q))),(20,.d (int (Int.ofNat k))),(37,.d (.list 4 g)),(38,.d (int (Int.ofNat d))),(39,.d (int (Int.ofNat j)))] (m.st c f true)
theorem au5(m:bw)(M:m.Ok)(aq hs:Bool)(l:List b1)(b4:m.N=gB l)(aE:l.length=m.bf)(au:m.bf<=32)(bB:aq=false->l=[])(lK:List Int)(gM:m.ps=lK.map int)(iC:lK.length=m.bf)(e8:∀y∈l,y.bV.length<=33554432)(hw:∀y∈l,y.pl.w<=dr)(bk:∀y∈l,y.bm.length<=1073741824)(jy:tF m.bf m):
  ∃(a e:Int) (c:List b1),vu l c/\aL 69 [.ptr 0 0] (m.st aq hs true) (.tuple [.d (int a),.d (int e)]) (({m with N:=gB c}:bw).st aq hs true):=by
 suffices h:∃aZ R,(∃(a e:Int) (c:List b1),vu l c/\aZ=.tuple [.d (int a),.d (int e)]/\R=({m with N:=gB c}:bw).st aq hs true)/\aL 69 [.ptr 0 0] (m.st aq hs true) aZ R by
  obtain⟨_,_,⟨a,e,c,h1,rfl,rfl⟩,h⟩:=h;exact⟨a,e,c,h1,h⟩
 obtain⟨ai,aP,bf,N,ps,ns,aN,gn,bI,bJ,bH,ar⟩:=m;obtain⟨g1,g2,g3,⟨ds,w7,g4⟩,g5⟩:=jy;dsimp only at b4 aE au gM iC g1 g2 g3 w7 g4 g5;subst g1;refine WA.iX (dP aq hs true) _ λd ae bh U=> ?_;replace U:∀(a e:Int) (c:List b1) (R:aY),vu l c->R=(⟨ai,aP,gn,gB c,ps,ns,aN,gn,bI,bJ,bH,ar⟩:bw).st aq hs true->bh (.tuple [.d (int a),.d (int e)]) R:=λa e y R h1 af=>U _ _ ⟨a,e,y,h1,rfl,af⟩;obtain⟨r,g,o⟩:=aV.of ae M.N;obtain⟨bq,t,u⟩:=aV.of ae M.S;obtain⟨A,B,C⟩:=aV.of ae M.bI;obtain⟨J,K,L⟩:=aV.of ae M.bJ;obtain⟨v,w,G⟩:=aV.of ae M.bH;obtain⟨E,F,H⟩:=fU.of ae M.P;dsimp only at r g o bq t u A B C J K L v w G E F H;obtain⟨P,pX,jq⟩:=ael ds gn w7 az6 g2.flat g3.flat;have y4:(P.map int).length=P.length:=aCv _;have By:∀i (h:i<P.length),(P.map int)[i]?=some (int P[i]):=λi h=>cY h;rw[<-g4]at jq;unfold cv at jq;generalize P.map int=kS at*;have uB:d.len kS=gn:=by subst ae;exact y4.trans pX.len
 have bY:aq=false->gn=0:=λh=>by rw[<-aE,bB h];rfl
 have Ot:d.len ps=gn:=aCr;have Ou:∀i (h:i<gn),d.get ps (Int.ofNat i)=int (lK[i]'(by rw[iC];exact h)):=λi h=>cH ae aCs;have bt:∀c:List b1,vu l c->c.length=gn/\(aq=false->c=[])/\(∀y∈c,y.bV.length<=33554432/\y.pl.w<=dr):=λc h=>by
  replace h:=h.1;have h1:c.length=l.length:=by have:=congrArg List.length h;rwa [aCv,aCv]at this
  refine⟨h1.trans aE,λh=>aE2.1 (by rw[h1,bB h];rfl),λy aQ=> ?_⟩;have:y.key∈l.map b1.key:=h▸aEV aQ;obtain⟨z,aM,Y⟩:=aCY.1 this;have aj:z.bV=y.bV:=show z.key.bV=y.key.bV from congrArg b1.bV Y
  have aC:z.pl=y.pl:=show z.key.pl=y.key.pl from congrArg b1.pl Y
  rw[<-aj,<-aC];exact⟨e8 z aM,hw z aM⟩
 have jh:∀(c:List b1) (i:Nat) (h:i<c.length) (bm:List (ax×Int)),vu l c->bm.length<=1073741824->vu l (c.set i {c[i]with bm:=bm}):=λc i h bm Y nZ=>by
  refine⟨?_,λy aQ=>(aD7 aQ).elim (Y.2 y) λh=>h▸nZ⟩;rw[aFh,<-Y.1];show(c.map b1.key).set i (b1.key c[i])=_;have:b1.key c[i]=(c.map b1.key)[i]'(by rw[aCv];exact h):=(aFg _).symm;rw[this,aGn]
 have aF:h6 aq:=trivial;have fy:h6 hs:=trivial;have Z:=M;cases aq<;>cases hs;all_goals
  dsimp only[bw.st,dP,dc]at U⊢;conv=>cbv
  repeat' ((first|refine dD ?_|refine dE ?_|simp -proj only[uB,r,g,o,bq,t,u,A,B,C,J,K,L,v,w,G,E,F,H]|(split<;>(rename_i h;try simp only[h])))<;>conv=>cbv)
  refine⟨bX (λz:Nat×List ah=>au3 ⟨ai,aP,gn,z.2,ps,ns,aN,gn,bI,bJ,bH,ar⟩ (dj aF) (dj fy) kS gn z.1) (λz=>z.1<=gn/\∃c,z.2=gB c/\vu l c) (λz=>gn-z.1),_,⟨(0,N),⟨aCu _,l,b4,rfl,bk⟩,rfl,az5⟩,?_⟩;clear jq r g o;rintro _ _ ⟨⟨k,N⟩,⟨hk,c,mQ,S⟩,rfl,rfl⟩;dsimp only at hk mQ S⊢;obtain⟨Ci,gY,kr⟩:=bt c S;have w9:Flat N:=by rw[mQ];exact Ee _
  obtain⟨r,g,o⟩:=aV.of ae w9;by_cases V:k<gn
  .have fv:k<c.length:=by omega
   first
   |exact absurd (gY rfl▸fv) (aDs _)
   |skip
   all_goals
    have oy:=pX.len;have p:=ek ae V;have X:d.dS 1 1 (Int.ofNat k) gn=true:=e7 ae V;have Q:=cH ae (By k az6);have jj:=b9 ae (n:=k) az6;obtain⟨i,di,jE⟩:=pC (pX.all _ (aCC (show k<P.length by omega)));rw[jE]at Q;have rG:i<c.length:=az6;obtain⟨rU,bu⟩:=kr _ (aCC rG);have w1:d.dS 24 24 (Int.ofNat i) gn=true:=e7 ae di;have b5:=kf ae i 24;have eG:d.l3 (i*24) 1=i*24+1:=qt ae _ _;have jw:d.ha (i*24+1) 1 N true=true:=aBX;have ni:d.kM N (i*24+1)=.d (.bool c[i].s):=by rw[mQ];exact Ef ae rG az' rfl
    have fw:d.l3 (i*24) 6=i*24+6:=qt ae _ _;have eY:d.ha (i*24+6) 1 N true=true:=aBX;have fa:d.kM N (i*24+6)=.d (.list 4 (c[i].bV.map ef)):=by rw[mQ];exact Ef ae rG az' rfl
    have fG:d.l3 (i*24) 7=i*24+7:=qt ae _ _;have g':d.ha (i*24+7) 16 N true=true:=aBX;have lb:d.l0 N (i*24+7) 16=.d (.agg c[i].pl.bz.cs):=by rw[mQ];exact au2 ae rG
    have v1:d.l3 (i*24) 2=i*24+2:=qt ae _ _;have re:=λbm=>au1 ae rG bm;have Ox:=λbm=>jh c i rG bm S;have bz:(c[i].bV.map ef).length=c[i].bV.length:=aCv _;have Eg:∀j (h:j<c[i].bV.length),(c[i].bV.map ef)[j]?=some (ef c[i].bV[j]):=λj h=>cY h;have Oy:=λs hs=>arF c[i].pl bu s hs;have gQ:∀j (h:j<c.length),d.dS 24 24 (Int.ofNat j) gn=true/\d.ha (j*24+2) 1 N true=true/\d.kM N (j*24+2)=.d (.list 2 (c[j].bm.map bF)):=λj aI=>⟨e7 ae az6,by rw[mQ];exact r1 ae aI az',by rw[mQ];exact Ef ae aI az' rfl⟩;have tE:=λbU=>Br ⟨ai,aP,gn,N,ps,ns,aN,gn,bI,bJ,bH,ar⟩ ⟨w9,Z.S,Z.bI,Z.bJ,Z.bH,Z.P⟩ (dj aF) (dj fy) true c mQ Ci (show gn<=1073741824 by omega) gY bU;dsimp only[bw.st,dc,dj]at tE;have bE:=Ou i di;have br:d.dS 1 1 (Int.ofNat i) gn=true:=e7 ae di;generalize (lK[i]'(by rw[iC];exact di))=sx at*;clear jE;rw[<-mQ]at re;generalize c[i].pl.bz.cs=cd at*;generalize c[i].bV=bV at*;generalize bV.map ef=jR at*;generalize c[i].s=gI at*;generalize i*24=aB at*;generalize aB+1=cf at*;generalize aB+6=cn at*;generalize aB+7=cr at*;generalize aB+2=ct at*;obtain⟨q,aS⟩:∃q,q=bV.length:=⟨_,rfl⟩;have r0:d.len jR=q:=by subst ae;exact bz.trans aS.symm
    cases gI with
    |true=>
     conv=>cbv
     repeat' ((first|refine dD ?_|refine dE ?_|simp -proj only[p,X,Q,jj,w1,b5,eG,jw,ni,r,g,o,bq,t,u,A,B,C,J,K,L,v,w,G,E,F,H]|(split<;>(rename_i h;try simp only[h])))<;>conv=>cbv)
     exact ea (k+1,N) ⟨V,c,mQ,S⟩ (by show gn-(k+1)<gn-k;omega) az5
    |false=>
     conv=>cbv
     repeat' ((first|refine dD ?_|refine dE ?_|simp -proj only[r0,p,X,Q,w1,b5,eG,jw,ni,fw,eY,fa,r,g,o,bq,t,u,A,B,C,J,K,L,v,w,G,E,F,H]|(split<;>(rename_i h;try simp only[h])))<;>conv=>cbv)
     refine⟨bX (λz:Nat×List Go.aG.D=>au4 ⟨ai,aP,gn,N,ps,ns,aN,gn,bI,bJ,bH,ar⟩ (dj aF) (dj fy) kS gn k i aB z.2 jR q z.1) (λz=>z.1<=q/\∃s:List (ax×List (ax×Int)),z.2=s.map kp/\s.length=z.1) (λz=>q-z.1),_,⟨(0,[]),⟨aCu _,[],rfl,rfl⟩,rfl,az5⟩,?_⟩;clear p X Q w1 b5 eG jw ni fw eY fa;rintro _ _ ⟨⟨j,aR⟩,⟨aI,s,bK,jT⟩,rfl,rfl⟩;dsimp only at aI bK jT⊢;by_cases qK:j<q
     .have p:=ek ae qK;have X:=cH ae (Eg j az6);have Q:d.dS 4 4 (Int.ofNat j) q=true:=e7 ae qK;have jj:=b9 ae (n:=j) az6;obtain⟨f,ok,eJ,lF⟩:=tE (bV[j]' az6).a;have xx:f<c.length:=by
       rcases eJ with⟨_,h,_⟩|⟨_,h,_⟩
       .exact h
       .omega
      obtain⟨hl,z3,z4⟩:=gQ f xx;have z2:=kf ae f 24;have z5:d.l3 (f*24) 2=f*24+2:=qt ae _ _;have iu:d.app aR [.agg [.str (bV[j]' az6).b,.list 2 (c[f].bm.map bF),.list 1 []]]=(s++[((bV[j]' az6).b,c[f].bm)]).map kp:=by subst ae;rw[bK,aCR];rfl
      have bM:(s++[((bV[j]' az6).b,c[f].bm)]).length=j+1:=by rw[aCF,jT];rfl
      have oa:aR.length<=33554432:=aAX;generalize s++[((bV[j]' az6).b,c[f].bm)]=bN at*;generalize c[f].bm.map bF=r3 at*;clear tE gQ eJ Oy re Ox;generalize (bV[j]' az6)=y at*;obtain⟨b',b0,cz,bn⟩:=y;unfold ef at*;dsimp only at*;generalize f*24=bO at*;generalize bO+2=cB at*;conv=>cbv
      repeat' ((first|refine dD ?_|refine dE ?_|simp -proj only[r0,p,X,Q,jj,hl,z2,z3,z4,z5,r,g,o,bq,t,u,A,B,C,J,K,L,v,w,G,E,F,H]|(split<;>(rename_i h;try simp only[h])))<;>conv=>cbv)
      exact ea (j+1,d.app aR [.agg [.str bn,.list 2 r3,.list 1 []]]) ⟨qK,bN,iu,bM⟩ (by show q-(j+1)<q-j;omega) az5
     .have p:=en ae qK;obtain⟨bm,e,bQ,oh⟩:=Oy s az6;rw[<-bK]at oh;obtain⟨cI,d'⟩:=re bm;have Bw:=Ox bm;obtain⟨l2,aU⟩:∃l2,l2=c.set i {c[i]with bm:=bm}:=⟨_,rfl⟩;rw[<-aU]at d' Bw;obtain⟨mb,ma⟩:∃mb,mb=gB l2:=⟨_,rfl⟩;rw[<-ma]at d';have bR:Flat mb:=by rw[ma];exact Ee _
      obtain⟨hl,z2,z3⟩:=aV.of ae bR;generalize bm.map bF=r3 at*;clear tE gQ Oy re Ox aU;obtain⟨bg,eV⟩:∃b,d.aB .neq e 0=b:=⟨_,rfl⟩;cases bg with
      |true=>
       conv=>cbv
       repeat' ((first|refine dD ?_|refine dE ?_|simp -proj only[p,fG,g',lb,eV,Ot,bE,br,r,g,o,bq,t,u,A,B,C,J,K,L,v,w,G,E,F,H]|(split<;>(rename_i h;try simp only[h])))<;>conv=>cbv)
       exact U _ _ c _ S (by(try rw[<-mQ]);try kernel_rfl)
      |false=>
       conv=>cbv
       repeat' ((first|refine dD ?_|refine dE ?_|simp -proj only[p,jj,fG,g',lb,v1,cI,d',eV,r,g,o,bq,t,u,A,B,C,J,K,L,v,w,G,E,F,H,hl,z2,z3]|(split<;>(rename_i h;try simp only[h])))<;>conv=>cbv)
       exact ea (k+1,mb) ⟨V,l2,ma,Bw (by have:=bQ (by subst ae;have h:(!decide (e=0))=false:=eV;simpa using h);omega)⟩ (by show gn-(k+1)<gn-k;omega) az5
  .have p:=en ae V;conv=>cbv
   repeat' ((first|refine dD ?_|refine dE ?_|simp -proj only[p,r,g,o,bq,t,u,A,B,C,J,K,L,v,w,G,E,F,H]|(split<;>(rename_i h;try simp only[h])))<;>conv=>cbv)
   exact U 0 0 c _ S (by(try rw[<-mQ]);try kernel_rfl)
theorem Ip{a:Type}{f:a->Nat}{x:a}:∀{l:List a},x∈l->fS f [x]<=fS f l
 |y::l,h=>by
  show 200+f x+0<=200+f y+fS f l;rcases aCJ.1 h with rfl|h
  .omega
  .have:200+f x+0<=fS f l:=Ip h;omega
theorem El{a:Type}(f:a->Nat):∀l:List a,l.length*200<=fS f l
 |[]=>aCu _
 |x::l=>by
  have:=El f l;show(l.length+1)*200<=200+f x+fS f l;omega
theorem avf(x:cC)(a:x.Good)(f:hE [x]<=dr):∃(t:ax) (e:Int),aL 66 [.d (.agg x.dX.cs)] [] (.tuple [.d (.str t),.d (int e)]) []:=by
 obtain⟨t,e,_,aj⟩:=ad3 [x] (λy d=>by rw[aCS.1 d];exact a) f;refine⟨t,e,?_⟩;have aj:aL 65 [.d (.list 25 [.agg x.dX.cs])] [] (.tuple [.d (.str t),.d (int e)]) []:=aj;generalize x.dX=w at*;obtain⟨s,L,H,J,F,G,g,⟨c1,c2,K,o,p,v,m,C,r,u,E,X,z,A,B,n⟩,j,k⟩:=w;refine aat.ct λl ae Q c=> ?_;refine ak ?_
 (subst ae;exact bS c az5 az5)
def y6(x:wQ):List fb:=x.cs.map .d
def r5(l:List b1):List fb:=(l.map λx=>y6 x.c24).flatten
theorem avg(l:List b1):jS (r5 l)=gB l:=by
 unfold jS r5 gB wY;rw[List.map_flatten,aDF];congr 1
theorem avh(l:List b1)(x:b1):r5 (l++[x])=r5 l++y6 x.c24:=by
 unfold r5;rw[aCR,aGm];simp
def xa(n:ax):hr:=⟨n,mM,[]⟩
def Iq(n:ax):List fb:=[.d (.str n),.d (.int .u64 0),.d (.int .u64 0),.d (.int .u64 0),.d (.int .u64 0),.d (.int .u64 0),.d (.bool false),.d (.bool false),.d (.bool false),.d (.bool false),.d (.bool false),.nil 1]
def r6(l:List ax):List fb:=(l.map Iq).flatten
theorem avi(l:List ax):jS (r6 l)=gd (l.map xa):=by
 unfold jS r6 gd qL;rw[List.map_flatten,aDF,aDF];congr 1
theorem avj(l:List ax)(x:ax):r6 (l++[x])=r6 l++Iq x:=by
 unfold r6;rw[aCR,aGm];simp
def ae9(z:Nat):Option (Nat×List fb)->ah
 |none=>.own z []
 |some (n,c)=>.raw z n c
def ae'(o:Option (Nat×List fb))(n:Nat)(c:List fb):Prop:=(o=none/\n=0/\c=[])\/(0<n/\o=some (n,c))
def Em(a:cC->ax)(x:cC):b1:=⟨x.n,decide (x.k=1),x.bm,x.c8,x.s1,x.s2,x.bV,x.pl,a x⟩
def fA(a:cC->ax)(c:List cC):List b1:=(c.filter mN).map (Em a)
def h7(a:List cC):List ax:=(a.filter iJ).map cC.n
theorem avk(c:cC->ax){a:List cC}{i:Nat}(h:i<a.length):fA c (a.take (i+1))=fA c (a.take i)++(if mN a[i]=true then[Em c a[i]]else[]):=by
 unfold fA;rw[aDg,aCB h,aE1,aCR];congr 1;show(([a[i]]).filter mN).map _=_;cases hp:mN a[i]with
 |true=>rw[aEH hp];rfl
 |false=>rw[aE3 (by rw[hp];decide)];rfl
theorem avl{a:List cC}{i:Nat}(h:i<a.length):h7 (a.take (i+1))=h7 (a.take i)++(if iJ a[i]=true then[a[i].n]else[]):=by
 unfold h7;rw[aDg,aCB h,aE1,aCR];congr 1;show(([a[i]]).filter iJ).map _=_;cases hp:iJ a[i]with
 |true=>rw[aEH hp];rfl
 |false=>rw[aE3 (by rw[hp];decide)];rfl
end Go.Proofs.YthffhbakgmemaaaGreatDoor
