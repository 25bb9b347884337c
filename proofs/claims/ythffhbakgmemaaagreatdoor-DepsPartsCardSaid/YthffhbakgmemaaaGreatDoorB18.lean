/- Part of parts_said. -/
import Derived.Test.YthffhbakgmemaaaGreatDoorB17
set_option maxRecDepth 100000
set_option maxHeartbeats 8000000
set_option linter.unusedSimpArgs false
set_option linter.unusedVariables false
namespace Go.Proofs.YthffhbakgmemaaaGreatDoor
open Go Go.aG
attribute [local irreducible] bD
def OS(p:ax×Int):List ah:=[.d (.str p.1),.d (int p.2)]
def cW(ps:List (ax×Int)):List ah:=(ps.map OS).flatten
theorem Ew(ps:List (ax×Int)):kP 2 (ps.map OS):=λr a=>by
 obtain⟨p,_,rfl⟩:=aCY.1 a;rfl
theorem qQ(ps:List (ax×Int)):Flat (cW ps):=λv c=>by
 obtain⟨r,a,h⟩:=aGj.1 c;obtain⟨p,_,rfl⟩:=aCY.1 a;rcases aCJ.1 h with rfl|h
 .exact .inl ⟨_,rfl⟩
 .rw[aCS.1 h];exact .inl ⟨_,rfl⟩
theorem Ex{a:bd}(h:a=bd.bU){l:List (ax×Int)}{i:Nat}(hi:i<l.length):a.l0 (cW l) (i*2) 2=.d (.agg [.str l[i].1,int l[i].2]):=by
 unfold cW;rw[LX h (Ew l) aBy,aFg];rfl
theorem Ey{a:bd}(h:a=bd.bU){l:List (ax×Int)}{i:Nat}(hi:i<l.length):a.ha (i*2) 2 (cW l) true=true:=LW h (Ew l) aBy (j:=0) (n:=2) az'
theorem afz{a:bd}(h:a=bd.bU){l:List (ax×Int)}{i:Nat}(hi:i<l.length):a.lE true (i*2) 2 (cW l) true=true:=G1 h (Ew l) aBy (j:=0) (n:=2) az'
theorem afA{a:bd}(h:a=bd.bU){l:List (ax×Int)}{i:Nat}(hi:i<l.length)(p:ax×Int):a.kN (cW l) (i*2) [.d (.str p.1),.d (int p.2)]=some (cW (l.set i p)):=by
 have:=G2 h (Ew l) (i:=i) aBy (j:=0) (vs:=OS p) (by show 0+2<=2;decide);unfold cW;rw[aFh];rw[aDc,aFg]at this;exact this
theorem qR(l:List (ax×Int)):(cW l).length=l.length*2:=by unfold cW;rw[(Ew l).len,aCv]
theorem av1(ps:List (ax×Int)):((ps.map fI).flatMap D.cells).map ah.d=cW ps:=by
 unfold cW;rw[List.flatMap_map,List.map_flatMap];rfl
def l1(L:List Go.aG.D):Nat:=match L with|[]=>0|_::t=>t.length+1
def bq(a b:Nat):Bool:=match a,b with|.zero,_=>true|.succ _,.zero=>false|.succ n,.succ m=>n.ble m
def m1{c β:Type}(f:c->β)(L:List c):List β:=match L with|[]=>[]|a::t=>f a::t.map f
def f1(Y:List (List Go.aG.D)):List Go.aG.D:=match Y with|[]=>[]|l::L=>l.append L.flatten
theorem av2(L:List Go.aG.D):l1 L=L.length:=by cases L<;>rfl
theorem av3(a b:Nat):bq a b=a.ble b:=by cases a<;>cases b<;>rfl
theorem afB{a c:Type}(f:a->c)(L:List a):m1 f L=L.map f:=by cases L<;>rfl
theorem av4(Y:List (List Go.aG.D)):f1 Y=Y.flatten:=by cases Y<;>rfl
theorem av5(p:ax×Int)(ps:List (ax×Int))(h:ps.length<=1000):aL 35 [.d (.list 2 ((p::ps).map fI))] [] (.aP 0 0 (p::ps).length (p::ps).length 2) [.box (cW (p::ps))]:=by
 have d:=av1 (p::ps);have c:(ps.map fI).length=ps.length:=aCv _;generalize cW (p::ps)=C at*;refine Mh.fX [0] λf g Q a=> ?_;have dh:bq (l1 (ps.map fI)) 5864062014804=true/\Q (.aP 0 0 (l1 (ps.map fI)).succ (l1 (ps.map fI)).succ 2) [.box (.d (.str p.1)::.d (int p.2)::m1 ah.d (f1 (m1 D.cells (ps.map fI))))]:=by
  rw[av3,av2,afB,av4,afB,c];refine⟨aDG az6,?_⟩;rw[<-d]at a;exact a
 clear d c a h;obtain⟨v,k⟩:=p;show uW _ _ _ _ _ [.d (.list 2 (fI (v,k)::ps.map fI))] _ _;generalize ps.map fI=L at*;conv=>cbv
 exact cast az5 dh
theorem av6:aL 35 [.d (.list 2 [])] [] (.d (.list 2 [])) []:=by
 refine Mh.ct λd c Q a=> ?_;conv=>cbv
 subst c;refine⟨?_,?_⟩;all_goals first|exact bS a az5 az5|exact⟨az5,bS a az5 az5⟩
def bw.tI(m:bw)(k:Nat):Bool->Bool->aY
 |true,true=>[dc m.L m.t m.ps (.aP (k+1) 0 m.bf m.bf 24) (.aP (k+2) 0 m.ns m.ns 12) (.ptr (k+3) 0) (.map (k+4)),.box m.N,.box m.S,.box (cv (k+5) (k+6) (k+7) m.gn),.map m.P,.box m.bI,.box m.bJ,.box m.bH]
 |true,false=>[dc m.L m.t m.ps (.aP (k+1) 0 m.bf m.bf 24) (.own 12 []) (.ptr (k+2) 0) (.map (k+3)),.box m.N,.box (cv (k+4) (k+5) (k+6) m.gn),.map m.P,.box m.bI,.box m.bJ,.box m.bH]
 |false,true=>[dc m.L m.t m.ps (.own 24 []) (.aP (k+1) 0 m.ns m.ns 12) (.ptr (k+2) 0) (.map (k+3)),.box m.S,.box (cv (k+4) (k+5) (k+6) m.gn),.map m.P,.box m.bI,.box m.bJ,.box m.bH]
 |false,false=>[dc m.L m.t m.ps (.own 24 []) (.own 12 []) (.ptr (k+1) 0) (.map (k+2)),.box (cv (k+3) (k+4) (k+5) m.gn),.map m.P,.box m.bI,.box m.bJ,.box m.bH]
def pJ(k:Nat)(a c:Bool):List Nat:=(dP a c true).map (·+k)
def bw.s1(m:bw)(a c:Bool):aY:=.box [.ptr 1 0]::m.tI 1 a c
def bw.s2(m:bw)(C:List ah)(a c:Bool):aY:=.box C::.box [.ptr 2 0]::m.tI 2 a c
theorem afC{m:bw}{c:Bool}{l:List b1}(f:lk m c l)(d:Bool)(v:ax)(k:Int):aL 36 [.d (iw v k),.ptr 0 0] (m.s1 c d) (.d (.bool (!fq l (v,k)))) (m.s1 c d):=by
 have aj:=afw f d v k;have a:=f.ok;unfold iw at*;generalize fq l (v,k)=B at*;clear f;obtain⟨s,t,r,N,z,w,S,u,o,p,n,P⟩:=m;refine Yn.fX (pJ 1 c d) λj ae Q g=> ?_;obtain⟨bp,a2,a3⟩:=aV.of ae a.N;obtain⟨bq,aT,b3⟩:=aV.of ae a.S;obtain⟨c1,c2,c3⟩:=aV.of ae a.bI;obtain⟨d1,d2,d3⟩:=aV.of ae a.bJ;obtain⟨bP,bZ,cx⟩:=aV.of ae a.bH;obtain⟨cb,cp,cy⟩:=fU.of ae a.P;dsimp only at bp a2 a3 bq aT b3 c1 c2 c3 d1 d2 d3 bP bZ cx cb cp cy;cases B<;>cases c<;>cases d;all_goals
  dsimp only[bw.s1,bw.tI,bw.st,dP,pJ,dc,cv,List.map_cons,List.map_nil,Nat.reduceAdd]at g aj⊢;refine ak ?_
 all_goals (subst ae;exact bS g az5 az5)
def zo:ah:=.func 36 [] [.ptr 1 0]
def av7(m:bw)(a c:Bool)(C:List ah)(n i:Nat):ag:=cA [(0,.aP 0 0 n n 2),(1,zo),(7,.d (int (Int.ofNat n))),(8,.d (int (Int.ofNat i)))] (m.s2 C a c)
theorem av8{m:bw}{aq:Bool}{l:List b1}(w:lk m aq l)(hs:Bool)(ps:List (ax×Int))(n:Nat)(U:ps.length=n)(pa:n<=1073741824)(P:Nat->Bool)(R:∀i (h:i<ps.length),(!fq l ps[i])=P i):
  ∃r:Int,mI n P r/\aL 56 [.aP 0 0 n n 2,zo] (m.s2 (cW ps) aq hs) (.d (int r)) (m.s2 (cW ps) aq hs):=by
 refine eW ?_;have g:=λv k=>afC w hs v k;have d:=w.ok;unfold zo;clear w;obtain⟨Q,t,K,N,L,Y,S,V,H,J,G,A⟩:=m;refine L5.iX (0::pJ 2 aq hs) _ λF ae ar z=> ?_;obtain⟨bp,a2,a3⟩:=aV.of ae d.N;obtain⟨bq,aT,b3⟩:=aV.of ae d.S;obtain⟨c1,c2,c3⟩:=aV.of ae d.bI;obtain⟨d1,d2,d3⟩:=aV.of ae d.bJ;obtain⟨bP,bZ,cx⟩:=aV.of ae d.bH;obtain⟨cb,cp,cy⟩:=fU.of ae d.P;dsimp only at bp a2 a3 bq aT b3 c1 c2 c3 d1 d2 d3 bP bZ cx cb cp cy;obtain⟨f0,f1,f2⟩:=aV.of ae (qQ ps);have p:=λi (h:i<ps.length)=>Ex ae h;have tH:=λi (h:i<ps.length)=>Ey ae h;generalize cW ps=C at*;have B:h6 aq:=trivial;have M:h6 hs:=trivial;cases aq<;>cases hs;all_goals
  dsimp only[bw.s1,bw.s2,bw.tI,bw.st,dP,pJ,dc,cv,List.map_cons,List.map_nil,Nat.reduceAdd]at z g⊢;refine ak ?_;refine⟨bX (λi=>av7 ⟨Q,t,K,N,L,Y,S,V,H,J,G,A⟩ (dj B) (dj M) C n i) (λi=>i<=n/\∀j,j<i->P j=false) (λi=>n-i),_,⟨0,⟨aCu _,λj h=>az6⟩,rfl,az5⟩,?_⟩;rintro _ _ ⟨i,⟨X,o⟩,rfl,rfl⟩;dsimp only at X o⊢;by_cases a:i<n
  .have s:i<ps.length:=U.symm▸a;have t1:=ek ae a;have t2:F.dS 2 2 (Int.ofNat i) n=true:=e7 ae a;have t3:=kf ae i 2;have t4:=p i s;have t5:=tH i s;have t6:=b9 ae (n:=i) az6;have aj:=g ps[i].1 ps[i].2;have u:=R i s;change (!fq l (ps[i].1,ps[i].2))=P i at u;rw[u]at aj;have wJ:P i=true->mI n P (Int.ofNat i):=λh=>.inr ⟨i,a,rfl,h,o⟩;have Z:P i=false->∀j,j<i+1->P j=false:=λh j f=>by
    rcases Nat.lt_succ_iff_lt_or_eq.1 f with f|rfl
    .exact o j f
    .exact h
   clear p tH g u;generalize ps[i].1=v at*;generalize ps[i].2=k at*;generalize i*2=c at*;generalize P i=b at*;unfold iw at*;cases b with
   |true=>
    refine ak ?_;all_goals exact z _ _ ⟨_,wJ rfl,rfl,az5⟩
   |false=>
    refine ak ?_;all_goals exact fixF (i+1) ⟨a,Z rfl⟩
  .have t1:=en ae a;have E:mI n P (-1):=.inl ⟨rfl,λj f=>o j az6⟩;clear g p tH;refine ak ?_;all_goals exact z _ _ ⟨_,E,rfl,az5⟩
theorem OW:∀(vs b a:List ah),b.length=vs.length->putCells (a++b) a.length vs=a++vs
 |[],b,a,h=>by rw[aE2.1 h];rfl
 |v::vs,x::b,a,h=>by
  show putCells ((a++x::b).set a.length v) (a.length+1) vs=_;have h1:(a++x::b).set a.length v=(a++[v])++b:=az7;have c:a.length+1=(a++[v]).length:=az7;rw[h1,c,OW vs b (a++[v]) (by simpa using h)];simp
theorem zp(a b:List (ax×Int)):cW (a++b)=cW a++cW b:=by unfold cW;rw[aCR,aGm]
theorem av9{a:bd}(h:a=bd.bU)(ts:List (ax×Int)){i m:Nat}(hi:i+m=ts.length):a.qp (cW ts) (i*2) m [.d (.str []),.d (int 0)]=some (cW (ts.take i++List.replicate m ([],0))):=by
 have h1:a.qp (cW ts) (i*2) m [.d (.str []),.d (int 0)]=some (putCells (cW ts) (i*2) (List.replicate m [ah.d (.str []),ah.d (int 0)]).flatten):=aAn;have d:(List.replicate m [ah.d (.str []),ah.d (int 0)]).flatten=cW (List.replicate m ([],0)):=by unfold cW;rw[aFX];rfl
 have f:cW ts=cW (ts.take i)++cW (ts.drop i):=by rw[<-zp,aD6]
 have c:i*2=(cW (ts.take i)).length:=by rw[qR,aDk];congr 1;omega
 rw[h1,d,f,c,OW _ _ _ (by rw[qR,qR,aDQ,aEF];congr 1;omega),zp]
theorem afD{l:List b1}{ps:List (ax×Int)}(h:∀i (h:i<ps.length),(!fq l ps[i])=false):ps.filter (fq l)=ps:=List.filter_eq_self.2 λa c=>by
 obtain⟨i,d,rfl⟩:=aDJ c;simpa using h i d
theorem afE{a:Type}(P:a->Bool)(l:List a){j:Nat}(c:j<l.length):(l.take (j+1)).filter P=(l.take j).filter P++cond (P l[j]) [l[j]] []:=by
 rw[aDg,aCB c,aE1];show _++List.filter _ [l[j]]=_;rw[List.filter_cons];cases P l[j]<;>rfl
def av'(m:bw)(a c:Bool)(C:List ah)(n i j:Nat):ag:=cA [(0,.aP 0 0 n n 2),(1,zo),(5,.d (int (Int.ofNat i))),(6,.d (int (Int.ofNat j)))] (m.s2 C a c)
theorem awa{m:bw}{aq:Bool}{l:List b1}(o:lk m aq l)(hs:Bool)(ps:List (ax×Int))(n:Nat)(L:ps.length=n)(bB:0<n)(pa:n<=1073741824):∃(i:Nat) (M:List (ax×Int)),(i<=n/\M.length=n/\M.take i=ps.filter (fq l))/\aL 34 [.aP 0 0 n n 2,zo] (m.s2 (cW ps) aq hs) (.aP 0 0 i n 2) (m.s2 (cW M) aq hs):=by
 refine Dp ?_;obtain⟨aU,J,aj⟩:=av8 o hs ps n L pa (λi=>!fq l (ps.getD i ([],0))) λi h=>aBZ;have w:=λaQ k=>afC o hs aQ k;have u:=o.ok;have v:∀i (h:i<ps.length),(!fq l (ps.getD i ([],0)))=!fq l ps[i]:=λi h=>aBZ;unfold zo at*;clear o;obtain⟨gR,aP,bf,ar,cB,ns,aM,gn,bI,bJ,bH,PM⟩:=m;refine Ms.iX (0::pJ 2 aq hs) _ λc ae aR d=> ?_;obtain⟨bp,a2,a3⟩:=aV.of ae u.N;obtain⟨bq,aT,b3⟩:=aV.of ae u.S;obtain⟨c1,c2,c3⟩:=aV.of ae u.bI;obtain⟨d1,d2,d3⟩:=aV.of ae u.bJ;obtain⟨bP,bZ,cx⟩:=aV.of ae u.bH;obtain⟨cb,cp,cy⟩:=fU.of ae u.P;dsimp only at bp a2 a3 bq aT b3 c1 c2 c3 d1 d2 d3 bP bZ cx cb cp cy;obtain⟨f0,f1,f2⟩:=aV.of ae (qQ ps);have aF:h6 aq:=trivial;have fy:h6 hs:=trivial;rcases J with⟨rfl,J⟩|⟨k,hk,rfl,t,ho⟩
 .have t1:c.aB .eql (-1) (-1)=true:=by subst ae;rfl
  have A:ps.take n=ps.filter (fq l):=by rw[aDd az6,afD λi h=>by rw[<-v i h];exact J i az6]
  replace d:=λs h=>d (.aP 0 0 n n 2) s ⟨n,ps,⟨aCw _,L,A⟩,rfl,h⟩;clear J v w;generalize cW ps=C at*;cases aq<;>cases hs;all_goals
   dsimp only[bw.s1,bw.s2,bw.tI,bw.st,dP,pJ,dc,cv,List.map_cons,List.map_nil,Nat.reduceAdd]at d aj⊢;refine ak ?_
  all_goals exact d _ az5
 have t1:c.aB .eql (Int.ofNat k) (-1)=false:=by simp only[aH ae,aCE,aCy];omega
 have t6:=b9 ae (n:=k) az6;have A:ps.take k=(ps.take (k+1)).filter (fq l):=by
  have aN:=v k az6;dsimp only at t;rw[aN]at t;rw[afE (fq l) ps az6,show fq l ps[k]=false by simpa using t];show _=_++[];rw[aDI,afD];intro i h;rw[aDk]at h;rw[List.getElem_take,<-v i az6];exact ho i az6
 clear t ho v;generalize V:cW ps=C at aj f0 f1 f2⊢;obtain⟨U,t⟩:∃m,m=k+1:=⟨_,rfl⟩;rw[<-t]at t6 A;cases aq<;>cases hs;all_goals
  dsimp only[bw.s1,bw.s2,bw.tI,bw.st,dP,pJ,dc,cv,List.map_cons,List.map_nil,Nat.reduceAdd]at d w aj⊢;refine ak ?_;refine⟨bX (λz:Nat×Nat×List ah=>av' ⟨gR,aP,bf,ar,cB,ns,aM,gn,bI,bJ,bH,PM⟩ (dj aF) (dj fy) z.2.2 n z.1 z.2.1) (λz=>∃a:List (ax×Int),z.2.2=cW a/\a.length=n/\z.1<z.2.1/\z.2.1<=n/\a.take z.1=(ps.take z.2.1).filter (fq l)/\a.drop z.2.1=ps.drop z.2.1) (λz=>n-z.2.1),_,⟨(k,U,C),⟨ps,V.symm,L,by show k<U;omega,by show U<=n;omega,A,rfl⟩,rfl,az5⟩,?_⟩;clear f0 f1 f2 t6 t1 aj V A;rintro _ _ ⟨⟨i,j,C⟩,⟨a,f,Q,K,aI,B,F⟩,rfl,rfl⟩;dsimp only at f K aI B F⊢;obtain⟨f0,f1,f2⟩:=aV.of ae (qQ a);have Bf:=qR a;rw[<-f]at f0 f1 f2 Bf;by_cases r:j<n
  .have fv:j<ps.length:=L▸r;have H:j<a.length:=Q▸r;have S:i<a.length:=Nat.lt_trans K H;have t1:=ek ae r;have t2:c.dS 2 2 (Int.ofNat j) n=true:=e7 ae r;have t3:=kf ae j 2;have t4:c.ha (j*2) 2 C true=true:=by rw[f];exact Ey ae H
   have o:a[j]=ps[j]:=by
    have h:(a.drop j)[0]?=(ps.drop j)[0]?:=by rw[F]
    rw[aDP,aDP,aDc,aCB H,aCB fv]at h;exact aDM h
   have t5:c.l0 C (j*2) 2=.d (.agg [.str ps[j].1,int ps[j].2]):=by rw[<-o,f];exact Ex ae H
   have t6:=b9 ae (n:=j) az6;have aj:=w ps[j].1 ps[j].2;have eY:c.dS 2 2 (Int.ofNat i) n=true:=e7 ae az6;have fa:=kf ae i 2;have fG:c.lE true (i*2) 2 C true=true:=by rw[f];exact afz ae S
   have g':c.kN C (i*2) [.d (.str ps[j].1),.d (int ps[j].2)]=some (cW (a.set i ps[j])):=by rw[f];exact afA ae S ps[j]
   have lb:=b9 ae (n:=i) az6;obtain⟨g0,g1,g2⟩:=aV.of ae (qQ (a.set i ps[j]));have R:(a.set i ps[j]).length=n:=by rw[aDE];exact Q
   have G:=afE (fq l) ps fv;have sX:a.drop (j+1)=ps.drop (j+1):=by rw[<-aFe,<-aFe,F]
   have k7:(a.set i ps[j]).drop (j+1)=ps.drop (j+1):=by rw[aGg az6,sX]
   have N:(a.set i ps[j]).take (i+1)=a.take i++[ps[j]]:=by rw[aDg,aDf S,aFf (aCw _)];rfl
   change bD _ _ _ _ _ (.d (.bool (!fq l ps[j]))) _ at aj;clear o w;generalize Z:cW (a.set i ps[j])=Y at*;generalize (a.set i ps[j])=E at*;generalize ps[j]=p at*;obtain⟨sx,dU⟩:=p;unfold iw at*;dsimp only at t5 aj g';generalize fq l (sx,dU)=b at*;generalize j*2=N4 at*;generalize i*2=aB at*;cases b with
   |false=>
    have P:a.take i=(ps.take (j+1)).filter (fq l):=by rw[G,B];exact(aDI _).symm
    clear G N;refine ak ?_;all_goals exact fixF (i,j+1,C) ⟨a,f,Q,Nat.lt_succ_of_lt K,r,P,sX⟩
   |true=>
    have P:E.take (i+1)=(ps.take (j+1)).filter (fq l):=by rw[G,N,B];rfl
    clear G N;refine ak ?_;all_goals exact fixF (i+1,j+1,Y) ⟨E,Z.symm,R,aFz K,r,P,k7⟩
  .have t1:=en ae r;have fw:c.mC true (Int.ofNat i) (Int.ofNat n) (Int.ofNat n) n=true:=qH ae az6 (aCw _) (aCw _);have eY:c.aB .eql (Int.ofNat i) (Int.ofNat n)=false:=aAg;have fa:=kf ae i 2;have fG:=l9 ae n i;obtain⟨g,xw⟩:∃m,m=n-i:=⟨_,rfl⟩;rw[<-xw]at fG;have g':c.wy true (i*2) g 2 C=true:=by
    have:i*2+g*2<=C.length:=az6;subst ae;exact aDG this
   have lb:c.qp C (i*2) g [.d (.str []),.d (int 0)]=some (cW (a.take i++List.replicate g ([],0))):=by rw[f];exact av9 ae a az6
   have R:(a.take i++List.replicate g (([]:ax),(0:Int))).length=n:=by rw[aCF,aDk,aEF];omega
   have X:(a.take i++List.replicate g (([]:ax),(0:Int))).take i=ps.filter (fq l):=by
    rw[aGc aAG,List.take_take,Nat.min_self,B,aDd az6]
   obtain⟨g0,g1,g2⟩:=aV.of ae (qQ (a.take i++List.replicate g ([],0)));generalize (a.take i++List.replicate g (([]:ax),(0:Int)))=E at*;replace d:=λs h=>d (.aP 0 0 i n 2) s ⟨i,E,⟨az6,R,X⟩,rfl,h⟩;generalize Z:cW E=Y at*;have v1:c.mC true 0 (Int.ofNat i) (Int.ofNat n) n=true:=qH (l:=0) ae az6 az6 (aCw _);have v2:c.aB .eql 0 (Int.ofNat n)=false:=aAg;have v3:c.la 0 0 2=0:=kf ae 0 2;have v4:c.ns (Int.ofNat i) 0=i:=l9 ae i 0;have v5:c.ns (Int.ofNat n) 0=n:=l9 ae n 0;generalize i*2=aB at*;clear X B F w;refine ak ?_;all_goals exact d _ az5
abbrev d0:ax×Int:=([],0)
def jr(z:List (ax×Int)):Nat->List (ax×Int)
 |0=>[]
 |e+1=>if 0<e/\z.getD e d0=z.getD (e-1) d0 then jr z e else jr z e++[z.getD e d0]
theorem afF{z:List (ax×Int)}{e:Nat}(bB:0<e)(h:z.getD e d0=z.getD (e-1) d0):jr z (e+1)=jr z e:=aCT ⟨bB,h⟩
theorem Iy{z:List (ax×Int)}{e:Nat}(h:0<e->z.getD e d0≠z.getD (e-1) d0):jr z (e+1)=jr z e++[z.getD e d0]:=aCV λa=>h a.1 a.2
theorem Iz{z:List (ax×Int)}{i:Nat}(h:i<z.length):z.getD i d0=z[i]:=aBZ
theorem zq{z:List (ax×Int)}{i:Nat}(h:i<z.length):z.take (i+1)=z.take i++[z.getD i d0]:=by rw[aDg,aCB h,Iz h];rfl
theorem afG:∀zs:List (ax×Int),ja (cW zs)=some ((zs.map fI).flatMap D.cells)
 |[]=>rfl
 |z::l=>by
  have h:=afG l;show(match (match ja (cW l)with|some xs=>some (int z.2::xs)|none=>none)with|some xs=>some (Go.aG.D.str z.1::xs)|none=>none)=_;rw[h];rfl
theorem afH:∀zs:List (ax×Int),chunks 2 zs.length ((zs.map fI).flatMap D.cells)=zs.map fI
 |[]=>rfl
 |z::l=>by
  have h:=afH l;show _::chunks 2 l.length ((l.map fI).flatMap D.cells)=_;rw[h];rfl
theorem awc(zs:List (ax×Int)){i:Nat}(hi:i<=zs.length):(cW zs).take (i*2)=cW (zs.take i):=by
 have c:cW zs=cW (zs.take i)++cW (zs.drop i):=by rw[<-zp,aD6]
 have a:i*2=(cW (zs.take i)).length:=by rw[qR,aDk];congr 1;omega
 rw[c,a,List.take_left]
theorem afI{a:bd}(h:a=bd.bU)(zs:List (ax×Int)){n i:Nat}(g:zs.length=n)(hi:i<=n):a.AP 0 i n 2 (cW zs)=some (.list 2 ((zs.take i).map fI)):=by
 subst h
 show cond (Nat.ble i n&&Nat.blt 0 2&&Nat.ble (0+i*2) (cW zs).length) (match ja (((cW zs).drop 0).take (i*2))with
  |some l=>cond (l.all jt) (some (D.list 2 (chunks 2 i l))) none
  |none=>none) none=_
 rw[qR,aDl,aDG hi,aDG (show i*2<=zs.length*2 by omega),aFW,awc zs az6,afG];have f:((((zs.take i).map fI).flatMap D.cells)).all jt=true:=aCQ.2 λx ai=>by
  obtain⟨y,d,ai⟩:=aD3.1 ai;obtain⟨z,_,rfl⟩:=aCY.1 d;rcases aCJ.1 (show x∈[Go.aG.D.str z.1,int z.2]from ai)with rfl|ai
  .rfl
  .rw[aCS.1 ai];rfl
 have c:=afH (zs.take i);rw[aDk,Nat.min_eq_left az6]at c;dsimp only;rw[f,c];rfl
theorem afJ{f:bd}(h:f=bd.bU)(a c:ax)(b d:Int):f.lD [2,1] [.str a,int b] [.str c,int d]=some (decide ((a,b)=(c,d))):=wI h (by
 simp only[cG,aDD,Bool.and_true];simp)
theorem afK{a:bd}(h:a=bd.bU)(k j:Nat):a.la (k*2) (Int.ofNat j) 2=(k+j)*2:=by
 subst h;show k*2+j*2=_;omega
theorem awd{a:bd}(h:a=bd.bU)(ts:List (ax×Int)){i m:Nat}(hi:i+m<=ts.length):a.qp (cW ts) (i*2) m [.d (.str []),.d (int 0)]=some (cW (ts.take i++(List.replicate m d0++ts.drop (i+m)))):=by
 have h1:a.qp (cW ts) (i*2) m [.d (.str []),.d (int 0)]=some (putCells (cW ts) (i*2) (List.replicate m [ah.d (.str []),ah.d (int 0)]).flatten):=aAn;have d:(List.replicate m [ah.d (.str []),ah.d (int 0)]).flatten=cW (List.replicate m d0):=by unfold cW;rw[aFX];rfl
 have f:cW ts=cW (ts.take i)++(cW ((ts.drop i).take m)++cW (ts.drop (i+m))):=by rw[<-zp,<-zp,<-aFe,aD6,aD6]
 have c:i*2=(cW (ts.take i)).length+0:=by rw[qR,aDk,Nat.min_eq_left az6];rfl
 have g:(cW ((ts.drop i).take m)).length=(cW (List.replicate m d0)).length:=by rw[qR,qR,aDk,aDQ,aEF];congr 1;omega
 have j:=OW (cW (List.replicate m d0)) (cW ((ts.drop i).take m)) [] g;rw[h1,d,f,c,LV _ _ _ rfl _ 0 az6,zp,zp];congr 3
theorem awe:aL 42 [.d (.list 2 [])] [] (.d (.list 2 [])) []:=by
 refine L3.ct λa ae Q c=> ?_;have t1:a.aB .lss (Int.ofNat 0) 2=true:=aAZ;have t2:a.len []=0:=aAc;refine ak ?_;all_goals (subst ae;exact bS c az5 az5)
def awf(C:List ah)(q n k:Nat):ag:=cA [(0,.aP 0 0 q n 2),(3,.d (int (Int.ofNat k)))] [.box C]
def awg(C:List ah)(q n d a c i j:Nat):ag:=cA [(0,.aP 0 0 q n 2),(3,.d (int (Int.ofNat i))),(4,.aP 0 d a c 2),(5,.d (int (Int.ofNat j)))] [.box C]
theorem awh(zs:List (ax×Int))(q n:Nat)(aq:zs.length=n)(aS:q<=n)(pa:n<=1073741824)(bB:0<n):aL 42 [.aP 0 0 q n 2] [.box (cW zs)] (.d (.list 2 ((jr zs q).map fI))) [.dead]:=by
 refine L3.fX [0] λf ae aM A=> ?_;obtain⟨bP,bZ,cx⟩:=HU ae;have cb:=afI ae zs aq (i:=q) aS;obtain⟨f0,f1,f2⟩:=aV.of ae (qQ zs);have J:jr zs q=zs.take q->(zs.take q).map fI=(jr zs q).map fI:=λh=>by rw[h]
 have w:∀p,p<n->f.ha (p*2) 2 (cW zs) true=true/\f.l0 (cW zs) (p*2) 2=.d (.agg [.str (zs.getD p d0).1,int (zs.getD p d0).2]):=λp hp=>⟨Ey ae az6,by rw[Iz (by omega:p<zs.length)];exact Ex ae az6⟩;have t0:f.aB .lss (Int.ofNat q) 2=decide (q<2):=by
  rw[(eS ae).2.1];simp only[aCy];congr 1;exact propext ⟨λh=>az6,λh=>az6⟩
 generalize m:cW zs=C at*;by_cases af:q<2
 .rw[aCI af]at t0
  rw[<-J (by
   rcases q with _|_|q
   .rfl
   .rw[zq az6,Iy λh=>absurd h (aEW _)];rfl
   .omega)]at A
  generalize (zs.take q).map fI=Z at*;refine ak ?_;all_goals (subst ae;exact bS A az5 az5)
 rw[aC3 af]at t0;refine ak ?_;clear t0;refine⟨bX (λk:Nat=>awf C q n k) (λk=>1<=k/\k<=q/\jr zs k=zs.take k) (λk=>q-k),_,⟨1,⟨aCw _,az6,by rw[zq az6,Iy λh=>absurd h (aEW _)];rfl⟩,rfl,az5⟩,?_⟩;rintro _ _ ⟨k,⟨hk,ON,v⟩,rfl,rfl⟩;dsimp only at hk ON v⊢;by_cases K:k<q
 .have t1:=ek ae K;obtain⟨g,o7⟩:∃g,k=g+1:=⟨k-1,az6⟩;have t2:=qx ae o7 az6;have t3:=b9 ae (n:=k) az6;obtain⟨fw,eY⟩:=w k az6;obtain⟨v1,v2⟩:=w g az6;have fa:f.dS 2 2 (Int.ofNat k) q=true:=e7 ae K;have v3:f.dS 2 2 (Int.ofNat g) q=true:=e7 ae az6;have fG:=kf ae k 2;have v4:=kf ae g 2;have cI:=afJ ae (zs.getD k d0).1 (zs.getD g d0).1 (zs.getD k d0).2 (zs.getD g d0).2;have F:k-1=g:=az6;by_cases o:zs.getD k d0=zs.getD g d0
  .have t:jr zs (k+1)=zs.take k:=by rw[afF hk (by rw[F];exact o),v]
   rw[aCI (show((zs.getD k d0).1,(zs.getD k d0).2)=((zs.getD g d0).1,(zs.getD g d0).2)from o)]at cI;generalize (zs.getD k d0).1=X at*;generalize (zs.getD k d0).2=U at*;generalize (zs.getD g d0).1=V at*;generalize (zs.getD g d0).2=S at*;have w1:f.mC true (Int.ofNat k) (Int.ofNat q) (Int.ofNat n) n=true:=qH ae az6 aS (aCw _);have b5:=Bq ae (a:=k) (b:=n) az6;have eG:=l9 ae q k;have jw:=l9 ae n k;obtain⟨s,xw⟩:∃s,s=q-k:=⟨_,rfl⟩;obtain⟨R,yb⟩:∃R,R=n-k:=⟨_,rfl⟩;rw[<-xw]at eG;rw[<-yb]at jw;generalize ao:k*2=w4 at*;generalize g*2=ar at*;refine ak ?_;refine⟨bX (λz:(Nat×Nat)×List ah=>awg z.2 q n w4 s R z.1.1 z.1.2) (λz=>(1<=z.1.2/\z.1.1<k+z.1.2/\z.1.2<=s/\k<=z.1.1)/\∃c,z.2=cW c/\c.length=n/\c.take z.1.1=jr zs (k+z.1.2)/\∀p,k+z.1.2<=p+1->c.getD p d0=zs.getD p d0) (λz=>s-z.1.2),_,⟨((k,1),C),⟨⟨aCw _,(by show k<k+1;omega),(by show 1<=s;omega),aCw _⟩,zs,m.symm,aq,t.symm,λ_ _=>rfl⟩,rfl,az5⟩,?_⟩;clear f0 f1 f2 fw eY fa fG v1 v2 v3 v4 cI t1 t2 t3 cb J w1 b5 eG jw w o t v m;rintro _ _ ⟨⟨⟨i,j⟩,C⟩,⟨⟨aI,ep,uq,kc⟩,c,m,fK,B,u⟩,rfl,rfl⟩;dsimp only at aI ep uq kc m B u⊢;obtain⟨f0,f1,f2⟩:=aV.of ae (qQ c);rw[<-m]at f0 f1 f2;by_cases E:j<s
   .have t1:=ek ae E;obtain⟨d,Bm⟩:∃d,j=d+1:=⟨j-1,az6⟩;have t2:=qx ae Bm az6;have t3:=b9 ae (n:=j) az6;have t4:=b9 ae (n:=i) az6;have P:k+j<c.length:=az6;have M:k+d<c.length:=az6;have N:i<c.length:=az6;have fw:f.ha ((k+j)*2) 2 C true=true:=by rw[m];exact Ey ae P
    have eY:f.l0 C ((k+j)*2) 2=.d (.agg [.str (c.getD (k+j) d0).1,int (c.getD (k+j) d0).2]):=by rw[m,Iz P];exact Ex ae P
    have v1:f.ha ((k+d)*2) 2 C true=true:=by rw[m];exact Ey ae M
    have v2:f.l0 C ((k+d)*2) 2=.d (.agg [.str (c.getD (k+d) d0).1,int (c.getD (k+d) d0).2]):=by rw[m,Iz M];exact Ex ae M
    have fa:f.dS 2 2 (Int.ofNat j) s=true:=e7 ae E;have v3:f.dS 2 2 (Int.ofNat d) s=true:=e7 ae az6;have fG:=afK ae k j;have v4:=afK ae k d;rw[ao]at fG v4;have eG:f.dS 2 2 (Int.ofNat i) q=true:=e7 ae az6;have jw:=kf ae i 2;have ni:f.lE true (i*2) 2 C true=true:=by rw[m];exact afz ae N
    have wc:f.kN C (i*2) [.d (.str (c.getD (k+j) d0).1),.d (int (c.getD (k+j) d0).2)]=some (cW (c.set i (c.getD (k+j) d0))):=by rw[m];exact afA ae N _
    obtain⟨g0,g1,g2⟩:=aV.of ae (qQ (c.set i (c.getD (k+j) d0)));have cI:=afJ ae (c.getD (k+j) d0).1 (c.getD (k+d) d0).1 (c.getD (k+j) d0).2 (c.getD (k+d) d0).2;have F:k+j-1=k+d:=az6;have G:=u (k+j) az6;have L:=u (k+d) az6;have H:(c.set i (c.getD (k+j) d0)).length=n:=by rw[aDE];exact fK
    have ai:∀p,k+(j+1)<=p+1->(c.set i (c.getD (k+j) d0)).getD p d0=zs.getD p d0:=λp hp=>by
     rw[aC4,aDb az6,<-aC4];exact u p az6
    have Q:(c.set i (c.getD (k+j) d0)).take (i+1)=c.take i++[c.getD (k+j) d0]:=by rw[aDg,aFf (aCw _),aDf N];rfl
    by_cases o:c.getD (k+j) d0=c.getD (k+d) d0
    .rw[aCI (show((c.getD (k+j) d0).1,(c.getD (k+j) d0).2)=((c.getD (k+d) d0).1,(c.getD (k+d) d0).2)from o)]at cI;have t:c.take i=jr zs (k+(j+1)):=by rw[<-aEg,afF az6 (by rw[F,<-G,<-L];exact o),B]
     clear H ai Q G L o g0 g1 g2 wc;generalize (c.getD (k+j) d0).1=X at*;generalize (c.getD (k+j) d0).2=U at*;generalize (c.getD (k+d) d0).1=V at*;generalize (c.getD (k+d) d0).2=S at*;generalize (k+j)*2=c1 at*;generalize (k+d)*2=c0 at*;refine ak ?_;all_goals exact fixF ((i,j+1),C) ⟨⟨(by show 1<=j+1;omega),(by show i<k+(j+1);omega),E,kc⟩,c,m,fK,t,λp hp=>u p (by have hp:k+(j+1)<=p+1:=hp;omega)⟩
    .rw[aC3 (show((c.getD (k+j) d0).1,(c.getD (k+j) d0).2)≠((c.getD (k+d) d0).1,(c.getD (k+d) d0).2)from o)]at cI;have t:(c.set i (c.getD (k+j) d0)).take (i+1)=jr zs (k+(j+1)):=by rw[<-aEg,Iy λ_=>by rw[F,<-G,<-L];exact o,Q,B,G]
     clear Q G L o;generalize c.set i (c.getD (k+j) d0)=ke at*;generalize fJ:cW ke=dI at*;generalize (c.getD (k+j) d0).1=X at*;generalize (c.getD (k+j) d0).2=U at*;generalize (c.getD (k+d) d0).1=V at*;generalize (c.getD (k+d) d0).2=S at*;generalize (k+j)*2=c1 at*;generalize (k+d)*2=c0 at*;generalize i*2=aB at*;refine ak ?_;all_goals exact fixF ((i+1,j+1),dI) ⟨⟨(by show 1<=j+1;omega),(by show i+1<k+(j+1);omega),E,(by show k<=i+1;omega)⟩,ke,fJ.symm,H,t,ai⟩
   .have t1:=en ae E;have di:i<n:=az6;have fw:f.mC true (Int.ofNat i) (Int.ofNat q) (Int.ofNat n) n=true:=qH ae az6 aS (aCw _);have eY:=Bq ae (a:=i) (b:=n) az6;have fa:=kf ae i 2;have fG:=l9 ae q i;have u8:=l9 ae n i;obtain⟨r,aA⟩:∃r,r=q-i:=⟨_,rfl⟩;rw[<-aA]at fG;obtain⟨rc,xN⟩:∃r,r=n-i:=⟨_,rfl⟩;rw[<-xN]at u8;have Y:=qR c;rw[<-m]at Y;have g':f.wy true (i*2) r 2 C=true:=by
     have:i*2+r*2<=C.length:=az6;subst ae;exact aDG this
    have lb:f.qp C (i*2) r [.d (.str []),.d (int 0)]=some (cW (c.take i++(List.replicate r d0++c.drop (i+r)))):=by rw[m];exact awd ae c az6
    have H:(c.take i++(List.replicate r d0++c.drop (i+r))).length=n:=by rw[aCF,aCF,aDk,aEF,aDQ];omega
    have kr:(c.take i++(List.replicate r d0++c.drop (i+r))).take i=jr zs q:=by
     rw[aGc aAG,List.take_take,Nat.min_self,B];congr 1;omega
    have cb:=afI ae _ H (i:=i) az6;rw[kr]at cb;obtain⟨g0,g1,g2⟩:=aV.of ae (qQ (c.take i++(List.replicate r d0++c.drop (i+r))));generalize (jr zs q).map fI=Z at*;generalize cW (c.take i++(List.replicate r d0++c.drop (i+r)))=dI at*;have v1:f.mC true 0 (Int.ofNat i) (Int.ofNat n) n=true:=qH (l:=0) ae az6 az6 (aCw _);have v2:f.aB .eql 0 (Int.ofNat n)=false:=Bq ae (a:=0) (b:=n) az6;have v3:f.la 0 0 2=0:=kf ae 0 2;have v4:f.ns (Int.ofNat i) 0=i:=l9 ae i 0;have v5:f.ns (Int.ofNat n) 0=n:=l9 ae n 0;clear H kr B u Y;generalize i*2=aB at*;refine ak ?_;all_goals (subst ae;exact bS A az5 az5)
  .have t:jr zs (k+1)=zs.take (k+1):=by rw[Iy λ_=>by rw[F];exact o,v,zq az6]
   rw[aC3 (show((zs.getD k d0).1,(zs.getD k d0).2)≠((zs.getD g d0).1,(zs.getD g d0).2)from o)]at cI;generalize (zs.getD k d0).1=X at*;generalize (zs.getD k d0).2=U at*;generalize (zs.getD g d0).1=V at*;generalize (zs.getD g d0).2=S at*;generalize k*2=w4 at*;generalize g*2=ar at*;clear w J;refine ak ?_;all_goals exact fixF (k+1) ⟨Nat.le_add_left _ _,K,t⟩
 .have t1:=en ae K;obtain rfl:k=q:=az6;rw[<-J v]at A;clear J w v;generalize (zs.take k).map fI=Z at*;refine ak ?_;all_goals (subst ae;exact bS A az5 az5)
end Go.Proofs.YthffhbakgmemaaaGreatDoor
