/- Part of parts_said. -/
import Derived.Test.YthffhbakgmemaaaGreatDoorB1
set_option maxRecDepth 100000
set_option maxHeartbeats 8000000
set_option linter.unusedSimpArgs false
set_option linter.unusedVariables false
namespace Go.Proofs.YthffhbakgmemaaaGreatDoor
open Go Go.aG
attribute [local irreducible] bD
structure aJ where
 l:List Tok
 T:D
 i:Nat
 n:Nat
 ec:Nat
 e:Int
 a:Int
def aJ.ob(p:aJ):cc:=.box [.d p.T,.d (int p.i),.d (int p.n),.d (int p.ec),.d (int p.e),.d (int p.a)]
def px:Tok:=⟨0,[],0,0⟩
def aJ.dU(p:aJ):Tok:=cond (!decide (p.e=0)) px (p.l.getD p.i px)
def aJ.fail(p:aJ)(e:Int):aJ:=cond (!decide (p.e=0)) p ⟨p.l,p.T,p.i,p.n,p.ec,e,cond (decide (p.i<p.l.length)) (p.l.getD p.i px).p p.n⟩
def aJ.next(p:aJ):aJ:=⟨p.l,p.T,p.i+1,p.n,p.ec,p.e,p.a⟩
def aJ.is(p:aJ)(s:ax):Bool:=(decide (p.dU.k=1)||decide (p.dU.k=4))&&decide (p.dU.t=s)
structure aJ.Ok(p:aJ):Prop where
 i:p.i<=p.l.length
 l:p.l.length<=1073741824
 d:p.ec<=32
 t:∀x∈p.l,u1 x
 T:p.T=pw p.l
theorem getD_none{a:Type}{l:List a}{i:Nat}{z:a}(h:l.length<=i):l.getD i z=z:=az8
theorem aoP{a:Type}{l:List a}{i:Nat}{z:a}(h:i<l.length):l.getD i z=l[i]:=az8
section
attribute [local irreducible] Int.decLt Int.decLe Int.instDecidableEq IntKind.wrap instDecidableEqList
theorem aJ.yw{p:aJ}(hp:p.Ok):p.ob=.box [.d (pw p.l),.d (int p.i),.d (int p.n),.d (int p.ec),.d (int p.e),.d (int p.a)]:=by
 grind[aJ.ob,Ok.T]
theorem AX(p:aJ)(hp:p.Ok):aL 175 [.ptr 0 0] [p.ob] (.d p.dU.d) [p.ob]:=by
 have h1:=hp.i;have d:=hp.l;rw[aJ.yw hp];refine Xi.hB ?_;refine db ?_;first|refine uU (λh=> ?_) (λh=> ?_)|((refine ta (λh=> ?_) (λh=> ?_))<;>(try simp only[aC0]at h))
 .refine db ?_;exact⟨aCO (b:=.d px.d) az5 (by grind[aJ.dU]),az5⟩
 .by_cases f:p.l.length<=p.i
  .have a:decide (((p.l.map Tok.d).length:Int)<=(p.i:Int))=true:=by simp_all
   conv=>whnf
   repeat ((first|refine qo ?_|refine qn ?_);conv=>whnf)
   simp only[a];refine db ?_;exact⟨aCO (b:=.d px.d) az5 (by grind[aJ.dU]),az5⟩
  .have a:decide (((p.l.map Tok.d).length:Int)<=(p.i:Int))=false:=by simp_all
   conv=>whnf
   repeat ((first|refine qo ?_|refine qn ?_);conv=>whnf)
   simp only[a];conv=>whnf
   repeat ((first|refine qo ?_|refine qn ?_);conv=>whnf)
   refine⟨az8,?_⟩;have c:(p.l.map Tok.d).getD (Int.toNat (p.i:Int)) .dJ=(p.l[p.i]' az6).d:=getD_map _;simp only[c];refine db ?_;exact⟨aCO (b:=.d (p.l[p.i]' az6).d) az5 (by unfold aJ.dU;grind),az5⟩
theorem qz(p:aJ)(e:Int)(hp:p.Ok):aL 94 [.ptr 0 0,.d (int e)] [p.ob] (.tuple []) [(p.fail e).ob]:=by
 have h1:=hp.i;have d:=hp.l;rw[aJ.yw hp];refine UN.hB ?_;refine db ?_;refine ta (λh=> ?_) (λh=> ?_)
 .refine db ?_;first|refine⟨az7,?_⟩|refine⟨trivial,?_⟩|skip
  unfold aJ.fail;rw[h];exact congrArg (λx=>[x]) (aJ.yw hp).symm
 .by_cases f:p.i<p.l.length
  .have c:decide ((p.i:Int)<((p.l.map Tok.d).length:Int))=true:=by simp_all
   conv=>whnf
   repeat ((first|refine qo ?_|refine qn ?_);conv=>whnf)
   refine⟨az8,?_⟩;have a:(p.l.map Tok.d).getD (Int.toNat (p.i:Int)) .dJ=(p.l[p.i]' az6).d:=getD_map _;simp only[a];refine db ?_;first|refine⟨az7,?_⟩|refine⟨trivial,?_⟩|skip
   refine aCO (b:=[aJ.ob ⟨p.l,pw p.l,p.i,p.n,p.ec,e,(p.l[p.i]' az6).p⟩]) az5 ?_;grind[aJ.fail,aJ.Ok.T]
  .have c:decide ((p.i:Int)<((p.l.map Tok.d).length:Int))=false:=by simp_all
   refine db ?_;first|refine⟨az7,?_⟩|refine⟨trivial,?_⟩|skip
   refine aCO (b:=[aJ.ob ⟨p.l,pw p.l,p.i,p.n,p.ec,e,p.n⟩]) az5 ?_;grind[aJ.fail,aJ.Ok.T]
theorem DF(p:aJ)(s:ax)(hp:p.Ok):aL 172 [.ptr 0 0,.d (.str s)] [p.ob] (.d (.bool (p.is s))) [p.ob]:=by
 have a:=AX p hp;unfold aJ.is;generalize p.dU=t at a⊢;refine Xg.hB ?_;refine db ?_;refine c6 (a) ?_;cases h1:decide (t.k=1)with
 |true=>
  refine db ?_;exact⟨aCO (b:=.d (.bool (decide (t.t=s)))) az5 rfl,az5⟩
 |false=>
  cases c:decide (t.k=4)with
  |true=>
   refine db ?_;exact⟨aCO (b:=.d (.bool (decide (t.t=s)))) az5 rfl,az5⟩
  |false=>
   refine db ?_;exact⟨aCO (b:=.d (.bool false)) az5 rfl,az5⟩
def aJ.maybe(p:aJ)(s:ax):aJ:=cond (p.is s) p.next p
def aJ.want(p:aJ)(s:ax):aJ:=cond (p.is s) p.next (p.fail 51)
def aJ.iY(p:aJ)(k:Int):Tok:=cond (!decide (p.dU.k=k)) px p.dU
def aJ.h2(p:aJ)(k:Int):aJ:=cond (!decide (p.dU.k=k)) (p.fail 51) p.next
theorem Hm(p:aJ)(s:ax)(hp:p.Ok):aL 118 [.ptr 0 0,.d (.str s)] [p.ob] (.d (.bool (p.is s))) [(p.maybe s).ob]:=by
 have a:=DF p s hp;have h1:=hp.i;have c:=hp.l;unfold aJ.maybe;generalize p.is s=b at a⊢;refine WS.hB ?_;refine db ?_;refine c6 (a) ?_;cases b with
 |true=>
  refine db ?_;refine⟨az5,?_⟩;exact aCO (b:=[.box [.d p.T,.d (int (IntKind.i64.wrap ((p.i:Int)+((1:Nat):Int)))),.d (int p.n),.d (int p.ec),.d (int p.e),.d (int p.a)]]) az5 (congrArg (λk=>[cc.box [.d p.T,.d (int k),.d (int p.n),.d (int p.ec),.d (int p.e),.d (int p.a)]]) (u0 p.i 1 az6))
 |false=>
  refine db ?_;exact⟨az5,az5⟩
theorem km(p:aJ)(s:ax)(hp:p.Ok):aL 93 [.ptr 0 0,.d (.str s)] [p.ob] (.tuple []) [(p.want s).ob]:=by
 have a:=Hm p s hp;have c:=qz p 51 hp;unfold aJ.want;unfold aJ.maybe at a;generalize p.is s=b at a⊢;refine WI.hB ?_;refine db ?_;cases b with
 |true=>
  refine c6 (a) ?_;exact⟨az7,az5⟩
 |false=>
  refine c6 (a) ?_;refine c6 (c) ?_;exact⟨az7,az5⟩
theorem M5(p:aJ)(k:Int)(hp:p.Ok):aL 127 [.ptr 0 0,.d (int k)] [p.ob] (.d (p.iY k).d) [(p.h2 k).ob]:=by
 have a:=AX p hp;have c:=qz p 51 hp;have h1:=hp.i;have d:=hp.l;unfold aJ.iY aJ.h2;generalize p.dU=t at a⊢;refine WX.hB ?_;refine db ?_;refine c6 (a) ?_;cases h:decide (t.k=k)with
 |false=>
  refine db ?_;refine c6 (c) ?_;exact⟨az5,az5⟩
 |true=>
  refine db ?_;refine⟨az5,?_⟩;exact aCO (b:=[.box [.d p.T,.d (int (IntKind.i64.wrap ((p.i:Int)+((1:Nat):Int)))),.d (int p.n),.d (int p.ec),.d (int p.e),.d (int p.a)]]) az5 (congrArg (λk=>[cc.box [.d p.T,.d (int k),.d (int p.n),.d (int p.ec),.d (int p.e),.d (int p.a)]]) (u0 p.i 1 az6))
theorem oG(p:aJ)(hp:p.Ok):aL 119 [.ptr 0 0] [p.ob] (.d (.str (p.iY 1).t)) [(p.h2 1).ob]:=by
 have a:=M5 p 1 hp;generalize p.iY 1=t at a⊢;generalize p.h2 1=q at a⊢;refine UU.hB ?_;refine db ?_;refine c6 (a) ?_;exact⟨az5,az5⟩
end
theorem Hn{P:Program}{gl:Nat->List D}{f:Nat}{c:aW}{a:List ah}{s:aY}(Q:ah->aY->Prop)(h:a6 P f c)(d:mf (fR P gl) gl c a s Q):∃r s',Q r s'/\bD P gl f a s r s':=by
 grind[a6.ext]
structure Step(p q:aJ):Prop where
 ok:q.Ok
 l:q.l=p.l
 n:q.n=p.n
 d:q.ec=p.ec
 i:p.i<=q.i
 e:p.e≠0->q.e≠0
theorem Step.refl{p:aJ}(h:p.Ok):Step p p:=⟨h,rfl,rfl,rfl,aCw _,id⟩
theorem Step.trans{p q r:aJ}(h:Step p q)(k:Step q r):Step p r:=⟨k.ok,k.l.trans h.l,k.n.trans h.n,k.d.trans h.d,aDn h.i k.i,λx=>k.e (h.e x)⟩
theorem aJ.tj{p:aJ}{e:Int}(h:p.Ok):Step p (p.fail e):=by
 unfold aJ.fail;cases he:!decide (p.e=0)with
 |true=>exact Step.refl h
 |false=>exact⟨⟨h.i,h.l,h.d,h.t,h.T⟩,rfl,rfl,rfl,aCw _,λx=>absurd az8 x⟩
theorem aJ.oH{p:aJ}{e:Int}(h:e≠0):(p.fail e).e≠0:=by
 grind[aJ.fail]
theorem aJ.rN{p:aJ}(h:p.dU.k≠0):p.e=0/\p.i<p.l.length:=by
 unfold aJ.dU at h;cases he:!decide (p.e=0)with
 |true=>rw[he]at h;exact absurd rfl h
 |false=>
  rw[he]at h;refine⟨az8,?_⟩;by_cases a:p.i<p.l.length;all_goals simp_all[px]
theorem aJ.im{p:aJ}(h:p.Ok)(a:p.dU.k≠0):Step p p.next:=by
 have:=aJ.rN a;exact⟨⟨by have:=this.2;show p.i+1<=p.l.length;omega,h.l,h.d,h.t,h.T⟩,rfl,rfl,rfl,Nat.le_succ _,λx=>absurd this.1 x⟩
theorem aJ.h3{p:aJ}{s:ax}(h:p.is s=true):p.dU.k≠0:=by
 unfold aJ.is at h;grind
theorem aJ.AY{p:aJ}{s:ax}(h:p.Ok):Step p (p.want s):=by
 grind[aJ.want,im,h3,tj]
theorem aJ.aoQ{p:aJ}{s:ax}(h:p.Ok):Step p (p.maybe s):=by
 grind[aJ.maybe,Step.refl,im,h3]
theorem aJ.acI{p:aJ}{k:Int}(h:p.Ok)(a:k≠0):Step p (p.h2 k):=by
 unfold aJ.h2;cases hi:decide (p.dU.k=k)with
 |true=>simp_all[im]
 |false=>exact aJ.tj h
theorem np{p:aJ}{s:ax}(hp:p.Ok)(h:p.is s=true):aL 118 [.ptr 0 0,.d (.str s)] [p.ob] (.d (.bool true)) [p.next.ob]:=by
 grind[Hm,aJ.maybe]
theorem nq{p:aJ}{s:ax}(hp:p.Ok)(h:p.is s=false):aL 118 [.ptr 0 0,.d (.str s)] [p.ob] (.d (.bool false)) [p.ob]:=by
 grind[Hm,aJ.maybe]
def l5(p:aJ):List ax->Nat->Nat×aJ
 |[],_=>(0,p.fail 51)
 |w::l,k=>cond (p.is w) (k+1,p.next) (l5 p l (k+1))
def fx(l:List ax):D:=.list 1 (l.map .str)
theorem M6{p:aJ}(h:p.Ok):∀{l:List ax} {k:Nat},Step p (l5 p l k).2/\(l5 p l k).1<=k+l.length/\((l5 p l k).2.e≠0\/p.i<(l5 p l k).2.i)
 |[],k=>⟨aJ.tj h,aCu _,Or.inl (aJ.oH az6)⟩
 |w::l,k=>by
  unfold l5;cases hi:p.is w with
  |true=>exact⟨aJ.im h (aJ.h3 hi),az7,Or.inr (aFd _)⟩
  |false=>
   have:=@M6 p h l (k+1);exact⟨this.1,az9,this.2.2⟩
theorem acJ{p:aJ}:∀{l:List ax} {k:Nat},(l5 p l k).2.e=0->(l5 p l k).2.i=p.i+1/\p.e=0/\1<=(l5 p l k).1
 |[],k=>λh=>absurd h (aJ.oH az6)
 |w::l,k=>by
  unfold l5;cases hi:p.is w with
  |true=>exact λh=>⟨rfl,h,Nat.succ_le_succ (aCu _)⟩
  |false=>exact λh=>acJ (l:=l) (k:=k+1) h
theorem M7:u1 px:=⟨aCu _,eb.zero⟩
theorem aJ.M8{p:aJ}(h:p.Ok):u1 p.dU:=by
 unfold aJ.dU;cases he:!decide (p.e=0)with
 |true=>exact M7
 |false=>
  by_cases a:p.i<p.l.length
  .rw[show(cond false px (p.l.getD p.i px))=p.l[p.i]from aoP a];grind[Ok.t]
  .rw[show(cond false px (p.l.getD p.i px))=px from getD_none az6];exact M7
theorem aJ.DG{p:aJ}{k:Int}(h:p.Ok):u1 (p.iY k):=by
 grind[aJ.iY,M7,M8]
theorem aJ.acK{p:aJ}{k:Int}(h:(p.h2 k).e=0):(p.h2 k).i=p.i+1/\p.e=0:=by
 unfold aJ.h2 at h⊢;cases hi:decide (p.dU.k=k)with
 |true=>rw[hi]at h;exact⟨rfl,h⟩
 |false=>grind[oH]
theorem aJ.aoR{p:aJ}{s:ax}(h:(p.want s).e=0):(p.want s).i=p.i+1/\p.e=0:=by
 unfold aJ.want at h⊢;cases hi:p.is s with
 |true=>rw[hi]at h;exact⟨rfl,h⟩
 |false=>grind[oH]
theorem Step.bT{p q:aJ}(h:Step p q)(k:q.e=0):p.e=0:=by
 grind[e]
section
attribute [local irreducible] Int.decLt Int.decLe Int.instDecidableEq IntKind.wrap instDecidableEqList
def aoS(p:aJ)(ws:List ax)(k:Nat):ag:=cA [(0,.ptr 0 0),(7,.d (fx ws)),(8,.d (int (ws.map D.str).length)),(9,.d (int k))] [p.ob]
theorem acL(p:aJ)(ws:List ax)(hp:p.Ok)(m:ws.length<=1000):aL 89 [.ptr 0 0,.d (fx ws)] [p.ob] (.d (int ((l5 p ws 0).1:Nat))) [(l5 p ws 0).2.ob]:=by
 refine aaD.hB ?_;refine db ?_;refine⟨λn g=>∃k,k<=ws.length/\n=ws.length-k/\l5 p (ws.drop k) k=l5 p ws 0/\g=aoS p ws k,ws.length,⟨0,aCu _,rfl,rfl,az5⟩,?_⟩;rintro _ _ ⟨k,l,rfl,f,rfl⟩;refine db ?_;first|refine uU (λh1=> ?_) (λh1=> ?_)|((refine ta (λh1=> ?_) (λh1=> ?_))<;>(try simp only[aC0]at h1))
 .have c:k<ws.length:=by simp_all
  have j:=aEK c;have d:(ws.map D.str).getD (Int.toNat (k:Int)) .dJ=.str ws[k]:=getD_map _;conv=>whnf
  repeat ((first|refine qo ?_|refine qn ?_);conv=>whnf)
  refine⟨by simp<;>omega,?_⟩;simp only[d];cases hi:p.is ws[k]with
  |true=>
   refine db ?_;refine c6 (np hp hi) ?_;have a:l5 p ws 0=(k+1,p.next):=by grind[l5]
   rw[a];exact⟨aCO (b:=.d (int (IntKind.i64.wrap ((k:Int)+((1:Nat):Int))))) az5 (congrArg (λk=>ah.d (int k)) (u0 k 1 az6)),az5⟩
  |false=>
   refine db ?_;refine c6 (nq hp hi) ?_;refine⟨ws.length-(k+1),az6,k+1,az6,rfl,by grind[l5],?_⟩;exact aCO (b:=cA [(0,.ptr 0 0),(7,.d (fx ws)),(8,.d (int (ws.map D.str).length)),(9,.d (int (IntKind.i64.wrap ((k:Int)+((1:Nat):Int)))))] [p.ob]) az5 (congrArg (λk=>cA [(0,.ptr 0 0),(7,.d (fx ws)),(8,.d (int (ws.map D.str).length)),(9,.d (int k))] [p.ob]) (u0 k 1 az6))
 .have c:k=ws.length:=by grind
  have a:l5 p ws 0=(0,p.fail 51):=by rw[<-f,c,List.drop_length];rfl
  rw[a];refine db ?_;refine c6 (qz p 51 hp) ?_;exact⟨az5,az5⟩
end
def fS{a:Type}(f:a->Nat):List a->Nat
 |[]=>0
 |x::l=>200+f x+fS f l
theorem rO{a:Type}{f:a->Nat}:∀(l m:List a),fS f (l++m)=fS f l+fS f m
 |[],m=>by grind[fS]
 |x::l,m=>by show 200+f x+fS f (l++m)=(200+f x+fS f l)+fS f m;rw[rO l m];omega
def fl(l:List ax):Nat:=fS List.length l
section
attribute [local irreducible] Int.decLt Int.decLe Int.instDecidableEq IntKind.wrap instDecidableEqList
def M9(q:aJ)(x:List ax):aY:=[q.ob,.box [.own 1 (x.map .str)],.box [.ptr 0 0]]
theorem aJ.aoT{p:aJ}{k:Int}(hp:p.Ok)(a:k≠0):Step p (p.h2 k)/\(p.iY k).t.length<=16384/\eb (p.iY k).n/\((p.h2 k).e=0->(p.h2 k).i=p.i+1):=⟨aJ.acI hp a,(aJ.DG hp).1,(aJ.DG hp).2,λh=>(aJ.acK h).1⟩
theorem acM(p:aJ)(x:List ax)(hp:p.Ok)(d:x.length<=2147483648):∃(q:aJ) (t:ax),Step p q/\t.length<=16384/\(q.e=0->q.i=p.i+1)/\aL 176 [.ptr 0 0,.ptr 1 0] [.box [.own 1 (x.map .str)],.box [.ptr 2 0],p.ob] (.tuple []) [.box [.own 1 ((x++[t]).map .str)],.box [.ptr 2 0],q.ob]:=by
 have c:=aJ.aoT (k:=1) hp az6;refine⟨p.h2 1,(p.iY 1).t,c.1,c.2.1,c.2.2.2,?_⟩;have a:=oG p hp;generalize p.h2 1=q at a⊢;generalize (p.iY 1).t=t at a⊢;refine Xk.hB ?_;conv=>whnf
 repeat ((first|refine qo ?_|refine qn ?_);conv=>whnf)
 refine LA (a) az5 az5 ?_;conv=>whnf
 repeat ((first|refine qo ?_|refine qn ?_);conv=>whnf)
 refine⟨by simp<;>omega,?_⟩;refine db ?_;refine⟨az7,?_⟩;rw[aCR];kernel_rfl
theorem aoU(p:aJ)(hp:p.Ok):∃r s',(∃(q:aJ) (x:List ax),Step p q/\x.length<=q.i+1/\(q.e=0->fl x+20000*p.i<=20000*q.i)/\r=.tuple []/\s'=M9 q x)/\aL 120 [.ptr 0 0,.func 176 [] [.ptr 1 0,.ptr 2 0]] (M9 p []) r s':=by
 have t:=hp.l;refine Hn _ wD ?_;refine db ?_;refine aC1 (acM p [] hp az7) (λq h=>aC1 h (λx h=> ?_));have c:=h.1;have o:=h.2.1;have l:=h.2.2.1;refine c6 (h.2.2.2) ?_;refine⟨λn s=>∃(q:aJ) (x:List ax),Step p q/\x.length<=q.i+1/\(q.e=0->fl x+20000*p.i<=20000*q.i)/\n=q.l.length-q.i/\s=cA [(0,.ptr 0 0),(1,.func 176 [] [.ptr 1 0,.ptr 2 0])] (M9 q x),q.l.length-q.i,⟨q,[x],c,az7,λf=>by show 200+x.length+0+_<=_;omega,rfl,az5⟩,?_⟩;rintro _ _ ⟨q,x,a,m,k,rfl,rfl⟩;refine db ?_;have u:=a.ok.i;have v:=a.ok.l;cases hi:q.is [44]with
 |true=>
  have w:=aJ.rN (aJ.h3 hi);have d:=aJ.im a.ok (aJ.h3 hi);refine c6 (np a.ok hi) ?_;refine aC1 (acM q.next x d.ok az6) (λg h=>aC1 h (λj h=> ?_));have c:=h.1;have o:=h.2.1;have l:=h.2.2.1;have B:=c.i;have A:=c.l;have E:q.next.i=q.i+1:=rfl;have z:q.next.l=q.l:=rfl;refine c6 (h.2.2.2) ?_;refine⟨g.l.length-g.i,az9,g,x++[j],(a.trans d).trans c,az9,λf=> ?_,rfl,az5⟩;have C:=l f;have b5:=k (d.bT (c.bT f));unfold fl at b5⊢;rw[rO];show _+(200+j.length+0)+_<=_;omega
 |false=>
  refine c6 (nq a.ok hi) ?_;exact⟨q,x,a,m,k,az7,az5⟩
theorem acN(p:aJ)(hp:p.Ok):∃(q:aJ) (x:List ax),(Step p q/\(q.e=0->fl x+20000*p.i<=20000*q.i))/\aL 128 [.ptr 0 0] [p.ob] (.d (fx x)) [q.ob]:=by
 suffices h:∃r a,(∃(q:aJ) (x:List ax),Step p q/\(q.e=0->fl x+20000*p.i<=20000*q.i)/\r=.d (fx x)/\a=[q.ob])/\aL 128 [.ptr 0 0] [p.ob] r a by
  grind
 obtain⟨_,_,⟨q,x,h1,f,c,rfl,rfl⟩,d⟩:=aoU p hp;refine Hn _ YK ?_;refine db ?_;refine c6 (d) ?_;exact⟨q,x,h1,c,az5,az5⟩
end
inductive aD where
 |mk (k:Int) (n:ax) (fY vi:Int) (eB op:ax) (l:List aD)
def aD.k:aD->Int|.mk k _ _ _ _ _ _=>k
def aD.n:aD->ax|.mk _ n _ _ _ _ _=>n
def aD.fY:aD->Int|.mk _ _ k _ _ _ _=>k
def aD.vi:aD->Int|.mk _ _ _ i _ _ _=>i
def aD.eB:aD->ax|.mk _ _ _ _ t _ _=>t
def aD.op:aD->ax|.mk _ _ _ _ _ o _=>o
def aD.l:aD->List aD|.mk _ _ _ _ _ _ l=>l
mutual
def aD.d:aD->D
 |.mk k n fY vi eB op l=>.agg [int k,.str n,int fY,int vi,.str eB,.str op,.list 7 (aD.ds l)]
def aD.ds:List aD->List D
 |[]=>[]
 |x::l=>x.d::aD.ds l
end
def aD.cells(x:aD):List D:=[int x.k,.str x.n,int x.fY,int x.vi,.str x.eB,.str x.op,.list 7 (aD.ds x.l)]
theorem aD.nr(x:aD):x.d=.agg x.cells:=aAY
theorem aD.DH:∀(l m:List aD),aD.ds (l++m)=aD.ds l++aD.ds m
 |[],m=>rfl
 |x::l,m=>by show x.d::aD.ds (l++m)=x.d::(aD.ds l++aD.ds m);rw[aD.DH l m]
theorem aD.u2:∀(l:List aD),(aD.ds l).length=l.length
 |[]=>rfl
 |x::l=>by show(aD.ds l).length+1=l.length+1;rw[aD.u2 l]
mutual
def aD.w:aD->Nat
 |.mk _ n _ _ eB op l=>200+n.length+eB.length+op.length+aD.ws l
def aD.ws:List aD->Nat
 |[]=>0
 |x::l=>x.w+aD.ws l
end
mutual
def aD.good:aD->Prop
 |.mk _ _ _ vi _ _ l=>eb vi/\aD.nu l
def aD.nu:List aD->Prop
 |[]=>True
 |x::l=>x.good/\aD.nu l
end
theorem aD.yx:∀(l m:List aD),aD.ws (l++m)=aD.ws l+aD.ws m
 |[],m=>by grind[aD.ws]
 |x::l,m=>by show x.w+aD.ws (l++m)=(x.w+aD.ws l)+aD.ws m;rw[aD.yx l m];omega
theorem aD.M':∀{l m:List aD},aD.nu l->aD.nu m->aD.nu (l++m)
 |[],m,_,h=>h
 |x::l,m,h,k=>⟨h.1,aD.M' h.2 k⟩
def lG:aD:=.mk 0 [] 0 0 [] [] []
theorem tk:lG.good:=⟨eb.zero,trivial⟩
inductive bj where
 |mk (k:Int) (n:ax) (l:List bj) (c:aD) (ns:List ax) (xs:List aD) (on:List (ax×ax)) (aw:List (ax×ax×ax)) (ob:List (ax×Bool)) (cJ:Int)
def bj.k:bj->Int|.mk k _ _ _ _ _ _ _ _ _=>k
def bj.n:bj->ax|.mk _ n _ _ _ _ _ _ _ _=>n
def bj.l:bj->List bj|.mk _ _ l _ _ _ _ _ _ _=>l
def bj.c:bj->aD|.mk _ _ _ c _ _ _ _ _ _=>c
def bj.ns:bj->List ax|.mk _ _ _ _ ns _ _ _ _ _=>ns
def bj.xs:bj->List aD|.mk _ _ _ _ _ xs _ _ _ _=>xs
def bj.on:bj->List (ax×ax)|.mk _ _ _ _ _ _ on _ _ _=>on
def bj.aw:bj->List (ax×ax×ax)|.mk _ _ _ _ _ _ _ aw _ _=>aw
def bj.ob:bj->List (ax×Bool)|.mk _ _ _ _ _ _ _ _ ob _=>ob
def bj.cJ:bj->Int|.mk _ _ _ _ _ _ _ _ _ cJ=>cJ
def fm(x:ax×ax):D:=.agg [.str x.1,.str x.2]
def eK(x:ax×ax×ax):D:=.agg [.str x.1,.str x.2.1,.str x.2.2]
def fp(x:ax×Bool):D:=.agg [.str x.1,.bool x.2]
mutual
def bj.d:bj->D
 |.mk k n l c ns xs on aw ob cJ=>.agg [int k,.str n,.list 16 (bj.ds l),int c.k,.str c.n,int c.fY,int c.vi,.str c.eB,.str c.op,.list 7 (aD.ds c.l),fx ns,.list 7 (aD.ds xs),.list 2 (on.map fm),.list 3 (aw.map eK),.list 2 (ob.map fp),int cJ]
def bj.ds:List bj->List D
 |[]=>[]
 |x::l=>x.d::bj.ds l
end
def bj.cells(p:bj):List D:=[int p.k,.str p.n,.list 16 (bj.ds p.l),int p.c.k,.str p.c.n,int p.c.fY,int p.c.vi,.str p.c.eB,.str p.c.op,.list 7 (aD.ds p.c.l),fx p.ns,.list 7 (aD.ds p.xs),.list 2 (p.on.map fm),.list 3 (p.aw.map eK),.list 2 (p.ob.map fp),int p.cJ]
theorem bj.nr(x:bj):x.d=.agg x.cells:=aAY
theorem bj.DH:∀(l m:List bj),bj.ds (l++m)=bj.ds l++bj.ds m
 |[],m=>rfl
 |x::l,m=>by show x.d::bj.ds (l++m)=x.d::(bj.ds l++bj.ds m);rw[bj.DH l m]
theorem bj.u2:∀(l:List bj),(bj.ds l).length=l.length
 |[]=>rfl
 |x::l=>by show(bj.ds l).length+1=l.length+1;rw[bj.u2 l]
def j0(l:List (ax×ax)):Nat:=fS (λx=>x.1.length+x.2.length) l
def j1(l:List (ax×ax×ax)):Nat:=fS (λx=>x.1.length+x.2.1.length+x.2.2.length) l
def j2(l:List (ax×Bool)):Nat:=fS (λx=>x.1.length) l
mutual
def bj.w:bj->Nat
 |.mk _ n l c ns xs on aw ob _=>500+n.length+bj.ws l+c.w+fl ns+aD.ws xs+j0 on+j1 aw+j2 ob
def bj.ws:List bj->Nat
 |[]=>0
 |x::l=>x.w+bj.ws l
end
mutual
def bj.good:bj->Prop
 |.mk _ _ l c _ xs _ _ _ cJ=>eb cJ/\c.good/\aD.nu xs/\bj.nu l
def bj.nu:List bj->Prop
 |[]=>True
 |x::l=>x.good/\bj.nu l
end
def tm:bj:=.mk 0 [] [] lG [] [] [] [] [] 0
theorem DI:tm.good:=⟨eb.zero,tk,trivial,trivial⟩
structure gO(p q:aJ)(x:aD):Prop where
 s:Step p q
 g:x.good
 w:q.e=0->x.w+20000*p.i<=20000*q.i
def h4(f d:Nat):Prop:=∀p:aJ,p.Ok->p.ec=d->∃(q:aJ) (x:aD),gO p q x/\aL f [.ptr 0 0] [p.ob] (.d (.agg x.cells)) [q.ob]
theorem DJ{f:Nat}{args:List ah}{s:aY}{p:aJ}{a:aW}(h:a6 a1 f a)(c:mf (fR a1 gl) gl a args s λr s'=>∃(q:aJ) (x:aD),gO p q x/\r=.d (.agg x.cells)/\s'=[q.ob]):
  ∃(q:aJ) (x:aD),gO p q x/\aL f args s (.d (.agg x.cells)) [q.ob]:=by
 grind[Hn]
section
attribute [local irreducible] Int.decLt Int.decLe Int.instDecidableEq IntKind.wrap instDecidableEqList
theorem Na(op:ax)(x:aD):aL 337 [.d (.str op),.d (.agg x.cells)] [] (.d (.agg (aD.mk 3 [] 0 0 [] op [x]).cells)) []:=by
 refine Wd.hB ?_;refine db ?_;refine⟨aCO (b:=.d (.agg [int 3,.str [],int 0,int 0,.str [],.str op,.list 7 [.agg x.cells]])) az5 ?_,az5⟩;rw[<-aD.nr];rfl
theorem acO(op:ax)(x y:aD):aL 321 [.d (.str op),.d (.agg x.cells),.d (.agg y.cells)] [] (.d (.agg (aD.mk 4 [] 0 0 [] op [x,y]).cells)) []:=by
 refine V8.hB ?_;refine db ?_;refine⟨aCO (b:=.d (.agg [int 4,.str [],int 0,int 0,.str [],.str op,.list 7 [.agg x.cells,.agg y.cells]])) az5 ?_,az5⟩;rw[<-aD.nr,<-aD.nr];rfl
theorem aoV(n:ax):aL 350 [.d (.str n)] [] (.d (.agg (aD.mk 1 n 0 0 [] [] []).cells)) []:=by
 refine abV.hB ?_;refine db ?_;exact⟨az5,az5⟩
theorem Ho(k i:Int)(t:ax):aL 348 [.d (.agg [int k,int i,.str t])] [] (.d (.agg (aD.mk 2 [] k i t [] []).cells)) []:=by
 refine X7.hB ?_;refine db ?_;exact⟨az5,az5⟩
def py(p:aJ):List ax->Nat->Int×aJ
 |[],_=>(-1,p)
 |w::l,k=>cond (p.is w) ((k:Int),p.next) (py p l (k+1))
theorem Nb(p:aJ):∀(l:List ax) (k:Nat),py p l k=(-1,p)\/∃j,k<=j/\j<k+l.length/\py p l k=((j:Int),p.next)/\p.dU.k≠0
 |[],k=>.inl rfl
 |w::l,k=>by
  unfold py;cases hi:p.is w with
  |true=>exact .inr ⟨k,aCw _,az7,rfl,aJ.h3 hi⟩
  |false=>
   rcases Nb p l (k+1)with h|⟨j,h1,d,c,a⟩
   .exact .inl h
   .exact .inr ⟨j,az6,by simp only[aCU];omega,c,a⟩
def aoW(p:aJ)(ws:List ax)(k:Nat):ag:=cA [(0,.d (fx ws)),(1,.func 118 [.ptr 0 0] []),(7,.d (int (ws.map D.str).length)),(8,.d (int k))] [p.ob]
theorem acP(p:aJ)(ws:List ax)(hp:p.Ok)(m:ws.length<=1000):aL 220 [.d (fx ws),.func 118 [.ptr 0 0] []] [p.ob] (.d (int (py p ws 0).1)) [(py p ws 0).2.ob]:=by
 refine Mp.hB ?_;refine db ?_;refine⟨λn g=>∃k,k<=ws.length/\n=ws.length-k/\py p (ws.drop k) k=py p ws 0/\g=aoW p ws k,ws.length,⟨0,aCu _,rfl,rfl,az5⟩,?_⟩;rintro _ _ ⟨k,l,rfl,f,rfl⟩;refine db ?_;first|refine uU (λh1=> ?_) (λh1=> ?_)|((refine ta (λh1=> ?_) (λh1=> ?_))<;>(try simp only[aC0]at h1))
 .have c:k<ws.length:=by simp_all
  have j:=aEK c;have d:(ws.map D.str).getD (Int.toNat (k:Int)) .dJ=.str ws[k]:=getD_map _;conv=>whnf
  repeat ((first|refine qo ?_|refine qn ?_);conv=>whnf)
  refine⟨by simp<;>omega,?_⟩;simp only[d];cases hi:p.is ws[k]with
  |true=>
   refine db ?_;refine c6 (np hp hi) ?_;have a:py p ws 0=((k:Int),p.next):=by grind[py]
   rw[a];exact⟨az5,az5⟩
  |false=>
   refine db ?_;refine c6 (nq hp hi) ?_;refine⟨ws.length-(k+1),az6,k+1,az6,rfl,by grind[py],?_⟩;exact aCO (b:=cA [(0,.d (fx ws)),(1,.func 118 [.ptr 0 0] []),(7,.d (int (ws.map D.str).length)),(8,.d (int (IntKind.i64.wrap ((k:Int)+((1:Nat):Int)))))] [p.ob]) az5 (congrArg (λk=>cA [(0,.d (fx ws)),(1,.func 118 [.ptr 0 0] []),(7,.d (int (ws.map D.str).length)),(8,.d (int k))] [p.ob]) (u0 k 1 az6))
 .have c:k=ws.length:=by grind
  have a:py p ws 0=(-1,p):=by rw[<-f,c,List.drop_length];rfl
  rw[a];refine db ?_;exact⟨az5,az5⟩
end
def aJ.dep(p:aJ)(d:Nat):aJ:=⟨p.l,p.T,p.i,p.n,d,p.e,p.a⟩
theorem aJ.tp{p:aJ}{d:Nat}(h:p.Ok)(a:d<=32):(p.dep d).Ok:=⟨h.i,h.l,a,h.t,h.T⟩
theorem gO.fail{p:aJ}(h:p.Ok){e:Int}(a:e≠0):gO p (p.fail e) lG:=⟨aJ.tj h,tk,λk=>absurd k (aJ.oH a)⟩
section
attribute [local irreducible] Int.decLt Int.decLe Int.instDecidableEq IntKind.wrap instDecidableEqList
theorem acQ{p:aJ}(h:p.ec<32):IntKind.i64.wrap ((p.ec:Int)+((1:Nat):Int))=((p.ec+1:Nat):Int):=u0 p.ec 1 az6
theorem acR{d:Nat}(h:d<32):IntKind.i64.wrap (((d+1:Nat):Int)-((1:Nat):Int))=(d:Int):=by
 rw[show((d+1:Nat):Int)-((1:Nat):Int)=((d:Nat):Int)by omega];have:=u0 d 0 az6;simp_all
theorem DK{f d:Nat}(l:d<32->h4 f (d+1))(p:aJ)(hp:p.Ok)(g:p.ec=d):
  ∃(q:aJ) (x:aD),gO p q x/\aL 257 [.ptr 0 0,.func f [.ptr 0 0] []] [p.ob] (.d (.agg x.cells)) [q.ob]:=by
 by_cases o:p.ec=32
 .refine⟨p.fail 52,lG,gO.fail hp az6,?_⟩;have k:=qz p 52 hp;have h1:decide ((p.ec:Int)=32)=true:=aCI az6;refine Dx.hB ?_;refine db ?_;refine c6 (k) ?_;exact⟨az5,az5⟩
 .have r:=hp.d;have c:d<32:=az6;have h1:decide ((p.ec:Int)=32)=false:=aC3 az6;obtain⟨q,x,a,m⟩:=l c (p.dep (d+1)) (aJ.tp hp az6) rfl;have n:q.ec=d+1:=a.s.d;refine⟨q.dep d,x,⟨⟨aJ.tp a.s.ok az6,a.s.l,a.s.n,g.symm,a.s.i,a.s.e⟩,a.g,a.w⟩,?_⟩;have j:aL f [.ptr 0 0] [.box [.d p.T,.d (int p.i),.d (int p.n),.d (int (IntKind.i64.wrap ((p.ec:Int)+((1:Nat):Int)))),.d (int p.e),.d (int p.a)]] (.d (.agg x.cells)) [q.ob]:=by
   rw[acQ az6,g];exact m
  refine Dx.hB ?_;refine db ?_;refine c6 (j) ?_;refine⟨az5,?_⟩;refine aCO (b:=[.box [.d q.T,.d (int q.i),.d (int q.n),.d (int (IntKind.i64.wrap ((q.ec:Int)-((1:Nat):Int)))),.d (int q.e),.d (int q.a)]]) az5 ?_;rw[n,acR c];rfl
theorem aoX{f d:Nat}(l:d<32->∀p:aJ,p.Ok->p.ec=d+1->∃(q:aJ) (x:aD),gO p q x/\aL f [.ptr 0 0] [.box [.ptr 1 0],p.ob] (.d (.agg x.cells)) [.box [.ptr 1 0],q.ob])(p:aJ)(hp:p.Ok)(g:p.ec=d):
  ∃(q:aJ) (x:aD),gO p q x/\aL 257 [.ptr 0 0,.func f [] [.ptr 1 0]] [p.ob,.box [.ptr 0 0]] (.d (.agg x.cells)) [q.ob,.box [.ptr 0 0]]:=by
 by_cases o:p.ec=32
 .refine⟨p.fail 52,lG,gO.fail hp az6,?_⟩;have k:=qz p 52 hp;have h1:decide ((p.ec:Int)=32)=true:=aCI az6;refine Dx.hB ?_;refine db ?_;refine c6 (k) ?_;exact⟨az5,az5⟩
 .have r:=hp.d;have c:d<32:=az6;have h1:decide ((p.ec:Int)=32)=false:=aC3 az6;obtain⟨q,x,a,m⟩:=l c (p.dep (d+1)) (aJ.tp hp az6) rfl;have n:q.ec=d+1:=a.s.d;refine⟨q.dep d,x,⟨⟨aJ.tp a.s.ok az6,a.s.l,a.s.n,g.symm,a.s.i,a.s.e⟩,a.g,a.w⟩,?_⟩;have j:aL f [.ptr 0 0] [.box [.ptr 1 0],.box [.d p.T,.d (int p.i),.d (int p.n),.d (int (IntKind.i64.wrap ((p.ec:Int)+((1:Nat):Int)))),.d (int p.e),.d (int p.a)]] (.d (.agg x.cells)) [.box [.ptr 1 0],q.ob]:=by
   rw[acQ az6,g];exact m
  refine Dx.hB ?_;refine db ?_;refine c6 (j) ?_;refine⟨az5,?_⟩;refine aCO (b:=[.box [.d q.T,.d (int q.i),.d (int q.n),.d (int (IntKind.i64.wrap ((q.ec:Int)-((1:Nat):Int)))),.d (int q.e),.d (int q.a)],.box [.ptr 0 0]]) az5 ?_;rw[n,acR c];rfl
def aoY(f:Nat)(ops:List ax)(q:aJ)(x:aD):ag:=lZ [(0,.ptr 0 0),(1,.func f [.ptr 0 0] []),(2,.d (fx ops)),(6,.dw 6 0),(7,.dw 7 0)]
 [(6,[.d (int 0),.d (.str []),.d (int 0),.d (int 0),.d (.str []),.d (.str []),.own 7 []]),(7,x.cells.map .d)] [q.ob]
theorem gO.bin{p q r s:aJ}{x y:aD}{op:ax}(h:gO p q x)(a:Step q r)(hi:r.i=q.i+1)(k:gO r s y)(f:op.length<=8):gO p s (.mk 4 [] 0 0 [] op [x,y]):=by
 refine⟨(h.s.trans a).trans k.s,⟨eb.zero,h.g,k.g,trivial⟩,λc=> ?_⟩;have h1:=k.w c;have d:=h.w (a.bT (k.s.bT c));show 200+0+0+op.length+(x.w+(y.w+0))+_<=_;omega
theorem Hp{f d:Nat}(k:h4 f d){ops:List ax}(v:ops.length<=8)(s:∀o∈ops,o.length<=8)(p:aJ)(hp:p.Ok)(t:p.ec=d):
  ∃(q:aJ) (x:aD),gO p q x/\aL 297 [.ptr 0 0,.func f [.ptr 0 0] [],.d (fx ops)] [p.ob] (.d (.agg x.cells)) [q.ob]:=by
 refine DJ X1 ?_;refine db ?_;refine aC1 (k p hp t) (λq h=>aC1 h (λx h=> ?_));refine c6 (h.2) ?_;refine⟨λn u=>∃(q:aJ) (x:aD),gO p q x/\n=q.l.length-q.i/\u=aoY f ops q x,q.l.length-q.i,⟨q,x,h.1,rfl,az5⟩,?_⟩;rintro _ _ ⟨q,x,c,rfl,rfl⟩;have aS:=c.s.ok;refine db ?_;refine c6 (acP q ops aS az6) ?_;refine Or.elim (Nb q ops 0) (λa=> ?_) (λa=>aC1 a (λj a=> ?_))
 .have A:decide ((-1:Int)<0)=true:=aCI az6;simp only[a];refine db ?_;exact⟨q,x,c,az5,az5⟩
 .have m:j<ops.length:=by omega
  have g:=aJ.im aS a.2.2.2;have z:=aJ.rN a.2.2.2;have l:(ops.map D.str).getD (Int.toNat (j:Int)) .dJ=.str ops[j]:=getD_map _;have w:decide ((j:Int)<0)=false:=aC3 az6;simp only[a.2.2.1];conv=>whnf
  repeat ((first|refine qo ?_|refine qn ?_);conv=>whnf)
  refine⟨az8,?_⟩;simp only[l];refine db ?_;refine aC1 (k q.next g.ok (by rw[g.d,c.s.d];omega)) (λr h=>aC1 h (λy h=> ?_));refine c6 (h.2) ?_;refine c6 (acO ops[j] x y) ?_;refine⟨r.l.length-r.i,?_,r,_,c.bin g rfl h.1 (s _ (aCC m)),rfl,az5⟩;have h1:=h.1.s.i;rw[h.1.s.l,g.l];have:q.next.i=q.i+1:=rfl;omega
end
theorem wrap_i64(n:Int):eb (IntKind.i64.wrap n):=by
 unfold eb IntKind.wrap;simp only[IntKind.bits,IntKind.signed,aEs,aCA];have h1:(0:Int)<=n%2^64:=Int.emod_nonneg _ az';have a:n%2^64<2^64:=Int.emod_lt_of_pos _ az';split<;>(grind)
theorem gO.un{p q r:aJ}{x:aD}{op:ax}(a:Step p q)(hi:q.i=p.i+1)(k:gO q r x)(d:op.length<=8):gO p r (.mk 3 [] 0 0 [] op [x]):=by
 refine⟨a.trans k.s,⟨eb.zero,k.g,trivial⟩,λc=> ?_⟩;have h1:=k.w c;show 200+0+0+op.length+(x.w+0)+_<=_;omega
theorem gO.const{p q:aJ}{k i:Int}{t:ax}(a:Step p q)(hi:q.i=p.i+1)(h:eb i)(c:t.length<=16384):gO p q (.mk 2 [] k i t [] []):=by
 refine⟨a,⟨h,trivial⟩,λd=> ?_⟩;show 200+0+t.length+0+0+_<=_;omega
theorem gO.after{p q r:aJ}{x:aD}(h:Step p q)(k:gO q r x):gO p r x:=by
 refine⟨h.trans k.s,k.g,λa=> ?_⟩;have h1:=k.w a;have c:=h.i;omega
theorem gO.then{p q r:aJ}{x:aD}(k:gO p q x)(h:Step q r):gO p r x:=by
 refine⟨k.s.trans h,k.g,λa=> ?_⟩;have h1:=k.w (h.bT a);have c:=h.i;omega
theorem Step.ayr{p:aJ}(hp:p.Ok)(h:p.dU.k≠0)(a:p.next.dU.k≠0):Step p p.next.next:=(aJ.im hp h).trans (aJ.im (aJ.im hp h).ok a)
section
attribute [local irreducible] Int.decLt Int.decLe Int.instDecidableEq IntKind.wrap instDecidableEqList
theorem acS{d:Nat}(h:h4 322 d):h4 298 d:=by
 intro p hp c;obtain⟨q,x,h1,a⟩:=Hp h (ops:=[[97,110,100]]) az7 az7 p hp c;refine⟨q,x,h1,?_⟩;refine ZG.hB ?_;refine db ?_;refine c6 (a) ?_;exact⟨az5,az5⟩
theorem acT{d:Nat}(h:h4 298 d):h4 258 d:=by
 intro p hp c;obtain⟨q,x,h1,a⟩:=Hp h (ops:=[[111,114]]) az7 az7 p hp c;refine⟨q,x,h1,?_⟩;refine VO.hB ?_;refine db ?_;refine c6 (a) ?_;exact⟨az5,az5⟩
theorem acU{d:Nat}(h:h4 345 d):h4 344 d:=by
 intro p hp c;obtain⟨q,x,h1,a⟩:=Hp h (ops:=[[43],[45]]) az7 az7 p hp c;refine⟨q,x,h1,?_⟩;refine abS.hB ?_;refine db ?_;refine c6 (a) ?_;exact⟨az5,az5⟩
theorem acV{d:Nat}(h:h4 346 d):h4 345 d:=by
 intro p hp c;obtain⟨q,x,h1,a⟩:=Hp h (ops:=[[42],[47],[37]]) az7 az7 p hp c;refine⟨q,x,h1,?_⟩;refine Wg.hB ?_;refine db ?_;refine c6 (a) ?_;exact⟨az5,az5⟩
theorem acW{d:Nat}(h:h4 338 d)(c:d<32->h4 322 (d+1)):h4 322 d:=by
 intro p hp f;refine DJ V' ?_;refine db ?_;cases hi:p.is [110,111,116]with
 |true=>
  have a:=aJ.im hp (aJ.h3 hi);refine c6 (np hp hi) ?_;refine aC1 (DK c p.next a.ok aBa) (λq h=>aC1 h (λx h=> ?_));refine c6 (h.2) ?_;refine c6 (Na [110,111,116] x) ?_;exact⟨q,_,.un a rfl h.1 (show([110,111,116]:ax).length<=8 by simp),az5,az5⟩
 |false=>
  refine c6 (nq hp hi) ?_;refine aC1 (h p hp f) (λq h=>aC1 h (λx h=> ?_));refine c6 (h.2) ?_;exact⟨q,x,h.1,az5,az5⟩
theorem acX{d:Nat}(t:h4 344 d):h4 338 d:=by
 intro p hp u;refine DJ ZQ ?_;refine db ?_;refine aC1 (t p hp u) (λq h=>aC1 h (λx h=> ?_));refine c6 (h.2) ?_;have aS:=h.1.s.ok;have c:=acP q [[61],[33,61],[60],[60,61],[62],[62,61]] aS az7;have s:=Nb q [[61],[33,61],[60],[60,61],[62],[62,61]] 0;generalize py q [[61],[33,61],[60],[60,61],[62],[62,61]] 0=y at c s;refine Or.elim s (λa=> ?_) (λa=>aC1 a (λj a=> ?_))
 .have A:decide ((0:Int)<= -1)=false:=aC3 az6;rw[a]at c;refine c6 (c) ?_;exact⟨q,x,h.1,az5,az5⟩
 .have m:j<[[61],[33,61],[60],[60,61],[62],([62,61]:ax)].length:=by omega
  have n:=aJ.im aS a.2.2.2;have k:[D.str [61],.str [33,61],.str [60],.str [60,61],.str [62],.str [62,61]].getD (Int.toNat (j:Int)) .dJ=.str [[61],[33,61],[60],[60,61],[62],([62,61]:ax)][j]:=getD_map (l:=[[61],[33,61],[60],[60,61],[62],([62,61]:ax)]) (f:=D.str) m;have o:[[61],[33,61],[60],[60,61],[62],([62,61]:ax)][j].length<=8:=by
   have:=aCC m;simp only[aCJ,List.mem_nil_iff,aDW]at this;grind
  revert o k
  generalize [[61],[33,61],[60],[60,61],[62],([62,61]:ax)][j]=op;intro k o;have w:decide ((0:Int)<=(j:Int))=true:=aCI az6;have v:j<6:=m;rw[a.2.2.1]at c;refine LA (c) az5 az5 ?_;conv=>whnf
  repeat ((first|refine qo ?_|refine qn ?_);conv=>whnf)
  refine⟨by simp<;>omega,?_⟩;simp only[k];refine db ?_;refine aC1 (t q.next n.ok (by rw[n.d,h.1.s.d];omega)) (λr g=>aC1 g (λz g=> ?_));refine c6 (g.2) ?_;refine c6 (acO op x z) ?_;exact⟨r,_,h.1.bin n rfl g.1 o,az5,az5⟩
end
theorem ao0{a:Int}{n b:Nat}{c1 c:Bool}(h:n+1<=b)(h1:c1=true)(d:c=true):(true&&true&&decide (a=a)&&Nat.ble (n+1) b&&c1&&c)=true:=az8
theorem ays{p:aJ}{k:Int}(h:p.dU.k=k)(a:k≠0):p.dU.k≠0:=az6
section
attribute [local irreducible] Int.decLt Int.decLe Int.instDecidableEq IntKind.wrap instDecidableEqList
theorem Nd{p:aJ}(hp:p.Ok):[cc.box [.d p.T,.d (int (IntKind.i64.wrap ((p.i:Int)+((1:Nat):Int)))),.d (int p.n),.d (int p.ec),.d (int p.e),.d (int p.a)]]=[p.next.ob]:=by
 have h1:=hp.i;have a:=hp.l;rw[u0 p.i 1 az6];rfl
theorem acY{d:Nat}(h:h4 347 d)(g:d<32->h4 346 (d+1)):h4 346 d:=by
 intro p hp k;refine DJ Wi ?_;refine db ?_;cases hi:p.is [45]with
 |false=>
  refine c6 (nq hp hi) ?_;refine aC1 (h p hp k) (λq h=>aC1 h (λx h=> ?_));refine c6 (h.2) ?_;exact⟨q,x,h.1,az5,az5⟩
 |true=>
  have a:=aJ.im hp (aJ.h3 hi);have au:=Nd a.ok;have c:=AX p.next a.ok;have j:=aJ.M8 a.ok;have f:p.next.dU.k≠0->Step p.next p.next.next:=aJ.im a.ok;refine c6 (np hp hi) ?_;revert c j f;generalize p.next.dU=t;intro c j f;refine c6 (c) ?_;cases h1:decide (t.k=2)with
  |true=>
   cases m:decide (0<t.n)with
   |true=>
    have n:=of_decide_eq_true h1;have l:=f az6;refine db ?_;refine c6 (Hk (IntKind.i64.wrap (0-t.n))) ?_;refine c6 (Ho 1 (IntKind.i64.wrap (0-t.n)) []) ?_;refine⟨p.next.next,.mk 2 [] 1 (IntKind.i64.wrap (0-t.n)) [] [] [],.after a (.const l rfl (wrap_i64 _) (show([]:ax).length<=16384 from aCu _)),az5,?_⟩;exact aCO az5 au
   |false=>
    refine db ?_;refine aC1 (DK g p.next a.ok aBa) (λq h=>aC1 h (λx h=> ?_));refine c6 (h.2) ?_;refine c6 (Na [45] x) ?_;exact⟨q,_,.un a rfl h.1 (show([45]:ax).length<=8 by simp),az5,az5⟩
  |false=>
   refine db ?_;refine aC1 (DK g p.next a.ok aBa) (λq h=>aC1 h (λx h=> ?_));refine c6 (h.2) ?_;refine c6 (Na [45] x) ?_;exact⟨q,_,.un a rfl h.1 (show([45]:ax).length<=8 by simp),az5,az5⟩
theorem ao1{d:Nat}(h:h4 258 (d+1))(p:aJ)(hp:p.Ok)(k:p.ec=d+1):∃(q:aJ) (x:aD),gO p q x/\aL 349 [.ptr 0 0] [.box [.ptr 1 0],p.ob] (.d (.agg x.cells)) [.box [.ptr 1 0],q.ob]:=by
 have a:=aJ.AY (s:=[40]) hp;obtain⟨q,x,h1,f⟩:=h (p.want [40]) a.ok aBa;have j:=aJ.AY (s:=[41]) h1.s.ok;have g:=km p [40] hp;have c:=km q [41] h1.s.ok;refine⟨q.want [41],x,(h1.after a).then j,?_⟩;refine ZS.hB ?_;refine db ?_;refine c6 (g) ?_;refine c6 (f) ?_;refine c6 (c) ?_;exact⟨az5,az5⟩
def Nf(q:aJ)(l:List aD):aY:=[q.ob,.box [.own 7 (aD.ds l)],.box [.ptr 0 0]]
theorem acZ{d:Nat}(h:d<32->h4 258 (d+1))(p:aJ)(l:List aD)(hp:p.Ok)(c:p.ec=d)(f:l.length<=2147483648):∃(q:aJ) (x:aD),gO p q x/\aL 351 [.ptr 0 0,.ptr 1 0] [.box [.own 7 (aD.ds l)],.box [.ptr 2 0],p.ob] (.tuple []) [.box [.own 7 (aD.ds (l++[x]))],.box [.ptr 2 0],q.ob]:=by
 obtain⟨q,x,h1,a⟩:=DK h p hp c;refine⟨q,x,h1,?_⟩;have g:=aD.u2 l;refine X9.hB ?_;conv=>whnf
 repeat ((first|refine qo ?_|refine qn ?_);conv=>whnf)
 refine LA (a) az5 az5 ?_;conv=>whnf
 repeat ((first|refine qo ?_|refine qn ?_);conv=>whnf)
 refine⟨ao0 az6 az5 az5,?_⟩;refine db ?_;refine⟨az7,?_⟩;rw[aD.DH,show aD.ds [x]=[.agg x.cells]from congrArg (λy=>[y]) (aD.nr x)];kernel_rfl
theorem ao2{d:Nat}(h:d<32->h4 258 (d+1))(p:aJ)(hp:p.Ok)(o:p.ec=d):∃r s',(∃(q:aJ) (l:List aD),Step p q/\aD.nu l/\(q.e=0->aD.ws l+20000*p.i<=20000*q.i)/\r=.tuple []/\s'=Nf q l)/\aL 120 [.ptr 0 0,.func 351 [] [.ptr 1 0,.ptr 2 0]] (Nf p []) r s':=by
 have v:=hp.l;refine Hn _ wD ?_;refine db ?_;refine aC1 (acZ h p [] hp o az7) (λq c=>aC1 c (λx c=> ?_));have a:=c.1;refine c6 (c.2) ?_;refine⟨λn u=>∃(q:aJ) (l:List aD),Step p q/\l.length<=q.i+1/\aD.nu l/\(q.e=0->aD.ws l+20000*p.i<=20000*q.i)/\n=q.l.length-q.i/\u=cA [(0,.ptr 0 0),(1,.func 351 [] [.ptr 1 0,.ptr 2 0])] (Nf q l),q.l.length-q.i,⟨q,[x],a.s,az7,⟨a.g,trivial⟩,λj=>by have:=a.w j;show x.w+0+_<=_;omega,rfl,az5⟩,?_⟩;rintro _ _ ⟨q,l,f,z,m,t,rfl,rfl⟩;refine db ?_;have w:=f.ok.i;have A:=f.ok.l;cases hi:q.is [44]with
 |true=>
  have B:=aJ.rN (aJ.h3 hi);have g:=aJ.im f.ok (aJ.h3 hi);refine c6 (np f.ok hi) ?_;refine aC1 (acZ h q.next l g.ok (by rw[g.d,f.d];omega) az6) (λk c=>aC1 c (λs c=> ?_));have a:=c.1;have F:=a.s.i;have E:=a.s.l;have H:q.next.i=q.i+1:=rfl;have C:q.next.l=q.l:=rfl;refine c6 (c.2) ?_;refine⟨k.l.length-k.i,az9,k,l++[s],(f.trans g).trans a.s,az9,aD.M' m ⟨a.g,trivial⟩,λj=> ?_,rfl,az5⟩;have G:=a.w j;grind[aD.yx,aD.ws]
 |false=>
  refine c6 (nq f.ok hi) ?_;exact⟨q,l,f,m,t,az7,az5⟩
end
def Ng:eL->eL
 |.seq a _=>a
 |c=>c
def AZ:eL->eL
 |.seq _ b=>b
 |c=>c
def A0(f:Nat->ah):List (Nat×ah)->Nat->ah
 |[]=>f
 |(k,v)::l=>cK (A0 f l) k v
def A1(f:Nat->Option (List ah)):List (Nat×List ah)->Nat->Option (List ah)
 |[]=>f
 |(k,v)::l=>cK (A1 f l) k (some v)
theorem ac0{a:Type}{f:Nat->a}{k:Nat}{v:a}(h:f k=v):cK f k v=f:=by
 grind[cK,Nat.eq_of_beq_eq_true]
theorem ac1{f:Nat->ah}:∀{l:List (Nat×ah)},(∀q∈l,f q.1=q.2)->A0 f l=f
 |[],_=>rfl
 |(k,v)::l,h=>by
  unfold A0;rw[ac1 λq aS=>h q (aDu _ aS)];exact ac0 (h (k,v) aDa)
theorem ac2{f:Nat->Option (List ah)}:∀{l:List (Nat×List ah)},(∀q∈l,f q.1=some q.2)->A1 f l=f
 |[],_=>rfl
 |(k,v)::l,h=>by
  unfold A1;rw[ac2 λq aS=>h q (aDu _ aS)];exact ac0 (h (k,v) aDa)
theorem cutAt{R:ag->Prop}{st:ag}(l:List (Nat×ah))(b:List (Nat×List ah))(s:aY)(h:∀f g,R ⟨A0 f l,A1 g b,s⟩)(h1:∀q∈l,st.aR q.1=q.2)(a:∀q∈b,st.bM q.1=some q.2)(c:st.s=s):R st:=by
 have:=h st.aR st.bM;rw[ac1 h1,ac2 a,<-c]at this;omega
def Hr:eL:=AZ (AZ (AZ wE.code))
def Hs:aW:=⟨.seq (Ng wE.code) (.seq (Ng (AZ wE.code)) (.seq (Ng (AZ (AZ wE.code))) Hr)),wE.res⟩
theorem ao3:a6 a1 347 Hs:=by
 have h:Hs=wE:=az5;grind[abT]
theorem Nh:∀b:Bool,b=true\/b=false
 |true=>.inl rfl
 |false=>.inr rfl
theorem gO.zero{p q:aJ}(h:Step p q)(a:q.e≠0):gO p q lG:=⟨h,tk,λk=>absurd k a⟩
theorem gO.col{p q:aJ}{t:ax}(a:Step p q)(hi:q.i=p.i+1)(c:t.length<=16384):gO p q (.mk 1 t 0 0 [] [] []):=by
 refine⟨a,⟨eb.zero,trivial⟩,λd=> ?_⟩;show 200+t.length+0+0+0+_<=_;omega
theorem ac3{a d c:Type}{f:a->d}{g h:a->c}:∀{l:List a},l.map g=l.map h->∀q∈l,g q=h q
 |[],_,q,aS=>az9
 |x::l,e,q,aS=>by
  simp only[aDe,List.cons.injEq]at e;rcases aCJ.1 aS with rfl|aS
  all_goals simp_all
theorem ao4{R:ag->Prop}{st:ag}(l:List (Nat×ah))(b:List (Nat×List ah))(s:aY)(h:∀f g,R ⟨A0 f l,A1 g b,s⟩)(h1:l.map (λq=>st.aR q.1)=l.map (λq=>q.2))(a:b.map (λq=>st.bM q.1)=b.map (λq=>some q.2))(c:st.s=s):R st:=
 cutAt l b s h (ac3 (f:=λ_=>()) h1) (ac3 (f:=λ_=>()) a) c
def ac4(p:aJ)(n:Nat)(a:List oW)(x:aG.aD)(st:ag):Prop:=match x with
 |.exit _=>False
 |_=>match q4 st a with
  |some r=>eo depth r=true/\∃(q:aJ) (x:aD),gO p q x/\r=.d (.agg x.cells)/\gc n r st.s=[q.ob]
  |none=>False
section
attribute [local irreducible] Int.decLt Int.decLe Int.instDecidableEq IntKind.wrap instDecidableEqList
theorem ao5{d:Nat}(h:d<32->h4 258 (d+1))(p:aJ)(hp:p.Ok)(w:p.ec=d)(t:Tok)(o:u1 t)(a:Step p p.next)(f:Nat->ah)(g:Nat->Option (List ah)):
  run (fR a1 gl) gl Hr ⟨A0 f [(1,.ptr 1 0),(2,.dw 2 0),(3,.dw 3 0)],A1 g [(2,[.d (int 0),.d (.str []),.d (int 0),.d (int 0),.d (.str []),.d (.str []),.own 7 []]),(3,[.d (int t.k),.d (.str t.t),.d (int t.n),.d (int t.p)])],[p.ob,.box [.ptr 0 0]]⟩ (ac4 p 1 Hs.res):=by
 have au:=Nd hp;refine db ?_;refine Or.elim (Nh (p.next.is [40])) (λj=> ?_) (λj=> ?_)
 .have n:=aJ.im a.ok (aJ.h3 j);have c:=np a.ok j;rw[<-au]at c;refine c6 (c) ?_;refine aC1 (ao2 h p.next.next n.ok (by rw[n.d,a.d];omega)) (λr k=>aC1 k (λB k=> ?_));refine aC1 k.1 (λq aS=>aC1 aS (λl aS=> ?_));have u:=k.2;rw[aS.2.2.2.1,aS.2.2.2.2]at u;refine c6 (u) ?_;have m:=aJ.AY (s:=[41]) aS.1.ok;refine c6 (km q [41] aS.1.ok) ?_;refine⟨q.want [41],.mk 5 t.t 0 0 [] [] l,⟨(a.trans n).trans (aS.1.trans m),⟨eb.zero,aS.2.1⟩,λv=> ?_⟩,az5,az5⟩;have C:=aS.2.2.1 (m.bT v);have b5:=m.i;have z:p.next.next.i=p.i+2:=rfl;have A:=o.1;show 200+t.t.length+0+0+aD.ws l+_<=_;omega
 .have c:=nq a.ok j;rw[<-au]at c;refine c6 (c) ?_;refine c6 (aoV t.t) ?_;refine⟨p.next,.mk 1 t.t 0 0 [] [] [],.col a rfl o.1,az5,?_⟩;exact aCO az5 au
attribute [local irreducible] Hr
theorem ac5{d:Nat}(h:d<32->h4 258 (d+1)):h4 347 d:=by
 intro p hp u;refine DJ ao3 ?_;have s:=AX p hp;have au:=Nd hp;have a:=aJ.M8 hp;have c:p.dU.k≠0->Step p p.next:=aJ.im hp;revert s a c;generalize p.dU=t;intro s a c;refine db ?_;refine c6 (s) ?_;first|refine uU (λh1=> ?_) (λh1=> ?_)|((refine ta (λh1=> ?_) (λh1=> ?_))<;>(try simp only[aC0]at h1))
 .have v:t.k=2:=by simp_all
  refine db ?_;refine c6 (Hk t.n) ?_;refine c6 (Ho 1 t.n []) ?_;refine⟨p.next,.mk 2 [] 1 t.n [] [] [],.const (c az6) rfl a.2 (aCu _),az5,?_⟩;exact aCO az5 au
 .refine db ?_;first|refine uU (λj=> ?_) (λj=> ?_)|((refine ta (λj=> ?_) (λj=> ?_))<;>(try simp only[aC0]at j))
  .have v:t.k=3:=by simp_all
   refine db ?_;refine c6 (MZ t.t) ?_;refine c6 (Ho 2 0 t.t) ?_;refine⟨p.next,.mk 2 [] 2 0 t.t [] [],.const (c az6) rfl eb.zero a.1,az5,?_⟩;exact aCO az5 au
  .refine db ?_;refine Or.elim (Nh (p.is [110,117,108,108])) (λo=> ?_) (λo=> ?_)
   .refine c6 (np hp o) ?_;refine c6 (M0) ?_;refine c6 (Ho 0 0 []) ?_;exact⟨p.next,.mk 2 [] 0 0 [] [] [],.const (aJ.im hp (aJ.h3 o)) rfl eb.zero (aCu _),az5,az5⟩
   .refine c6 (nq hp o) ?_;have f:=DF p [40] hp;refine Or.elim (Nh (p.is [40])) (λr=> ?_) (λr=> ?_)
    .rw[r]at f;refine c6 (f) ?_;refine aC1 (aoX (λz=>ao1 (h z)) p hp u) (λq n=>aC1 n (λx n=> ?_));refine c6 (n.2) ?_;exact⟨q,x,n.1,az5,az5⟩
    .rw[r]at f;refine c6 (f) ?_;first|refine uU (λk=> ?_) (λk=> ?_)|((refine ta (λk=> ?_) (λk=> ?_))<;>(try simp only[aC0]at k))
     .refine db ?_;refine c6 (qz p 51 hp) ?_;exact⟨p.fail 51,lG,.zero (aJ.tj hp) (aJ.oH az6),az5,az5⟩
     .have v:t.k=1:=by simp_all
      have w:=c az6;refine db ?_;first|refine uU (λg=> ?_) (λg=> ?_)|((refine ta (λg=> ?_) (λg=> ?_))<;>(try simp only[aC0]at g))
      .refine db ?_;refine c6 (qz p 51 hp) ?_;exact⟨p.fail 51,lG,.zero (aJ.tj hp) (aJ.oH az6),az5,az5⟩
      .refine db ?_;first|refine uU (λl=> ?_) (λl=> ?_)|((refine ta (λl=> ?_) (λl=> ?_))<;>(try simp only[aC0]at l))
       .refine db ?_;refine c6 (qz p 51 hp) ?_;exact⟨p.fail 51,lG,.zero (aJ.tj hp) (aJ.oH az6),az5,az5⟩
       .refine db ?_;first|refine uU (λm=> ?_) (λm=> ?_)|((refine ta (λm=> ?_) (λm=> ?_))<;>(try simp only[aC0]at m))
        .refine db ?_;refine c6 (qz p 51 hp) ?_;exact⟨p.fail 51,lG,.zero (aJ.tj hp) (aJ.oH az6),az5,az5⟩
        .refine db ?_;exact ao4 (R:=λA=>run (fR a1 gl) gl Hr A (ac4 p 1 Hs.res)) _ _ _ (ao5 h p hp u t a w) az5 az5 az5
end
theorem ao6:∀(k d:Nat),32<=d+k->h4 258 d/\h4 322 d/\h4 346 d:=by
 intro k;induction k with
 |zero=>
  grind[acY,ac5,acW,acX,acU,acV,acT,acS]
 |succ k ih=>
  intro d g;have a:=ih (d+1) az6;have c:h4 346 d:=acY (ac5 λ_=>a.1) λ_=>a.2.2;have f:h4 322 d:=acW (acX (acU (acV c))) λ_=>a.2.1;grind[acT,acS]
theorem ao7(d:Nat):h4 258 d:=(ao6 32 d az6).1
section
attribute [local irreducible] Int.decLt Int.decLe Int.instDecidableEq IntKind.wrap instDecidableEqList
theorem ac6(p:aJ)(hp:p.Ok):∃(q:aJ) (x:aD),gO p q x/\aL 215 [.ptr 0 0] [p.ob] (.d (.agg x.cells)) [q.ob]:=by
 obtain⟨q,x,h1,a⟩:=DK (λ_=>ao7 1) (p.dep 0) (aJ.tp hp az6) rfl;refine⟨q.dep p.ec,x,⟨⟨aJ.tp h1.s.ok hp.d,h1.s.l,h1.s.n,rfl,h1.s.i,h1.s.e⟩,h1.g,h1.w⟩,?_⟩;refine Zb.hB ?_;refine db ?_;refine c6 (a) ?_;exact⟨az5,az5⟩
end
structure gP(p q:aJ)(n:Nat):Prop where
 s:Step p q
 a:q.e=0->p.i+n<=q.i
theorem gP.trans{p q r:aJ}{n m:Nat}(h:gP p q n)(k:gP q r m):gP p r (n+m):=⟨h.s.trans k.s,λa=>by have:=h.a (k.s.bT a);have:=k.a a;omega⟩
theorem gP.ok{p q:aJ}{n:Nat}(h:gP p q n):q.Ok:=h.s.ok
theorem gP.of{p q:aJ}(h:Step p q):gP p q 0:=⟨h,λ_=>by have:=h.i;omega⟩
theorem mF{p:aJ}{s:ax}(h:p.Ok):gP p (p.want s) 1:=⟨aJ.AY h,λa=>by have:=(aJ.aoR a).1;omega⟩
theorem nY{p:aJ}{k:Int}(h:p.Ok)(c:k≠0):gP p (p.h2 k) 1:=⟨aJ.acI h c,λa=>by have:=(aJ.acK a).1;omega⟩
theorem ao8{p:aJ}{s:ax}(h:p.Ok):gP p (p.maybe s) 0:=.of (aJ.aoQ h)
theorem aJ.pz{p:aJ}{k:Int}(h:p.Ok):(p.iY k).t.length<=16384:=(aJ.DG h).1
theorem ac7{p:aJ}{s:ax}(h:p.Ok)(hi:p.is s=true):gP p p.next 1:=⟨aJ.im h (aJ.h3 hi),λ_=>by show p.i+1<=p.i+1;omega⟩
theorem DL(p:aJ)(ws:List ax)(hp:p.Ok)(a:ws.length<=1000):∃(q:aJ) (k:Nat),(gP p q 1/\k<=ws.length)/\aL 89 [.ptr 0 0,.d (fx ws)] [p.ob] (.d (int k)) [q.ob]:=by
 have h:=M6 hp (l:=ws) (k:=0);exact⟨_,_,⟨⟨h.1,λc=>az6⟩,az6⟩,acL p ws hp a⟩
structure j3 where
 k:Int
 n:ax
 fY:Int
 vi:Int
 eB:ax
 op:ax
 l:List D
structure dO where
 k:Int
 n:ax
 a:List D
 ch:Int
 iG:ax
 j4:Int
 j5:Int
 j6:ax
 j7:ax
 cl:List D
 ns:List D
 xs:List D
 on:List D
 aw:List D
 ob:List D
 cJ:Int
def j3.cs(c:j3):List D:=[int c.k,.str c.n,int c.fY,int c.vi,.str c.eB,.str c.op,.list 7 c.l]
def dO.cs(c:dO):List D:=[int c.k,.str c.n,.list 16 c.a,int c.ch,.str c.iG,int c.j4,int c.j5,.str c.j6,.str c.j7,.list 7 c.cl,.list 1 c.ns,.list 7 c.xs,.list 2 c.on,.list 3 c.aw,.list 2 c.ob,int c.cJ]
def dO.v(c:dO):List ah:=[.d (int c.k),.d (.str c.n),.d (.list 16 c.a),.d (int c.ch),.d (.str c.iG),.d (int c.j4),.d (int c.j5),.d (.str c.j6),.d (.str c.j7),.d (.list 7 c.cl),.d (.list 1 c.ns),.d (.list 7 c.xs),.d (.list 2 c.on),.d (.list 3 c.aw),.d (.list 2 c.ob),.d (int c.cJ)]
def aD.bQ(x:aD):j3:=⟨x.k,x.n,x.fY,x.vi,x.eB,x.op,aD.ds x.l⟩
def bj.bz(x:bj):dO:=⟨x.k,x.n,bj.ds x.l,x.c.k,x.c.n,x.c.fY,x.c.vi,x.c.eB,x.c.op,aD.ds x.c.l,x.ns.map .str,aD.ds x.xs,x.on.map fm,x.aw.map eK,x.ob.map fp,x.cJ⟩
theorem aD.ac8(x:aD):x.cells=x.bQ.cs:=rfl
theorem bj.Ni(x:bj):x.cells=x.bz.cs:=rfl
def yz(k:Int)(a d:ah)(xs f aw ob:List D)(c:Int):List ah:=
 [.d (int k),.d (.str []),a,.d (int 0),.d (.str []),.d (int 0),.d (int 0),.d (.str []),.d (.str []),.own 7 [],d,.own 7 xs,.own 2 f,.own 3 aw,.own 2 ob,.d (int c)]
def qA(p:aJ)(k:Int)(n c:Nat)(ar:List ah)(d:ah)(f aw ob:List D)(a:Int):aY:=[.box [.ptr 2 0],.box [.ptr 3 0],p.ob,.box (yz k (.aP 4 0 n c 16) d [] f aw ob a),.box ar]
def kQ(p:aJ)(k:Int)(n c:Nat)(ar:List ah)(d:ah)(f aw ob:List D)(a:Int):aY:=[p.ob,.box [.ptr 0 0],.box [.ptr 3 0],.box (yz k (.aP 4 0 n c 16) d [] f aw ob a),.box ar]
theorem ayt{a b c d n m e:Nat}(h1:Nat.beq a b=true)(f:Nat.beq c d=true)(h:n+m<=e):(Nat.beq a b&&Nat.beq c d&&Nat.ble (n+m) e)=true:=az8
theorem ayu{a b:Nat}{i n:Int}(h1:Nat.beq a b=true)(c:0<=i)(d:i<n):(Nat.beq a b&&decide (0<=i)&&decide (i<n))=true:=az8
theorem ao9(p:aJ)(k:Int)(n c:Nat)(x y:dO)(a:List D)(hp:p.Ok)(g:a.length<=2147483648):∃(q:aJ) (z:ax×ax),(gP p q 3/\z.1.length<=16384/\z.2.length<=16384)/\
  aL 259 [.ptr 0 0,.ptr 1 0] (qA p k n c (x.v++y.v) (.own 1 []) a [] [] 0) (.tuple []) (qA q k n c (x.v++y.v) (.own 1 []) (a++[fm z]) [] [] 0):=by
 have bp:=nY (k:=1) hp az6;have g1:=aJ.pz (k:=1) hp;have aj:=oG p hp;generalize p.h2 1=q1 at aj bp;generalize (p.iY 1).t=t1 at aj g1;have a2:=mF (s:=[61]) bp.ok;have aC:=km q1 [61] bp.ok;generalize q1.want [61]=bG at aC a2;have a3:=nY (k:=1) a2.ok az6;have g3:=aJ.pz (k:=1) a2.ok;have aX:=oG bG a2.ok;generalize bG.h2 1=cM at aX a3;generalize (bG.iY 1).t=t3 at aX g3;refine⟨cM,(t1,t3),⟨(bp.trans a2).trans a3,g1,g3⟩,?_⟩;refine Zw.ct λf ae Q d=> ?_;refine ak ?_
 (subst ae;exact bS d az7 az5)
theorem ao'(p:aJ)(k:Int)(n c:Nat)(x:dO)(ob:List D)(a:Int)(hp:p.Ok)(g:ob.length<=2147483648):∃(q:aJ) (z:ax×Bool),(gP p q 1/\z.1.length<=16384)/\
  aL 261 [.ptr 0 0,.ptr 1 0] (qA p k n c x.v (.own 1 []) [] [] ob a) (.tuple []) (qA q k n c x.v (.own 1 []) [] [] (ob++[fp z]) a):=by
 have bp:=nY (k:=1) hp az6;have g1:=aJ.pz (k:=1) hp;have aj:=oG p hp;generalize p.h2 1=q1 at aj bp;generalize (p.iY 1).t=t1 at aj g1;have a2:=ao8 (s:=[100,111,119,110]) bp.ok;have aC:=Hm q1 [100,111,119,110] bp.ok;generalize q1.maybe [100,111,119,110]=bG at aC a2;generalize q1.is [100,111,119,110]=t2 at aC;refine⟨bG,(t1,t2),⟨bp.trans a2,g1⟩,?_⟩;refine XV.ct λf ae Q d=> ?_;refine ak ?_
 (subst ae;exact bS d az7 az5)
def Ht:Nat->ax
 |1=>[99,111,117,110,116]
 |2=>[115,117,109]
 |3=>[109,105,110]
 |4=>[109,97,120]
 |_=>[]
theorem apa:∀k,(Ht k).length<=5
 |0=>az'
 |1=>az'
 |2=>az'
 |3=>az'
 |4=>az'
 |_+5=>by show 0<=5;omega
def apb:List ax:=[[99,111,117,110,116],[115,117,109],[109,105,110],[109,97,120]]
theorem apc{j:Nat}(h1:1<=j)(a:j<=4):([.str [99,111,117,110,116],.str [115,117,109],.str [109,105,110],.str [109,97,120]]:List D).getD (Int.toNat ((j-1:Nat):Int)) .dJ=.str (Ht j):=by
 match j,h1,a with
 |1,_,_=>rfl
 |2,_,_=>rfl
 |3,_,_=>rfl
 |4,_,_=>rfl
 |n+5,_,h=>omega
theorem apd{j:Nat}(h1:1<=j)(a:j<=2147483648):IntKind.i64.wrap ((j:Int)-1)=((j-1:Nat):Int):=by
 have:=u0 (j-1) 0 az6;grind
theorem ac9(p:aJ)(k:Int)(n c:Nat)(x:dO)(f:ah)(w:(∃l,f=.own 1 l)\/∃l,f=.d (.list 1 l))(aw:List D)(hp:p.Ok)(u:aw.length<=2147483648):∃(q:aJ) (z:ax×ax×ax),(gP p q 5/\z.1.length<=5/\z.2.1.length<=16384/\z.2.2.length<=16384)/\
  aL 260 [.ptr 0 0,.ptr 1 0] (qA p k n c x.v f [] aw [] 0) (.tuple []) (qA q k n c x.v f [] (aw++[eK z]) [] 0):=by
 obtain⟨fH,j,⟨g,r⟩,F⟩:=DL p apb hp az';replace r:j<=4:=r;have bp:=mF (s:=[40]) g.ok;have aj:=km fH [40] g.ok;generalize fH.want [40]=q1 at aj bp;obtain⟨bG,t2,a2,g2,B⟩:∃(bG:aJ) (t2:ax),gP q1 bG 0/\t2.length<=16384/\(q1.is [41]=true/\bG=q1/\t2=[]\/q1.is [41]=false/\aL 119 [.ptr 0 0] [q1.ob] (.d (.str t2)) [bG.ob]):=by
  cases hi:q1.is [41]with
  |true=>exact⟨q1,[],.of (Step.refl bp.ok),aCu _,.inl ⟨rfl,rfl,rfl⟩⟩
  |false=>grind[nY,aJ.pz,oG,gP.of,gP.ok,gP.s]
 have C:=DF q1 [41] bp.ok;have a3:=mF (s:=[41]) a2.ok;have aX:=km bG [41] a2.ok;generalize bG.want [41]=cM at aX a3;have a:=mF (s:=[97,115]) a3.ok;have A:=km cM [97,115] a3.ok;generalize cM.want [97,115]=dB at A a;have o:=nY (k:=1) a.ok az6;have g5:=aJ.pz (k:=1) a.ok;have v:=oG dB a.ok;generalize dB.h2 1=gE at v o;generalize (dB.iY 1).t=t5 at v g5;refine⟨gE,(Ht j,t2,t5),⟨((((g.trans bp).trans a2).trans a3).trans a).trans o,apa j,g2,g5⟩,?_⟩;have m:IntKind.i64.wrap ((j:Int)-1)=((j-1:Nat):Int)\/j=0:=by
  grind[apd]
 refine abB.ct λd ae Q t=> ?_;rcases w with⟨l,rfl⟩|⟨l,rfl⟩<;>rcases B with⟨hi,rfl,rfl⟩|⟨hi,aC⟩<;>rw[hi]at C
 all_goals
  refine ak ?_;split
  .rename_i h;simp only[aH ae,aCx,aCA,aCE,aCX,aDB,aCy]at h;have bB:1<=j:=az6;have m:=m.resolve_right az6;have E:d.dS 1 1 (d.io .sub .i64 (Int.ofNat j) 1) (d.len [.str [99,111,117,110,116],.str [115,117,109],.str [109,105,110],.str [109,97,120]])=true:=by
    simp only[aH ae,aCy,m,aCx,aCA,aCU,aDm];grind
   have u:d.get [.str [99,111,117,110,116],.str [115,117,109],.str [109,105,110],.str [109,97,120]] (d.io .sub .i64 (Int.ofNat j) 1)=.str (Ht j):=by
    simp only[aH ae];grind[apc]
   conv=>cbv
   repeat ((first|refine dD ?_|refine dE ?_|simp -proj only[u]);conv=>cbv)
   try trivial
   (subst ae;exact bS t az7 az5)
  .rename_i h;simp only[aH ae,aCx,aCA,aCE,aCX,aDB,aCy]at h;have bB:j=0:=az6;subst bB;refine ak ?_
   (subst ae;exact bS t az7 az5)
structure tq where
 on:List D
 aw:List D
 ob:List D
def Nj(f:Nat)(p:aJ)(k:Int)(n c:Nat)(ar:List ah)(g:ah)(a:tq)(d:Int):ag:=cA [(0,.ptr 0 0),(1,.func f [] [.ptr 1 0,.ptr 2 0])] (kQ p k n c ar g a.on a.aw a.ob d)
theorem ape(f:Nat)(k:Int)(n c:Nat)(x y:dO)(d:Int)(J I:aJ->tq->Prop)
  (m:∀p a,p.Ok->J p a->∃q b,Step p q/\I q b/\aL f [.ptr 0 0,.ptr 1 0] (qA p k n c (x.v++y.v) (.own 1 []) a.on a.aw a.ob d) (.tuple []) (qA q k n c (x.v++y.v) (.own 1 []) b.on b.aw b.ob d))
  (next:∀p a,p.Ok->I p a->p.is [44]=true->J p.next a) (p:aJ) (a:tq) (hp:p.Ok) (s:J p a):
  ∃q b,(Step p q/\I q b)/\aL 120 [.ptr 0 0,.func f [] [.ptr 1 0,.ptr 2 0]] (kQ p k n c (x.v++y.v) (.own 1 []) a.on a.aw a.ob d) (.tuple []) (kQ q k n c (x.v++y.v) (.own 1 []) b.on b.aw b.ob d):=by
 obtain⟨q,b,h1,af,av⟩:=m p a hp s;suffices h:∃r o,(∃q b,(Step p q/\I q b)/\r=.tuple []/\o=kQ q k n c (x.v++y.v) (.own 1 []) b.on b.aw b.ob d)/\aL 120 [.ptr 0 0,.func f [] [.ptr 1 0,.ptr 2 0]] (kQ p k n c (x.v++y.v) (.own 1 []) a.on a.aw a.ob d) r o by
  grind
 refine wD.cn _ λw ae K t=> ?_;refine ak ?_;refine⟨bX (λz:aJ×tq=>Nj f z.1 k n c (x.v++y.v) (.own 1 []) z.2 d) (λz=>Step p z.1/\I z.1 z.2) λz=>z.1.l.length-z.1.i,_,⟨(q,b),⟨h1,af⟩,rfl,az5⟩,?_⟩;rintro _ _ ⟨⟨q,b⟩,⟨h1,af⟩,rfl,rfl⟩;have aS:=h1.ok;cases hi:q.is [44]with
 |false=>
  have aj:=nq aS hi;refine ak ?_;exact t _ _ ⟨q,b,⟨h1,af⟩,az7,az5⟩
 |true=>
  have A:=aJ.rN (aJ.h3 hi);have l:=aJ.im aS (aJ.h3 hi);have aj:=np aS hi;obtain⟨g,u,j,v,B⟩:=m q.next b l.ok (next q b aS af hi);refine ak ?_;refine ea (g,u) ⟨(h1.trans l).trans j,v⟩ ?_ az5;have:=j.i;show g.l.length-g.i<q.l.length-q.i;rw[j.l];show q.l.length-g.i<q.l.length-q.i;have:q.next.i=q.i+1:=rfl;omega
theorem ac'(f:Nat)(k:Int)(n c:Nat)(x:dO)(d:Int)(J I:aJ->tq->Prop)
  (m:∀p a,p.Ok->J p a->∃q b,Step p q/\I q b/\aL f [.ptr 0 0,.ptr 1 0] (qA p k n c (x.v) (.own 1 []) a.on a.aw a.ob d) (.tuple []) (qA q k n c (x.v) (.own 1 []) b.on b.aw b.ob d))
  (next:∀p a,p.Ok->I p a->p.is [44]=true->J p.next a) (p:aJ) (a:tq) (hp:p.Ok) (s:J p a):
  ∃q b,(Step p q/\I q b)/\aL 120 [.ptr 0 0,.func f [] [.ptr 1 0,.ptr 2 0]] (kQ p k n c (x.v) (.own 1 []) a.on a.aw a.ob d) (.tuple []) (kQ q k n c (x.v) (.own 1 []) b.on b.aw b.ob d):=by
 obtain⟨q,b,h1,af,av⟩:=m p a hp s;suffices h:∃r o,(∃q b,(Step p q/\I q b)/\r=.tuple []/\o=kQ q k n c (x.v) (.own 1 []) b.on b.aw b.ob d)/\aL 120 [.ptr 0 0,.func f [] [.ptr 1 0,.ptr 2 0]] (kQ p k n c (x.v) (.own 1 []) a.on a.aw a.ob d) r o by
  grind
 refine wD.cn _ λw ae K t=> ?_;refine ak ?_;refine⟨bX (λz:aJ×tq=>Nj f z.1 k n c (x.v) (.own 1 []) z.2 d) (λz=>Step p z.1/\I z.1 z.2) λz=>z.1.l.length-z.1.i,_,⟨(q,b),⟨h1,af⟩,rfl,az5⟩,?_⟩;rintro _ _ ⟨⟨q,b⟩,⟨h1,af⟩,rfl,rfl⟩;have aS:=h1.ok;cases hi:q.is [44]with
 |false=>
  have aj:=nq aS hi;refine ak ?_;exact t _ _ ⟨q,b,⟨h1,af⟩,az7,az5⟩
 |true=>
  have A:=aJ.rN (aJ.h3 hi);have l:=aJ.im aS (aJ.h3 hi);have aj:=np aS hi;obtain⟨g,u,j,v,B⟩:=m q.next b l.ok (next q b aS af hi);refine ak ?_;refine ea (g,u) ⟨(h1.trans l).trans j,v⟩ ?_ az5;have:=j.i;show g.l.length-g.i<q.l.length-q.i;rw[j.l];show q.l.length-g.i<q.l.length-q.i;have:q.next.i=q.i+1:=rfl;omega
theorem apf(f:Nat)(k:Int)(n c:Nat)(x:dO)(l:List D)(d:Int)(J I:aJ->tq->Prop)
  (o:∀p a,p.Ok->J p a->∃q b,Step p q/\I q b/\aL f [.ptr 0 0,.ptr 1 0] (qA p k n c (x.v) (.d (.list 1 l)) a.on a.aw a.ob d) (.tuple []) (qA q k n c (x.v) (.d (.list 1 l)) b.on b.aw b.ob d))
  (next:∀p a,p.Ok->I p a->p.is [44]=true->J p.next a) (p:aJ) (a:tq) (hp:p.Ok) (t:J p a):
  ∃q b,(Step p q/\I q b)/\aL 120 [.ptr 0 0,.func f [] [.ptr 1 0,.ptr 2 0]] (kQ p k n c (x.v) (.d (.list 1 l)) a.on a.aw a.ob d) (.tuple []) (kQ q k n c (x.v) (.d (.list 1 l)) b.on b.aw b.ob d):=by
 obtain⟨q,b,h1,af,av⟩:=o p a hp t;suffices h:∃r s,(∃q b,(Step p q/\I q b)/\r=.tuple []/\s=kQ q k n c (x.v) (.d (.list 1 l)) b.on b.aw b.ob d)/\aL 120 [.ptr 0 0,.func f [] [.ptr 1 0,.ptr 2 0]] (kQ p k n c (x.v) (.d (.list 1 l)) a.on a.aw a.ob d) r s by
  grind
 refine wD.cn _ λA ae K u=> ?_;refine ak ?_;refine⟨bX (λz:aJ×tq=>Nj f z.1 k n c (x.v) (.d (.list 1 l)) z.2 d) (λz=>Step p z.1/\I z.1 z.2) λz=>z.1.l.length-z.1.i,_,⟨(q,b),⟨h1,af⟩,rfl,az5⟩,?_⟩;rintro _ _ ⟨⟨q,b⟩,⟨h1,af⟩,rfl,rfl⟩;have aS:=h1.ok;cases hi:q.is [44]with
 |false=>
  have aj:=nq aS hi;refine ak ?_;exact u _ _ ⟨q,b,⟨h1,af⟩,az7,az5⟩
 |true=>
  have B:=aJ.rN (aJ.h3 hi);have m:=aJ.im aS (aJ.h3 hi);have aj:=np aS hi;obtain⟨g,v,j,w,C⟩:=o q.next b m.ok (next q b aS af hi);refine ak ?_;refine ea (g,v) ⟨(h1.trans m).trans j,w⟩ ?_ az5;have:=j.i;show g.l.length-g.i<q.l.length-q.i;rw[j.l];show q.l.length-g.i<q.l.length-q.i;have:q.next.i=q.i+1:=rfl;omega
def Hv(p:aJ)(a xs:List D)(x:dO):aY:=[.box (yz 3 (.aP 2 0 1 1 16) (.own 1 a) xs [] [] [] 0),.box [.ptr 3 0],.box x.v,p.ob]
def Nk(p:aJ)(a xs:List D)(x:dO):aY:=[p.ob,.box (yz 3 (.aP 3 0 1 1 16) (.own 1 a) xs [] [] [] 0),.box [.ptr 0 0],.box x.v]
theorem apg(p:aJ)(f xs:List D)(x:dO)(hp:p.Ok)(h1:f.length<=2147483648)(af:xs.length<=2147483648):∃(q:aJ) (z:aD) (t:ax),(Step p q/\z.good/\(q.e=0->z.w+t.length+200+20000*p.i<=20000*q.i))/\
  aL 216 [.ptr 0 0,.ptr 1 0] (Hv p f xs x) (.tuple []) (Hv q (f++[.str t]) (xs++[z.d]) x):=by
 obtain⟨q1,z,d,aj⟩:=ac6 p hp;have a2:=mF (s:=[97,115]) d.s.ok;have aC:=km q1 [97,115] d.s.ok;generalize q1.want [97,115]=bG at aC a2;have a3:=nY (k:=1) a2.ok az6;have g3:=aJ.pz (k:=1) a2.ok;have aX:=oG bG a2.ok;generalize bG.h2 1=cM at aX a3;generalize (bG.iY 1).t=t3 at aX g3;have a:=a2.trans a3;refine⟨cM,z,t3,⟨d.s.trans a.s,d.g,λg=> ?_⟩,?_⟩
 .have:=d.w (a.s.bT g);have:=a.a g;omega
 rw[aD.nr];rw[aD.ac8]at aj⊢;generalize z.bQ=c at aj⊢;refine abt.ct λl ae Q j=> ?_;refine ak ?_
 (subst ae;exact bS j az7 az5)
structure l6 where
 ns:List ax
 xs:List aD
def l6.w(a:l6):Nat:=fl a.ns+aD.ws a.xs
structure yA(p q:aJ)(m:Nat)(a:l6):Prop where
 s:Step p q
 n:a.ns.length<=q.i+m
 x:a.xs.length<=q.i+m
 g:aD.nu a.xs
 w:q.e=0->a.w+20000*p.i<=20000*q.i
def l6.st(q:aJ)(a:l6)(x:dO):aY:=Nk q (a.ns.map .str) (aD.ds a.xs) x
def ada(q:aJ)(a:l6)(x:dO):ag:=cA [(0,.ptr 0 0),(1,.func 216 [] [.ptr 1 0,.ptr 2 0])] (a.st q x)
theorem adb{p q:aJ}{a:l6}(x:dO)(h:yA p q 0 a):∃(r:aJ) (b:l6),(Step q r/\yA p r 1 b)/\
  aL 216 [.ptr 0 0,.ptr 1 0] (Hv q (a.ns.map .str) (aD.ds a.xs) x) (.tuple []) (Hv r (b.ns.map .str) (aD.ds b.xs) x):=by
 have h1:=h.n;have k:=h.x;have l:=h.s.ok.i;have j:=h.s.ok.l;obtain⟨r,z,t,⟨c,g,f⟩,e⟩:=apg q (a.ns.map .str) (aD.ds a.xs) x h.s.ok az9 (by grind[aD.u2]);have m:=c.i;refine⟨r,⟨a.ns++[t],a.xs++[z]⟩,⟨c,⟨h.s.trans c,az9,az9,aD.M' h.g ⟨g,trivial⟩,λd=> ?_⟩⟩,?_⟩
 .have n:=f d;have b5:=h.w (c.bT d);grind[l6.w,fl,rO,aD.yx,fS,aD.ws]
 .rw[aCR,aD.DH];exact e
theorem aph(p:aJ)(x:dO)(hp:p.Ok):∃(q:aJ) (a:l6),yA p q 1 a/\aL 120 [.ptr 0 0,.func 216 [] [.ptr 1 0,.ptr 2 0]] (Nk p [] [] x) (.tuple []) (a.st q x):=by
 suffices h:∃r l,(∃(q:aJ) (a:l6),yA p q 1 a/\r=.tuple []/\l=a.st q x)/\aL 120 [.ptr 0 0,.func 216 [] [.ptr 1 0,.ptr 2 0]] (Nk p [] [] x) r l by
  grind
 obtain⟨q,b,⟨h1,af⟩,av⟩:=adb (p:=p) (q:=p) (a:=⟨[],[]⟩) x ⟨Step.refl hp,aCu _,aCu _,trivial,λ_=>by show 0+0+_<=_;omega⟩;generalize d:b.ns.map D.str=ns at av;generalize c:aD.ds b.xs=xs at av;refine wD.cn _ λA ae K m=> ?_;refine ak ?_;refine⟨bX (λz:aJ×l6=>ada z.1 z.2 x) (λz=>yA p z.1 1 z.2) λz=>z.1.l.length-z.1.i,_,⟨(q,b),af,rfl,by subst d c;kernel_rfl⟩,?_⟩;clear h1 af av d c;rintro _ _ ⟨⟨q,b⟩,af,rfl,rfl⟩;replace af:yA p q 1 b:=af;have aS:=af.s.ok;dsimp only[ada,l6.st];generalize d:b.ns.map D.str=ns;generalize c:aD.ds b.xs=xs;cases hi:q.is [44]with
 |false=>
  have aj:=nq aS hi;refine ak ?_;exact m _ _ ⟨q,b,af,az7,by subst d c;kernel_rfl⟩
 |true=>
  have B:=aJ.rN (aJ.h3 hi);have s:=aJ.im aS (aJ.h3 hi);have aj:=np aS hi;have C:q.next.i=q.i+1:=rfl;obtain⟨f,g,⟨k,u⟩,j⟩:=adb (p:=p) (q:=q.next) (a:=b) x ⟨af.s.trans s,by have:=af.n;omega,by have:=af.x;omega,af.g,λo=>by have:=af.w o;omega⟩;rw[d,c]at j;generalize n:g.ns.map D.str=v at j;generalize t:aD.ds g.xs=w at j;refine ak ?_;refine ea (f,g) u ?_ (by subst n t;kernel_rfl);have:=k.i;show f.l.length-f.i<q.l.length-q.i;rw[k.l];show q.l.length-f.i<q.l.length-q.i;omega
structure nx(p q:aJ)(x:bj):Prop where
 s:Step p q
 g:x.good
 w:q.e=0->x.w+20000*p.i<=20000*q.i
def qC(f d:Nat):Prop:=∀p:aJ,p.Ok->p.ec=d->∃(q:aJ) (x:bj),nx p q x/\aL f [.ptr 0 0] [p.ob] (.d (.agg x.bz.cs)) [q.ob]
theorem nx.zero{p q:aJ}(h:Step p q)(a:q.e≠0):nx p q tm:=⟨h,DI,λk=>absurd k a⟩
theorem nx.then{p q r:aJ}{x:bj}(k:nx p q x)(h:Step q r):nx p r x:=⟨k.s.trans h,k.g,λa=>by have:=k.w (h.bT a);have:=h.i;omega⟩
theorem nx.after{p q r:aJ}{x:bj}(h:Step p q)(k:nx q r x):nx p r x:=⟨h.trans k.s,k.g,λa=>by have:=k.w a;have:=h.i;omega⟩
theorem apk{f d:Nat}(o:d<32->qC f (d+1))(p:aJ)(hp:p.Ok)(r:p.ec=d):
  ∃(q:aJ) (x:bj),nx p q x/\aL 125 [.ptr 0 0,.func f [.ptr 0 0] []] [p.ob] (.d (.agg x.bz.cs)) [q.ob]:=by
 by_cases u:p.ec=32
 .have aj:=qz p 52 hp;have k:=aJ.tj (e:=52) hp;have j:=aJ.oH (p:=p) (e:=52) az6;generalize p.fail 52=q at aj k j;refine⟨q,tm,.zero k j,?_⟩;refine Dr.ct λl ae Q g=> ?_;conv=>cbv
  split
  .refine ak ?_
   (subst ae;exact bS g az5 az5)
  .rename_i h;simp only[aH ae,aCx,aCA,aCE,aCX,aDB,aCy]at h;exact absurd (show(p.ec:Int)=32 by omega) h
 .have v:=hp.d;have m:d<32:=az6;obtain⟨q,x,a,s⟩:=o m (p.dep (d+1)) (aJ.tp hp az6) rfl;have t:q.ec=d+1:=a.s.d;refine⟨q.dep d,x,⟨⟨aJ.tp a.s.ok az6,a.s.l,a.s.n,r.symm,a.s.i,a.s.e⟩,a.g,a.w⟩,?_⟩;generalize x.bz=c at s;refine Dr.ct λl ae Q g=> ?_;have h1:=b9 ae (n:=p.ec) az6;have af:=qx ae t az6;rw[show p.ec+1=d+1 by omega]at h1;conv=>cbv
  split
  .rename_i h;simp only[aH ae,aCx,aCA,aCE,aCX,aDB,aCy]at h;have h:(p.ec:Int)=32:=h;omega
  .conv=>cbv
   repeat ((first|refine dD ?_|refine dE ?_|simp -proj only[h1]);conv=>cbv)
   try trivial
   simp only[af]
   (subst ae;exact bS g az5 az5)
theorem apl{f d:Nat}(o:d<32->∀p:aJ,p.Ok->p.ec=d+1->∃(q:aJ) (x:bj),nx p q x/\aL f [.ptr 0 0] [.box [.ptr 1 0],p.ob] (.d (.agg x.bz.cs)) [.box [.ptr 1 0],q.ob])(p:aJ)(hp:p.Ok)(r:p.ec=d):
  ∃(q:aJ) (x:bj),nx p q x/\aL 125 [.ptr 0 0,.func f [] [.ptr 1 0]] [p.ob,.box [.ptr 0 0]] (.d (.agg x.bz.cs)) [q.ob,.box [.ptr 0 0]]:=by
 by_cases u:p.ec=32
 .have aj:=qz p 52 hp;have k:=aJ.tj (e:=52) hp;have j:=aJ.oH (p:=p) (e:=52) az6;generalize p.fail 52=q at aj k j;refine⟨q,tm,.zero k j,?_⟩;refine Dr.ct λl ae Q g=> ?_;conv=>cbv
  split
  .refine ak ?_
   (subst ae;exact bS g az5 az5)
  .rename_i h;simp only[aH ae,aCx,aCA,aCE,aCX,aDB,aCy]at h;exact absurd (show(p.ec:Int)=32 by omega) h
 .have v:=hp.d;have m:d<32:=az6;obtain⟨q,x,a,s⟩:=o m (p.dep (d+1)) (aJ.tp hp az6) rfl;have t:q.ec=d+1:=a.s.d;refine⟨q.dep d,x,⟨⟨aJ.tp a.s.ok az6,a.s.l,a.s.n,r.symm,a.s.i,a.s.e⟩,a.g,a.w⟩,?_⟩;generalize x.bz=c at s;refine Dr.ct λl ae Q g=> ?_;have h1:=b9 ae (n:=p.ec) az6;have af:=qx ae t az6;rw[show p.ec+1=d+1 by omega]at h1;conv=>cbv
  split
  .rename_i h;simp only[aH ae,aCx,aCA,aCE,aCX,aDB,aCy]at h;have h:(p.ec:Int)=32:=h;omega
  .conv=>cbv
   repeat ((first|refine dD ?_|refine dE ?_|simp -proj only[h1]);conv=>cbv)
   try trivial
   simp only[af]
   (subst ae;exact bS g az5 az5)
theorem apm{d:Nat}(h:qC 126 (d+1))(p:aJ)(hp:p.Ok)(k:p.ec=d+1):∃(q:aJ) (x:bj),nx p q x/\aL 214 [.ptr 0 0] [.box [.ptr 1 0],p.ob] (.d (.agg x.bz.cs)) [.box [.ptr 1 0],q.ob]:=by
 have a:=aJ.AY (s:=[40]) hp;have aj:=km p [40] hp;obtain⟨q,x,h1,aC⟩:=h (p.want [40]) a.ok aBa;have f:=aJ.AY (s:=[41]) h1.s.ok;have aX:=km q [41] h1.s.ok;generalize q.want [41]=bG at f aX;generalize p.want [40]=q1 at a h1 aj aC;refine⟨bG,x,(h1.after a).then f,?_⟩;generalize x.bz=c at aC;refine Vy.ct λj ae Q g=> ?_;refine ak ?_
 (subst ae;exact bS g az5 az5)
theorem ade{d:Nat}(h:d<32->qC 126 (d+1)):qC 173 d:=by
 intro p hp m;have g:=DF p [40] hp;cases f:p.is [40]with
 |true=>
  rw[f]at g;obtain⟨q,x,h1,aC⟩:=apl (λl=>apm (h l)) p hp m;refine⟨q,x,h1,?_⟩;generalize x.bz=c at aC;refine Mx.ct λj ae Q a=> ?_;refine ak ?_
  (subst ae;exact bS a az5 az5)
 |false=>
  rw[f]at g;have bp:=nY (k:=1) hp az6;have g1:=aJ.pz (k:=1) hp;have aj:=oG p hp;generalize p.h2 1=q1 at aj bp;generalize (p.iY 1).t=t1 at aj g1;refine⟨q1,.mk 1 t1 [] lG [] [] [] [] [] 0,⟨bp.s,DI,λn=> ?_⟩,?_⟩
  .have:=bp.a n;show 500+t1.length+0+200+0+0+0+0+0+_<=_;omega
  refine Mx.ct λj ae Q a=> ?_;refine ak ?_
  (subst ae;exact bS a az5 az5)
structure Nl(p q:aJ)(m:Nat)(on:List (ax×ax)):Prop where
 s:Step p q
 n:on.length<=q.i+m
 w:q.e=0->j0 on+20000*p.i<=20000*q.i
theorem apn(p:aJ)(k:Int)(n c:Nat)(x y:dO)(hp:p.Ok):∃(q:aJ) (d:List (ax×ax)),Nl p q 1 d/\
  aL 120 [.ptr 0 0,.func 259 [] [.ptr 1 0,.ptr 2 0]] (kQ p k n c (x.v++y.v) (.own 1 []) [] [] [] 0) (.tuple []) (kQ q k n c (x.v++y.v) (.own 1 []) (d.map fm) [] [] 0):=by
 obtain⟨q,b,⟨_,d,h1,rfl⟩,e⟩:=ape 259 k n c x y 0 (λq a=>∃d,Nl p q 0 d/\a=⟨d.map fm,[],[]⟩) (λq a=>∃d,Nl p q 1 d/\a=⟨d.map fm,[],[]⟩)
  (by
   rintro q a aS ⟨d,h1,rfl⟩;have:=h1.n;have:=aS.i;have:=aS.l;obtain⟨r,z,⟨f,g1,g2⟩,e⟩:=ao9 q k n c x y (d.map fm) aS az9;have g:=f.s.i;refine⟨r,⟨(d++[z]).map fm,[],[]⟩,f.s,⟨d++[z],⟨h1.s.trans f.s,az9,λhe=> ?_⟩,rfl⟩,?_⟩
   .have:=f.a he;have:=h1.w (f.s.bT he);unfold j0 at this⊢;rw[rO];show _+(200+(z.1.length+z.2.length)+0)+_<=_;omega
   .rw[aCR];exact e)
  (by
   rintro q a aS ⟨d,h1,rfl⟩ g;have aq:=aJ.im aS (aJ.h3 g);have:q.next.i=q.i+1:=rfl;exact⟨d,⟨h1.s.trans aq,by have:=h1.n;omega,λhe=>aBN⟩,rfl⟩)
  p ⟨[],[],[]⟩ hp ⟨[],⟨Step.refl hp,aCu _,λ_=>aAJ⟩,rfl⟩
 grind
def apo(q:aJ)(k:Int)(x y:dO)(a:List D):aY:=[q.ob,.box (yz k (.aP 5 0 2 2 16) (.own 1 []) [] a [] [] 0),.dead,.box [.ptr 0 0],.box [.ptr 1 0],.box (x.v++y.v)]
theorem apq{d:Nat}(h:qC 173 d)(p:aJ)(k:Int)(x:dO)(hp:p.Ok)(j:p.ec=d):∃(q:aJ) (y:bj) (a:List (ax×ax)),(Step p q/\y.good/\(q.e=0->y.w+j0 a+20000*p.i<=20000*q.i))/\
  aL 217 [.ptr 0 0,.ptr 1 0] [p.ob,.box (yz k (.aP 2 0 1 1 16) (.own 1 []) [] [] [] [] 0),.box x.v] (.tuple []) (apo q k x y.bz (a.map fm)):=by
 obtain⟨q1,y,h1,aj⟩:=h p hp j;have a2:=mF (s:=[111,110]) h1.s.ok;have aC:=km q1 [111,110] h1.s.ok;generalize q1.want [111,110]=bG at aC a2;obtain⟨cM,a,av,aX⟩:=apn bG k 2 2 x y.bz a2.ok;refine⟨cM,y,a,⟨(h1.s.trans a2.s).trans av.s,h1.g,λf=> ?_⟩,?_⟩
 .have:=av.w f;have:=a2.a (av.s.bT f);have:=h1.w (a2.s.bT (av.s.bT f));omega
 generalize y.bz=c at aj aX;generalize a.map fm=L at aX;refine Zd.ct λl ae Q g=> ?_;conv=>cbv
 refine⟨?_,?_⟩
 .refine ak ?_
  (subst ae;exact bS g az7 az5)
 .refine c6 (aj) ?_;refine c6 (aC) ?_;refine c6 (aX) ?_
  (subst ae;exact bS g az7 az5)
end Go.Proofs.YthffhbakgmemaaaGreatDoor
