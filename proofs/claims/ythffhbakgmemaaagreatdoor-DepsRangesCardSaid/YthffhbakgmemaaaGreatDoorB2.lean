/- Part of ranges_said. -/
import Derived.Test.YthffhbakgmemaaaGreatDoorB1
set_option maxRecDepth 100000
set_option maxHeartbeats 8000000
set_option linter.unusedSimpArgs false
set_option linter.unusedVariables false
namespace Go.Proofs.YthffhbakgmemaaaGreatDoor
open Go Go.aH
attribute [local irreducible] bG
structure aG where
 l:List Tok
 T:D
 i:Nat
 n:Nat
 dS:Nat
 e:Int
 a:Int
def aG.ob(p:aG):b9:=.box [.d p.T,.d (int p.i),.d (int p.n),.d (int p.dS),.d (int p.e),.d (int p.a)]
def o3:Tok:=⟨0,[],0,0⟩
def aG.dU(p:aG):Tok:=cond (!decide (p.e=0)) o3 (p.l.getD p.i o3)
def aG.fail(p:aG)(e:Int):aG:=cond (!decide (p.e=0)) p ⟨p.l,p.T,p.i,p.n,p.dS,e,cond (decide (p.i<p.l.length)) (p.l.getD p.i o3).p p.n⟩
def aG.next(p:aG):aG:=⟨p.l,p.T,p.i+1,p.n,p.dS,p.e,p.a⟩
def aG.is(p:aG)(s:aw):Bool:=(decide (p.dU.k=1)||decide (p.dU.k=4))&&decide (p.dU.t=s)
structure aG.Ok(p:aG):Prop where
 i:p.i<=p.l.length
 l:p.l.length<=1073741824
 d:p.dS<=32
 t:∀x∈p.l,xW x
 T:p.T=oi p.l
theorem getD_none{α:Type}{l:List α}{i:Nat}{z:α}(h:l.length<=i):l.getD i z=z:=axY
theorem anF{α:Type}{l:List α}{i:Nat}{z:α}(h:i<l.length):l.getD i z=l[i]:=axY
section
attribute [local irreducible] Int.decLt Int.decLe Int.instDecidableEq IntKind.wrap instDecidableEqList
theorem aG.xX{p:aG}(hp:p.Ok):p.ob=.box [.d (oi p.l),.d (int p.i),.d (int p.n),.d (int p.dS),.d (int p.e),.d (int p.a)]:=by
 grind[aG.ob,Ok.T]
theorem Ae(p:aG)(hp:p.Ok):aM 175 [.ptr 0 0] [p.ob] (.d p.dU.d) [p.ob]:=by
 have h1:=hp.i;have sh:=hp.l;rw[aG.xX hp];refine X0.fh ?_;refine bj ?_;first|refine eK (λh=> ?_) (λh=> ?_)|((refine eE (λh=> ?_) (λh=> ?_))<;>(try simp only[aAg]at h))
 .refine bj ?_;exact⟨aAf (b:=.d o3.d) axV (by grind[aG.dU]),axV⟩
 .by_cases av:p.l.length<=p.i
  .have aW:decide (((p.l.map Tok.d).length:Int)<=(p.i:Int))=true:=by simp_all
   conv=>whnf
   repeat ((first|refine e7 ?_|refine e6 ?_);conv=>whnf)
   simp only[aW];refine bj ?_;exact⟨aAf (b:=.d o3.d) axV (by grind[aG.dU]),axV⟩
  .have aW:decide (((p.l.map Tok.d).length:Int)<=(p.i:Int))=false:=by simp_all
   conv=>whnf
   repeat ((first|refine e7 ?_|refine e6 ?_);conv=>whnf)
   simp only[aW];conv=>whnf
   repeat ((first|refine e7 ?_|refine e6 ?_);conv=>whnf)
   refine⟨axY,?_⟩;have aC:(p.l.map Tok.d).getD (Int.toNat (p.i:Int)) .dP=(p.l[p.i]' axW).d:=getD_map _;simp only[aC];refine bj ?_;exact⟨aAf (b:=.d (p.l[p.i]' axW).d) axV (by unfold aG.dU;grind),axV⟩
theorem p7(p:aG)(e:Int)(hp:p.Ok):aM 94 [.ptr 0 0,.d (int e)] [p.ob] (.tuple []) [(p.fail e).ob]:=by
 have h1:=hp.i;have sh:=hp.l;rw[aG.xX hp];refine vL.fh ?_;refine bj ?_;refine eE (λh=> ?_) (λh=> ?_)
 .refine bj ?_;first|refine⟨axX,?_⟩|refine⟨trivial,?_⟩|skip
  unfold aG.fail;rw[h];exact congrArg (λx=>[x]) (aG.xX hp).symm
 .by_cases av:p.i<p.l.length
  .have aW:decide ((p.i:Int)<((p.l.map Tok.d).length:Int))=true:=by simp_all
   conv=>whnf
   repeat ((first|refine e7 ?_|refine e6 ?_);conv=>whnf)
   refine⟨axY,?_⟩;have aC:(p.l.map Tok.d).getD (Int.toNat (p.i:Int)) .dP=(p.l[p.i]' axW).d:=getD_map _;simp only[aC];refine bj ?_;first|refine⟨axX,?_⟩|refine⟨trivial,?_⟩|skip
   refine aAf (b:=[aG.ob ⟨p.l,oi p.l,p.i,p.n,p.dS,e,(p.l[p.i]' axW).p⟩]) axV ?_;grind[aG.fail,aG.Ok.T]
  .have aW:decide ((p.i:Int)<((p.l.map Tok.d).length:Int))=false:=by simp_all
   refine bj ?_;first|refine⟨axX,?_⟩|refine⟨trivial,?_⟩|skip
   refine aAf (b:=[aG.ob ⟨p.l,oi p.l,p.i,p.n,p.dS,e,p.n⟩]) axV ?_;grind[aG.fail,aG.Ok.T]
theorem C1(p:aG)(s:aw)(hp:p.Ok):aM 172 [.ptr 0 0,.d (.str s)] [p.ob] (.d (.bool (p.is s))) [p.ob]:=by
 have aj:=Ae p hp;unfold aG.is;generalize p.dU=t at aj⊢;refine aEx.fh ?_;refine bj ?_;refine cm (aj) ?_;cases h1:decide (t.k=1)with
 |true=>
  refine bj ?_;exact⟨aAf (b:=.d (.bool (decide (t.t=s)))) axV rfl,axV⟩
 |false=>
  cases sh:decide (t.k=4)with
  |true=>
   refine bj ?_;exact⟨aAf (b:=.d (.bool (decide (t.t=s)))) axV rfl,axV⟩
  |false=>
   refine bj ?_;exact⟨aAf (b:=.d (.bool false)) axV rfl,axV⟩
def aG.maybe(p:aG)(s:aw):aG:=cond (p.is s) p.next p
def aG.want(p:aG)(s:aw):aG:=cond (p.is s) p.next (p.fail 51)
def aG.iM(p:aG)(k:Int):Tok:=cond (!decide (p.dU.k=k)) o3 p.dU
def aG.hN(p:aG)(k:Int):aG:=cond (!decide (p.dU.k=k)) (p.fail 51) p.next
theorem Gr(p:aG)(s:aw)(hp:p.Ok):aM 118 [.ptr 0 0,.d (.str s)] [p.ob] (.d (.bool (p.is s))) [(p.maybe s).ob]:=by
 have aj:=C1 p s hp;have h1:=hp.i;have sh:=hp.l;unfold aG.maybe;generalize p.is s=b at aj⊢;refine VT.fh ?_;refine bj ?_;refine cm (aj) ?_;cases b with
 |true=>
  refine bj ?_;refine⟨axV,?_⟩;exact aAf (b:=[.box [.d p.T,.d (int (IntKind.i64.wrap ((p.i:Int)+((1:Nat):Int)))),.d (int p.n),.d (int p.dS),.d (int p.e),.d (int p.a)]]) axV (congrArg (λk=>[b9.box [.d p.T,.d (int k),.d (int p.n),.d (int p.dS),.d (int p.e),.d (int p.a)]]) (iL p.i 1 axW))
 |false=>
  refine bj ?_;exact⟨axV,axV⟩
theorem jT(p:aG)(s:aw)(hp:p.Ok):aM 93 [.ptr 0 0,.d (.str s)] [p.ob] (.tuple []) [(p.want s).ob]:=by
 have aj:=Gr p s hp;have aF:=p7 p 51 hp;unfold aG.want;unfold aG.maybe at aj;generalize p.is s=b at aj⊢;refine VI.fh ?_;refine bj ?_;cases b with
 |true=>
  refine cm (aj) ?_;exact⟨axX,axV⟩
 |false=>
  refine cm (aj) ?_;refine cm (aF) ?_;exact⟨axX,axV⟩
theorem L9(p:aG)(k:Int)(hp:p.Ok):aM 127 [.ptr 0 0,.d (int k)] [p.ob] (.d (p.iM k).d) [(p.hN k).ob]:=by
 have aj:=Ae p hp;have aF:=p7 p 51 hp;have h1:=hp.i;have sh:=hp.l;unfold aG.iM aG.hN;generalize p.dU=t at aj⊢;refine Lk.fh ?_;refine bj ?_;refine cm (aj) ?_;cases h:decide (t.k=k)with
 |false=>
  refine bj ?_;refine cm (aF) ?_;exact⟨axV,axV⟩
 |true=>
  refine bj ?_;refine⟨axV,?_⟩;exact aAf (b:=[.box [.d p.T,.d (int (IntKind.i64.wrap ((p.i:Int)+((1:Nat):Int)))),.d (int p.n),.d (int p.dS),.d (int p.e),.d (int p.a)]]) axV (congrArg (λk=>[b9.box [.d p.T,.d (int k),.d (int p.n),.d (int p.dS),.d (int p.e),.d (int p.a)]]) (iL p.i 1 axW))
theorem oj(p:aG)(hp:p.Ok):aM 119 [.ptr 0 0] [p.ob] (.d (.str (p.iM 1).t)) [(p.hN 1).ob]:=by
 have aj:=L9 p 1 hp;generalize p.iM 1=t at aj⊢;generalize p.hN 1=q at aj⊢;refine Gd.fh ?_;refine bj ?_;refine cm (aj) ?_;exact⟨axV,axV⟩
end
theorem Gs{P:Program}{gl:Nat->List D}{f:Nat}{cM:aX}{dN:List ah}{s:aU}(Q:ah->aU->Prop)(h:a7 P f cM)(ax:lS (fR P gl) gl cM dN s Q):∃r s',Q r s'/\bG P gl f dN s r s':=by
 grind[a7.ext]
structure Step(p q:aG):Prop where
 ok:q.Ok
 l:q.l=p.l
 n:q.n=p.n
 d:q.dS=p.dS
 i:p.i<=q.i
 e:p.e≠0->q.e≠0
theorem Step.refl{p:aG}(h:p.Ok):Step p p:=⟨h,rfl,rfl,rfl,aAd _,id⟩
theorem Step.trans{p q r:aG}(h:Step p q)(k:Step q r):Step p r:=⟨k.ok,k.l.trans h.l,k.n.trans h.n,k.d.trans h.d,aAZ h.i k.i,λx=>k.e (h.e x)⟩
theorem aG.sH{p:aG}{e:Int}(h:p.Ok):Step p (p.fail e):=by
 unfold aG.fail;cases he:!decide (p.e=0)with
 |true=>exact Step.refl h
 |false=>exact⟨⟨h.i,h.l,h.d,h.t,h.T⟩,rfl,rfl,rfl,aAd _,λx=>absurd axY x⟩
theorem aG.om{p:aG}{e:Int}(h:e≠0):(p.fail e).e≠0:=by
 grind[aG.fail]
theorem aG.q8{p:aG}(h:p.dU.k≠0):p.e=0/\p.i<p.l.length:=by
 unfold aG.dU at h;cases he:!decide (p.e=0)with
 |true=>rw[he]at h;exact absurd rfl h
 |false=>
  rw[he]at h;refine⟨axY,?_⟩;by_cases hi:p.i<p.l.length;all_goals simp_all[o3]
theorem aG.h9{p:aG}(h:p.Ok)(aq:p.dU.k≠0):Step p p.next:=by
 have:=aG.q8 aq;exact⟨⟨by have:=this.2;show p.i+1<=p.l.length;omega,h.l,h.d,h.t,h.T⟩,rfl,rfl,rfl,Nat.le_succ _,λx=>absurd this.1 x⟩
theorem aG.hO{p:aG}{s:aw}(h:p.is s=true):p.dU.k≠0:=by
 unfold aG.is at h;grind
theorem aG.Af{p:aG}{s:aw}(h:p.Ok):Step p (p.want s):=by
 grind[aG.want,h9,hO,sH]
theorem aG.anG{p:aG}{s:aw}(h:p.Ok):Step p (p.maybe s):=by
 grind[aG.maybe,Step.refl,h9,hO]
theorem aG.abx{p:aG}{k:Int}(h:p.Ok)(aq:k≠0):Step p (p.hN k):=by
 unfold aG.hN;cases hi:decide (p.dU.k=k)with
 |true=>simp_all[h9]
 |false=>exact aG.sH h
theorem mS{p:aG}{s:aw}(hp:p.Ok)(h:p.is s=true):aM 118 [.ptr 0 0,.d (.str s)] [p.ob] (.d (.bool true)) [p.next.ob]:=by
 grind[Gr,aG.maybe]
theorem mT{p:aG}{s:aw}(hp:p.Ok)(h:p.is s=false):aM 118 [.ptr 0 0,.d (.str s)] [p.ob] (.d (.bool false)) [p.ob]:=by
 grind[Gr,aG.maybe]
def lG(p:aG):List aw->Nat->Nat×aG
 |[],_=>(0,p.fail 51)
 |w::l,k=>cond (p.is w) (k+1,p.next) (lG p l (k+1))
def fu(l:List aw):D:=.list 1 (l.map .str)
theorem Ma{p:aG}(h:p.Ok):∀{l:List aw} {k:Nat},Step p (lG p l k).2/\(lG p l k).1<=k+l.length/\((lG p l k).2.e≠0\/p.i<(lG p l k).2.i)
 |[],k=>⟨aG.sH h,aAa _,Or.inl (aG.om axW)⟩
 |w::l,k=>by
  unfold lG;cases hi:p.is w with
  |true=>exact⟨aG.h9 h (aG.hO hi),axX,Or.inr (aCs _)⟩
  |false=>
   have:=@Ma p h l (k+1);exact⟨this.1,axZ,this.2.2⟩
theorem aby{p:aG}:∀{l:List aw} {k:Nat},(lG p l k).2.e=0->(lG p l k).2.i=p.i+1/\p.e=0/\1<=(lG p l k).1
 |[],k=>λh=>absurd h (aG.om axW)
 |w::l,k=>by
  unfold lG;cases hi:p.is w with
  |true=>exact λh=>⟨rfl,h,Nat.succ_le_succ (aAa _)⟩
  |false=>exact λh=>aby (l:=l) (k:=k+1) h
theorem Mb:xW o3:=⟨aAa _,dG.zero⟩
theorem aG.Mc{p:aG}(h:p.Ok):xW p.dU:=by
 unfold aG.dU;cases he:!decide (p.e=0)with
 |true=>exact Mb
 |false=>
  by_cases hi:p.i<p.l.length
  .rw[show(cond false o3 (p.l.getD p.i o3))=p.l[p.i]from anF hi];grind[Ok.t]
  .rw[show(cond false o3 (p.l.getD p.i o3))=o3 from getD_none axW];exact Mb
theorem aG.C2{p:aG}{k:Int}(h:p.Ok):xW (p.iM k):=by
 grind[aG.iM,Mb,Mc]
theorem aG.abz{p:aG}{k:Int}(h:(p.hN k).e=0):(p.hN k).i=p.i+1/\p.e=0:=by
 unfold aG.hN at h⊢;cases hi:decide (p.dU.k=k)with
 |true=>rw[hi]at h;exact⟨rfl,h⟩
 |false=>grind[om]
theorem aG.anH{p:aG}{s:aw}(h:(p.want s).e=0):(p.want s).i=p.i+1/\p.e=0:=by
 unfold aG.want at h⊢;cases hi:p.is s with
 |true=>rw[hi]at h;exact⟨rfl,h⟩
 |false=>grind[om]
theorem Step.b2{p q:aG}(h:Step p q)(k:q.e=0):p.e=0:=by
 grind[e]
section
attribute [local irreducible] Int.decLt Int.decLe Int.instDecidableEq IntKind.wrap instDecidableEqList
def anI(p:aG)(ws:List aw)(k:Nat):ag:=cx [(0,.ptr 0 0),(7,.d (fu ws)),(8,.d (int (ws.map D.str).length)),(9,.d (int k))] [p.ob]
theorem abA(p:aG)(ws:List aw)(hp:p.Ok)(hw:ws.length<=1000):aM 89 [.ptr 0 0,.d (fu ws)] [p.ob] (.d (int ((lG p ws 0).1:Nat))) [(lG p ws 0).2.ob]:=by
 refine TV.fh ?_;refine bj ?_;refine⟨λn st=>∃k,k<=ws.length/\n=ws.length-k/\lG p (ws.drop k) k=lG p ws 0/\st=anI p ws k,ws.length,⟨0,aAa _,rfl,rfl,axV⟩,?_⟩;rintro _ _ ⟨k,aq,rfl,bd,rfl⟩;refine bj ?_;first|refine eK (λh1=> ?_) (λh1=> ?_)|((refine eE (λh1=> ?_) (λh1=> ?_))<;>(try simp only[aAg]at h1))
 .have sh:k<ws.length:=by simp_all
  have aY:=aBg sh;have aC:(ws.map D.str).getD (Int.toNat (k:Int)) .dP=.str ws[k]:=getD_map _;conv=>whnf
  repeat ((first|refine e7 ?_|refine e6 ?_);conv=>whnf)
  refine⟨by simp<;>omega,?_⟩;simp only[aC];cases hi:p.is ws[k]with
  |true=>
   refine bj ?_;refine cm (mS hp hi) ?_;have ax:lG p ws 0=(k+1,p.next):=by grind[lG]
   rw[ax];exact⟨aAf (b:=.d (int (IntKind.i64.wrap ((k:Int)+((1:Nat):Int))))) axV (congrArg (λk=>ah.d (int k)) (iL k 1 axW)),axV⟩
  |false=>
   refine bj ?_;refine cm (mT hp hi) ?_;refine⟨ws.length-(k+1),axW,k+1,axW,rfl,by grind[lG],?_⟩;exact aAf (b:=cx [(0,.ptr 0 0),(7,.d (fu ws)),(8,.d (int (ws.map D.str).length)),(9,.d (int (IntKind.i64.wrap ((k:Int)+((1:Nat):Int)))))] [p.ob]) axV (congrArg (λk=>cx [(0,.ptr 0 0),(7,.d (fu ws)),(8,.d (int (ws.map D.str).length)),(9,.d (int k))] [p.ob]) (iL k 1 axW))
 .have sh:k=ws.length:=by grind
  have ax:lG p ws 0=(0,p.fail 51):=by rw[<-bd,sh,List.drop_length];rfl
  rw[ax];refine bj ?_;refine cm (p7 p 51 hp) ?_;exact⟨axV,axV⟩
end
def fS{α:Type}(f:α->Nat):List α->Nat
 |[]=>0
 |x::l=>200+f x+fS f l
theorem q9{α:Type}{f:α->Nat}:∀(l m:List α),fS f (l++m)=fS f l+fS f m
 |[],m=>by grind[fS]
 |x::l,m=>by show 200+f x+fS f (l++m)=(200+f x+fS f l)+fS f m;rw[q9 l m];omega
def fw(l:List aw):Nat:=fS List.length l
section
attribute [local irreducible] Int.decLt Int.decLe Int.instDecidableEq IntKind.wrap instDecidableEqList
def Md(q:aG)(x:List aw):aU:=[q.ob,.box [.own 1 (x.map .str)],.box [.ptr 0 0]]
theorem aG.anJ{p:aG}{k:Int}(hp:p.Ok)(aq:k≠0):Step p (p.hN k)/\(p.iM k).t.length<=16384/\dG (p.iM k).n/\((p.hN k).e=0->(p.hN k).i=p.i+1):=⟨aG.abx hp aq,(aG.C2 hp).1,(aG.C2 hp).2,λh=>(aG.abz h).1⟩
theorem abB(p:aG)(x:List aw)(hp:p.Ok)(ak:x.length<=2147483648):∃(q:aG) (t:aw),Step p q/\t.length<=16384/\(q.e=0->q.i=p.i+1)/\aM 176 [.ptr 0 0,.ptr 1 0] [.box [.own 1 (x.map .str)],.box [.ptr 2 0],p.ob] (.tuple []) [.box [.own 1 ((x++[t]).map .str)],.box [.ptr 2 0],q.ob]:=by
 have hw:=aG.anJ (k:=1) hp axW;refine⟨p.hN 1,(p.iM 1).t,hw.1,hw.2.1,hw.2.2.2,?_⟩;have aj:=oj p hp;generalize p.hN 1=q at aj⊢;generalize (p.iM 1).t=t at aj⊢;refine Up.fh ?_;conv=>whnf
 repeat ((first|refine e7 ?_|refine e6 ?_);conv=>whnf)
 refine KJ (aj) axV axV ?_;conv=>whnf
 repeat ((first|refine e7 ?_|refine e6 ?_);conv=>whnf)
 refine⟨by simp<;>omega,?_⟩;refine bj ?_;refine⟨axX,?_⟩;rw[aAy];kernel_rfl
theorem anK(p:aG)(hp:p.Ok):∃r s',(∃(q:aG) (x:List aw),Step p q/\x.length<=q.i+1/\(q.e=0->fw x+20000*p.i<=20000*q.i)/\r=.tuple []/\s'=Md q x)/\aM 120 [.ptr 0 0,.func 176 [] [.ptr 1 0,.ptr 2 0]] (Md p []) r s':=by
 have aI:=hp.l;refine Gs _ alW ?_;refine bj ?_;refine aAz (abB p [] hp axX) (λq h=>aAz h (λx h=> ?_));have eh:=h.1;have qO:=h.2.1;have l0:=h.2.2.1;refine cm (h.2.2.2) ?_;refine⟨λn st=>∃(q:aG) (x:List aw),Step p q/\x.length<=q.i+1/\(q.e=0->fw x+20000*p.i<=20000*q.i)/\n=q.l.length-q.i/\st=cx [(0,.ptr 0 0),(1,.func 176 [] [.ptr 1 0,.ptr 2 0])] (Md q x),q.l.length-q.i,⟨q,[x],eh,axX,λhe=>by show 200+x.length+0+_<=_;omega,rfl,axV⟩,?_⟩;rintro _ _ ⟨q,x,hs,ak,hw,rfl,rfl⟩;refine bj ?_;have sh:=hs.ok.i;have av:=hs.ok.l;cases hi:q.is [44]with
 |true=>
  have dw:=aG.q8 (aG.hO hi);have ay:=aG.h9 hs.ok (aG.hO hi);refine cm (mS hs.ok hi) ?_;refine aAz (abB q.next x ay.ok axW) (λq' h=>aAz h (λbA h=> ?_));have eh:=h.1;have qO:=h.2.1;have l0:=h.2.2.1;have qE:=eh.i;have oK:=eh.l;have vu:q.next.i=q.i+1:=rfl;have sb:q.next.l=q.l:=rfl;refine cm (h.2.2.2) ?_;refine⟨q'.l.length-q'.i,axZ,q',x++[bA],(hs.trans ay).trans eh,axZ,λhe=> ?_,rfl,axV⟩;have w1:=l0 he;have bW:=hw (ay.b2 (eh.b2 he));unfold fw at bW⊢;rw[q9];show _+(200+bA.length+0)+_<=_;omega
 |false=>
  refine cm (mT hs.ok hi) ?_;exact⟨q,x,hs,ak,hw,axX,axV⟩
theorem abC(p:aG)(hp:p.Ok):∃(q:aG) (x:List aw),(Step p q/\(q.e=0->fw x+20000*p.i<=20000*q.i))/\aM 128 [.ptr 0 0] [p.ob] (.d (fu x)) [q.ob]:=by
 suffices h:∃r s',(∃(q:aG) (x:List aw),Step p q/\(q.e=0->fw x+20000*p.i<=20000*q.i)/\r=.d (fu x)/\s'=[q.ob])/\aM 128 [.ptr 0 0] [p.ob] r s' by
  grind
 obtain⟨_,_,⟨q,x,h1,sh,aW,rfl,rfl⟩,av⟩:=anK p hp;refine Gs _ Uc ?_;refine bj ?_;refine cm (av) ?_;exact⟨q,x,h1,aW,axV,axV⟩
end
inductive aB where
 |mk (k:Int) (n:aw) (gy vi:Int) (eL op:aw) (l:List aB)
def aB.k:aB->Int|.mk k _ _ _ _ _ _=>k
def aB.n:aB->aw|.mk _ n _ _ _ _ _=>n
def aB.gy:aB->Int|.mk _ _ k _ _ _ _=>k
def aB.vi:aB->Int|.mk _ _ _ i _ _ _=>i
def aB.eL:aB->aw|.mk _ _ _ _ t _ _=>t
def aB.op:aB->aw|.mk _ _ _ _ _ o _=>o
def aB.l:aB->List aB|.mk _ _ _ _ _ _ l=>l
mutual
def aB.d:aB->D
 |.mk k n gy vi eL op l=>.agg [int k,.str n,int gy,int vi,.str eL,.str op,.list 7 (aB.ds l)]
def aB.ds:List aB->List D
 |[]=>[]
 |x::l=>x.d::aB.ds l
end
def aB.cells(x:aB):List D:=[int x.k,.str x.n,int x.gy,int x.vi,.str x.eL,.str x.op,.list 7 (aB.ds x.l)]
theorem aB.mU(x:aB):x.d=.agg x.cells:=ayL
theorem aB.C3:∀(l m:List aB),aB.ds (l++m)=aB.ds l++aB.ds m
 |[],m=>rfl
 |x::l,m=>by show x.d::aB.ds (l++m)=x.d::(aB.ds l++aB.ds m);rw[aB.C3 l m]
theorem aB.uo:∀(l:List aB),(aB.ds l).length=l.length
 |[]=>rfl
 |x::l=>by show(aB.ds l).length+1=l.length+1;rw[aB.uo l]
mutual
def aB.w:aB->Nat
 |.mk _ n _ _ eL op l=>200+n.length+eL.length+op.length+aB.ws l
def aB.ws:List aB->Nat
 |[]=>0
 |x::l=>x.w+aB.ws l
end
mutual
def aB.good:aB->Prop
 |.mk _ _ _ vi _ _ l=>dG vi/\aB.mV l
def aB.mV:List aB->Prop
 |[]=>True
 |x::l=>x.good/\aB.mV l
end
theorem aB.xY:∀(l m:List aB),aB.ws (l++m)=aB.ws l+aB.ws m
 |[],m=>by grind[aB.ws]
 |x::l,m=>by show x.w+aB.ws (l++m)=(x.w+aB.ws l)+aB.ws m;rw[aB.xY l m];omega
theorem aB.Me:∀{l m:List aB},aB.mV l->aB.mV m->aB.mV (l++m)
 |[],m,_,h=>h
 |x::l,m,h,k=>⟨h.1,aB.Me h.2 k⟩
def la:aB:=.mk 0 [] 0 0 [] [] []
theorem sI:la.good:=⟨dG.zero,trivial⟩
inductive bk where
 |mk (k:Int) (n:aw) (l:List bk) (c:aB) (ns:List aw) (xs:List aB) (on:List (aw×aw)) (ai:List (aw×aw×aw)) (ob:List (aw×Bool)) (cD:Int)
def bk.k:bk->Int|.mk k _ _ _ _ _ _ _ _ _=>k
def bk.n:bk->aw|.mk _ n _ _ _ _ _ _ _ _=>n
def bk.l:bk->List bk|.mk _ _ l _ _ _ _ _ _ _=>l
def bk.c:bk->aB|.mk _ _ _ c _ _ _ _ _ _=>c
def bk.ns:bk->List aw|.mk _ _ _ _ ns _ _ _ _ _=>ns
def bk.xs:bk->List aB|.mk _ _ _ _ _ xs _ _ _ _=>xs
def bk.on:bk->List (aw×aw)|.mk _ _ _ _ _ _ on _ _ _=>on
def bk.ai:bk->List (aw×aw×aw)|.mk _ _ _ _ _ _ _ ai _ _=>ai
def bk.ob:bk->List (aw×Bool)|.mk _ _ _ _ _ _ _ _ ob _=>ob
def bk.cD:bk->Int|.mk _ _ _ _ _ _ _ _ _ cD=>cD
def fx(x:aw×aw):D:=.agg [.str x.1,.str x.2]
def eM(x:aw×aw×aw):D:=.agg [.str x.1,.str x.2.1,.str x.2.2]
def fy(x:aw×Bool):D:=.agg [.str x.1,.bool x.2]
mutual
def bk.d:bk->D
 |.mk k n l c ns xs on ai ob cD=>.agg [int k,.str n,.list 16 (bk.ds l),int c.k,.str c.n,int c.gy,int c.vi,.str c.eL,.str c.op,.list 7 (aB.ds c.l),fu ns,.list 7 (aB.ds xs),.list 2 (on.map fx),.list 3 (ai.map eM),.list 2 (ob.map fy),int cD]
def bk.ds:List bk->List D
 |[]=>[]
 |x::l=>x.d::bk.ds l
end
def bk.cells(p:bk):List D:=[int p.k,.str p.n,.list 16 (bk.ds p.l),int p.c.k,.str p.c.n,int p.c.gy,int p.c.vi,.str p.c.eL,.str p.c.op,.list 7 (aB.ds p.c.l),fu p.ns,.list 7 (aB.ds p.xs),.list 2 (p.on.map fx),.list 3 (p.ai.map eM),.list 2 (p.ob.map fy),int p.cD]
theorem bk.mU(x:bk):x.d=.agg x.cells:=ayL
theorem bk.C3:∀(l m:List bk),bk.ds (l++m)=bk.ds l++bk.ds m
 |[],m=>rfl
 |x::l,m=>by show x.d::bk.ds (l++m)=x.d::(bk.ds l++bk.ds m);rw[bk.C3 l m]
theorem bk.uo:∀(l:List bk),(bk.ds l).length=l.length
 |[]=>rfl
 |x::l=>by show(bk.ds l).length+1=l.length+1;rw[bk.uo l]
def kg(l:List (aw×aw)):Nat:=fS (λx=>x.1.length+x.2.length) l
def kh(l:List (aw×aw×aw)):Nat:=fS (λx=>x.1.length+x.2.1.length+x.2.2.length) l
def ki(l:List (aw×Bool)):Nat:=fS (λx=>x.1.length) l
mutual
def bk.w:bk->Nat
 |.mk _ n l c ns xs on ai ob _=>500+n.length+bk.ws l+c.w+fw ns+aB.ws xs+kg on+kh ai+ki ob
def bk.ws:List bk->Nat
 |[]=>0
 |x::l=>x.w+bk.ws l
end
mutual
def bk.good:bk->Prop
 |.mk _ _ l c _ xs _ _ _ cD=>dG cD/\c.good/\aB.mV xs/\bk.mV l
def bk.mV:List bk->Prop
 |[]=>True
 |x::l=>x.good/\bk.mV l
end
def sJ:bk:=.mk 0 [] [] la [] [] [] [] [] 0
theorem C4:sJ.good:=⟨dG.zero,sI,trivial,trivial⟩
structure gL(p q:aG)(x:aB):Prop where
 s:Step p q
 g:x.good
 w:q.e=0->x.w+20000*p.i<=20000*q.i
def hP(f d:Nat):Prop:=∀p:aG,p.Ok->p.dS=d->∃(q:aG) (x:aB),gL p q x/\aM f [.ptr 0 0] [p.ob] (.d (.agg x.cells)) [q.ob]
theorem C5{f:Nat}{args:List ah}{s:aU}{p:aG}{cM:aX}(h:a7 a1 f cM)(ax:lS (fR a1 gl) gl cM args s λr s'=>∃(q:aG) (x:aB),gL p q x/\r=.d (.agg x.cells)/\s'=[q.ob]):
  ∃(q:aG) (x:aB),gL p q x/\aM f args s (.d (.agg x.cells)) [q.ob]:=by
 grind[Gs]
section
attribute [local irreducible] Int.decLt Int.decLe Int.instDecidableEq IntKind.wrap instDecidableEqList
theorem Mf(op:aw)(x:aB):aM 337 [.d (.str op),.d (.agg x.cells)] [] (.d (.agg (aB.mk 3 [] 0 0 [] op [x]).cells)) []:=by
 refine aEh.fh ?_;refine bj ?_;refine⟨aAf (b:=.d (.agg [int 3,.str [],int 0,int 0,.str [],.str op,.list 7 [.agg x.cells]])) axV ?_,axV⟩;rw[<-aB.mU];rfl
theorem abD(op:aw)(x y:aB):aM 321 [.d (.str op),.d (.agg x.cells),.d (.agg y.cells)] [] (.d (.agg (aB.mk 4 [] 0 0 [] op [x,y]).cells)) []:=by
 refine aEb.fh ?_;refine bj ?_;refine⟨aAf (b:=.d (.agg [int 4,.str [],int 0,int 0,.str [],.str op,.list 7 [.agg x.cells,.agg y.cells]])) axV ?_,axV⟩;rw[<-aB.mU,<-aB.mU];rfl
theorem anL(n:aw):aM 350 [.d (.str n)] [] (.d (.agg (aB.mk 1 n 0 0 [] [] []).cells)) []:=by
 refine aFS.fh ?_;refine bj ?_;exact⟨axV,axV⟩
theorem Gt(k i:Int)(t:aw):aM 348 [.d (.agg [int k,int i,.str t])] [] (.d (.agg (aB.mk 2 [] k i t [] []).cells)) []:=by
 refine aEN.fh ?_;refine bj ?_;exact⟨axV,axV⟩
def o4(p:aG):List aw->Nat->Int×aG
 |[],_=>(-1,p)
 |w::l,k=>cond (p.is w) ((k:Int),p.next) (o4 p l (k+1))
theorem Mg(p:aG):∀(l:List aw) (k:Nat),o4 p l k=(-1,p)\/∃j,k<=j/\j<k+l.length/\o4 p l k=((j:Int),p.next)/\p.dU.k≠0
 |[],k=>.inl rfl
 |w::l,k=>by
  unfold o4;cases hi:p.is w with
  |true=>exact .inr ⟨k,aAd _,axX,rfl,aG.hO hi⟩
  |false=>
   rcases Mg p l (k+1)with h|⟨j,h1,sh,av,aW⟩
   .exact .inl h
   .exact .inr ⟨j,axW,by simp only[aAu];omega,av,aW⟩
def anM(p:aG)(ws:List aw)(k:Nat):ag:=cx [(0,.d (fu ws)),(1,.func 118 [.ptr 0 0] []),(7,.d (int (ws.map D.str).length)),(8,.d (int k))] [p.ob]
theorem abE(p:aG)(ws:List aw)(hp:p.Ok)(hw:ws.length<=1000):aM 220 [.d (fu ws),.func 118 [.ptr 0 0] []] [p.ob] (.d (int (o4 p ws 0).1)) [(o4 p ws 0).2.ob]:=by
 refine aDH.fh ?_;refine bj ?_;refine⟨λn st=>∃k,k<=ws.length/\n=ws.length-k/\o4 p (ws.drop k) k=o4 p ws 0/\st=anM p ws k,ws.length,⟨0,aAa _,rfl,rfl,axV⟩,?_⟩;rintro _ _ ⟨k,aq,rfl,bd,rfl⟩;refine bj ?_;first|refine eK (λh1=> ?_) (λh1=> ?_)|((refine eE (λh1=> ?_) (λh1=> ?_))<;>(try simp only[aAg]at h1))
 .have sh:k<ws.length:=by simp_all
  have aY:=aBg sh;have aC:(ws.map D.str).getD (Int.toNat (k:Int)) .dP=.str ws[k]:=getD_map _;conv=>whnf
  repeat ((first|refine e7 ?_|refine e6 ?_);conv=>whnf)
  refine⟨by simp<;>omega,?_⟩;simp only[aC];cases hi:p.is ws[k]with
  |true=>
   refine bj ?_;refine cm (mS hp hi) ?_;have ax:o4 p ws 0=((k:Int),p.next):=by grind[o4]
   rw[ax];exact⟨axV,axV⟩
  |false=>
   refine bj ?_;refine cm (mT hp hi) ?_;refine⟨ws.length-(k+1),axW,k+1,axW,rfl,by grind[o4],?_⟩;exact aAf (b:=cx [(0,.d (fu ws)),(1,.func 118 [.ptr 0 0] []),(7,.d (int (ws.map D.str).length)),(8,.d (int (IntKind.i64.wrap ((k:Int)+((1:Nat):Int)))))] [p.ob]) axV (congrArg (λk=>cx [(0,.d (fu ws)),(1,.func 118 [.ptr 0 0] []),(7,.d (int (ws.map D.str).length)),(8,.d (int k))] [p.ob]) (iL k 1 axW))
 .have sh:k=ws.length:=by grind
  have ax:o4 p ws 0=(-1,p):=by rw[<-bd,sh,List.drop_length];rfl
  rw[ax];refine bj ?_;exact⟨axV,axV⟩
end
def aG.dep(p:aG)(d:Nat):aG:=⟨p.l,p.T,p.i,p.n,d,p.e,p.a⟩
theorem aG.sK{p:aG}{d:Nat}(h:p.Ok)(aY:d<=32):(p.dep d).Ok:=⟨h.i,h.l,aY,h.t,h.T⟩
theorem gL.fail{p:aG}(h:p.Ok){e:Int}(he:e≠0):gL p (p.fail e) la:=⟨aG.sH h,sI,λk=>absurd k (aG.om he)⟩
section
attribute [local irreducible] Int.decLt Int.decLe Int.instDecidableEq IntKind.wrap instDecidableEqList
theorem abF{p:aG}(h:p.dS<32):IntKind.i64.wrap ((p.dS:Int)+((1:Nat):Int))=((p.dS+1:Nat):Int):=iL p.dS 1 axW
theorem abG{d:Nat}(h:d<32):IntKind.i64.wrap (((d+1:Nat):Int)-((1:Nat):Int))=(d:Int):=by
 rw[show((d+1:Nat):Int)-((1:Nat):Int)=((d:Nat):Int)by omega];have:=iL d 0 axW;simp_all
theorem C6{f d:Nat}(bh:d<32->hP f (d+1))(p:aG)(hp:p.Ok)(aY:p.dS=d):
  ∃(q:aG) (x:aB),gL p q x/\aM 257 [.ptr 0 0,.func f [.ptr 0 0] []] [p.ob] (.d (.agg x.cells)) [q.ob]:=by
 by_cases Mh:p.dS=32
 .refine⟨p.fail 52,la,gL.fail hp axW,?_⟩;have aj:=p7 p 52 hp;have h1:decide ((p.dS:Int)=32)=true:=aAk axW;refine aDw.fh ?_;refine bj ?_;refine cm (aj) ?_;exact⟨axV,axV⟩
 .have aI:=hp.d;have aA:d<32:=axW;have h1:decide ((p.dS:Int)=32)=false:=aAK axW;obtain⟨q,x,ak,hv⟩:=bh aA (p.dep (d+1)) (aG.sK hp axW) rfl;have xZ:q.dS=d+1:=ak.s.d;refine⟨q.dep d,x,⟨⟨aG.sK ak.s.ok axW,ak.s.l,ak.s.n,aY.symm,ak.s.i,ak.s.e⟩,ak.g,ak.w⟩,?_⟩;have BB:aM f [.ptr 0 0] [.box [.d p.T,.d (int p.i),.d (int p.n),.d (int (IntKind.i64.wrap ((p.dS:Int)+((1:Nat):Int)))),.d (int p.e),.d (int p.a)]] (.d (.agg x.cells)) [q.ob]:=by
   rw[abF axW,aY];exact hv
  refine aDw.fh ?_;refine bj ?_;refine cm (BB) ?_;refine⟨axV,?_⟩;refine aAf (b:=[.box [.d q.T,.d (int q.i),.d (int q.n),.d (int (IntKind.i64.wrap ((q.dS:Int)-((1:Nat):Int)))),.d (int q.e),.d (int q.a)]]) axV ?_;rw[xZ,abG aA];rfl
theorem anN{f d:Nat}(bh:d<32->∀p:aG,p.Ok->p.dS=d+1->∃(q:aG) (x:aB),gL p q x/\aM f [.ptr 0 0] [.box [.ptr 1 0],p.ob] (.d (.agg x.cells)) [.box [.ptr 1 0],q.ob])(p:aG)(hp:p.Ok)(aY:p.dS=d):
  ∃(q:aG) (x:aB),gL p q x/\aM 257 [.ptr 0 0,.func f [] [.ptr 1 0]] [p.ob,.box [.ptr 0 0]] (.d (.agg x.cells)) [q.ob,.box [.ptr 0 0]]:=by
 by_cases Mh:p.dS=32
 .refine⟨p.fail 52,la,gL.fail hp axW,?_⟩;have aj:=p7 p 52 hp;have h1:decide ((p.dS:Int)=32)=true:=aAk axW;refine aDw.fh ?_;refine bj ?_;refine cm (aj) ?_;exact⟨axV,axV⟩
 .have aI:=hp.d;have aA:d<32:=axW;have h1:decide ((p.dS:Int)=32)=false:=aAK axW;obtain⟨q,x,ak,hv⟩:=bh aA (p.dep (d+1)) (aG.sK hp axW) rfl;have xZ:q.dS=d+1:=ak.s.d;refine⟨q.dep d,x,⟨⟨aG.sK ak.s.ok axW,ak.s.l,ak.s.n,aY.symm,ak.s.i,ak.s.e⟩,ak.g,ak.w⟩,?_⟩;have BB:aM f [.ptr 0 0] [.box [.ptr 1 0],.box [.d p.T,.d (int p.i),.d (int p.n),.d (int (IntKind.i64.wrap ((p.dS:Int)+((1:Nat):Int)))),.d (int p.e),.d (int p.a)]] (.d (.agg x.cells)) [.box [.ptr 1 0],q.ob]:=by
   rw[abF axW,aY];exact hv
  refine aDw.fh ?_;refine bj ?_;refine cm (BB) ?_;refine⟨axV,?_⟩;refine aAf (b:=[.box [.d q.T,.d (int q.i),.d (int q.n),.d (int (IntKind.i64.wrap ((q.dS:Int)-((1:Nat):Int)))),.d (int q.e),.d (int q.a)],.box [.ptr 0 0]]) axV ?_;rw[xZ,abG aA];rfl
def anO(f:Nat)(ops:List aw)(q:aG)(x:aB):ag:=pV [(0,.ptr 0 0),(1,.func f [.ptr 0 0] []),(2,.d (fu ops)),(6,.dT 6 0),(7,.dT 7 0)]
 [(6,[.d (int 0),.d (.str []),.d (int 0),.d (int 0),.d (.str []),.d (.str []),.own 7 []]),(7,x.cells.map .d)] [q.ob]
theorem gL.bin{p q r s:aG}{x y:aB}{op:aw}(h:gL p q x)(ay:Step q r)(hi:r.i=q.i+1)(k:gL r s y)(bd:op.length<=8):gL p s (.mk 4 [] 0 0 [] op [x,y]):=by
 refine⟨(h.s.trans ay).trans k.s,⟨dG.zero,h.g,k.g,trivial⟩,λhe=> ?_⟩;have h1:=k.w he;have sh:=h.w (ay.b2 (k.s.b2 he));show 200+0+0+op.length+(x.w+(y.w+0))+_<=_;omega
theorem Gu{f d:Nat}(bh:hP f d){ops:List aw}(aI:ops.length<=8)(bd:∀o∈ops,o.length<=8)(p:aG)(hp:p.Ok)(aY:p.dS=d):
  ∃(q:aG) (x:aB),gL p q x/\aM 297 [.ptr 0 0,.func f [.ptr 0 0] [],.d (fu ops)] [p.ob] (.d (.agg x.cells)) [q.ob]:=by
 refine C5 aah ?_;refine bj ?_;refine aAz (bh p hp aY) (λq h=>aAz h (λx h=> ?_));refine cm (h.2) ?_;refine⟨λn st=>∃(q:aG) (x:aB),gL p q x/\n=q.l.length-q.i/\st=anO f ops q x,q.l.length-q.i,⟨q,x,h.1,rfl,axV⟩,?_⟩;rintro _ _ ⟨q,x,ak,rfl,rfl⟩;have aS:=ak.s.ok;refine bj ?_;refine cm (abE q ops aS axW) ?_;refine aBt (Mg q ops 0) (λaz=> ?_) (λaz=>aAz az (λj az=> ?_))
 .have hm:decide ((-1:Int)<0)=true:=aAk axW;simp only[az];refine bj ?_;exact⟨q,x,ak,axV,axV⟩
 .have aK:j<ops.length:=by omega
  have ay:=aG.h9 aS az.2.2.2;have dw:=aG.q8 az.2.2.2;have aC:(ops.map D.str).getD (Int.toNat (j:Int)) .dP=.str ops[j]:=getD_map _;have anP:decide ((j:Int)<0)=false:=aAK axW;simp only[az.2.2.1];conv=>whnf
  repeat ((first|refine e7 ?_|refine e6 ?_);conv=>whnf)
  refine⟨axY,?_⟩;simp only[aC];refine bj ?_;refine aAz (bh q.next ay.ok (by rw[ay.d,ak.s.d];omega)) (λr h=>aAz h (λy h=> ?_));refine cm (h.2) ?_;refine cm (abD ops[j] x y) ?_;refine⟨r.l.length-r.i,?_,r,_,ak.bin ay rfl h.1 (bd _ (aAl aK)),rfl,axV⟩;have h1:=h.1.s.i;rw[h.1.s.l,ay.l];have:q.next.i=q.i+1:=rfl;omega
end
theorem wrap_i64(n:Int):dG (IntKind.i64.wrap n):=by
 unfold dG IntKind.wrap;simp only[IntKind.bits,IntKind.signed,aB',aAi];have h1:(0:Int)<=n%2^64:=Int.emod_nonneg _ ax0;have sh:n%2^64<2^64:=Int.emod_lt_of_pos _ ax0;split<;>(grind)
theorem gL.un{p q r:aG}{x:aB}{op:aw}(ay:Step p q)(hi:q.i=p.i+1)(k:gL q r x)(bd:op.length<=8):gL p r (.mk 3 [] 0 0 [] op [x]):=by
 refine⟨ay.trans k.s,⟨dG.zero,k.g,trivial⟩,λhe=> ?_⟩;have h1:=k.w he;show 200+0+0+op.length+(x.w+0)+_<=_;omega
theorem gL.const{p q:aG}{k i:Int}{t:aw}(ay:Step p q)(hi:q.i=p.i+1)(h:dG i)(aE:t.length<=16384):gL p q (.mk 2 [] k i t [] []):=by
 refine⟨ay,⟨h,trivial⟩,λhe=> ?_⟩;show 200+0+t.length+0+0+_<=_;omega
theorem gL.after{p q r:aG}{x:aB}(h:Step p q)(k:gL q r x):gL p r x:=by
 refine⟨h.trans k.s,k.g,λhe=> ?_⟩;have h1:=k.w he;have sh:=h.i;omega
theorem gL.then{p q r:aG}{x:aB}(k:gL p q x)(h:Step q r):gL p r x:=by
 refine⟨k.s.trans h,k.g,λhe=> ?_⟩;have h1:=k.w (h.b2 he);have sh:=h.i;omega
theorem Step.awj{p:aG}(hp:p.Ok)(h:p.dU.k≠0)(sh:p.next.dU.k≠0):Step p p.next.next:=(aG.h9 hp h).trans (aG.h9 (aG.h9 hp h).ok sh)
section
attribute [local irreducible] Int.decLt Int.decLe Int.instDecidableEq IntKind.wrap instDecidableEqList
theorem abH{d:Nat}(h:hP 322 d):hP 298 d:=by
 intro p hp aY;obtain⟨q,x,h1,sh⟩:=Gu h (ops:=[[97,110,100]]) axX axX p hp aY;refine⟨q,x,h1,?_⟩;refine U1.fh ?_;refine bj ?_;refine cm (sh) ?_;exact⟨axV,axV⟩
theorem abI{d:Nat}(h:hP 298 d):hP 258 d:=by
 intro p hp aY;obtain⟨q,x,h1,sh⟩:=Gu h (ops:=[[111,114]]) axX axX p hp aY;refine⟨q,x,h1,?_⟩;refine UO.fh ?_;refine bj ?_;refine cm (sh) ?_;exact⟨axV,axV⟩
theorem abJ{d:Nat}(h:hP 345 d):hP 344 d:=by
 intro p hp aY;obtain⟨q,x,h1,sh⟩:=Gu h (ops:=[[43],[45]]) axX axX p hp aY;refine⟨q,x,h1,?_⟩;refine aFP.fh ?_;refine bj ?_;refine cm (sh) ?_;exact⟨axV,axV⟩
theorem abK{d:Nat}(h:hP 346 d):hP 345 d:=by
 intro p hp aY;obtain⟨q,x,h1,sh⟩:=Gu h (ops:=[[42],[47],[37]]) axX axX p hp aY;refine⟨q,x,h1,?_⟩;refine aEj.fh ?_;refine bj ?_;refine cm (sh) ?_;exact⟨axV,axV⟩
theorem abL{d:Nat}(h:hP 338 d)(Gv:d<32->hP 322 (d+1)):hP 322 d:=by
 intro p hp aY;refine C5 aEd ?_;refine bj ?_;cases hi:p.is [110,111,116]with
 |true=>
  have ay:=aG.h9 hp (aG.hO hi);refine cm (mS hp hi) ?_;refine aAz (C6 Gv p.next ay.ok ayU) (λq h=>aAz h (λx h=> ?_));refine cm (h.2) ?_;refine cm (Mf [110,111,116] x) ?_;exact⟨q,_,.un ay rfl h.1 (show([110,111,116]:aw).length<=8 by simp),axV,axV⟩
 |false=>
  refine cm (mT hp hi) ?_;refine aAz (h p hp aY) (λq h=>aAz h (λx h=> ?_));refine cm (h.2) ?_;exact⟨q,x,h.1,axV,axV⟩
theorem abM{d:Nat}(hs:hP 344 d):hP 338 d:=by
 intro p hp aY;refine C5 aFn ?_;refine bj ?_;refine aAz (hs p hp aY) (λq h=>aAz h (λx h=> ?_));refine cm (h.2) ?_;have aS:=h.1.s.ok;have aj:=abE q [[61],[33,61],[60],[60,61],[62],[62,61]] aS axX;have gU:=Mg q [[61],[33,61],[60],[60,61],[62],[62,61]] 0;generalize o4 q [[61],[33,61],[60],[60,61],[62],[62,61]] 0=y at aj gU;refine aBt gU (λaz=> ?_) (λaz=>aAz az (λj az=> ?_))
 .have hm:decide ((0:Int)<= -1)=false:=aAK axW;rw[az]at aj;refine cm (aj) ?_;exact⟨q,x,h.1,axV,axV⟩
 .have aK:j<[[61],[33,61],[60],[60,61],[62],([62,61]:aw)].length:=by omega
  have ay:=aG.h9 aS az.2.2.2;have aC:[D.str [61],.str [33,61],.str [60],.str [60,61],.str [62],.str [62,61]].getD (Int.toNat (j:Int)) .dP=.str [[61],[33,61],[60],[60,61],[62],([62,61]:aw)][j]:=getD_map (l:=[[61],[33,61],[60],[60,61],[62],([62,61]:aw)]) (f:=D.str) aK;have bz:[[61],[33,61],[60],[60,61],[62],([62,61]:aw)][j].length<=8:=by
   have:=aAl aK;simp only[aAs,aCl,aBo]at this;grind
  revert bz aC
  generalize [[61],[33,61],[60],[60,61],[62],([62,61]:aw)][j]=op;intro aC bz;have anP:decide ((0:Int)<=(j:Int))=true:=aAk axW;have aI:j<6:=aK;rw[az.2.2.1]at aj;refine KJ (aj) axV axV ?_;conv=>whnf
  repeat ((first|refine e7 ?_|refine e6 ?_);conv=>whnf)
  refine⟨by simp<;>omega,?_⟩;simp only[aC];refine bj ?_;refine aAz (hs q.next ay.ok (by rw[ay.d,h.1.s.d];omega)) (λr sh=>aAz sh (λz sh=> ?_));refine cm (sh.2) ?_;refine cm (abD op x z) ?_;exact⟨r,_,h.1.bin ay rfl sh.1 bz,axV,axV⟩
end
theorem anQ{a:Int}{n b:Nat}{c1 c2:Bool}(h:n+1<=b)(h1:c1=true)(sh:c2=true):(true&&true&&decide (a=a)&&Nat.ble (n+1) b&&c1&&c2)=true:=axY
theorem awk{p:aG}{k:Int}(h:p.dU.k=k)(aq:k≠0):p.dU.k≠0:=axW
section
attribute [local irreducible] Int.decLt Int.decLe Int.instDecidableEq IntKind.wrap instDecidableEqList
theorem Mi{p:aG}(hp:p.Ok):[b9.box [.d p.T,.d (int (IntKind.i64.wrap ((p.i:Int)+((1:Nat):Int)))),.d (int p.n),.d (int p.dS),.d (int p.e),.d (int p.a)]]=[p.next.ob]:=by
 have h1:=hp.i;have sh:=hp.l;rw[iL p.i 1 axW];rfl
theorem abN{d:Nat}(h:hP 347 d)(Gv:d<32->hP 346 (d+1)):hP 346 d:=by
 intro p hp aY;refine C5 aEl ?_;refine bj ?_;cases hi:p.is [45]with
 |false=>
  refine cm (mT hp hi) ?_;refine aAz (h p hp aY) (λq h=>aAz h (λx h=> ?_));refine cm (h.2) ?_;exact⟨q,x,h.1,axV,axV⟩
 |true=>
  have ay:=aG.h9 hp (aG.hO hi);have au:=Mi ay.ok;have aj:=Ae p.next ay.ok;have aC:=aG.Mc ay.ok;have hg:p.next.dU.k≠0->Step p.next p.next.next:=aG.h9 ay.ok;refine cm (mS hp hi) ?_;revert aj aC hg;generalize p.next.dU=t;intro aj aC hg;refine cm (aj) ?_;cases h1:decide (t.k=2)with
  |true=>
   cases sh:decide (0<t.n)with
   |true=>
    have aq:=of_decide_eq_true h1;have kA:=hg axW;refine bj ?_;refine cm (abn (IntKind.i64.wrap (0-t.n))) ?_;refine cm (Gt 1 (IntKind.i64.wrap (0-t.n)) []) ?_;refine⟨p.next.next,.mk 2 [] 1 (IntKind.i64.wrap (0-t.n)) [] [] [],.after ay (.const kA rfl (wrap_i64 _) (show([]:aw).length<=16384 from aAa _)),axV,?_⟩;exact aAf axV au
   |false=>
    refine bj ?_;refine aAz (C6 Gv p.next ay.ok ayU) (λq h=>aAz h (λx h=> ?_));refine cm (h.2) ?_;refine cm (Mf [45] x) ?_;exact⟨q,_,.un ay rfl h.1 (show([45]:aw).length<=8 by simp),axV,axV⟩
  |false=>
   refine bj ?_;refine aAz (C6 Gv p.next ay.ok ayU) (λq h=>aAz h (λx h=> ?_));refine cm (h.2) ?_;refine cm (Mf [45] x) ?_;exact⟨q,_,.un ay rfl h.1 (show([45]:aw).length<=8 by simp),axV,axV⟩
theorem anR{d:Nat}(h:hP 258 (d+1))(p:aG)(hp:p.Ok)(aY:p.dS=d+1):∃(q:aG) (x:aB),gL p q x/\aM 349 [.ptr 0 0] [.box [.ptr 1 0],p.ob] (.d (.agg x.cells)) [.box [.ptr 1 0],q.ob]:=by
 have hw:=aG.Af (s:=[40]) hp;obtain⟨q,x,h1,sh⟩:=h (p.want [40]) hw.ok ayU;have mK:=aG.Af (s:=[41]) h1.s.ok;have aj:=jT p [40] hp;have aF:=jT q [41] h1.s.ok;refine⟨q.want [41],x,(h1.after hw).then mK,?_⟩;refine aFp.fh ?_;refine bj ?_;refine cm (aj) ?_;refine cm (sh) ?_;refine cm (aF) ?_;exact⟨axV,axV⟩
def Mj(q:aG)(l:List aB):aU:=[q.ob,.box [.own 7 (aB.ds l)],.box [.ptr 0 0]]
theorem abO{d:Nat}(h:d<32->hP 258 (d+1))(p:aG)(l:List aB)(hp:p.Ok)(aY:p.dS=d)(ak:l.length<=2147483648):∃(q:aG) (x:aB),gL p q x/\aM 351 [.ptr 0 0,.ptr 1 0] [.box [.own 7 (aB.ds l)],.box [.ptr 2 0],p.ob] (.tuple []) [.box [.own 7 (aB.ds (l++[x]))],.box [.ptr 2 0],q.ob]:=by
 obtain⟨q,x,h1,sh⟩:=C6 h p hp aY;refine⟨q,x,h1,?_⟩;have hlen:=aB.uo l;refine aEP.fh ?_;conv=>whnf
 repeat ((first|refine e7 ?_|refine e6 ?_);conv=>whnf)
 refine KJ (sh) axV axV ?_;conv=>whnf
 repeat ((first|refine e7 ?_|refine e6 ?_);conv=>whnf)
 refine⟨anQ axW axV axV,?_⟩;refine bj ?_;refine⟨axX,?_⟩;rw[aB.C3,show aB.ds [x]=[.agg x.cells]from congrArg (λy=>[y]) (aB.mU x)];kernel_rfl
theorem anS{d:Nat}(h:d<32->hP 258 (d+1))(p:aG)(hp:p.Ok)(aY:p.dS=d):∃r s',(∃(q:aG) (l:List aB),Step p q/\aB.mV l/\(q.e=0->aB.ws l+20000*p.i<=20000*q.i)/\r=.tuple []/\s'=Mj q l)/\aM 120 [.ptr 0 0,.func 351 [] [.ptr 1 0,.ptr 2 0]] (Mj p []) r s':=by
 have aI:=hp.l;refine Gs _ alW ?_;refine bj ?_;refine aAz (abO h p [] hp aY axX) (λq hh=>aAz hh (λx hh=> ?_));have eh:=hh.1;refine cm (hh.2) ?_;refine⟨λn st=>∃(q:aG) (l:List aB),Step p q/\l.length<=q.i+1/\aB.mV l/\(q.e=0->aB.ws l+20000*p.i<=20000*q.i)/\n=q.l.length-q.i/\st=cx [(0,.ptr 0 0),(1,.func 351 [] [.ptr 1 0,.ptr 2 0])] (Mj q l),q.l.length-q.i,⟨q,[x],eh.s,axX,⟨eh.g,trivial⟩,λhe=>by have:=eh.w he;show x.w+0+_<=_;omega,rfl,axV⟩,?_⟩;rintro _ _ ⟨q,l,hs,ak,aC,hw,rfl,rfl⟩;refine bj ?_;have sh:=hs.ok.i;have av:=hs.ok.l;cases hi:q.is [44]with
 |true=>
  have dw:=aG.q8 (aG.hO hi);have ay:=aG.h9 hs.ok (aG.hO hi);refine cm (mS hs.ok hi) ?_;refine aAz (abO h q.next l ay.ok (by rw[ay.d,hs.d];omega) axW) (λq' hh=>aAz hh (λbA hh=> ?_));have eh:=hh.1;have qE:=eh.s.i;have oK:=eh.s.l;have vu:q.next.i=q.i+1:=rfl;have sb:q.next.l=q.l:=rfl;refine cm (hh.2) ?_;refine⟨q'.l.length-q'.i,axZ,q',l++[bA],(hs.trans ay).trans eh.s,axZ,aB.Me aC ⟨eh.g,trivial⟩,λhe=> ?_,rfl,axV⟩;have w1:=eh.w he;grind[aB.xY,aB.ws]
 |false=>
  refine cm (mT hs.ok hi) ?_;exact⟨q,l,hs,aC,hw,axX,axV⟩
end
def Mk:eG->eG
 |.seq a _=>a
 |c=>c
def Ag:eG->eG
 |.seq _ b=>b
 |c=>c
def Ah(f:Nat->ah):List (Nat×ah)->Nat->ah
 |[]=>f
 |(k,v)::l=>cC (Ah f l) k v
def Ai(f:Nat->Option (List ah)):List (Nat×List ah)->Nat->Option (List ah)
 |[]=>f
 |(k,v)::l=>cC (Ai f l) k (some v)
theorem abP{α:Type}{f:Nat->α}{k:Nat}{v:α}(h:f k=v):cC f k v=f:=by
 grind[cC,Nat.eq_of_beq_eq_true]
theorem abQ{f:Nat->ah}:∀{l:List (Nat×ah)},(∀q∈l,f q.1=q.2)->Ah f l=f
 |[],_=>rfl
 |(k,v)::l,h=>by
  unfold Ah;rw[abQ λq aS=>h q (aBe _ aS)];exact abP (h (k,v) aAX)
theorem abR{f:Nat->Option (List ah)}:∀{l:List (Nat×List ah)},(∀q∈l,f q.1=some q.2)->Ai f l=f
 |[],_=>rfl
 |(k,v)::l,h=>by
  unfold Ai;rw[abR λq aS=>h q (aBe _ aS)];exact abP (h (k,v) aAX)
theorem cutAt{R:ag->Prop}{st:ag}(l:List (Nat×ah))(b:List (Nat×List ah))(s:aU)(h:∀f g,R ⟨Ah f l,Ai g b,s⟩)(h1:∀q∈l,st.aR q.1=q.2)(sh:∀q∈b,st.bH q.1=some q.2)(av:st.s=s):R st:=by
 have:=h st.aR st.bH;rw[abQ h1,abR sh,<-av]at this;omega
def Gw:eG:=Ag (Ag (Ag aDn.code))
def Gx:aX:=⟨.seq (Mk aDn.code) (.seq (Mk (Ag aDn.code)) (.seq (Mk (Ag (Ag aDn.code))) Gw)),aDn.res⟩
theorem anT:a7 a1 347 Gx:=by
 have h:Gx=aDn:=axV;grind[aFQ]
theorem Ml:∀b:Bool,b=true\/b=false
 |true=>.inl rfl
 |false=>.inr rfl
theorem gL.zero{p q:aG}(h:Step p q)(he:q.e≠0):gL p q la:=⟨h,sI,λk=>absurd k he⟩
theorem gL.col{p q:aG}{t:aw}(ay:Step p q)(hi:q.i=p.i+1)(aE:t.length<=16384):gL p q (.mk 1 t 0 0 [] [] []):=by
 refine⟨ay,⟨dG.zero,trivial⟩,λhe=> ?_⟩;show 200+t.length+0+0+0+_<=_;omega
theorem abS{α β CP:Type}{f:α->β}{g h:α->CP}:∀{l:List α},l.map g=l.map h->∀q∈l,g q=h q
 |[],_,q,aS=>axZ
 |x::l,e,q,aS=>by
  simp only[aAP,List.cons.injEq]at e;rcases aAs.1 aS with rfl|aS
  all_goals simp_all
theorem anU{R:ag->Prop}{st:ag}(l:List (Nat×ah))(b:List (Nat×List ah))(s:aU)(h:∀f g,R ⟨Ah f l,Ai g b,s⟩)(h1:l.map (λq=>st.aR q.1)=l.map (λq=>q.2))(sh:b.map (λq=>st.bH q.1)=b.map (λq=>some q.2))(av:st.s=s):R st:=
 cutAt l b s h (abS (f:=λ_=>()) h1) (abS (f:=λ_=>()) sh) av
def abT(p:aG)(n:Nat)(res:List oB)(x:aH.aB)(st:ag):Prop:=match x with
 |.exit _=>False
 |_=>match qw st res with
  |some r=>ea depth r=true/\∃(q:aG) (x:aB),gL p q x/\r=.d (.agg x.cells)/\gc n r st.s=[q.ob]
  |none=>False
section
attribute [local irreducible] Int.decLt Int.decLe Int.instDecidableEq IntKind.wrap instDecidableEqList
theorem anV{d:Nat}(h:d<32->hP 258 (d+1))(p:aG)(hp:p.Ok)(aY:p.dS=d)(t:Tok)(aC:xW t)(ay:Step p p.next)(f:Nat->ah)(g:Nat->Option (List ah)):
  run (fR a1 gl) gl Gw ⟨Ah f [(1,.ptr 1 0),(2,.dT 2 0),(3,.dT 3 0)],Ai g [(2,[.d (int 0),.d (.str []),.d (int 0),.d (int 0),.d (.str []),.d (.str []),.own 7 []]),(3,[.d (int t.k),.d (.str t.t),.d (int t.n),.d (int t.p)])],[p.ob,.box [.ptr 0 0]]⟩ (abT p 1 Gx.res):=by
 have au:=Mi hp;refine bj ?_;refine aBt (Ml (p.next.is [40])) (λaz=> ?_) (λaz=> ?_)
 .have kA:=aG.h9 ay.ok (aG.hO az);have aZ:=mS ay.ok az;rw[<-au]at aZ;refine cm (aZ) ?_;refine aAz (anS h p.next.next kA.ok (by rw[kA.d,ay.d];omega)) (λr hh=>aAz hh (λs' hh=> ?_));refine aAz hh.1 (λq aS=>aAz aS (λl aS=> ?_));have hv:=hh.2;rw[aS.2.2.2.1,aS.2.2.2.2]at hv;refine cm (hv) ?_;have hw:=aG.Af (s:=[41]) aS.1.ok;refine cm (jT q [41] aS.1.ok) ?_;refine⟨q.want [41],.mk 5 t.t 0 0 [] [] l,⟨(ay.trans kA).trans (aS.1.trans hw),⟨dG.zero,aS.2.1⟩,λhe=> ?_⟩,axV,axV⟩;have w1:=aS.2.2.1 (hw.b2 he);have bW:=hw.i;have fb:p.next.next.i=p.i+2:=rfl;have jP:=aC.1;show 200+t.t.length+0+0+aB.ws l+_<=_;omega
 .have aZ:=mT ay.ok az;rw[<-au]at aZ;refine cm (aZ) ?_;refine cm (anL t.t) ?_;refine⟨p.next,.mk 1 t.t 0 0 [] [] [],.col ay rfl aC.1,axV,?_⟩;exact aAf axV au
attribute [local irreducible] Gw
theorem abU{d:Nat}(h:d<32->hP 258 (d+1)):hP 347 d:=by
 intro p hp aY;refine C5 anT ?_;have aj:=Ae p hp;have au:=Mi hp;have aC:=aG.Mc hp;have hg:p.dU.k≠0->Step p p.next:=aG.h9 hp;revert aj aC hg;generalize p.dU=t;intro aj aC hg;refine bj ?_;refine cm (aj) ?_;first|refine eK (λh1=> ?_) (λh1=> ?_)|((refine eE (λh1=> ?_) (λh1=> ?_))<;>(try simp only[aAg]at h1))
 .have aq:t.k=2:=by simp_all
  refine bj ?_;refine cm (abn t.n) ?_;refine cm (Gt 1 t.n []) ?_;refine⟨p.next,.mk 2 [] 1 t.n [] [] [],.const (hg axW) rfl aC.2 (aAa _),axV,?_⟩;exact aAf axV au
 .refine bj ?_;first|refine eK (λsh=> ?_) (λsh=> ?_)|((refine eE (λsh=> ?_) (λsh=> ?_))<;>(try simp only[aAg]at sh))
  .have aq:t.k=3:=by simp_all
   refine bj ?_;refine cm (L3 t.t) ?_;refine cm (Gt 2 0 t.t) ?_;refine⟨p.next,.mk 2 [] 2 0 t.t [] [],.const (hg axW) rfl dG.zero aC.1,axV,?_⟩;exact aAf axV au
  .refine bj ?_;refine aBt (Ml (p.is [110,117,108,108])) (λhi=> ?_) (λhi=> ?_)
   .refine cm (mS hp hi) ?_;refine cm (L4) ?_;refine cm (Gt 0 0 []) ?_;exact⟨p.next,.mk 2 [] 0 0 [] [] [],.const (aG.h9 hp (aG.hO hi)) rfl dG.zero (aAa _),axV,axV⟩
   .refine cm (mT hp hi) ?_;have aF:=C1 p [40] hp;refine aBt (Ml (p.is [40])) (λaK=> ?_) (λaK=> ?_)
    .rw[aK]at aF;refine cm (aF) ?_;refine aAz (anN (λaA=>anR (h aA)) p hp aY) (λq hh=>aAz hh (λx hh=> ?_));refine cm (hh.2) ?_;exact⟨q,x,hh.1,axV,axV⟩
    .rw[aK]at aF;refine cm (aF) ?_;first|refine eK (λav=> ?_) (λav=> ?_)|((refine eE (λav=> ?_) (λav=> ?_))<;>(try simp only[aAg]at av))
     .refine bj ?_;refine cm (p7 p 51 hp) ?_;exact⟨p.fail 51,la,.zero (aG.sH hp) (aG.om axW),axV,axV⟩
     .have aq:t.k=1:=by simp_all
      have ay:=hg axW;refine bj ?_;first|refine eK (λaW=> ?_) (λaW=> ?_)|((refine eE (λaW=> ?_) (λaW=> ?_))<;>(try simp only[aAg]at aW))
      .refine bj ?_;refine cm (p7 p 51 hp) ?_;exact⟨p.fail 51,la,.zero (aG.sH hp) (aG.om axW),axV,axV⟩
      .refine bj ?_;first|refine eK (λbL=> ?_) (λbL=> ?_)|((refine eE (λbL=> ?_) (λbL=> ?_))<;>(try simp only[aAg]at bL))
       .refine bj ?_;refine cm (p7 p 51 hp) ?_;exact⟨p.fail 51,la,.zero (aG.sH hp) (aG.om axW),axV,axV⟩
       .refine bj ?_;first|refine eK (λcW=> ?_) (λcW=> ?_)|((refine eE (λcW=> ?_) (λcW=> ?_))<;>(try simp only[aAg]at cW))
        .refine bj ?_;refine cm (p7 p 51 hp) ?_;exact⟨p.fail 51,la,.zero (aG.sH hp) (aG.om axW),axV,axV⟩
        .refine bj ?_;exact anU (R:=λst=>run (fR a1 gl) gl Gw st (abT p 1 Gx.res)) _ _ _ (anV h p hp aY t aC ay) axV axV axV
end
theorem anW:∀(k d:Nat),32<=d+k->hP 258 d/\hP 322 d/\hP 346 d:=by
 intro k;induction k with
 |zero=>
  grind[abN,abU,abL,abM,abJ,abK,abI,abH]
 |succ k ih=>
  intro d aY;have hi:=ih (d+1) axW;have hm:hP 346 d:=abN (abU λ_=>hi.1) λ_=>hi.2.2;have ay:hP 322 d:=abL (abM (abJ (abK hm))) λ_=>hi.2.1;grind[abI,abH]
theorem anX(d:Nat):hP 258 d:=(anW 32 d axW).1
section
attribute [local irreducible] Int.decLt Int.decLe Int.instDecidableEq IntKind.wrap instDecidableEqList
theorem abV(p:aG)(hp:p.Ok):∃(q:aG) (x:aB),gL p q x/\aM 215 [.ptr 0 0] [p.ob] (.d (.agg x.cells)) [q.ob]:=by
 obtain⟨q,x,h1,sh⟩:=C6 (λ_=>anX 1) (p.dep 0) (aG.sK hp axW) rfl;refine⟨q.dep p.dS,x,⟨⟨aG.sK h1.s.ok hp.d,h1.s.l,h1.s.n,rfl,h1.s.i,h1.s.e⟩,h1.g,h1.w⟩,?_⟩;refine CT.fh ?_;refine bj ?_;refine cm (sh) ?_;exact⟨axV,axV⟩
end
structure gM(p q:aG)(n:Nat):Prop where
 s:Step p q
 a:q.e=0->p.i+n<=q.i
theorem gM.trans{p q r:aG}{n m:Nat}(h:gM p q n)(k:gM q r m):gM p r (n+m):=⟨h.s.trans k.s,λhe=>by have:=h.a (k.s.b2 he);have:=k.a he;omega⟩
theorem gM.ok{p q:aG}{n:Nat}(h:gM p q n):q.Ok:=h.s.ok
theorem gM.of{p q:aG}(h:Step p q):gM p q 0:=⟨h,λ_=>by have:=h.i;omega⟩
theorem mh{p:aG}{s:aw}(h:p.Ok):gM p (p.want s) 1:=⟨aG.Af h,λhe=>by have:=(aG.anH he).1;omega⟩
theorem nJ{p:aG}{k:Int}(h:p.Ok)(aq:k≠0):gM p (p.hN k) 1:=⟨aG.abx h aq,λhe=>by have:=(aG.abz he).1;omega⟩
theorem anY{p:aG}{s:aw}(h:p.Ok):gM p (p.maybe s) 0:=.of (aG.anG h)
theorem aG.o5{p:aG}{k:Int}(h:p.Ok):(p.iM k).t.length<=16384:=(aG.C2 h).1
theorem abW{p:aG}{s:aw}(h:p.Ok)(hi:p.is s=true):gM p p.next 1:=⟨aG.h9 h (aG.hO hi),λ_=>by show p.i+1<=p.i+1;omega⟩
theorem C7(p:aG)(ws:List aw)(hp:p.Ok)(hw:ws.length<=1000):∃(q:aG) (k:Nat),(gM p q 1/\k<=ws.length)/\aM 89 [.ptr 0 0,.d (fu ws)] [p.ob] (.d (int k)) [q.ob]:=by
 have h:=Ma hp (l:=ws) (k:=0);exact⟨_,_,⟨⟨h.1,λhe=>axW⟩,axW⟩,abA p ws hp hw⟩
structure mj where
 k:Int
 n:aw
 gy:Int
 vi:Int
 eL:aw
 op:aw
 l:List D
structure ef where
 k:Int
 n:aw
 a:List D
 cH:Int
 k3:aw
 mW:Int
 mX:Int
 mY:aw
 mZ:aw
 dH:List D
 ns:List D
 xs:List D
 on:List D
 ai:List D
 ob:List D
 cD:Int
def mj.cs(c:mj):List D:=[int c.k,.str c.n,int c.gy,int c.vi,.str c.eL,.str c.op,.list 7 c.l]
def ef.cs(c:ef):List D:=[int c.k,.str c.n,.list 16 c.a,int c.cH,.str c.k3,int c.mW,int c.mX,.str c.mY,.str c.mZ,.list 7 c.dH,.list 1 c.ns,.list 7 c.xs,.list 2 c.on,.list 3 c.ai,.list 2 c.ob,int c.cD]
def ef.v(c:ef):List ah:=[.d (int c.k),.d (.str c.n),.d (.list 16 c.a),.d (int c.cH),.d (.str c.k3),.d (int c.mW),.d (int c.mX),.d (.str c.mY),.d (.str c.mZ),.d (.list 7 c.dH),.d (.list 1 c.ns),.d (.list 7 c.xs),.d (.list 2 c.on),.d (.list 3 c.ai),.d (.list 2 c.ob),.d (int c.cD)]
def aB.bQ(x:aB):mj:=⟨x.k,x.n,x.gy,x.vi,x.eL,x.op,aB.ds x.l⟩
def bk.bB(x:bk):ef:=⟨x.k,x.n,bk.ds x.l,x.c.k,x.c.n,x.c.gy,x.c.vi,x.c.eL,x.c.op,aB.ds x.c.l,x.ns.map .str,aB.ds x.xs,x.on.map fx,x.ai.map eM,x.ob.map fy,x.cD⟩
theorem aB.abX(x:aB):x.cells=x.bQ.cs:=rfl
theorem bk.Mm(x:bk):x.cells=x.bB.cs:=rfl
def x0(k:Int)(a ns:ah)(xs on ai ob:List D)(cD:Int):List ah:=
 [.d (int k),.d (.str []),a,.d (int 0),.d (.str []),.d (int 0),.d (int 0),.d (.str []),.d (.str []),.own 7 [],ns,.own 7 xs,.own 2 on,.own 3 ai,.own 2 ob,.d (int cD)]
def p8(p:aG)(k:Int)(n c:Nat)(ar:List ah)(ns:ah)(on ai ob:List D)(cD:Int):aU:=[.box [.ptr 2 0],.box [.ptr 3 0],p.ob,.box (x0 k (.aN 4 0 n c 16) ns [] on ai ob cD),.box ar]
def kj(p:aG)(k:Int)(n c:Nat)(ar:List ah)(ns:ah)(on ai ob:List D)(cD:Int):aU:=[p.ob,.box [.ptr 0 0],.box [.ptr 3 0],.box (x0 k (.aN 4 0 n c 16) ns [] on ai ob cD),.box ar]
theorem awl{a b c d n m e:Nat}(h1:Nat.beq a b=true)(sh:Nat.beq c d=true)(h:n+m<=e):(Nat.beq a b&&Nat.beq c d&&Nat.ble (n+m) e)=true:=axY
theorem awm{a b:Nat}{i n:Int}(h1:Nat.beq a b=true)(sh:0<=i)(av:i<n):(Nat.beq a b&&decide (0<=i)&&decide (i<n))=true:=axY
theorem anZ(p:aG)(k:Int)(n c:Nat)(x y:ef)(on:List D)(hp:p.Ok)(ak:on.length<=2147483648):∃(q:aG) (z:aw×aw),(gM p q 3/\z.1.length<=16384/\z.2.length<=16384)/\
  aM 259 [.ptr 0 0,.ptr 1 0] (p8 p k n c (x.v++y.v) (.own 1 []) on [] [] 0) (.tuple []) (p8 q k n c (x.v++y.v) (.own 1 []) (on++[fx z]) [] [] 0):=by
 have bw:=nJ (k:=1) hp axW;have g1:=aG.o5 (k:=1) hp;have aj:=oj p hp;generalize p.hN 1=q1 at aj bw;generalize (p.iM 1).t=t1 at aj g1;have a2:=mh (s:=[61]) bw.ok;have aF:=jT q1 [61] bw.ok;generalize q1.want [61]=bF at aF a2;have a3:=nJ (k:=1) a2.ok axW;have g3:=aG.o5 (k:=1) a2.ok;have aZ:=oj bF a2.ok;generalize bF.hN 1=cE at aZ a3;generalize (bF.iM 1).t=t3 at aZ g3;refine⟨cE,(t1,t3),⟨(bw.trans a2).trans a3,g1,g3⟩,?_⟩;refine Yj.cn λad ae Q aV=> ?_;refine af ?_
 (subst ae;exact bZ aV axX axV)
theorem an0(p:aG)(k:Int)(n c:Nat)(x:ef)(ob:List D)(cD:Int)(hp:p.Ok)(ak:ob.length<=2147483648):∃(q:aG) (z:aw×Bool),(gM p q 1/\z.1.length<=16384)/\
  aM 261 [.ptr 0 0,.ptr 1 0] (p8 p k n c x.v (.own 1 []) [] [] ob cD) (.tuple []) (p8 q k n c x.v (.own 1 []) [] [] (ob++[fy z]) cD):=by
 have bw:=nJ (k:=1) hp axW;have g1:=aG.o5 (k:=1) hp;have aj:=oj p hp;generalize p.hN 1=q1 at aj bw;generalize (p.iM 1).t=t1 at aj g1;have a2:=anY (s:=[100,111,119,110]) bw.ok;have aF:=Gr q1 [100,111,119,110] bw.ok;generalize q1.maybe [100,111,119,110]=bF at aF a2;generalize q1.is [100,111,119,110]=t2 at aF;refine⟨bF,(t1,t2),⟨bw.trans a2,g1⟩,?_⟩;refine aEH.cn λad ae Q aV=> ?_;refine af ?_
 (subst ae;exact bZ aV axX axV)
def Gy:Nat->aw
 |1=>[99,111,117,110,116]
 |2=>[115,117,109]
 |3=>[109,105,110]
 |4=>[109,97,120]
 |_=>[]
theorem an1:∀k,(Gy k).length<=5
 |0=>ax0
 |1=>ax0
 |2=>ax0
 |3=>ax0
 |4=>ax0
 |_+5=>by show 0<=5;omega
def an2:List aw:=[[99,111,117,110,116],[115,117,109],[109,105,110],[109,97,120]]
theorem an3{j:Nat}(h1:1<=j)(sh:j<=4):([.str [99,111,117,110,116],.str [115,117,109],.str [109,105,110],.str [109,97,120]]:List D).getD (Int.toNat ((j-1:Nat):Int)) .dP=.str (Gy j):=by
 match j,h1,sh with
 |1,_,_=>rfl
 |2,_,_=>rfl
 |3,_,_=>rfl
 |4,_,_=>rfl
 |n+5,_,h=>omega
theorem an4{j:Nat}(h1:1<=j)(sh:j<=2147483648):IntKind.i64.wrap ((j:Int)-1)=((j-1:Nat):Int):=by
 have:=iL (j-1) 0 axW;grind
theorem abY(p:aG)(k:Int)(n c:Nat)(x:ef)(ns:ah)(Gz:(∃l,ns=.own 1 l)\/∃l,ns=.d (.list 1 l))(ai:List D)(hp:p.Ok)(ak:ai.length<=2147483648):∃(q:aG) (z:aw×aw×aw),(gM p q 5/\z.1.length<=5/\z.2.1.length<=16384/\z.2.2.length<=16384)/\
  aM 260 [.ptr 0 0,.ptr 1 0] (p8 p k n c x.v ns [] ai [] 0) (.tuple []) (p8 q k n c x.v ns [] (ai++[eM z]) [] 0):=by
 obtain⟨fG,j,⟨a0,aK⟩,b2⟩:=C7 p an2 hp ax0;replace aK:j<=4:=aK;have bw:=mh (s:=[40]) a0.ok;have aj:=jT fG [40] a0.ok;generalize fG.want [40]=q1 at aj bw;obtain⟨bF,t2,a2,g2,aY⟩:∃(bF:aG) (t2:aw),gM q1 bF 0/\t2.length<=16384/\(q1.is [41]=true/\bF=q1/\t2=[]\/q1.is [41]=false/\aM 119 [.ptr 0 0] [q1.ob] (.d (.str t2)) [bF.ob]):=by
  cases hi:q1.is [41]with
  |true=>exact⟨q1,[],.of (Step.refl bw.ok),aAa _,.inl ⟨rfl,rfl,rfl⟩⟩
  |false=>grind[nJ,aG.o5,oj,gM.of,gM.ok,gM.s]
 have p9:=C1 q1 [41] bw.ok;have a3:=mh (s:=[41]) a2.ok;have aZ:=jT bF [41] a2.ok;generalize bF.want [41]=cE at aZ a3;have a4:=mh (s:=[97,115]) a3.ok;have bP:=jT cE [97,115] a3.ok;generalize cE.want [97,115]=ei at bP a4;have a5:=nJ (k:=1) a4.ok axW;have g5:=aG.o5 (k:=1) a4.ok;have cK:=oj ei a4.ok;generalize ei.hN 1=gF at cK a5;generalize (ei.iM 1).t=t5 at cK g5;refine⟨gF,(Gy j,t2,t5),⟨((((a0.trans bw).trans a2).trans a3).trans a4).trans a5,an1 j,g2,g5⟩,?_⟩;have hw:IntKind.i64.wrap ((j:Int)-1)=((j-1:Nat):Int)\/j=0:=by
  grind[an4]
 refine aFD.cn λad ae Q aV=> ?_;rcases Gz with⟨l,rfl⟩|⟨l,rfl⟩<;>rcases aY with⟨hi,rfl,rfl⟩|⟨hi,aF⟩<;>rw[hi]at p9
 all_goals
  refine af ?_;split
  .rename_i h;simp only[aJ ae,aAc,aAi,aAp,aAE,aBf,aAh]at h;have wb:1<=j:=axW;have hw:=hw.resolve_right axW;have aC:ad.er 1 1 (ad.io .sub .i64 (Int.ofNat j) 1) (ad.len [.str [99,111,117,110,116],.str [115,117,109],.str [109,105,110],.str [109,97,120]])=true:=by
    simp only[aJ ae,aAh,hw,aAc,aAi,aAu,aA6];grind
   have ak:ad.get [.str [99,111,117,110,116],.str [115,117,109],.str [109,105,110],.str [109,97,120]] (ad.io .sub .i64 (Int.ofNat j) 1)=.str (Gy j):=by
    simp only[aJ ae];grind[an3]
   conv=>cbv
   repeat ((first|refine cZ ?_|refine c6 ?_|simp -proj only[ak]);conv=>cbv)
   try trivial
   (subst ae;exact bZ aV axX axV)
  .rename_i h;simp only[aJ ae,aAc,aAi,aAp,aAE,aBf,aAh]at h;have wb:j=0:=axW;subst wb;refine af ?_
   (subst ae;exact bZ aV axX axV)
structure sL where
 on:List D
 ai:List D
 ob:List D
def Mn(f:Nat)(p:aG)(k:Int)(n c:Nat)(ar:List ah)(ns:ah)(a:sL)(cD:Int):ag:=cx [(0,.ptr 0 0),(1,.func f [] [.ptr 1 0,.ptr 2 0])] (kj p k n c ar ns a.on a.ai a.ob cD)
theorem an5(f:Nat)(k:Int)(n c:Nat)(x y:ef)(cD:Int)(J I:aG->sL->Prop)
  (one:∀p a,p.Ok->J p a->∃q b,Step p q/\I q b/\aM f [.ptr 0 0,.ptr 1 0] (p8 p k n c (x.v++y.v) (.own 1 []) a.on a.ai a.ob cD) (.tuple []) (p8 q k n c (x.v++y.v) (.own 1 []) b.on b.ai b.ob cD))
  (next:∀p a,p.Ok->I p a->p.is [44]=true->J p.next a) (p:aG) (a:sL) (hp:p.Ok) (aK:J p a):
  ∃q b,(Step p q/\I q b)/\aM 120 [.ptr 0 0,.func f [] [.ptr 1 0,.ptr 2 0]] (kj p k n c (x.v++y.v) (.own 1 []) a.on a.ai a.ob cD) (.tuple []) (kj q k n c (x.v++y.v) (.own 1 []) b.on b.ai b.ob cD):=by
 obtain⟨q,b,h1,sh,av⟩:=one p a hp aK;suffices h:∃r s',(∃q b,(Step p q/\I q b)/\r=.tuple []/\s'=kj q k n c (x.v++y.v) (.own 1 []) b.on b.ai b.ob cD)/\aM 120 [.ptr 0 0,.func f [] [.ptr 1 0,.ptr 2 0]] (kj p k n c (x.v++y.v) (.own 1 []) a.on a.ai a.ob cD) r s' by
  grind
 refine alW.cu _ λad ae K ao=> ?_;refine af ?_;refine⟨bX (λz:aG×sL=>Mn f z.1 k n c (x.v++y.v) (.own 1 []) z.2 cD) (λz=>Step p z.1/\I z.1 z.2) λz=>z.1.l.length-z.1.i,_,⟨(q,b),⟨h1,sh⟩,rfl,axV⟩,?_⟩;rintro _ _ ⟨⟨q,b⟩,⟨h1,sh⟩,rfl,rfl⟩;have aS:=h1.ok;cases hi:q.is [44]with
 |false=>
  have aj:=mT aS hi;refine af ?_;exact ao _ _ ⟨q,b,⟨h1,sh⟩,axX,axV⟩
 |true=>
  have dw:=aG.q8 (aG.hO hi);have ay:=aG.h9 aS (aG.hO hi);have aj:=mS aS hi;obtain⟨q',cj,k1,k2,fX⟩:=one q.next b ay.ok (next q b aS sh hi);refine af ?_;refine ec (q',cj) ⟨(h1.trans ay).trans k1,k2⟩ ?_ axV;have:=k1.i;show q'.l.length-q'.i<q.l.length-q.i;rw[k1.l];show q.l.length-q'.i<q.l.length-q.i;have:q.next.i=q.i+1:=rfl;omega
theorem abZ(f:Nat)(k:Int)(n c:Nat)(x:ef)(cD:Int)(J I:aG->sL->Prop)
  (one:∀p a,p.Ok->J p a->∃q b,Step p q/\I q b/\aM f [.ptr 0 0,.ptr 1 0] (p8 p k n c (x.v) (.own 1 []) a.on a.ai a.ob cD) (.tuple []) (p8 q k n c (x.v) (.own 1 []) b.on b.ai b.ob cD))
  (next:∀p a,p.Ok->I p a->p.is [44]=true->J p.next a) (p:aG) (a:sL) (hp:p.Ok) (aK:J p a):
  ∃q b,(Step p q/\I q b)/\aM 120 [.ptr 0 0,.func f [] [.ptr 1 0,.ptr 2 0]] (kj p k n c (x.v) (.own 1 []) a.on a.ai a.ob cD) (.tuple []) (kj q k n c (x.v) (.own 1 []) b.on b.ai b.ob cD):=by
 obtain⟨q,b,h1,sh,av⟩:=one p a hp aK;suffices h:∃r s',(∃q b,(Step p q/\I q b)/\r=.tuple []/\s'=kj q k n c (x.v) (.own 1 []) b.on b.ai b.ob cD)/\aM 120 [.ptr 0 0,.func f [] [.ptr 1 0,.ptr 2 0]] (kj p k n c (x.v) (.own 1 []) a.on a.ai a.ob cD) r s' by
  grind
 refine alW.cu _ λad ae K ao=> ?_;refine af ?_;refine⟨bX (λz:aG×sL=>Mn f z.1 k n c (x.v) (.own 1 []) z.2 cD) (λz=>Step p z.1/\I z.1 z.2) λz=>z.1.l.length-z.1.i,_,⟨(q,b),⟨h1,sh⟩,rfl,axV⟩,?_⟩;rintro _ _ ⟨⟨q,b⟩,⟨h1,sh⟩,rfl,rfl⟩;have aS:=h1.ok;cases hi:q.is [44]with
 |false=>
  have aj:=mT aS hi;refine af ?_;exact ao _ _ ⟨q,b,⟨h1,sh⟩,axX,axV⟩
 |true=>
  have dw:=aG.q8 (aG.hO hi);have ay:=aG.h9 aS (aG.hO hi);have aj:=mS aS hi;obtain⟨q',cj,k1,k2,fX⟩:=one q.next b ay.ok (next q b aS sh hi);refine af ?_;refine ec (q',cj) ⟨(h1.trans ay).trans k1,k2⟩ ?_ axV;have:=k1.i;show q'.l.length-q'.i<q.l.length-q.i;rw[k1.l];show q.l.length-q'.i<q.l.length-q.i;have:q.next.i=q.i+1:=rfl;omega
theorem an6(f:Nat)(k:Int)(n c:Nat)(x:ef)(l:List D)(cD:Int)(J I:aG->sL->Prop)
  (one:∀p a,p.Ok->J p a->∃q b,Step p q/\I q b/\aM f [.ptr 0 0,.ptr 1 0] (p8 p k n c (x.v) (.d (.list 1 l)) a.on a.ai a.ob cD) (.tuple []) (p8 q k n c (x.v) (.d (.list 1 l)) b.on b.ai b.ob cD))
  (next:∀p a,p.Ok->I p a->p.is [44]=true->J p.next a) (p:aG) (a:sL) (hp:p.Ok) (aK:J p a):
  ∃q b,(Step p q/\I q b)/\aM 120 [.ptr 0 0,.func f [] [.ptr 1 0,.ptr 2 0]] (kj p k n c (x.v) (.d (.list 1 l)) a.on a.ai a.ob cD) (.tuple []) (kj q k n c (x.v) (.d (.list 1 l)) b.on b.ai b.ob cD):=by
 obtain⟨q,b,h1,sh,av⟩:=one p a hp aK;suffices h:∃r s',(∃q b,(Step p q/\I q b)/\r=.tuple []/\s'=kj q k n c (x.v) (.d (.list 1 l)) b.on b.ai b.ob cD)/\aM 120 [.ptr 0 0,.func f [] [.ptr 1 0,.ptr 2 0]] (kj p k n c (x.v) (.d (.list 1 l)) a.on a.ai a.ob cD) r s' by
  grind
 refine alW.cu _ λad ae K ao=> ?_;refine af ?_;refine⟨bX (λz:aG×sL=>Mn f z.1 k n c (x.v) (.d (.list 1 l)) z.2 cD) (λz=>Step p z.1/\I z.1 z.2) λz=>z.1.l.length-z.1.i,_,⟨(q,b),⟨h1,sh⟩,rfl,axV⟩,?_⟩;rintro _ _ ⟨⟨q,b⟩,⟨h1,sh⟩,rfl,rfl⟩;have aS:=h1.ok;cases hi:q.is [44]with
 |false=>
  have aj:=mT aS hi;refine af ?_;exact ao _ _ ⟨q,b,⟨h1,sh⟩,axX,axV⟩
 |true=>
  have dw:=aG.q8 (aG.hO hi);have ay:=aG.h9 aS (aG.hO hi);have aj:=mS aS hi;obtain⟨q',cj,k1,k2,fX⟩:=one q.next b ay.ok (next q b aS sh hi);refine af ?_;refine ec (q',cj) ⟨(h1.trans ay).trans k1,k2⟩ ?_ axV;have:=k1.i;show q'.l.length-q'.i<q.l.length-q.i;rw[k1.l];show q.l.length-q'.i<q.l.length-q.i;have:q.next.i=q.i+1:=rfl;omega
def GC(p:aG)(ns xs:List D)(x:ef):aU:=[.box (x0 3 (.aN 2 0 1 1 16) (.own 1 ns) xs [] [] [] 0),.box [.ptr 3 0],.box x.v,p.ob]
def Mp(p:aG)(ns xs:List D)(x:ef):aU:=[p.ob,.box (x0 3 (.aN 3 0 1 1 16) (.own 1 ns) xs [] [] [] 0),.box [.ptr 0 0],.box x.v]
theorem an7(p:aG)(ns xs:List D)(x:ef)(hp:p.Ok)(h1:ns.length<=2147483648)(sh:xs.length<=2147483648):∃(q:aG) (z:aB) (t:aw),(Step p q/\z.good/\(q.e=0->z.w+t.length+200+20000*p.i<=20000*q.i))/\
  aM 216 [.ptr 0 0,.ptr 1 0] (GC p ns xs x) (.tuple []) (GC q (ns++[.str t]) (xs++[z.d]) x):=by
 obtain⟨q1,z,ak,aj⟩:=abV p hp;have a2:=mh (s:=[97,115]) ak.s.ok;have aF:=jT q1 [97,115] ak.s.ok;generalize q1.want [97,115]=bF at aF a2;have a3:=nJ (k:=1) a2.ok axW;have g3:=aG.o5 (k:=1) a2.ok;have aZ:=oj bF a2.ok;generalize bF.hN 1=cE at aZ a3;generalize (bF.iM 1).t=t3 at aZ g3;have a:=a2.trans a3;refine⟨cE,z,t3,⟨ak.s.trans a.s,ak.g,λhe=> ?_⟩,?_⟩
 .have:=ak.w (a.s.b2 he);have:=a.a he;omega
 rw[aB.mU];rw[aB.abX]at aj⊢;generalize z.bQ=c at aj⊢;refine Ws.cn λad ae Q aV=> ?_;refine af ?_
 (subst ae;exact bZ aV axX axV)
structure lH where
 ns:List aw
 xs:List aB
def lH.w(a:lH):Nat:=fw a.ns+aB.ws a.xs
structure Aj(p q:aG)(m:Nat)(a:lH):Prop where
 s:Step p q
 n:a.ns.length<=q.i+m
 x:a.xs.length<=q.i+m
 g:aB.mV a.xs
 w:q.e=0->a.w+20000*p.i<=20000*q.i
def lH.st(q:aG)(a:lH)(x:ef):aU:=Mp q (a.ns.map .str) (aB.ds a.xs) x
def ab0(q:aG)(a:lH)(x:ef):ag:=cx [(0,.ptr 0 0),(1,.func 216 [] [.ptr 1 0,.ptr 2 0])] (a.st q x)
theorem ab1{p q:aG}{a:lH}(x:ef)(h:Aj p q 0 a):∃(r:aG) (b:lH),(Step q r/\Aj p r 1 b)/\
  aM 216 [.ptr 0 0,.ptr 1 0] (GC q (a.ns.map .str) (aB.ds a.xs) x) (.tuple []) (GC r (b.ns.map .str) (aB.ds b.xs) x):=by
 have h1:=h.n;have sh:=h.x;have av:=h.s.ok.i;have aW:=h.s.ok.l;obtain⟨r,z,t,⟨k1,k2,fX⟩,e⟩:=an7 q (a.ns.map .str) (aB.ds a.xs) x h.s.ok axZ (by grind[aB.uo]);have bL:=k1.i;refine⟨r,⟨a.ns++[t],a.xs++[z]⟩,⟨k1,⟨h.s.trans k1,axZ,axZ,aB.Me h.g ⟨k2,trivial⟩,λhe=> ?_⟩⟩,?_⟩
 .have w1:=fX he;have bW:=h.w (k1.b2 he);grind[lH.w,fw,q9,aB.xY,fS,aB.ws]
 .rw[aAy,aB.C3];exact e
theorem an8(p:aG)(x:ef)(hp:p.Ok):∃(q:aG) (a:lH),Aj p q 1 a/\aM 120 [.ptr 0 0,.func 216 [] [.ptr 1 0,.ptr 2 0]] (Mp p [] [] x) (.tuple []) (a.st q x):=by
 suffices h:∃r s',(∃(q:aG) (a:lH),Aj p q 1 a/\r=.tuple []/\s'=a.st q x)/\aM 120 [.ptr 0 0,.func 216 [] [.ptr 1 0,.ptr 2 0]] (Mp p [] [] x) r s' by
  grind
 obtain⟨q,b,⟨h1,sh⟩,av⟩:=ab1 (p:=p) (q:=p) (a:=⟨[],[]⟩) x ⟨Step.refl hp,aAa _,aAa _,trivial,λ_=>by show 0+0+_<=_;omega⟩;generalize ay:b.ns.map D.str=ns at av;generalize ak:aB.ds b.xs=xs at av;refine alW.cu _ λad ae K ao=> ?_;refine af ?_;refine⟨bX (λz:aG×lH=>ab0 z.1 z.2 x) (λz=>Aj p z.1 1 z.2) λz=>z.1.l.length-z.1.i,_,⟨(q,b),sh,rfl,by subst ay ak;kernel_rfl⟩,?_⟩;clear h1 sh av ay ak;rintro _ _ ⟨⟨q,b⟩,sh,rfl,rfl⟩;replace sh:Aj p q 1 b:=sh;have aS:=sh.s.ok;dsimp only[ab0,lH.st];generalize ay:b.ns.map D.str=ns;generalize ak:aB.ds b.xs=xs;cases hi:q.is [44]with
 |false=>
  have aj:=mT aS hi;refine af ?_;exact ao _ _ ⟨q,b,sh,axX,by subst ay ak;kernel_rfl⟩
 |true=>
  have dw:=aG.q8 (aG.hO hi);have hs:=aG.h9 aS (aG.hO hi);have aj:=mS aS hi;have vu:q.next.i=q.i+1:=rfl;obtain⟨q',cj,⟨k1,k2⟩,fX⟩:=ab1 (p:=p) (q:=q.next) (a:=b) x ⟨sh.s.trans hs,by have:=sh.n;omega,by have:=sh.x;omega,sh.g,λhe=>by have:=sh.w he;omega⟩;rw[ay,ak]at fX;generalize an9:cj.ns.map D.str=Ak at fX;generalize kY:aB.ds cj.xs=Al at fX;refine af ?_;refine ec (q',cj) k2 ?_ (by subst an9 kY;kernel_rfl);have:=k1.i;show q'.l.length-q'.i<q.l.length-q.i;rw[k1.l];show q.l.length-q'.i<q.l.length-q.i;omega
structure nK(p q:aG)(x:bk):Prop where
 s:Step p q
 g:x.good
 w:q.e=0->x.w+20000*p.i<=20000*q.i
def qa(f d:Nat):Prop:=∀p:aG,p.Ok->p.dS=d->∃(q:aG) (x:bk),nK p q x/\aM f [.ptr 0 0] [p.ob] (.d (.agg x.bB.cs)) [q.ob]
theorem nK.zero{p q:aG}(h:Step p q)(he:q.e≠0):nK p q sJ:=⟨h,C4,λk=>absurd k he⟩
theorem nK.then{p q r:aG}{x:bk}(k:nK p q x)(h:Step q r):nK p r x:=⟨k.s.trans h,k.g,λhe=>by have:=k.w (h.b2 he);have:=h.i;omega⟩
theorem nK.after{p q r:aG}{x:bk}(h:Step p q)(k:nK q r x):nK p r x:=⟨h.trans k.s,k.g,λhe=>by have:=k.w he;have:=h.i;omega⟩
theorem o6{ad:bm}(h:ad=bm.bU){a b:Int}(h1:0<=a+b)(sh:a+b<=9223372036854775807):ad.io .add .i64 a b=a+b:=by subst h;exact aH.wrap_small h1 sh
theorem Mq{ad:bm}(h:ad=bm.bU){a b:Int}(h1:0<=a-b)(sh:a-b<=9223372036854775807):ad.io .sub .i64 a b=a-b:=by subst h;exact aH.wrap_small h1 sh
theorem cd{ad:bm}(h:ad=bm.bU){n:Nat}(ay:n<=4611686018427387904):ad.io .add .i64 (Int.ofNat n) 1=Int.ofNat (n+1):=o6 h axZ axZ
theorem uq{ad:bm}(h:ad=bm.bU){n m:Nat}(ay:n=m+1)(hm:m<=4611686018427387904):ad.io .sub .i64 (Int.ofNat n) 1=Int.ofNat m:=by
 grind[Mq]
theorem an'{f d:Nat}(bh:d<32->qa f (d+1))(p:aG)(hp:p.Ok)(aY:p.dS=d):
  ∃(q:aG) (x:bk),nK p q x/\aM 125 [.ptr 0 0,.func f [.ptr 0 0] []] [p.ob] (.d (.agg x.bB.cs)) [q.ob]:=by
 by_cases Mh:p.dS=32
 .have aj:=p7 p 52 hp;have hs:=aG.sH (e:=52) hp;have he:=aG.om (p:=p) (e:=52) axW;generalize p.fail 52=q at aj hs he;refine⟨q,sJ,.zero hs he,?_⟩;refine Ln.cn λad ae Q aV=> ?_;conv=>cbv
  split
  .refine af ?_
   (subst ae;exact bZ aV axV axV)
  .rename_i h;simp only[aJ ae,aAc,aAi,aAp,aAE,aBf,aAh]at h;exact absurd (show(p.dS:Int)=32 by omega) h
 .have aI:=hp.d;have aA:d<32:=axW;obtain⟨q,x,ak,hv⟩:=bh aA (p.dep (d+1)) (aG.sK hp axW) rfl;have xZ:q.dS=d+1:=ak.s.d;refine⟨q.dep d,x,⟨⟨aG.sK ak.s.ok axW,ak.s.l,ak.s.n,aY.symm,ak.s.i,ak.s.e⟩,ak.g,ak.w⟩,?_⟩;generalize x.bB=c at hv;refine Ln.cn λad ae Q aV=> ?_;have h1:=cd ae (n:=p.dS) axW;have sh:=uq ae xZ axW;rw[show p.dS+1=d+1 by omega]at h1;conv=>cbv
  split
  .rename_i h;simp only[aJ ae,aAc,aAi,aAp,aAE,aBf,aAh]at h;have h:(p.dS:Int)=32:=h;omega
  .conv=>cbv
   repeat ((first|refine cZ ?_|refine c6 ?_|simp -proj only[h1]);conv=>cbv)
   try trivial
   simp only[sh]
   (subst ae;exact bZ aV axV axV)
theorem aoa{f d:Nat}(bh:d<32->∀p:aG,p.Ok->p.dS=d+1->∃(q:aG) (x:bk),nK p q x/\aM f [.ptr 0 0] [.box [.ptr 1 0],p.ob] (.d (.agg x.bB.cs)) [.box [.ptr 1 0],q.ob])(p:aG)(hp:p.Ok)(aY:p.dS=d):
  ∃(q:aG) (x:bk),nK p q x/\aM 125 [.ptr 0 0,.func f [] [.ptr 1 0]] [p.ob,.box [.ptr 0 0]] (.d (.agg x.bB.cs)) [q.ob,.box [.ptr 0 0]]:=by
 by_cases Mh:p.dS=32
 .have aj:=p7 p 52 hp;have hs:=aG.sH (e:=52) hp;have he:=aG.om (p:=p) (e:=52) axW;generalize p.fail 52=q at aj hs he;refine⟨q,sJ,.zero hs he,?_⟩;refine Ln.cn λad ae Q aV=> ?_;conv=>cbv
  split
  .refine af ?_
   (subst ae;exact bZ aV axV axV)
  .rename_i h;simp only[aJ ae,aAc,aAi,aAp,aAE,aBf,aAh]at h;exact absurd (show(p.dS:Int)=32 by omega) h
 .have aI:=hp.d;have aA:d<32:=axW;obtain⟨q,x,ak,hv⟩:=bh aA (p.dep (d+1)) (aG.sK hp axW) rfl;have xZ:q.dS=d+1:=ak.s.d;refine⟨q.dep d,x,⟨⟨aG.sK ak.s.ok axW,ak.s.l,ak.s.n,aY.symm,ak.s.i,ak.s.e⟩,ak.g,ak.w⟩,?_⟩;generalize x.bB=c at hv;refine Ln.cn λad ae Q aV=> ?_;have h1:=cd ae (n:=p.dS) axW;have sh:=uq ae xZ axW;rw[show p.dS+1=d+1 by omega]at h1;conv=>cbv
  split
  .rename_i h;simp only[aJ ae,aAc,aAi,aAp,aAE,aBf,aAh]at h;have h:(p.dS:Int)=32:=h;omega
  .conv=>cbv
   repeat ((first|refine cZ ?_|refine c6 ?_|simp -proj only[h1]);conv=>cbv)
   try trivial
   simp only[sh]
   (subst ae;exact bZ aV axV axV)
theorem aob{d:Nat}(h:qa 126 (d+1))(p:aG)(hp:p.Ok)(aY:p.dS=d+1):∃(q:aG) (x:bk),nK p q x/\aM 214 [.ptr 0 0] [.box [.ptr 1 0],p.ob] (.d (.agg x.bB.cs)) [.box [.ptr 1 0],q.ob]:=by
 have hw:=aG.Af (s:=[40]) hp;have aj:=jT p [40] hp;obtain⟨q,x,h1,aF⟩:=h (p.want [40]) hw.ok ayU;have mK:=aG.Af (s:=[41]) h1.s.ok;have aZ:=jT q [41] h1.s.ok;generalize q.want [41]=bF at mK aZ;generalize p.want [40]=q1 at hw h1 aj aF;refine⟨bF,x,(h1.after hw).then mK,?_⟩;generalize x.bB=c at aF;refine UK.cn λad ae Q aV=> ?_;refine af ?_
 (subst ae;exact bZ aV axV axV)
theorem ab2{d:Nat}(h:d<32->qa 126 (d+1)):qa 173 d:=by
 intro p hp aY;have p9:=C1 p [40] hp;cases aK:p.is [40]with
 |true=>
  rw[aK]at p9;obtain⟨q,x,h1,aF⟩:=aoa (λaA=>aob (h aA)) p hp aY;refine⟨q,x,h1,?_⟩;generalize x.bB=c at aF;refine Wb.cn λad ae Q aV=> ?_;refine af ?_
  (subst ae;exact bZ aV axV axV)
 |false=>
  rw[aK]at p9;have bw:=nJ (k:=1) hp axW;have g1:=aG.o5 (k:=1) hp;have aj:=oj p hp;generalize p.hN 1=q1 at aj bw;generalize (p.iM 1).t=t1 at aj g1;refine⟨q1,.mk 1 t1 [] la [] [] [] [] [] 0,⟨bw.s,C4,λhe=> ?_⟩,?_⟩
  .have:=bw.a he;show 500+t1.length+0+200+0+0+0+0+0+_<=_;omega
  refine Wb.cn λad ae Q aV=> ?_;refine af ?_
  (subst ae;exact bZ aV axV axV)
structure Mr(p q:aG)(m:Nat)(on:List (aw×aw)):Prop where
 s:Step p q
 n:on.length<=q.i+m
 w:q.e=0->kg on+20000*p.i<=20000*q.i
theorem aoc(p:aG)(k:Int)(n c:Nat)(x y:ef)(hp:p.Ok):∃(q:aG) (on:List (aw×aw)),Mr p q 1 on/\
  aM 120 [.ptr 0 0,.func 259 [] [.ptr 1 0,.ptr 2 0]] (kj p k n c (x.v++y.v) (.own 1 []) [] [] [] 0) (.tuple []) (kj q k n c (x.v++y.v) (.own 1 []) (on.map fx) [] [] 0):=by
 obtain⟨q,b,⟨_,on,h1,rfl⟩,e⟩:=an5 259 k n c x y 0 (λq a=>∃on,Mr p q 0 on/\a=⟨on.map fx,[],[]⟩) (λq a=>∃on,Mr p q 1 on/\a=⟨on.map fx,[],[]⟩)
  (by
   rintro q a aS ⟨on,h1,rfl⟩;have:=h1.n;have:=aS.i;have:=aS.l;obtain⟨r,z,⟨a2,g1,g2⟩,e⟩:=anZ q k n c x y (on.map fx) aS axZ;have hi:=a2.s.i;refine⟨r,⟨(on++[z]).map fx,[],[]⟩,a2.s,⟨on++[z],⟨h1.s.trans a2.s,axZ,λhe=> ?_⟩,rfl⟩,?_⟩
   .have:=a2.a he;have:=h1.w (a2.s.b2 he);unfold kg at this⊢;rw[q9];show _+(200+(z.1.length+z.2.length)+0)+_<=_;omega
   .rw[aAy];exact e)
  (by
   rintro q a aS ⟨on,h1,rfl⟩ hi;have ay:=aG.h9 aS (aG.hO hi);have:q.next.i=q.i+1:=rfl;exact⟨on,⟨h1.s.trans ay,by have:=h1.n;omega,λhe=>azw⟩,rfl⟩)
  p ⟨[],[],[]⟩ hp ⟨[],⟨Step.refl hp,aAa _,λ_=>ayy⟩,rfl⟩
 grind
def aod(q:aG)(k:Int)(x y:ef)(on:List D):aU:=[q.ob,.box (x0 k (.aN 5 0 2 2 16) (.own 1 []) [] on [] [] 0),.dead,.box [.ptr 0 0],.box [.ptr 1 0],.box (x.v++y.v)]
theorem aoe{d:Nat}(h:qa 173 d)(p:aG)(k:Int)(x:ef)(hp:p.Ok)(aY:p.dS=d):∃(q:aG) (y:bk) (on:List (aw×aw)),(Step p q/\y.good/\(q.e=0->y.w+kg on+20000*p.i<=20000*q.i))/\
  aM 217 [.ptr 0 0,.ptr 1 0] [p.ob,.box (x0 k (.aN 2 0 1 1 16) (.own 1 []) [] [] [] [] 0),.box x.v] (.tuple []) (aod q k x y.bB (on.map fx)):=by
 obtain⟨q1,y,h1,aj⟩:=h p hp aY;have a2:=mh (s:=[111,110]) h1.s.ok;have aF:=jT q1 [111,110] h1.s.ok;generalize q1.want [111,110]=bF at aF a2;obtain⟨cE,on,av,aZ⟩:=aoc bF k 2 2 x y.bB a2.ok;refine⟨cE,y,on,⟨(h1.s.trans a2.s).trans av.s,h1.g,λhe=> ?_⟩,?_⟩
 .have:=av.w he;have:=a2.a (av.s.b2 he);have:=h1.w (a2.s.b2 (av.s.b2 he));omega
 generalize y.bB=c at aj aZ;generalize on.map fx=L at aZ;refine Wu.cn λad ae Q aV=> ?_;conv=>cbv
 refine⟨?_,?_⟩
 .refine af ?_
  (subst ae;exact bZ aV axX axV)
 .refine cm (aj) ?_;refine cm (aF) ?_;refine cm (aZ) ?_
  (subst ae;exact bZ aV axX axV)
end Go.Proofs.YthffhbakgmemaaaGreatDoor
