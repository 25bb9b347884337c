/- Part of texts_said. -/
import Derived.Test.YtmgpekpnidjfoaaGreatDoorB1
set_option maxRecDepth 100000
set_option maxHeartbeats 8000000
set_option linter.unusedSimpArgs false
set_option linter.unusedVariables false
namespace Go.Proofs.YtmgpekpnidjfoaaGreatDoor
open Go Go.aJ
attribute [local irreducible] bM
structure aG where
 l:List Tok
 T:D
 i:Nat
 n:Nat
 dR:Nat
 e:Int
 a:Int
def aG.ob(p:aG):b3:=.box [.d p.T,.d (int p.i),.d (int p.n),.d (int p.dR),.d (int p.e),.d (int p.a)]
def oJ:Tok:=⟨0,[],0,0⟩
def aG.ei(p:aG):Tok:=cond (!decide (p.e=0)) oJ (p.l.getD p.i oJ)
def aG.fail(p:aG)(e:Int):aG:=cond (!decide (p.e=0)) p ⟨p.l,p.T,p.i,p.n,p.dR,e,cond (decide (p.i<p.l.length)) (p.l.getD p.i oJ).p p.n⟩
def aG.next(p:aG):aG:=⟨p.l,p.T,p.i+1,p.n,p.dR,p.e,p.a⟩
def aG.is(p:aG)(s:ax):Bool:=(decide (p.ei.k=1)||decide (p.ei.k=4))&&decide (p.ei.t=s)
structure aG.Ok(p:aG):Prop where
 i:p.i<=p.l.length
 l:p.l.length<=1073741824
 d:p.dR<=32
 t:∀x∈p.l,xg x
 T:p.T=nV p.l
theorem getD_none{α:Type}{l:List α}{i:Nat}{z:α}(h:l.length<=i):l.getD i z=z:=axu
theorem amM{α:Type}{l:List α}{i:Nat}{z:α}(h:i<l.length):l.getD i z=l[i]:=axu
section
attribute [local irreducible] Int.decLt Int.decLe Int.instDecidableEq IntKind.wrap instDecidableEqList
theorem aG.xh{p:aG}(hp:p.Ok):p.ob=.box [.d (nV p.l),.d (int p.i),.d (int p.n),.d (int p.dR),.d (int p.e),.d (int p.a)]:=by
 grind[aG.ob,Ok.T]
theorem zx(p:aG)(hp:p.Ok):aM 158 [.ptr 0 0] [p.ob] (.d p.ei.d) [p.ob]:=by
 have h1:=hp.i;have h2:=hp.l;rw[aG.xh hp];refine TD.fh ?_;refine bj ?_;first|refine eJ (λh=> ?_) (λh=> ?_)|((refine eE (λh=> ?_) (λh=> ?_))<;>(try simp only[azL]at h))
 .refine bj ?_;exact⟨azK (b:=.d oJ.d) axr (by grind[aG.ei]),axr⟩
 .by_cases av:p.l.length<=p.i
  .have aZ:decide (((p.l.map Tok.d).length:Int)<=(p.i:Int))=true:=by simp_all
   conv=>whnf
   repeat ((first|refine e3 ?_|refine e2 ?_);conv=>whnf)
   simp only[aZ];refine bj ?_;exact⟨azK (b:=.d oJ.d) axr (by grind[aG.ei]),axr⟩
  .have aZ:decide (((p.l.map Tok.d).length:Int)<=(p.i:Int))=false:=by simp_all
   conv=>whnf
   repeat ((first|refine e3 ?_|refine e2 ?_);conv=>whnf)
   simp only[aZ];conv=>whnf
   repeat ((first|refine e3 ?_|refine e2 ?_);conv=>whnf)
   refine⟨axu,?_⟩;have aE:(p.l.map Tok.d).getD (Int.toNat (p.i:Int)) .dO=(p.l[p.i]' axs).d:=getD_map _;simp only[aE];refine bj ?_;exact⟨azK (b:=.d (p.l[p.i]' axs).d) axr (by unfold aG.ei;grind),axr⟩
theorem pN(p:aG)(e:Int)(hp:p.Ok):aM 58 [.ptr 0 0,.d (int e)] [p.ob] (.tuple []) [(p.fail e).ob]:=by
 have h1:=hp.i;have h2:=hp.l;rw[aG.xh hp];refine Wo.fh ?_;refine bj ?_;refine eE (λh=> ?_) (λh=> ?_)
 .refine bj ?_;first|refine⟨axt,?_⟩|refine⟨trivial,?_⟩|skip
  unfold aG.fail;rw[h];exact congrArg (λx=>[x]) (aG.xh hp).symm
 .by_cases av:p.i<p.l.length
  .have aZ:decide ((p.i:Int)<((p.l.map Tok.d).length:Int))=true:=by simp_all
   conv=>whnf
   repeat ((first|refine e3 ?_|refine e2 ?_);conv=>whnf)
   refine⟨axu,?_⟩;have aE:(p.l.map Tok.d).getD (Int.toNat (p.i:Int)) .dO=(p.l[p.i]' axs).d:=getD_map _;simp only[aE];refine bj ?_;first|refine⟨axt,?_⟩|refine⟨trivial,?_⟩|skip
   refine azK (b:=[aG.ob ⟨p.l,nV p.l,p.i,p.n,p.dR,e,(p.l[p.i]' axs).p⟩]) axr ?_;grind[aG.fail,aG.Ok.T]
  .have aZ:decide ((p.i:Int)<((p.l.map Tok.d).length:Int))=false:=by simp_all
   refine bj ?_;first|refine⟨axt,?_⟩|refine⟨trivial,?_⟩|skip
   refine azK (b:=[aG.ob ⟨p.l,nV p.l,p.i,p.n,p.dR,e,p.n⟩]) axr ?_;grind[aG.fail,aG.Ok.T]
theorem Cw(p:aG)(s:ax)(hp:p.Ok):aM 155 [.ptr 0 0,.d (.str s)] [p.ob] (.d (.bool (p.is s))) [p.ob]:=by
 have aj:=zx p hp;unfold aG.is;generalize p.ei=t at aj⊢;refine Vo.fh ?_;refine bj ?_;refine cj (aj) ?_;cases h1:decide (t.k=1)with
 |true=>
  refine bj ?_;exact⟨azK (b:=.d (.bool (decide (t.t=s)))) axr rfl,axr⟩
 |false=>
  cases h2:decide (t.k=4)with
  |true=>
   refine bj ?_;exact⟨azK (b:=.d (.bool (decide (t.t=s)))) axr rfl,axr⟩
  |false=>
   refine bj ?_;exact⟨azK (b:=.d (.bool false)) axr rfl,axr⟩
def aG.maybe(p:aG)(s:ax):aG:=cond (p.is s) p.next p
def aG.want(p:aG)(s:ax):aG:=cond (p.is s) p.next (p.fail 51)
def aG.jb(p:aG)(k:Int):Tok:=cond (!decide (p.ei.k=k)) oJ p.ei
def aG.ie(p:aG)(k:Int):aG:=cond (!decide (p.ei.k=k)) (p.fail 51) p.next
theorem FT(p:aG)(s:ax)(hp:p.Ok):aM 92 [.ptr 0 0,.d (.str s)] [p.ob] (.d (.bool (p.is s))) [(p.maybe s).ob]:=by
 have aj:=Cw p s hp;have h1:=hp.i;have h2:=hp.l;unfold aG.maybe;generalize p.is s=b at aj⊢;refine U3.fh ?_;refine bj ?_;refine cj (aj) ?_;cases b with
 |true=>
  refine bj ?_;refine⟨axr,?_⟩;exact azK (b:=[.box [.d p.T,.d (int (IntKind.i64.wrap ((p.i:Int)+((1:Nat):Int)))),.d (int p.n),.d (int p.dR),.d (int p.e),.d (int p.a)]]) axr (congrArg (λk=>[b3.box [.d p.T,.d (int k),.d (int p.n),.d (int p.dR),.d (int p.e),.d (int p.a)]]) (iC p.i 1 axs))
 |false=>
  refine bj ?_;exact⟨axr,axr⟩
theorem jL(p:aG)(s:ax)(hp:p.Ok):aM 57 [.ptr 0 0,.d (.str s)] [p.ob] (.tuple []) [(p.want s).ob]:=by
 have aj:=FT p s hp;have aD:=pN p 51 hp;unfold aG.want;unfold aG.maybe at aj;generalize p.is s=b at aj⊢;refine Yh.fh ?_;refine bj ?_;cases b with
 |true=>
  refine cj (aj) ?_;exact⟨axt,axr⟩
 |false=>
  refine cj (aj) ?_;refine cj (aD) ?_;exact⟨axt,axr⟩
theorem Lw(p:aG)(k:Int)(hp:p.Ok):aM 101 [.ptr 0 0,.d (int k)] [p.ob] (.d (p.jb k).d) [(p.ie k).ob]:=by
 have aj:=zx p hp;have aD:=pN p 51 hp;have h1:=hp.i;have h2:=hp.l;unfold aG.jb aG.ie;generalize p.ei=t at aj⊢;refine Yx.fh ?_;refine bj ?_;refine cj (aj) ?_;cases h:decide (t.k=k)with
 |false=>
  refine bj ?_;refine cj (aD) ?_;exact⟨axr,axr⟩
 |true=>
  refine bj ?_;refine⟨axr,?_⟩;exact azK (b:=[.box [.d p.T,.d (int (IntKind.i64.wrap ((p.i:Int)+((1:Nat):Int)))),.d (int p.n),.d (int p.dR),.d (int p.e),.d (int p.a)]]) axr (congrArg (λk=>[b3.box [.d p.T,.d (int k),.d (int p.n),.d (int p.dR),.d (int p.e),.d (int p.a)]]) (iC p.i 1 axs))
theorem nW(p:aG)(hp:p.Ok):aM 93 [.ptr 0 0] [p.ob] (.d (.str (p.jb 1).t)) [(p.ie 1).ob]:=by
 have aj:=Lw p 1 hp;generalize p.jb 1=t at aj⊢;generalize p.ie 1=q at aj⊢;refine WD.fh ?_;refine bj ?_;refine cj (aj) ?_;exact⟨axr,axr⟩
end
theorem FU{P:Program}{gl:Nat->List D}{f:Nat}{cO:aX}{dL:List ag}{s:aV}(Q:ag->aV->Prop)(h:a7 P f cO)(aw:lH (fK P gl) gl cO dL s Q):∃r s',Q r s'/\bM P gl f dL s r s':=by
 grind[a7.ext]
structure Step(p q:aG):Prop where
 ok:q.Ok
 l:q.l=p.l
 n:q.n=p.n
 d:q.dR=p.dR
 i:p.i<=q.i
 e:p.e≠0->q.e≠0
theorem Step.refl{p:aG}(h:p.Ok):Step p p:=⟨h,rfl,rfl,rfl,azI _,id⟩
theorem Step.trans{p q r:aG}(h:Step p q)(k:Step q r):Step p r:=⟨k.ok,k.l.trans h.l,k.n.trans h.n,k.d.trans h.d,aAs h.i k.i,λx=>k.e (h.e x)⟩
theorem aG.r7{p:aG}{e:Int}(h:p.Ok):Step p (p.fail e):=by
 unfold aG.fail;cases he:!decide (p.e=0)with
 |true=>exact Step.refl h
 |false=>exact⟨⟨h.i,h.l,h.d,h.t,h.T⟩,rfl,rfl,rfl,azI _,λx=>absurd axu x⟩
theorem aG.oK{p:aG}{e:Int}(h:e≠0):(p.fail e).e≠0:=by
 grind[aG.fail]
theorem aG.r8{p:aG}(h:p.ei.k≠0):p.e=0/\p.i<p.l.length:=by
 unfold aG.ei at h;cases he:!decide (p.e=0)with
 |true=>rw[he]at h;exact absurd rfl h
 |false=>
  rw[he]at h;refine⟨axu,?_⟩;by_cases hi:p.i<p.l.length;all_goals simp_all[oJ]
theorem aG.hY{p:aG}(h:p.Ok)(au:p.ei.k≠0):Step p p.next:=by
 have:=aG.r8 au;exact⟨⟨by have:=this.2;show p.i+1<=p.l.length;omega,h.l,h.d,h.t,h.T⟩,rfl,rfl,rfl,Nat.le_succ _,λx=>absurd this.1 x⟩
theorem aG.hI{p:aG}{s:ax}(h:p.is s=true):p.ei.k≠0:=by
 unfold aG.is at h;grind
theorem aG.zy{p:aG}{s:ax}(h:p.Ok):Step p (p.want s):=by
 grind[aG.want,hY,hI,r7]
theorem aG.amN{p:aG}{s:ax}(h:p.Ok):Step p (p.maybe s):=by
 grind[aG.maybe,Step.refl,hY,hI]
theorem aG.aaH{p:aG}{k:Int}(h:p.Ok)(au:k≠0):Step p (p.ie k):=by
 unfold aG.ie;cases hi:decide (p.ei.k=k)with
 |true=>simp_all[hY]
 |false=>exact aG.r7 h
theorem mI{p:aG}{s:ax}(hp:p.Ok)(h:p.is s=true):aM 92 [.ptr 0 0,.d (.str s)] [p.ob] (.d (.bool true)) [p.next.ob]:=by
 grind[FT,aG.maybe]
theorem mJ{p:aG}{s:ax}(hp:p.Ok)(h:p.is s=false):aM 92 [.ptr 0 0,.d (.str s)] [p.ob] (.d (.bool false)) [p.ob]:=by
 grind[FT,aG.maybe]
def lx(p:aG):List ax->Nat->Nat×aG
 |[],_=>(0,p.fail 51)
 |w::l,k=>cond (p.is w) (k+1,p.next) (lx p l (k+1))
def fF(l:List ax):D:=.list 1 (l.map .str)
theorem aaI{p:aG}(h:p.Ok):∀{l:List ax} {k:Nat},Step p (lx p l k).2/\(lx p l k).1<=k+l.length/\((lx p l k).2.e≠0\/p.i<(lx p l k).2.i)
 |[],k=>⟨aG.r7 h,azF _,Or.inl (aG.oK axs)⟩
 |w::l,k=>by
  unfold lx;cases hi:p.is w with
  |true=>exact⟨aG.hY h (aG.hI hi),axt,Or.inr (aBS _)⟩
  |false=>
   have:=@aaI p h l (k+1);exact⟨this.1,axv,this.2.2⟩
theorem amO{p:aG}:∀{l:List ax} {k:Nat},(lx p l k).2.e=0->(lx p l k).2.i=p.i+1/\p.e=0/\1<=(lx p l k).1
 |[],k=>λh=>absurd h (aG.oK axs)
 |w::l,k=>by
  unfold lx;cases hi:p.is w with
  |true=>exact λh=>⟨rfl,h,Nat.succ_le_succ (azF _)⟩
  |false=>exact λh=>amO (l:=l) (k:=k+1) h
theorem Lx:xg oJ:=⟨azF _,dF.zero⟩
theorem aG.Ly{p:aG}(h:p.Ok):xg p.ei:=by
 unfold aG.ei;cases he:!decide (p.e=0)with
 |true=>exact Lx
 |false=>
  by_cases hi:p.i<p.l.length
  .rw[show(cond false oJ (p.l.getD p.i oJ))=p.l[p.i]from amM hi];grind[Ok.t]
  .rw[show(cond false oJ (p.l.getD p.i oJ))=oJ from getD_none axs];exact Lx
theorem aG.Cx{p:aG}{k:Int}(h:p.Ok):xg (p.jb k):=by
 grind[aG.jb,Lx,Ly]
theorem aG.aaJ{p:aG}{k:Int}(h:(p.ie k).e=0):(p.ie k).i=p.i+1/\p.e=0:=by
 unfold aG.ie at h⊢;cases hi:decide (p.ei.k=k)with
 |true=>rw[hi]at h;exact⟨rfl,h⟩
 |false=>grind[oK]
theorem aG.amP{p:aG}{s:ax}(h:(p.want s).e=0):(p.want s).i=p.i+1/\p.e=0:=by
 unfold aG.want at h⊢;cases hi:p.is s with
 |true=>rw[hi]at h;exact⟨rfl,h⟩
 |false=>grind[oK]
theorem Step.ch{p q:aG}(h:Step p q)(k:q.e=0):p.e=0:=by
 grind[e]
section
attribute [local irreducible] Int.decLt Int.decLe Int.instDecidableEq IntKind.wrap instDecidableEqList
def amQ(p:aG)(ws:List ax)(k:Nat):af:=cA [(0,.ptr 0 0),(7,.d (fF ws)),(8,.d (int (ws.map D.str).length)),(9,.d (int k))] [p.ob]
theorem amR(p:aG)(ws:List ax)(hp:p.Ok)(hw:ws.length<=1000):aM 53 [.ptr 0 0,.d (fF ws)] [p.ob] (.d (int ((lx p ws 0).1:Nat))) [(lx p ws 0).2.ob]:=by
 refine UP.fh ?_;refine bj ?_;refine⟨λn st=>∃k,k<=ws.length/\n=ws.length-k/\lx p (ws.drop k) k=lx p ws 0/\st=amQ p ws k,ws.length,⟨0,azF _,rfl,rfl,axr⟩,?_⟩;rintro _ _ ⟨k,au,rfl,bb,rfl⟩;refine bj ?_;first|refine eJ (λh1=> ?_) (λh1=> ?_)|((refine eE (λh1=> ?_) (λh1=> ?_))<;>(try simp only[azL]at h1))
 .have h2:k<ws.length:=by simp_all
  have a6:=aAI h2;have aE:(ws.map D.str).getD (Int.toNat (k:Int)) .dO=.str ws[k]:=getD_map _;conv=>whnf
  repeat ((first|refine e3 ?_|refine e2 ?_);conv=>whnf)
  refine⟨by simp<;>omega,?_⟩;simp only[aE];cases hi:p.is ws[k]with
  |true=>
   refine bj ?_;refine cj (mI hp hi) ?_;have aw:lx p ws 0=(k+1,p.next):=by grind[lx]
   rw[aw];exact⟨azK (b:=.d (int (IntKind.i64.wrap ((k:Int)+((1:Nat):Int))))) axr (congrArg (λk=>ag.d (int k)) (iC k 1 axs)),axr⟩
  |false=>
   refine bj ?_;refine cj (mJ hp hi) ?_;refine⟨ws.length-(k+1),axs,k+1,axs,rfl,by grind[lx],?_⟩;exact azK (b:=cA [(0,.ptr 0 0),(7,.d (fF ws)),(8,.d (int (ws.map D.str).length)),(9,.d (int (IntKind.i64.wrap ((k:Int)+((1:Nat):Int)))))] [p.ob]) axr (congrArg (λk=>cA [(0,.ptr 0 0),(7,.d (fF ws)),(8,.d (int (ws.map D.str).length)),(9,.d (int k))] [p.ob]) (iC k 1 axs))
 .have h2:k=ws.length:=by grind
  have aw:lx p ws 0=(0,p.fail 51):=by rw[<-bb,h2,List.drop_length];rfl
  rw[aw];refine bj ?_;refine cj (pN p 51 hp) ?_;exact⟨axr,axr⟩
end
def fM{α:Type}(f:α->Nat):List α->Nat
 |[]=>0
 |x::l=>200+f x+fM f l
theorem qM{α:Type}{f:α->Nat}:∀(l m:List α),fM f (l++m)=fM f l+fM f m
 |[],m=>by grind[fM]
 |x::l,m=>by show 200+f x+fM f (l++m)=(200+f x+fM f l)+fM f m;rw[qM l m];omega
def fH(l:List ax):Nat:=fM List.length l
section
attribute [local irreducible] Int.decLt Int.decLe Int.instDecidableEq IntKind.wrap instDecidableEqList
def Lz(q:aG)(x:List ax):aV:=[q.ob,.box [.own 1 (x.map .str)],.box [.ptr 0 0]]
theorem aG.amS{p:aG}{k:Int}(hp:p.Ok)(au:k≠0):Step p (p.ie k)/\(p.jb k).t.length<=16384/\dF (p.jb k).n/\((p.ie k).e=0->(p.ie k).i=p.i+1):=⟨aG.aaH hp au,(aG.Cx hp).1,(aG.Cx hp).2,λh=>(aG.aaJ h).1⟩
theorem aaK(p:aG)(x:List ax)(hp:p.Ok)(ak:x.length<=2147483648):∃(q:aG) (t:ax),Step p q/\t.length<=16384/\(q.e=0->q.i=p.i+1)/\aM 159 [.ptr 0 0,.ptr 1 0] [.box [.own 1 (x.map .str)],.box [.ptr 2 0],p.ob] (.tuple []) [.box [.own 1 ((x++[t]).map .str)],.box [.ptr 2 0],q.ob]:=by
 have hw:=aG.amS (k:=1) hp axs;refine⟨p.ie 1,(p.jb 1).t,hw.1,hw.2.1,hw.2.2.2,?_⟩;have aj:=nW p hp;generalize p.ie 1=q at aj⊢;generalize (p.jb 1).t=t at aj⊢;refine Y1.fh ?_;conv=>whnf
 repeat ((first|refine e3 ?_|refine e2 ?_);conv=>whnf)
 refine Kb (aj) axr axr ?_;conv=>whnf
 repeat ((first|refine e3 ?_|refine e2 ?_);conv=>whnf)
 refine⟨by simp<;>omega,?_⟩;refine bj ?_;refine⟨axt,?_⟩;rw[az5];kernel_rfl
theorem amT(p:aG)(hp:p.Ok):∃r s',(∃(q:aG) (x:List ax),Step p q/\x.length<=q.i+1/\(q.e=0->fH x+20000*p.i<=20000*q.i)/\r=.tuple []/\s'=Lz q x)/\aM 94 [.ptr 0 0,.func 159 [] [.ptr 1 0,.ptr 2 0]] (Lz p []) r s':=by
 have aH:=hp.l;refine FU _ u7 ?_;refine bj ?_;refine az1 (aaK p [] hp axt) (λq h=>az1 h (λx h=> ?_));have ev:=h.1;have qt:=h.2.1;have lP:=h.2.2.1;refine cj (h.2.2.2) ?_;refine⟨λn st=>∃(q:aG) (x:List ax),Step p q/\x.length<=q.i+1/\(q.e=0->fH x+20000*p.i<=20000*q.i)/\n=q.l.length-q.i/\st=cA [(0,.ptr 0 0),(1,.func 159 [] [.ptr 1 0,.ptr 2 0])] (Lz q x),q.l.length-q.i,⟨q,[x],ev,axt,λhe=>by show 200+x.length+0+_<=_;omega,rfl,axr⟩,?_⟩;rintro _ _ ⟨q,x,hs,ak,hw,rfl,rfl⟩;refine bj ?_;have h2:=hs.ok.i;have av:=hs.ok.l;cases hi:q.is [44]with
 |true=>
  have dM:=aG.r8 (aG.hI hi);have az:=aG.hY hs.ok (aG.hI hi);refine cj (mI hs.ok hi) ?_;refine az1 (aaK q.next x az.ok axs) (λq' h=>az1 h (λbx h=> ?_));have ev:=h.1;have qt:=h.2.1;have lP:=h.2.2.1;have ql:=ev.i;have o8:=ev.l;have uS:q.next.i=q.i+1:=rfl;have s4:q.next.l=q.l:=rfl;refine cj (h.2.2.2) ?_;refine⟨q'.l.length-q'.i,axv,q',x++[bx],(hs.trans az).trans ev,axv,λhe=> ?_,rfl,axr⟩;have w1:=lP he;have bS:=hw (az.ch (ev.ch he));unfold fH at bS⊢;rw[qM];show _+(200+bx.length+0)+_<=_;omega
 |false=>
  refine cj (mJ hs.ok hi) ?_;exact⟨q,x,hs,ak,hw,axt,axr⟩
theorem aaL(p:aG)(hp:p.Ok):∃(q:aG) (x:List ax),(Step p q/\(q.e=0->fH x+20000*p.i<=20000*q.i))/\aM 102 [.ptr 0 0] [p.ob] (.d (fF x)) [q.ob]:=by
 suffices h:∃r s',(∃(q:aG) (x:List ax),Step p q/\(q.e=0->fH x+20000*p.i<=20000*q.i)/\r=.d (fF x)/\s'=[q.ob])/\aM 102 [.ptr 0 0] [p.ob] r s' by
  grind
 obtain⟨_,_,⟨q,x,h1,h2,aZ,rfl,rfl⟩,av⟩:=amT p hp;refine FU _ Yz ?_;refine bj ?_;refine cj (av) ?_;exact⟨q,x,h1,aZ,axr,axr⟩
end
inductive aA where
 |mk (k:Int) (n:ax) (gx vi:Int) (eK op:ax) (l:List aA)
def aA.k:aA->Int|.mk k _ _ _ _ _ _=>k
def aA.n:aA->ax|.mk _ n _ _ _ _ _=>n
def aA.gx:aA->Int|.mk _ _ k _ _ _ _=>k
def aA.vi:aA->Int|.mk _ _ _ i _ _ _=>i
def aA.eK:aA->ax|.mk _ _ _ _ t _ _=>t
def aA.op:aA->ax|.mk _ _ _ _ _ o _=>o
def aA.l:aA->List aA|.mk _ _ _ _ _ _ l=>l
mutual
def aA.d:aA->D
 |.mk k n gx vi eK op l=>.agg [int k,.str n,int gx,int vi,.str eK,.str op,.list 7 (aA.ds l)]
def aA.ds:List aA->List D
 |[]=>[]
 |x::l=>x.d::aA.ds l
end
def aA.cells(x:aA):List D:=[int x.k,.str x.n,int x.gx,int x.vi,.str x.eK,.str x.op,.list 7 (aA.ds x.l)]
theorem aA.mK(x:aA):x.d=.agg x.cells:=ayi
theorem aA.Cy:∀(l m:List aA),aA.ds (l++m)=aA.ds l++aA.ds m
 |[],m=>rfl
 |x::l,m=>by show x.d::aA.ds (l++m)=x.d::(aA.ds l++aA.ds m);rw[aA.Cy l m]
theorem aA.tK:∀(l:List aA),(aA.ds l).length=l.length
 |[]=>rfl
 |x::l=>by show(aA.ds l).length+1=l.length+1;rw[aA.tK l]
mutual
def aA.w:aA->Nat
 |.mk _ n _ _ eK op l=>200+n.length+eK.length+op.length+aA.ws l
def aA.ws:List aA->Nat
 |[]=>0
 |x::l=>x.w+aA.ws l
end
mutual
def aA.good:aA->Prop
 |.mk _ _ _ vi _ _ l=>dF vi/\aA.mL l
def aA.mL:List aA->Prop
 |[]=>True
 |x::l=>x.good/\aA.mL l
end
theorem aA.xi:∀(l m:List aA),aA.ws (l++m)=aA.ws l+aA.ws m
 |[],m=>by grind[aA.ws]
 |x::l,m=>by show x.w+aA.ws (l++m)=(x.w+aA.ws l)+aA.ws m;rw[aA.xi l m];omega
theorem aA.LA:∀{l m:List aA},aA.mL l->aA.mL m->aA.mL (l++m)
 |[],m,_,h=>h
 |x::l,m,h,k=>⟨h.1,aA.LA h.2 k⟩
def kY:aA:=.mk 0 [] 0 0 [] [] []
theorem r9:kY.good:=⟨dF.zero,trivial⟩
inductive bk where
 |mk (k:Int) (n:ax) (l:List bk) (c:aA) (ns:List ax) (xs:List aA) (on:List (ax×ax)) (ah:List (ax×ax×ax)) (ob:List (ax×Bool)) (cC:Int)
def bk.k:bk->Int|.mk k _ _ _ _ _ _ _ _ _=>k
def bk.n:bk->ax|.mk _ n _ _ _ _ _ _ _ _=>n
def bk.l:bk->List bk|.mk _ _ l _ _ _ _ _ _ _=>l
def bk.c:bk->aA|.mk _ _ _ c _ _ _ _ _ _=>c
def bk.ns:bk->List ax|.mk _ _ _ _ ns _ _ _ _ _=>ns
def bk.xs:bk->List aA|.mk _ _ _ _ _ xs _ _ _ _=>xs
def bk.on:bk->List (ax×ax)|.mk _ _ _ _ _ _ on _ _ _=>on
def bk.ah:bk->List (ax×ax×ax)|.mk _ _ _ _ _ _ _ ah _ _=>ah
def bk.ob:bk->List (ax×Bool)|.mk _ _ _ _ _ _ _ _ ob _=>ob
def bk.cC:bk->Int|.mk _ _ _ _ _ _ _ _ _ cC=>cC
def fy(x:ax×ax):D:=.agg [.str x.1,.str x.2]
def eL(x:ax×ax×ax):D:=.agg [.str x.1,.str x.2.1,.str x.2.2]
def fA(x:ax×Bool):D:=.agg [.str x.1,.bool x.2]
mutual
def bk.d:bk->D
 |.mk k n l c ns xs on ah ob cC=>.agg [int k,.str n,.list 16 (bk.ds l),int c.k,.str c.n,int c.gx,int c.vi,.str c.eK,.str c.op,.list 7 (aA.ds c.l),fF ns,.list 7 (aA.ds xs),.list 2 (on.map fy),.list 3 (ah.map eL),.list 2 (ob.map fA),int cC]
def bk.ds:List bk->List D
 |[]=>[]
 |x::l=>x.d::bk.ds l
end
def bk.cells(p:bk):List D:=[int p.k,.str p.n,.list 16 (bk.ds p.l),int p.c.k,.str p.c.n,int p.c.gx,int p.c.vi,.str p.c.eK,.str p.c.op,.list 7 (aA.ds p.c.l),fF p.ns,.list 7 (aA.ds p.xs),.list 2 (p.on.map fy),.list 3 (p.ah.map eL),.list 2 (p.ob.map fA),int p.cC]
theorem bk.mK(x:bk):x.d=.agg x.cells:=ayi
theorem bk.Cy:∀(l m:List bk),bk.ds (l++m)=bk.ds l++bk.ds m
 |[],m=>rfl
 |x::l,m=>by show x.d::bk.ds (l++m)=x.d::(bk.ds l++bk.ds m);rw[bk.Cy l m]
theorem bk.tK:∀(l:List bk),(bk.ds l).length=l.length
 |[]=>rfl
 |x::l=>by show(bk.ds l).length+1=l.length+1;rw[bk.tK l]
def j6(l:List (ax×ax)):Nat:=fM (λx=>x.1.length+x.2.length) l
def j7(l:List (ax×ax×ax)):Nat:=fM (λx=>x.1.length+x.2.1.length+x.2.2.length) l
def j8(l:List (ax×Bool)):Nat:=fM (λx=>x.1.length) l
mutual
def bk.w:bk->Nat
 |.mk _ n l c ns xs on ah ob _=>500+n.length+bk.ws l+c.w+fH ns+aA.ws xs+j6 on+j7 ah+j8 ob
def bk.ws:List bk->Nat
 |[]=>0
 |x::l=>x.w+bk.ws l
end
mutual
def bk.good:bk->Prop
 |.mk _ _ l c _ xs _ _ _ cC=>dF cC/\c.good/\aA.mL xs/\bk.mL l
def bk.mL:List bk->Prop
 |[]=>True
 |x::l=>x.good/\bk.mL l
end
def r':bk:=.mk 0 [] [] kY [] [] [] [] [] 0
theorem Cz:r'.good:=⟨dF.zero,r9,trivial,trivial⟩
structure gG(p q:aG)(x:aA):Prop where
 s:Step p q
 g:x.good
 w:q.e=0->x.w+20000*p.i<=20000*q.i
def hJ(f d:Nat):Prop:=∀p:aG,p.Ok->p.dR=d->∃(q:aG) (x:aA),gG p q x/\aM f [.ptr 0 0] [p.ob] (.d (.agg x.cells)) [q.ob]
theorem CA{f:Nat}{args:List ag}{s:aV}{p:aG}{cO:aX}(h:a7 a1.prog f cO)(aw:lH (fK a1.prog gl) gl cO args s λr s'=>∃(q:aG) (x:aA),gG p q x/\r=.d (.agg x.cells)/\s'=[q.ob]):
  ∃(q:aG) (x:aA),gG p q x/\aM f args s (.d (.agg x.cells)) [q.ob]:=by
 grind[FU]
section
attribute [local irreducible] Int.decLt Int.decLe Int.instDecidableEq IntKind.wrap instDecidableEqList
theorem LB(op:ax)(x:aA):aM 300 [.d (.str op),.d (.agg x.cells)] [] (.d (.agg (aA.mk 3 [] 0 0 [] op [x]).cells)) []:=by
 refine XT.fh ?_;refine bj ?_;refine⟨azK (b:=.d (.agg [int 3,.str [],int 0,int 0,.str [],.str op,.list 7 [.agg x.cells]])) axr ?_,axr⟩;rw[<-aA.mK];rfl
theorem aaM(op:ax)(x y:aA):aM 288 [.d (.str op),.d (.agg x.cells),.d (.agg y.cells)] [] (.d (.agg (aA.mk 4 [] 0 0 [] op [x,y]).cells)) []:=by
 refine XL.fh ?_;refine bj ?_;refine⟨azK (b:=.d (.agg [int 4,.str [],int 0,int 0,.str [],.str op,.list 7 [.agg x.cells,.agg y.cells]])) axr ?_,axr⟩;rw[<-aA.mK,<-aA.mK];rfl
theorem amU(n:ax):aM 309 [.d (.str n)] [] (.d (.agg (aA.mk 1 n 0 0 [] [] []).cells)) []:=by
 refine Zw.fh ?_;refine bj ?_;exact⟨axr,axr⟩
theorem FV(k i:Int)(t:ax):aM 307 [.d (.agg [int k,int i,.str t])] [] (.d (.agg (aA.mk 2 [] k i t [] []).cells)) []:=by
 refine Ur.fh ?_;refine bj ?_;exact⟨axr,axr⟩
def oL(p:aG):List ax->Nat->Int×aG
 |[],_=>(-1,p)
 |w::l,k=>cond (p.is w) ((k:Int),p.next) (oL p l (k+1))
theorem LD(p:aG):∀(l:List ax) (k:Nat),oL p l k=(-1,p)\/∃j,k<=j/\j<k+l.length/\oL p l k=((j:Int),p.next)/\p.ei.k≠0
 |[],k=>.inl rfl
 |w::l,k=>by
  unfold oL;cases hi:p.is w with
  |true=>exact .inr ⟨k,azI _,axt,rfl,aG.hI hi⟩
  |false=>
   rcases LD p l (k+1)with h|⟨j,h1,h2,av,aZ⟩
   .exact .inl h
   .exact .inr ⟨j,axs,by simp only[az0];omega,av,aZ⟩
def amV(p:aG)(ws:List ax)(k:Nat):af:=cA [(0,.d (fF ws)),(1,.func 92 [.ptr 0 0] []),(7,.d (int (ws.map D.str).length)),(8,.d (int k))] [p.ob]
theorem aaN(p:aG)(ws:List ax)(hp:p.Ok)(hw:ws.length<=1000):aM 160 [.d (fF ws),.func 92 [.ptr 0 0] []] [p.ob] (.d (int (oL p ws 0).1)) [(oL p ws 0).2.ob]:=by
 refine KN.fh ?_;refine bj ?_;refine⟨λn st=>∃k,k<=ws.length/\n=ws.length-k/\oL p (ws.drop k) k=oL p ws 0/\st=amV p ws k,ws.length,⟨0,azF _,rfl,rfl,axr⟩,?_⟩;rintro _ _ ⟨k,au,rfl,bb,rfl⟩;refine bj ?_;first|refine eJ (λh1=> ?_) (λh1=> ?_)|((refine eE (λh1=> ?_) (λh1=> ?_))<;>(try simp only[azL]at h1))
 .have h2:k<ws.length:=by simp_all
  have a6:=aAI h2;have aE:(ws.map D.str).getD (Int.toNat (k:Int)) .dO=.str ws[k]:=getD_map _;conv=>whnf
  repeat ((first|refine e3 ?_|refine e2 ?_);conv=>whnf)
  refine⟨by simp<;>omega,?_⟩;simp only[aE];cases hi:p.is ws[k]with
  |true=>
   refine bj ?_;refine cj (mI hp hi) ?_;have aw:oL p ws 0=((k:Int),p.next):=by grind[oL]
   rw[aw];exact⟨axr,axr⟩
  |false=>
   refine bj ?_;refine cj (mJ hp hi) ?_;refine⟨ws.length-(k+1),axs,k+1,axs,rfl,by grind[oL],?_⟩;exact azK (b:=cA [(0,.d (fF ws)),(1,.func 92 [.ptr 0 0] []),(7,.d (int (ws.map D.str).length)),(8,.d (int (IntKind.i64.wrap ((k:Int)+((1:Nat):Int)))))] [p.ob]) axr (congrArg (λk=>cA [(0,.d (fF ws)),(1,.func 92 [.ptr 0 0] []),(7,.d (int (ws.map D.str).length)),(8,.d (int k))] [p.ob]) (iC k 1 axs))
 .have h2:k=ws.length:=by grind
  have aw:oL p ws 0=(-1,p):=by rw[<-bb,h2,List.drop_length];rfl
  rw[aw];refine bj ?_;exact⟨axr,axr⟩
end
def aG.dep(p:aG)(d:Nat):aG:=⟨p.l,p.T,p.i,p.n,d,p.e,p.a⟩
theorem aG.sa{p:aG}{d:Nat}(h:p.Ok)(a6:d<=32):(p.dep d).Ok:=⟨h.i,h.l,a6,h.t,h.T⟩
theorem gG.fail{p:aG}(h:p.Ok){e:Int}(he:e≠0):gG p (p.fail e) kY:=⟨aG.r7 h,r9,λk=>absurd k (aG.oK he)⟩
section
attribute [local irreducible] Int.decLt Int.decLe Int.instDecidableEq IntKind.wrap instDecidableEqList
theorem aaO{p:aG}(h:p.dR<32):IntKind.i64.wrap ((p.dR:Int)+((1:Nat):Int))=((p.dR+1:Nat):Int):=iC p.dR 1 axs
theorem aaP{d:Nat}(h:d<32):IntKind.i64.wrap (((d+1:Nat):Int)-((1:Nat):Int))=(d:Int):=by
 rw[show((d+1:Nat):Int)-((1:Nat):Int)=((d:Nat):Int)by omega];have:=iC d 0 axs;simp_all
theorem CB{f d:Nat}(bm:d<32->hJ f (d+1))(p:aG)(hp:p.Ok)(a6:p.dR=d):
  ∃(q:aG) (x:aA),gG p q x/\aM 224 [.ptr 0 0,.func f [.ptr 0 0] []] [p.ob] (.d (.agg x.cells)) [q.ob]:=by
 by_cases LF:p.dR=32
 .refine⟨p.fail 52,kY,gG.fail hp axs,?_⟩;have aj:=pN p 52 hp;have h1:decide ((p.dR:Int)=32)=true:=azO axs;refine Ck.fh ?_;refine bj ?_;refine cj (aj) ?_;exact⟨axr,axr⟩
 .have aH:=hp.d;have aB:d<32:=axs;have h1:decide ((p.dR:Int)=32)=false:=aAg axs;obtain⟨q,x,ak,hv⟩:=bm aB (p.dep (d+1)) (aG.sa hp axs) rfl;have xj:q.dR=d+1:=ak.s.d;refine⟨q.dep d,x,⟨⟨aG.sa ak.s.ok axs,ak.s.l,ak.s.n,a6.symm,ak.s.i,ak.s.e⟩,ak.g,ak.w⟩,?_⟩;have A1:aM f [.ptr 0 0] [.box [.d p.T,.d (int p.i),.d (int p.n),.d (int (IntKind.i64.wrap ((p.dR:Int)+((1:Nat):Int)))),.d (int p.e),.d (int p.a)]] (.d (.agg x.cells)) [q.ob]:=by
   rw[aaO axs,a6];exact hv
  refine Ck.fh ?_;refine bj ?_;refine cj (A1) ?_;refine⟨axr,?_⟩;refine azK (b:=[.box [.d q.T,.d (int q.i),.d (int q.n),.d (int (IntKind.i64.wrap ((q.dR:Int)-((1:Nat):Int)))),.d (int q.e),.d (int q.a)]]) axr ?_;rw[xj,aaP aB];rfl
theorem amW{f d:Nat}(bm:d<32->∀p:aG,p.Ok->p.dR=d+1->∃(q:aG) (x:aA),gG p q x/\aM f [.ptr 0 0] [.box [.ptr 1 0],p.ob] (.d (.agg x.cells)) [.box [.ptr 1 0],q.ob])(p:aG)(hp:p.Ok)(a6:p.dR=d):
  ∃(q:aG) (x:aA),gG p q x/\aM 224 [.ptr 0 0,.func f [] [.ptr 1 0]] [p.ob,.box [.ptr 0 0]] (.d (.agg x.cells)) [q.ob,.box [.ptr 0 0]]:=by
 by_cases LF:p.dR=32
 .refine⟨p.fail 52,kY,gG.fail hp axs,?_⟩;have aj:=pN p 52 hp;have h1:decide ((p.dR:Int)=32)=true:=azO axs;refine Ck.fh ?_;refine bj ?_;refine cj (aj) ?_;exact⟨axr,axr⟩
 .have aH:=hp.d;have aB:d<32:=axs;have h1:decide ((p.dR:Int)=32)=false:=aAg axs;obtain⟨q,x,ak,hv⟩:=bm aB (p.dep (d+1)) (aG.sa hp axs) rfl;have xj:q.dR=d+1:=ak.s.d;refine⟨q.dep d,x,⟨⟨aG.sa ak.s.ok axs,ak.s.l,ak.s.n,a6.symm,ak.s.i,ak.s.e⟩,ak.g,ak.w⟩,?_⟩;have A1:aM f [.ptr 0 0] [.box [.ptr 1 0],.box [.d p.T,.d (int p.i),.d (int p.n),.d (int (IntKind.i64.wrap ((p.dR:Int)+((1:Nat):Int)))),.d (int p.e),.d (int p.a)]] (.d (.agg x.cells)) [.box [.ptr 1 0],q.ob]:=by
   rw[aaO axs,a6];exact hv
  refine Ck.fh ?_;refine bj ?_;refine cj (A1) ?_;refine⟨axr,?_⟩;refine azK (b:=[.box [.d q.T,.d (int q.i),.d (int q.n),.d (int (IntKind.i64.wrap ((q.dR:Int)-((1:Nat):Int)))),.d (int q.e),.d (int q.a)],.box [.ptr 0 0]]) axr ?_;rw[xj,aaP aB];rfl
def amX(f:Nat)(ops:List ax)(q:aG)(x:aA):af:=pD [(0,.ptr 0 0),(1,.func f [.ptr 0 0] []),(2,.d (fF ops)),(6,.dT 6 0),(7,.dT 7 0)]
 [(6,[.d (int 0),.d (.str []),.d (int 0),.d (int 0),.d (.str []),.d (.str []),.own 7 []]),(7,x.cells.map .d)] [q.ob]
theorem gG.bin{p q r s:aG}{x y:aA}{op:ax}(h:gG p q x)(az:Step q r)(hi:r.i=q.i+1)(k:gG r s y)(bb:op.length<=8):gG p s (.mk 4 [] 0 0 [] op [x,y]):=by
 refine⟨(h.s.trans az).trans k.s,⟨dF.zero,h.g,k.g,trivial⟩,λhe=> ?_⟩;have h1:=k.w he;have h2:=h.w (az.ch (k.s.ch he));show 200+0+0+op.length+(x.w+(y.w+0))+_<=_;omega
theorem FW{f d:Nat}(bm:hJ f d){ops:List ax}(aH:ops.length<=8)(bb:∀o∈ops,o.length<=8)(p:aG)(hp:p.Ok)(a6:p.dR=d):
  ∃(q:aG) (x:aA),gG p q x/\aM 263 [.ptr 0 0,.func f [.ptr 0 0] [],.d (fF ops)] [p.ob] (.d (.agg x.cells)) [q.ob]:=by
 refine CA VQ ?_;refine bj ?_;refine az1 (bm p hp a6) (λq h=>az1 h (λx h=> ?_));refine cj (h.2) ?_;refine⟨λn st=>∃(q:aG) (x:aA),gG p q x/\n=q.l.length-q.i/\st=amX f ops q x,q.l.length-q.i,⟨q,x,h.1,rfl,axr⟩,?_⟩;rintro _ _ ⟨q,x,ak,rfl,rfl⟩;have aT:=ak.s.ok;refine bj ?_;refine cj (aaN q ops aT axs) ?_;refine aAV (LD q ops 0) (λay=> ?_) (λay=>az1 ay (λj ay=> ?_))
 .have hm:decide ((-1:Int)<0)=true:=azO axs;simp only[ay];refine bj ?_;exact⟨q,x,ak,axr,axr⟩
 .have aL:j<ops.length:=by omega
  have az:=aG.hY aT ay.2.2.2;have dM:=aG.r8 ay.2.2.2;have aE:(ops.map D.str).getD (Int.toNat (j:Int)) .dO=.str ops[j]:=getD_map _;have amY:decide ((j:Int)<0)=false:=aAg axs;simp only[ay.2.2.1];conv=>whnf
  repeat ((first|refine e3 ?_|refine e2 ?_);conv=>whnf)
  refine⟨axu,?_⟩;simp only[aE];refine bj ?_;refine az1 (bm q.next az.ok (by rw[az.d,ak.s.d];omega)) (λr h=>az1 h (λy h=> ?_));refine cj (h.2) ?_;refine cj (aaM ops[j] x y) ?_;refine⟨r.l.length-r.i,?_,r,_,ak.bin az rfl h.1 (bb _ (azT aL)),rfl,axr⟩;have h1:=h.1.s.i;rw[h.1.s.l,az.l];have:q.next.i=q.i+1:=rfl;omega
end
theorem wrap_i64(n:Int):dF (IntKind.i64.wrap n):=by
 unfold dF IntKind.wrap;simp only[IntKind.bits,IntKind.signed,aBy,azN];have h1:(0:Int)<=n%2^64:=Int.emod_nonneg _ axw;have h2:n%2^64<2^64:=Int.emod_lt_of_pos _ axw;split<;>(grind)
theorem gG.un{p q r:aG}{x:aA}{op:ax}(az:Step p q)(hi:q.i=p.i+1)(k:gG q r x)(bb:op.length<=8):gG p r (.mk 3 [] 0 0 [] op [x]):=by
 refine⟨az.trans k.s,⟨dF.zero,k.g,trivial⟩,λhe=> ?_⟩;have h1:=k.w he;show 200+0+0+op.length+(x.w+0)+_<=_;omega
theorem gG.const{p q:aG}{k i:Int}{t:ax}(az:Step p q)(hi:q.i=p.i+1)(h:dF i)(aC:t.length<=16384):gG p q (.mk 2 [] k i t [] []):=by
 refine⟨az,⟨h,trivial⟩,λhe=> ?_⟩;show 200+0+t.length+0+0+_<=_;omega
theorem gG.after{p q r:aG}{x:aA}(h:Step p q)(k:gG q r x):gG p r x:=by
 refine⟨h.trans k.s,k.g,λhe=> ?_⟩;have h1:=k.w he;have h2:=h.i;omega
theorem gG.then{p q r:aG}{x:aA}(k:gG p q x)(h:Step q r):gG p r x:=by
 refine⟨k.s.trans h,k.g,λhe=> ?_⟩;have h1:=k.w (h.ch he);have h2:=h.i;omega
theorem Step.avQ{p:aG}(hp:p.Ok)(h:p.ei.k≠0)(h2:p.next.ei.k≠0):Step p p.next.next:=(aG.hY hp h).trans (aG.hY (aG.hY hp h).ok h2)
section
attribute [local irreducible] Int.decLt Int.decLe Int.instDecidableEq IntKind.wrap instDecidableEqList
theorem aaQ{d:Nat}(h:hJ 289 d):hJ 264 d:=by
 intro p hp a6;obtain⟨q,x,h1,h2⟩:=FW h (ops:=[[97,110,100]]) axt axt p hp a6;refine⟨q,x,h1,?_⟩;refine VS.fh ?_;refine bj ?_;refine cj (h2) ?_;exact⟨axr,axr⟩
theorem aaR{d:Nat}(h:hJ 264 d):hJ 225 d:=by
 intro p hp a6;obtain⟨q,x,h1,h2⟩:=FW h (ops:=[[111,114]]) axt axt p hp a6;refine⟨q,x,h1,?_⟩;refine Xu.fh ?_;refine bj ?_;refine cj (h2) ?_;exact⟨axr,axr⟩
theorem aaS{d:Nat}(h:hJ 304 d):hJ 303 d:=by
 intro p hp a6;obtain⟨q,x,h1,h2⟩:=FW h (ops:=[[43],[45]]) axt axt p hp a6;refine⟨q,x,h1,?_⟩;refine V7.fh ?_;refine bj ?_;refine cj (h2) ?_;exact⟨axr,axr⟩
theorem aaT{d:Nat}(h:hJ 305 d):hJ 304 d:=by
 intro p hp a6;obtain⟨q,x,h1,h2⟩:=FW h (ops:=[[42],[47],[37]]) axt axt p hp a6;refine⟨q,x,h1,?_⟩;refine XV.fh ?_;refine bj ?_;refine cj (h2) ?_;exact⟨axr,axr⟩
theorem aaU{d:Nat}(h:hJ 301 d)(FX:d<32->hJ 289 (d+1)):hJ 289 d:=by
 intro p hp a6;refine CA Up ?_;refine bj ?_;cases hi:p.is [110,111,116]with
 |true=>
  have az:=aG.hY hp (aG.hI hi);refine cj (mI hp hi) ?_;refine az1 (CB FX p.next az.ok ays) (λq h=>az1 h (λx h=> ?_));refine cj (h.2) ?_;refine cj (LB [110,111,116] x) ?_;exact⟨q,_,.un az rfl h.1 (show([110,111,116]:ax).length<=8 by simp),axr,axr⟩
 |false=>
  refine cj (mJ hp hi) ?_;refine az1 (h p hp a6) (λq h=>az1 h (λx h=> ?_));refine cj (h.2) ?_;exact⟨q,x,h.1,axr,axr⟩
theorem aaV{d:Nat}(hs:hJ 303 d):hJ 301 d:=by
 intro p hp a6;refine CA V5 ?_;refine bj ?_;refine az1 (hs p hp a6) (λq h=>az1 h (λx h=> ?_));refine cj (h.2) ?_;have aT:=h.1.s.ok;have aj:=aaN q [[61],[33,61],[60],[60,61],[62],[62,61]] aT axt;have gQ:=LD q [[61],[33,61],[60],[60,61],[62],[62,61]] 0;generalize oL q [[61],[33,61],[60],[60,61],[62],[62,61]] 0=y at aj gQ;refine aAV gQ (λay=> ?_) (λay=>az1 ay (λj ay=> ?_))
 .have hm:decide ((0:Int)<= -1)=false:=aAg axs;rw[ay]at aj;refine cj (aj) ?_;exact⟨q,x,h.1,axr,axr⟩
 .have aL:j<[[61],[33,61],[60],[60,61],[62],([62,61]:ax)].length:=by omega
  have az:=aG.hY aT ay.2.2.2;have aE:[D.str [61],.str [33,61],.str [60],.str [60,61],.str [62],.str [62,61]].getD (Int.toNat (j:Int)) .dO=.str [[61],[33,61],[60],[60,61],[62],([62,61]:ax)][j]:=getD_map (l:=[[61],[33,61],[60],[60,61],[62],([62,61]:ax)]) (f:=D.str) aL;have bu:[[61],[33,61],[60],[60,61],[62],([62,61]:ax)][j].length<=8:=by
   have:=azT aL;simp only[azY,aBM,aAR]at this;grind
  revert bu aE
  generalize [[61],[33,61],[60],[60,61],[62],([62,61]:ax)][j]=op;intro aE bu;have amY:decide ((0:Int)<=(j:Int))=true:=azO axs;have aH:j<6:=aL;rw[ay.2.2.1]at aj;refine Kb (aj) axr axr ?_;conv=>whnf
  repeat ((first|refine e3 ?_|refine e2 ?_);conv=>whnf)
  refine⟨by simp<;>omega,?_⟩;simp only[aE];refine bj ?_;refine az1 (hs q.next az.ok (by rw[az.d,h.1.s.d];omega)) (λr h2=>az1 h2 (λz h2=> ?_));refine cj (h2.2) ?_;refine cj (aaM op x z) ?_;exact⟨r,_,h.1.bin az rfl h2.1 bu,axr,axr⟩
end
theorem amZ{a:Int}{n b:Nat}{c1 c2:Bool}(h:n+1<=b)(h1:c1=true)(h2:c2=true):(true&&true&&decide (a=a)&&Nat.ble (n+1) b&&c1&&c2)=true:=axu
theorem avR{p:aG}{k:Int}(h:p.ei.k=k)(au:k≠0):p.ei.k≠0:=axs
section
attribute [local irreducible] Int.decLt Int.decLe Int.instDecidableEq IntKind.wrap instDecidableEqList
theorem LG{p:aG}(hp:p.Ok):[b3.box [.d p.T,.d (int (IntKind.i64.wrap ((p.i:Int)+((1:Nat):Int)))),.d (int p.n),.d (int p.dR),.d (int p.e),.d (int p.a)]]=[p.next.ob]:=by
 have h1:=hp.i;have h2:=hp.l;rw[iC p.i 1 axs];rfl
theorem aaW{d:Nat}(h:hJ 306 d)(FX:d<32->hJ 305 (d+1)):hJ 305 d:=by
 intro p hp a6;refine CA V9 ?_;refine bj ?_;cases hi:p.is [45]with
 |false=>
  refine cj (mJ hp hi) ?_;refine az1 (h p hp a6) (λq h=>az1 h (λx h=> ?_));refine cj (h.2) ?_;exact⟨q,x,h.1,axr,axr⟩
 |true=>
  have az:=aG.hY hp (aG.hI hi);have aq:=LG az.ok;have aj:=zx p.next az.ok;have aE:=aG.Ly az.ok;have iA:p.next.ei.k≠0->Step p.next p.next.next:=aG.hY az.ok;refine cj (mI hp hi) ?_;revert aj aE iA;generalize p.next.ei=t;intro aj aE iA;refine cj (aj) ?_;cases h1:decide (t.k=2)with
  |true=>
   cases h2:decide (0<t.n)with
   |true=>
    have au:=of_decide_eq_true h1;have kn:=iA axs;refine bj ?_;refine cj (aaz (IntKind.i64.wrap (0-t.n))) ?_;refine cj (FV 1 (IntKind.i64.wrap (0-t.n)) []) ?_;refine⟨p.next.next,.mk 2 [] 1 (IntKind.i64.wrap (0-t.n)) [] [] [],.after az (.const kn rfl (wrap_i64 _) (show([]:ax).length<=16384 from azF _)),axr,?_⟩;exact azK axr aq
   |false=>
    refine bj ?_;refine az1 (CB FX p.next az.ok ays) (λq h=>az1 h (λx h=> ?_));refine cj (h.2) ?_;refine cj (LB [45] x) ?_;exact⟨q,_,.un az rfl h.1 (show([45]:ax).length<=8 by simp),axr,axr⟩
  |false=>
   refine bj ?_;refine az1 (CB FX p.next az.ok ays) (λq h=>az1 h (λx h=> ?_));refine cj (h.2) ?_;refine cj (LB [45] x) ?_;exact⟨q,_,.un az rfl h.1 (show([45]:ax).length<=8 by simp),axr,axr⟩
theorem am0{d:Nat}(h:hJ 225 (d+1))(p:aG)(hp:p.Ok)(a6:p.dR=d+1):∃(q:aG) (x:aA),gG p q x/\aM 308 [.ptr 0 0] [.box [.ptr 1 0],p.ob] (.d (.agg x.cells)) [.box [.ptr 1 0],q.ob]:=by
 have hw:=aG.zy (s:=[40]) hp;obtain⟨q,x,h1,h2⟩:=h (p.want [40]) hw.ok ays;have mo:=aG.zy (s:=[41]) h1.s.ok;have aj:=jL p [40] hp;have aD:=jL q [41] h1.s.ok;refine⟨q.want [41],x,(h1.after hw).then mo,?_⟩;refine XX.fh ?_;refine bj ?_;refine cj (aj) ?_;refine cj (h2) ?_;refine cj (aD) ?_;exact⟨axr,axr⟩
def LH(q:aG)(l:List aA):aV:=[q.ob,.box [.own 7 (aA.ds l)],.box [.ptr 0 0]]
theorem aaX{d:Nat}(h:d<32->hJ 225 (d+1))(p:aG)(l:List aA)(hp:p.Ok)(a6:p.dR=d)(ak:l.length<=2147483648):∃(q:aG) (x:aA),gG p q x/\aM 310 [.ptr 0 0,.ptr 1 0] [.box [.own 7 (aA.ds l)],.box [.ptr 2 0],p.ob] (.tuple []) [.box [.own 7 (aA.ds (l++[x]))],.box [.ptr 2 0],q.ob]:=by
 obtain⟨q,x,h1,h2⟩:=CB h p hp a6;refine⟨q,x,h1,?_⟩;have hlen:=aA.tK l;refine Zy.fh ?_;conv=>whnf
 repeat ((first|refine e3 ?_|refine e2 ?_);conv=>whnf)
 refine Kb (h2) axr axr ?_;conv=>whnf
 repeat ((first|refine e3 ?_|refine e2 ?_);conv=>whnf)
 refine⟨amZ axs axr axr,?_⟩;refine bj ?_;refine⟨axt,?_⟩;rw[aA.Cy,show aA.ds [x]=[.agg x.cells]from congrArg (λy=>[y]) (aA.mK x)];kernel_rfl
theorem am1{d:Nat}(h:d<32->hJ 225 (d+1))(p:aG)(hp:p.Ok)(a6:p.dR=d):∃r s',(∃(q:aG) (l:List aA),Step p q/\aA.mL l/\(q.e=0->aA.ws l+20000*p.i<=20000*q.i)/\r=.tuple []/\s'=LH q l)/\aM 94 [.ptr 0 0,.func 310 [] [.ptr 1 0,.ptr 2 0]] (LH p []) r s':=by
 have aH:=hp.l;refine FU _ u7 ?_;refine bj ?_;refine az1 (aaX h p [] hp a6 axt) (λq hh=>az1 hh (λx hh=> ?_));have ev:=hh.1;refine cj (hh.2) ?_;refine⟨λn st=>∃(q:aG) (l:List aA),Step p q/\l.length<=q.i+1/\aA.mL l/\(q.e=0->aA.ws l+20000*p.i<=20000*q.i)/\n=q.l.length-q.i/\st=cA [(0,.ptr 0 0),(1,.func 310 [] [.ptr 1 0,.ptr 2 0])] (LH q l),q.l.length-q.i,⟨q,[x],ev.s,axt,⟨ev.g,trivial⟩,λhe=>by have:=ev.w he;show x.w+0+_<=_;omega,rfl,axr⟩,?_⟩;rintro _ _ ⟨q,l,hs,ak,aE,hw,rfl,rfl⟩;refine bj ?_;have h2:=hs.ok.i;have av:=hs.ok.l;cases hi:q.is [44]with
 |true=>
  have dM:=aG.r8 (aG.hI hi);have az:=aG.hY hs.ok (aG.hI hi);refine cj (mI hs.ok hi) ?_;refine az1 (aaX h q.next l az.ok (by rw[az.d,hs.d];omega) axs) (λq' hh=>az1 hh (λbx hh=> ?_));have ev:=hh.1;have ql:=ev.s.i;have o8:=ev.s.l;have uS:q.next.i=q.i+1:=rfl;have s4:q.next.l=q.l:=rfl;refine cj (hh.2) ?_;refine⟨q'.l.length-q'.i,axv,q',l++[bx],(hs.trans az).trans ev.s,axv,aA.LA aE ⟨ev.g,trivial⟩,λhe=> ?_,rfl,axr⟩;have w1:=ev.w he;grind[aA.xi,aA.ws]
 |false=>
  refine cj (mJ hs.ok hi) ?_;exact⟨q,l,hs,aE,hw,axt,axr⟩
end
def LI:eG->eG
 |.seq a _=>a
 |c=>c
def zz:eG->eG
 |.seq _ b=>b
 |c=>c
def zA(f:Nat->ag):List (Nat×ag)->Nat->ag
 |[]=>f
 |(k,v)::l=>cW (zA f l) k v
def zB(f:Nat->Option (List ag)):List (Nat×List ag)->Nat->Option (List ag)
 |[]=>f
 |(k,v)::l=>cW (zB f l) k (some v)
theorem aaY{α:Type}{f:Nat->α}{k:Nat}{v:α}(h:f k=v):cW f k v=f:=by
 grind[cW,Nat.eq_of_beq_eq_true]
theorem aaZ{f:Nat->ag}:∀{l:List (Nat×ag)},(∀q∈l,f q.1=q.2)->zA f l=f
 |[],_=>rfl
 |(k,v)::l,h=>by
  unfold zA;rw[aaZ λq aT=>h q (aAG _ aT)];exact aaY (h (k,v) aAr)
theorem aa0{f:Nat->Option (List ag)}:∀{l:List (Nat×List ag)},(∀q∈l,f q.1=some q.2)->zB f l=f
 |[],_=>rfl
 |(k,v)::l,h=>by
  unfold zB;rw[aa0 λq aT=>h q (aAG _ aT)];exact aaY (h (k,v) aAr)
theorem cutAt{R:af->Prop}{st:af}(l:List (Nat×ag))(b:List (Nat×List ag))(s:aV)(h:∀f g,R ⟨zA f l,zB g b,s⟩)(h1:∀q∈l,st.aP q.1=q.2)(h2:∀q∈b,st.bI q.1=some q.2)(av:st.s=s):R st:=by
 have:=h st.aP st.bI;rw[aaZ h1,aa0 h2,<-av]at this;omega
def FY:eG:=zz (zz (zz u9.code))
def FZ:aX:=⟨.seq (LI u9.code) (.seq (LI (zz u9.code)) (.seq (LI (zz (zz u9.code))) FY)),u9.res⟩
theorem am2:a7 a1.prog 306 FZ:=by
 have h:FZ=u9:=axr;grind[V']
theorem LJ:∀b:Bool,b=true\/b=false
 |true=>.inl rfl
 |false=>.inr rfl
theorem gG.zero{p q:aG}(h:Step p q)(he:q.e≠0):gG p q kY:=⟨h,r9,λk=>absurd k he⟩
theorem gG.col{p q:aG}{t:ax}(az:Step p q)(hi:q.i=p.i+1)(aC:t.length<=16384):gG p q (.mk 1 t 0 0 [] [] []):=by
 refine⟨az,⟨dF.zero,trivial⟩,λhe=> ?_⟩;show 200+t.length+0+0+0+_<=_;omega
theorem aa1{α β Cj:Type}{f:α->β}{g h:α->Cj}:∀{l:List α},l.map g=l.map h->∀q∈l,g q=h q
 |[],_,q,aT=>axv
 |x::l,e,q,aT=>by
  simp only[aAh,List.cons.injEq]at e;rcases azY.1 aT with rfl|aT
  all_goals simp_all
theorem am3{R:af->Prop}{st:af}(l:List (Nat×ag))(b:List (Nat×List ag))(s:aV)(h:∀f g,R ⟨zA f l,zB g b,s⟩)(h1:l.map (λq=>st.aP q.1)=l.map (λq=>q.2))(h2:b.map (λq=>st.bI q.1)=b.map (λq=>some q.2))(av:st.s=s):R st:=
 cutAt l b s h (aa1 (f:=λ_=>()) h1) (aa1 (f:=λ_=>()) h2) av
def aa2(p:aG)(n:Nat)(res:List n9)(x:aJ.aA)(st:af):Prop:=match x with
 |.exit _=>False
 |_=>match qb st res with
  |some r=>dU depth r=true/\∃(q:aG) (x:aA),gG p q x/\r=.d (.agg x.cells)/\gc n r st.s=[q.ob]
  |none=>False
section
attribute [local irreducible] Int.decLt Int.decLe Int.instDecidableEq IntKind.wrap instDecidableEqList
theorem am4{d:Nat}(h:d<32->hJ 225 (d+1))(p:aG)(hp:p.Ok)(a6:p.dR=d)(t:Tok)(aE:xg t)(az:Step p p.next)(f:Nat->ag)(g:Nat->Option (List ag)):
  run (fK a1.prog gl) gl FY ⟨zA f [(1,.ptr 1 0),(2,.dT 2 0),(3,.dT 3 0)],zB g [(2,[.d (int 0),.d (.str []),.d (int 0),.d (int 0),.d (.str []),.d (.str []),.own 7 []]),(3,[.d (int t.k),.d (.str t.t),.d (int t.n),.d (int t.p)])],[p.ob,.box [.ptr 0 0]]⟩ (aa2 p 1 FZ.res):=by
 have aq:=LG hp;refine bj ?_;refine aAV (LJ (p.next.is [40])) (λay=> ?_) (λay=> ?_)
 .have kn:=aG.hY az.ok (aG.hI ay);have aW:=mI az.ok ay;rw[<-aq]at aW;refine cj (aW) ?_;refine az1 (am1 h p.next.next kn.ok (by rw[kn.d,az.d];omega)) (λr hh=>az1 hh (λs' hh=> ?_));refine az1 hh.1 (λq aT=>az1 aT (λl aT=> ?_));have hv:=hh.2;rw[aT.2.2.2.1,aT.2.2.2.2]at hv;refine cj (hv) ?_;have hw:=aG.zy (s:=[41]) aT.1.ok;refine cj (jL q [41] aT.1.ok) ?_;refine⟨q.want [41],.mk 5 t.t 0 0 [] [] l,⟨(az.trans kn).trans (aT.1.trans hw),⟨dF.zero,aT.2.1⟩,λhe=> ?_⟩,axr,axr⟩;have w1:=aT.2.2.1 (hw.ch he);have bS:=hw.i;have dZ:p.next.next.i=p.i+2:=rfl;have iP:=aE.1;show 200+t.t.length+0+0+aA.ws l+_<=_;omega
 .have aW:=mJ az.ok ay;rw[<-aq]at aW;refine cj (aW) ?_;refine cj (amU t.t) ?_;refine⟨p.next,.mk 1 t.t 0 0 [] [] [],.col az rfl aE.1,axr,?_⟩;exact azK axr aq
attribute [local irreducible] FY
theorem aa3{d:Nat}(h:d<32->hJ 225 (d+1)):hJ 306 d:=by
 intro p hp a6;refine CA am2 ?_;have aj:=zx p hp;have aq:=LG hp;have aE:=aG.Ly hp;have iA:p.ei.k≠0->Step p p.next:=aG.hY hp;revert aj aE iA;generalize p.ei=t;intro aj aE iA;refine bj ?_;refine cj (aj) ?_;first|refine eJ (λh1=> ?_) (λh1=> ?_)|((refine eE (λh1=> ?_) (λh1=> ?_))<;>(try simp only[azL]at h1))
 .have au:t.k=2:=by simp_all
  refine bj ?_;refine cj (aaz t.n) ?_;refine cj (FV 1 t.n []) ?_;refine⟨p.next,.mk 2 [] 1 t.n [] [] [],.const (iA axs) rfl aE.2 (azF _),axr,?_⟩;exact azK axr aq
 .refine bj ?_;first|refine eJ (λh2=> ?_) (λh2=> ?_)|((refine eE (λh2=> ?_) (λh2=> ?_))<;>(try simp only[azL]at h2))
  .have au:t.k=3:=by simp_all
   refine bj ?_;refine cj (Lq t.t) ?_;refine cj (FV 2 0 t.t) ?_;refine⟨p.next,.mk 2 [] 2 0 t.t [] [],.const (iA axs) rfl dF.zero aE.1,axr,?_⟩;exact azK axr aq
  .refine bj ?_;refine aAV (LJ (p.is [110,117,108,108])) (λhi=> ?_) (λhi=> ?_)
   .refine cj (mI hp hi) ?_;refine cj (Lr) ?_;refine cj (FV 0 0 []) ?_;exact⟨p.next,.mk 2 [] 0 0 [] [] [],.const (aG.hY hp (aG.hI hi)) rfl dF.zero (azF _),axr,axr⟩
   .refine cj (mJ hp hi) ?_;have aD:=Cw p [40] hp;refine aAV (LJ (p.is [40])) (λaL=> ?_) (λaL=> ?_)
    .rw[aL]at aD;refine cj (aD) ?_;refine az1 (amW (λaB=>am0 (h aB)) p hp a6) (λq hh=>az1 hh (λx hh=> ?_));refine cj (hh.2) ?_;exact⟨q,x,hh.1,axr,axr⟩
    .rw[aL]at aD;refine cj (aD) ?_;first|refine eJ (λav=> ?_) (λav=> ?_)|((refine eE (λav=> ?_) (λav=> ?_))<;>(try simp only[azL]at av))
     .refine bj ?_;refine cj (pN p 51 hp) ?_;exact⟨p.fail 51,kY,.zero (aG.r7 hp) (aG.oK axs),axr,axr⟩
     .have au:t.k=1:=by simp_all
      have az:=iA axs;refine bj ?_;first|refine eJ (λaZ=> ?_) (λaZ=> ?_)|((refine eE (λaZ=> ?_) (λaZ=> ?_))<;>(try simp only[azL]at aZ))
      .refine bj ?_;refine cj (pN p 51 hp) ?_;exact⟨p.fail 51,kY,.zero (aG.r7 hp) (aG.oK axs),axr,axr⟩
      .refine bj ?_;first|refine eJ (λbW=> ?_) (λbW=> ?_)|((refine eE (λbW=> ?_) (λbW=> ?_))<;>(try simp only[azL]at bW))
       .refine bj ?_;refine cj (pN p 51 hp) ?_;exact⟨p.fail 51,kY,.zero (aG.r7 hp) (aG.oK axs),axr,axr⟩
       .refine bj ?_;first|refine eJ (λdh=> ?_) (λdh=> ?_)|((refine eE (λdh=> ?_) (λdh=> ?_))<;>(try simp only[azL]at dh))
        .refine bj ?_;refine cj (pN p 51 hp) ?_;exact⟨p.fail 51,kY,.zero (aG.r7 hp) (aG.oK axs),axr,axr⟩
        .refine bj ?_;exact am3 (R:=λst=>run (fK a1.prog gl) gl FY st (aa2 p 1 FZ.res)) _ _ _ (am4 h p hp a6 t aE az) axr axr axr
end
theorem am5:∀(k d:Nat),32<=d+k->hJ 225 d/\hJ 289 d/\hJ 305 d:=by
 intro k;induction k with
 |zero=>
  grind[aaW,aa3,aaU,aaV,aaS,aaT,aaR,aaQ]
 |succ k ih=>
  intro d a6;have hi:=ih (d+1) axs;have hm:hJ 305 d:=aaW (aa3 λ_=>hi.1) λ_=>hi.2.2;have az:hJ 289 d:=aaU (aaV (aaS (aaT hm))) λ_=>hi.2.1;grind[aaR,aaQ]
theorem am6(d:Nat):hJ 225 d:=(am5 32 d axs).1
section
attribute [local irreducible] Int.decLt Int.decLe Int.instDecidableEq IntKind.wrap instDecidableEqList
theorem aa4(p:aG)(hp:p.Ok):∃(q:aG) (x:aA),gG p q x/\aM 190 [.ptr 0 0] [p.ob] (.d (.agg x.cells)) [q.ob]:=by
 obtain⟨q,x,h1,h2⟩:=CB (λ_=>am6 1) (p.dep 0) (aG.sa hp axs) rfl;refine⟨q.dep p.dR,x,⟨⟨aG.sa h1.s.ok hp.d,h1.s.l,h1.s.n,rfl,h1.s.i,h1.s.e⟩,h1.g,h1.w⟩,?_⟩;refine TW.fh ?_;refine bj ?_;refine cj (h2) ?_;exact⟨axr,axr⟩
end
structure gW(p q:aG)(n:Nat):Prop where
 s:Step p q
 a:q.e=0->p.i+n<=q.i
theorem gW.trans{p q r:aG}{n m:Nat}(h:gW p q n)(k:gW q r m):gW p r (n+m):=⟨h.s.trans k.s,λhe=>by have:=h.a (k.s.ch he);have:=k.a he;omega⟩
theorem gW.ok{p q:aG}{n:Nat}(h:gW p q n):q.Ok:=h.s.ok
theorem gW.of{p q:aG}(h:Step p q):gW p q 0:=⟨h,λ_=>by have:=h.i;omega⟩
theorem lZ{p:aG}{s:ax}(h:p.Ok):gW p (p.want s) 1:=⟨aG.zy h,λhe=>by have:=(aG.amP he).1;omega⟩
theorem nh{p:aG}{k:Int}(h:p.Ok)(au:k≠0):gW p (p.ie k) 1:=⟨aG.aaH h au,λhe=>by have:=(aG.aaJ he).1;omega⟩
theorem am7{p:aG}{s:ax}(h:p.Ok):gW p (p.maybe s) 0:=.of (aG.amN h)
theorem aG.oM{p:aG}{k:Int}(h:p.Ok):(p.jb k).t.length<=16384:=(aG.Cx h).1
theorem aa5{p:aG}{s:ax}(h:p.Ok)(hi:p.is s=true):gW p p.next 1:=⟨aG.hY h (aG.hI hi),λ_=>by show p.i+1<=p.i+1;omega⟩
theorem zC(p:aG)(ws:List ax)(hp:p.Ok)(hw:ws.length<=1000):∃(q:aG) (k:Nat),(gW p q 1/\k<=ws.length)/\aM 53 [.ptr 0 0,.d (fF ws)] [p.ob] (.d (int k)) [q.ob]:=by
 have h:=aaI hp (l:=ws) (k:=0);exact⟨_,_,⟨⟨h.1,λhe=>axs⟩,axs⟩,amR p ws hp hw⟩
structure l0 where
 k:Int
 n:ax
 gx:Int
 vi:Int
 eK:ax
 op:ax
 l:List D
structure ef where
 k:Int
 n:ax
 a:List D
 cN:Int
 lk:ax
 ni:Int
 nj:Int
 nk:ax
 nn:ax
 dH:List D
 ns:List D
 xs:List D
 on:List D
 ah:List D
 ob:List D
 cC:Int
def l0.cs(c:l0):List D:=[int c.k,.str c.n,int c.gx,int c.vi,.str c.eK,.str c.op,.list 7 c.l]
def ef.cs(c:ef):List D:=[int c.k,.str c.n,.list 16 c.a,int c.cN,.str c.lk,int c.ni,int c.nj,.str c.nk,.str c.nn,.list 7 c.dH,.list 1 c.ns,.list 7 c.xs,.list 2 c.on,.list 3 c.ah,.list 2 c.ob,int c.cC]
def ef.v(c:ef):List ag:=[.d (int c.k),.d (.str c.n),.d (.list 16 c.a),.d (int c.cN),.d (.str c.lk),.d (int c.ni),.d (int c.nj),.d (.str c.nk),.d (.str c.nn),.d (.list 7 c.dH),.d (.list 1 c.ns),.d (.list 7 c.xs),.d (.list 2 c.on),.d (.list 3 c.ah),.d (.list 2 c.ob),.d (int c.cC)]
def aA.bT(x:aA):l0:=⟨x.k,x.n,x.gx,x.vi,x.eK,x.op,aA.ds x.l⟩
def bk.bB(x:bk):ef:=⟨x.k,x.n,bk.ds x.l,x.c.k,x.c.n,x.c.gx,x.c.vi,x.c.eK,x.c.op,aA.ds x.c.l,x.ns.map .str,aA.ds x.xs,x.on.map fy,x.ah.map eL,x.ob.map fA,x.cC⟩
theorem aA.aa6(x:aA):x.cells=x.bT.cs:=rfl
theorem bk.LK(x:bk):x.cells=x.bB.cs:=rfl
def xk(k:Int)(a ns:ag)(xs on ah ob:List D)(cC:Int):List ag:=
 [.d (int k),.d (.str []),a,.d (int 0),.d (.str []),.d (int 0),.d (int 0),.d (.str []),.d (.str []),.own 7 [],ns,.own 7 xs,.own 2 on,.own 3 ah,.own 2 ob,.d (int cC)]
def pO(p:aG)(k:Int)(n c:Nat)(ar:List ag)(ns:ag)(on ah ob:List D)(cC:Int):aV:=[.box [.ptr 2 0],.box [.ptr 3 0],p.ob,.box (xk k (.aS 4 0 n c 16) ns [] on ah ob cC),.box ar]
def j9(p:aG)(k:Int)(n c:Nat)(ar:List ag)(ns:ag)(on ah ob:List D)(cC:Int):aV:=[p.ob,.box [.ptr 0 0],.box [.ptr 3 0],.box (xk k (.aS 4 0 n c 16) ns [] on ah ob cC),.box ar]
theorem avS{a b c d n m e:Nat}(h1:Nat.beq a b=true)(h2:Nat.beq c d=true)(h:n+m<=e):(Nat.beq a b&&Nat.beq c d&&Nat.ble (n+m) e)=true:=axu
theorem avT{a b:Nat}{i n:Int}(h1:Nat.beq a b=true)(h2:0<=i)(av:i<n):(Nat.beq a b&&decide (0<=i)&&decide (i<n))=true:=axu
theorem am8(p:aG)(k:Int)(n c:Nat)(x y:ef)(on:List D)(hp:p.Ok)(ak:on.length<=2147483648):∃(q:aG) (z:ax×ax),(gW p q 3/\z.1.length<=16384/\z.2.length<=16384)/\
  aM 226 [.ptr 0 0,.ptr 1 0] (pO p k n c (x.v++y.v) (.own 1 []) on [] [] 0) (.tuple []) (pO q k n c (x.v++y.v) (.own 1 []) (on++[fy z]) [] [] 0):=by
 have bh:=nh (k:=1) hp axs;have g1:=aG.oM (k:=1) hp;have aj:=nW p hp;generalize p.ie 1=q1 at aj bh;generalize (p.jb 1).t=t1 at aj g1;have a2:=lZ (s:=[61]) bh.ok;have aD:=jL q1 [61] bh.ok;generalize q1.want [61]=bK at aD a2;have a3:=nh (k:=1) a2.ok axs;have g3:=aG.oM (k:=1) a2.ok;have aW:=nW bK a2.ok;generalize bK.ie 1=cI at aW a3;generalize (bK.jb 1).t=t3 at aW g3;refine⟨cI,(t1,t3),⟨(bh.trans a2).trans a3,g1,g3⟩,?_⟩;refine T6.cw λad ae Q a8=> ?_;refine ai ?_;all_goals (subst ae;exact b5 a8 axt axr)
theorem am9(p:aG)(k:Int)(n c:Nat)(x:ef)(ob:List D)(cC:Int)(hp:p.Ok)(ak:ob.length<=2147483648):∃(q:aG) (z:ax×Bool),(gW p q 1/\z.1.length<=16384)/\
  aM 228 [.ptr 0 0,.ptr 1 0] (pO p k n c x.v (.own 1 []) [] [] ob cC) (.tuple []) (pO q k n c x.v (.own 1 []) [] [] (ob++[fA z]) cC):=by
 have bh:=nh (k:=1) hp axs;have g1:=aG.oM (k:=1) hp;have aj:=nW p hp;generalize p.ie 1=q1 at aj bh;generalize (p.jb 1).t=t1 at aj g1;have a2:=am7 (s:=[100,111,119,110]) bh.ok;have aD:=FT q1 [100,111,119,110] bh.ok;generalize q1.maybe [100,111,119,110]=bK at aD a2;generalize q1.is [100,111,119,110]=t2 at aD;refine⟨bK,(t1,t2),⟨bh.trans a2,g1⟩,?_⟩;refine Xw.cw λad ae Q a8=> ?_;refine ai ?_;all_goals (subst ae;exact b5 a8 axt axr)
def F0:Nat->ax
 |1=>[99,111,117,110,116]
 |2=>[115,117,109]
 |3=>[109,105,110]
 |4=>[109,97,120]
 |_=>[]
theorem am':∀k,(F0 k).length<=5
 |0=>axw
 |1=>axw
 |2=>axw
 |3=>axw
 |4=>axw
 |_+5=>by show 0<=5;omega
def ana:List ax:=[[99,111,117,110,116],[115,117,109],[109,105,110],[109,97,120]]
theorem anb{j:Nat}(h1:1<=j)(h2:j<=4):([.str [99,111,117,110,116],.str [115,117,109],.str [109,105,110],.str [109,97,120]]:List D).getD (Int.toNat ((j-1:Nat):Int)) .dO=.str (F0 j):=by
 match j,h1,h2 with
 |1,_,_=>rfl
 |2,_,_=>rfl
 |3,_,_=>rfl
 |4,_,_=>rfl
 |n+5,_,h=>omega
theorem anc{j:Nat}(h1:1<=j)(h2:j<=2147483648):IntKind.i64.wrap ((j:Int)-1)=((j-1:Nat):Int):=by
 have:=iC (j-1) 0 axs;grind
theorem aa7(p:aG)(k:Int)(n c:Nat)(x:ef)(ns:ag)(F1:(∃l,ns=.own 1 l)\/∃l,ns=.d (.list 1 l))(ah:List D)(hp:p.Ok)(ak:ah.length<=2147483648):∃(q:aG) (z:ax×ax×ax),(gW p q 5/\z.1.length<=5/\z.2.1.length<=16384/\z.2.2.length<=16384)/\
  aM 227 [.ptr 0 0,.ptr 1 0] (pO p k n c x.v ns [] ah [] 0) (.tuple []) (pO q k n c x.v ns [] (ah++[eL z]) [] 0):=by
 obtain⟨e9,j,⟨a0,aL⟩,ch⟩:=zC p ana hp axw;replace aL:j<=4:=aL;have bh:=lZ (s:=[40]) a0.ok;have aj:=jL e9 [40] a0.ok;generalize e9.want [40]=q1 at aj bh;obtain⟨bK,t2,a2,g2,a6⟩:∃(bK:aG) (t2:ax),gW q1 bK 0/\t2.length<=16384/\(q1.is [41]=true/\bK=q1/\t2=[]\/q1.is [41]=false/\aM 93 [.ptr 0 0] [q1.ob] (.d (.str t2)) [bK.ob]):=by
  cases hi:q1.is [41]with
  |true=>exact⟨q1,[],.of (Step.refl bh.ok),azF _,.inl ⟨rfl,rfl,rfl⟩⟩
  |false=>grind[nh,aG.oM,nW,gW.of,gW.ok,gW.s]
 have pP:=Cw q1 [41] bh.ok;have a3:=lZ (s:=[41]) a2.ok;have aW:=jL bK [41] a2.ok;generalize bK.want [41]=cI at aW a3;have a4:=lZ (s:=[97,115]) a3.ok;have bQ:=jL cI [97,115] a3.ok;generalize cI.want [97,115]=ep at bQ a4;have a5:=nh (k:=1) a4.ok axs;have g5:=aG.oM (k:=1) a4.ok;have cK:=nW ep a4.ok;generalize ep.ie 1=gR at cK a5;generalize (ep.jb 1).t=t5 at cK g5;refine⟨gR,(F0 j,t2,t5),⟨((((a0.trans bh).trans a2).trans a3).trans a4).trans a5,am' j,g2,g5⟩,?_⟩;have hw:IntKind.i64.wrap ((j:Int)-1)=((j-1:Nat):Int)\/j=0:=by
  grind[anc]
 refine VI.cw λad ae Q a8=> ?_;rcases F1 with⟨l,rfl⟩|⟨l,rfl⟩<;>rcases a6 with⟨hi,rfl,rfl⟩|⟨hi,aD⟩<;>rw[hi]at pP
 all_goals
  refine ai ?_;split
  .rename_i h;simp only[aI ae,azH,azN,az2,az8,aAF,azM]at h;have h0:1<=j:=axs;have hw:=hw.resolve_right axs;have aE:ad.ez 1 1 (ad.io .sub .i64 (Int.ofNat j) 1) (ad.len [.str [99,111,117,110,116],.str [115,117,109],.str [109,105,110],.str [109,97,120]])=true:=by
    simp only[aI ae,azM,hw,azH,azN,az0,aAz];grind
   have ak:ad.get [.str [99,111,117,110,116],.str [115,117,109],.str [109,105,110],.str [109,97,120]] (ad.io .sub .i64 (Int.ofNat j) 1)=.str (F0 j):=by
    simp only[aI ae];grind[anb]
   conv=>cbv
   repeat ((first|refine bG ?_|refine bH ?_|simp -proj only[ak]);conv=>cbv)
   try trivial
   all_goals (subst ae;exact b5 a8 axt axr)
  .rename_i h;simp only[aI ae,azH,azN,az2,az8,aAF,azM]at h;have h0:j=0:=axs;subst h0;refine ai ?_;all_goals (subst ae;exact b5 a8 axt axr)
structure sb where
 on:List D
 ah:List D
 ob:List D
def LL(f:Nat)(p:aG)(k:Int)(n c:Nat)(ar:List ag)(ns:ag)(a:sb)(cC:Int):af:=cA [(0,.ptr 0 0),(1,.func f [] [.ptr 1 0,.ptr 2 0])] (j9 p k n c ar ns a.on a.ah a.ob cC)
theorem ane(f:Nat)(k:Int)(n c:Nat)(x y:ef)(cC:Int)(J I:aG->sb->Prop)
  (one:∀p a,p.Ok->J p a->∃q b,Step p q/\I q b/\aM f [.ptr 0 0,.ptr 1 0] (pO p k n c (x.v++y.v) (.own 1 []) a.on a.ah a.ob cC) (.tuple []) (pO q k n c (x.v++y.v) (.own 1 []) b.on b.ah b.ob cC))
  (next:∀p a,p.Ok->I p a->p.is [44]=true->J p.next a) (p:aG) (a:sb) (hp:p.Ok) (aL:J p a):
  ∃q b,(Step p q/\I q b)/\aM 94 [.ptr 0 0,.func f [] [.ptr 1 0,.ptr 2 0]] (j9 p k n c (x.v++y.v) (.own 1 []) a.on a.ah a.ob cC) (.tuple []) (j9 q k n c (x.v++y.v) (.own 1 []) b.on b.ah b.ob cC):=by
 obtain⟨q,b,h1,h2,av⟩:=one p a hp aL;suffices h:∃r s',(∃q b,(Step p q/\I q b)/\r=.tuple []/\s'=j9 q k n c (x.v++y.v) (.own 1 []) b.on b.ah b.ob cC)/\aM 94 [.ptr 0 0,.func f [] [.ptr 1 0,.ptr 2 0]] (j9 p k n c (x.v++y.v) (.own 1 []) a.on a.ah a.ob cC) r s' by
  grind
 refine u7.cr _ λad ae K ao=> ?_;refine ai ?_;refine⟨b6 (λz:aG×sb=>LL f z.1 k n c (x.v++y.v) (.own 1 []) z.2 cC) (λz=>Step p z.1/\I z.1 z.2) λz=>z.1.l.length-z.1.i,_,⟨(q,b),⟨h1,h2⟩,rfl,axr⟩,?_⟩;rintro _ _ ⟨⟨q,b⟩,⟨h1,h2⟩,rfl,rfl⟩;have aT:=h1.ok;cases hi:q.is [44]with
 |false=>
  have aj:=mJ aT hi;refine ai ?_;exact ao _ _ ⟨q,b,⟨h1,h2⟩,axt,axr⟩
 |true=>
  have dM:=aG.r8 (aG.hI hi);have az:=aG.hY aT (aG.hI hi);have aj:=mI aT hi;obtain⟨q',cg,bN,cz,gM⟩:=one q.next b az.ok (next q b aT h2 hi);refine ai ?_;refine eb (q',cg) ⟨(h1.trans az).trans bN,cz⟩ ?_ axr;have:=bN.i;show q'.l.length-q'.i<q.l.length-q.i;rw[bN.l];show q.l.length-q'.i<q.l.length-q.i;have:q.next.i=q.i+1:=rfl;omega
theorem aa8(f:Nat)(k:Int)(n c:Nat)(x:ef)(cC:Int)(J I:aG->sb->Prop)
  (one:∀p a,p.Ok->J p a->∃q b,Step p q/\I q b/\aM f [.ptr 0 0,.ptr 1 0] (pO p k n c (x.v) (.own 1 []) a.on a.ah a.ob cC) (.tuple []) (pO q k n c (x.v) (.own 1 []) b.on b.ah b.ob cC))
  (next:∀p a,p.Ok->I p a->p.is [44]=true->J p.next a) (p:aG) (a:sb) (hp:p.Ok) (aL:J p a):
  ∃q b,(Step p q/\I q b)/\aM 94 [.ptr 0 0,.func f [] [.ptr 1 0,.ptr 2 0]] (j9 p k n c (x.v) (.own 1 []) a.on a.ah a.ob cC) (.tuple []) (j9 q k n c (x.v) (.own 1 []) b.on b.ah b.ob cC):=by
 obtain⟨q,b,h1,h2,av⟩:=one p a hp aL;suffices h:∃r s',(∃q b,(Step p q/\I q b)/\r=.tuple []/\s'=j9 q k n c (x.v) (.own 1 []) b.on b.ah b.ob cC)/\aM 94 [.ptr 0 0,.func f [] [.ptr 1 0,.ptr 2 0]] (j9 p k n c (x.v) (.own 1 []) a.on a.ah a.ob cC) r s' by
  grind
 refine u7.cr _ λad ae K ao=> ?_;refine ai ?_;refine⟨b6 (λz:aG×sb=>LL f z.1 k n c (x.v) (.own 1 []) z.2 cC) (λz=>Step p z.1/\I z.1 z.2) λz=>z.1.l.length-z.1.i,_,⟨(q,b),⟨h1,h2⟩,rfl,axr⟩,?_⟩;rintro _ _ ⟨⟨q,b⟩,⟨h1,h2⟩,rfl,rfl⟩;have aT:=h1.ok;cases hi:q.is [44]with
 |false=>
  have aj:=mJ aT hi;refine ai ?_;exact ao _ _ ⟨q,b,⟨h1,h2⟩,axt,axr⟩
 |true=>
  have dM:=aG.r8 (aG.hI hi);have az:=aG.hY aT (aG.hI hi);have aj:=mI aT hi;obtain⟨q',cg,bN,cz,gM⟩:=one q.next b az.ok (next q b aT h2 hi);refine ai ?_;refine eb (q',cg) ⟨(h1.trans az).trans bN,cz⟩ ?_ axr;have:=bN.i;show q'.l.length-q'.i<q.l.length-q.i;rw[bN.l];show q.l.length-q'.i<q.l.length-q.i;have:q.next.i=q.i+1:=rfl;omega
theorem anf(f:Nat)(k:Int)(n c:Nat)(x:ef)(l:List D)(cC:Int)(J I:aG->sb->Prop)
  (one:∀p a,p.Ok->J p a->∃q b,Step p q/\I q b/\aM f [.ptr 0 0,.ptr 1 0] (pO p k n c (x.v) (.d (.list 1 l)) a.on a.ah a.ob cC) (.tuple []) (pO q k n c (x.v) (.d (.list 1 l)) b.on b.ah b.ob cC))
  (next:∀p a,p.Ok->I p a->p.is [44]=true->J p.next a) (p:aG) (a:sb) (hp:p.Ok) (aL:J p a):
  ∃q b,(Step p q/\I q b)/\aM 94 [.ptr 0 0,.func f [] [.ptr 1 0,.ptr 2 0]] (j9 p k n c (x.v) (.d (.list 1 l)) a.on a.ah a.ob cC) (.tuple []) (j9 q k n c (x.v) (.d (.list 1 l)) b.on b.ah b.ob cC):=by
 obtain⟨q,b,h1,h2,av⟩:=one p a hp aL;suffices h:∃r s',(∃q b,(Step p q/\I q b)/\r=.tuple []/\s'=j9 q k n c (x.v) (.d (.list 1 l)) b.on b.ah b.ob cC)/\aM 94 [.ptr 0 0,.func f [] [.ptr 1 0,.ptr 2 0]] (j9 p k n c (x.v) (.d (.list 1 l)) a.on a.ah a.ob cC) r s' by
  grind
 refine u7.cr _ λad ae K ao=> ?_;refine ai ?_;refine⟨b6 (λz:aG×sb=>LL f z.1 k n c (x.v) (.d (.list 1 l)) z.2 cC) (λz=>Step p z.1/\I z.1 z.2) λz=>z.1.l.length-z.1.i,_,⟨(q,b),⟨h1,h2⟩,rfl,axr⟩,?_⟩;rintro _ _ ⟨⟨q,b⟩,⟨h1,h2⟩,rfl,rfl⟩;have aT:=h1.ok;cases hi:q.is [44]with
 |false=>
  have aj:=mJ aT hi;refine ai ?_;exact ao _ _ ⟨q,b,⟨h1,h2⟩,axt,axr⟩
 |true=>
  have dM:=aG.r8 (aG.hI hi);have az:=aG.hY aT (aG.hI hi);have aj:=mI aT hi;obtain⟨q',cg,bN,cz,gM⟩:=one q.next b az.ok (next q b aT h2 hi);refine ai ?_;refine eb (q',cg) ⟨(h1.trans az).trans bN,cz⟩ ?_ axr;have:=bN.i;show q'.l.length-q'.i<q.l.length-q.i;rw[bN.l];show q.l.length-q'.i<q.l.length-q.i;have:q.next.i=q.i+1:=rfl;omega
def F2(p:aG)(ns xs:List D)(x:ef):aV:=[.box (xk 3 (.aS 2 0 1 1 16) (.own 1 ns) xs [] [] [] 0),.box [.ptr 3 0],.box x.v,p.ob]
def LM(p:aG)(ns xs:List D)(x:ef):aV:=[p.ob,.box (xk 3 (.aS 3 0 1 1 16) (.own 1 ns) xs [] [] [] 0),.box [.ptr 0 0],.box x.v]
theorem ang(p:aG)(ns xs:List D)(x:ef)(hp:p.Ok)(h1:ns.length<=2147483648)(h2:xs.length<=2147483648):∃(q:aG) (z:aA) (t:ax),(Step p q/\z.good/\(q.e=0->z.w+t.length+200+20000*p.i<=20000*q.i))/\
  aM 191 [.ptr 0 0,.ptr 1 0] (F2 p ns xs x) (.tuple []) (F2 q (ns++[.str t]) (xs++[z.d]) x):=by
 obtain⟨q1,z,ak,aj⟩:=aa4 p hp;have a2:=lZ (s:=[97,115]) ak.s.ok;have aD:=jL q1 [97,115] ak.s.ok;generalize q1.want [97,115]=bK at aD a2;have a3:=nh (k:=1) a2.ok axs;have g3:=aG.oM (k:=1) a2.ok;have aW:=nW bK a2.ok;generalize bK.ie 1=cI at aW a3;generalize (bK.jb 1).t=t3 at aW g3;have a:=a2.trans a3;refine⟨cI,z,t3,⟨ak.s.trans a.s,ak.g,λhe=> ?_⟩,?_⟩
 .have:=ak.w (a.s.ch he);have:=a.a he;omega
 rw[aA.mK];rw[aA.aa6]at aj⊢;generalize z.bT=c at aj⊢;refine Zf.cw λad ae Q a8=> ?_;refine ai ?_;all_goals (subst ae;exact b5 a8 axt axr)
structure ly where
 ns:List ax
 xs:List aA
def ly.w(a:ly):Nat:=fH a.ns+aA.ws a.xs
structure zD(p q:aG)(m:Nat)(a:ly):Prop where
 s:Step p q
 n:a.ns.length<=q.i+m
 x:a.xs.length<=q.i+m
 g:aA.mL a.xs
 w:q.e=0->a.w+20000*p.i<=20000*q.i
def ly.st(q:aG)(a:ly)(x:ef):aV:=LM q (a.ns.map .str) (aA.ds a.xs) x
def aa9(q:aG)(a:ly)(x:ef):af:=cA [(0,.ptr 0 0),(1,.func 191 [] [.ptr 1 0,.ptr 2 0])] (a.st q x)
theorem aa'{p q:aG}{a:ly}(x:ef)(h:zD p q 0 a):∃(r:aG) (b:ly),(Step q r/\zD p r 1 b)/\
  aM 191 [.ptr 0 0,.ptr 1 0] (F2 q (a.ns.map .str) (aA.ds a.xs) x) (.tuple []) (F2 r (b.ns.map .str) (aA.ds b.xs) x):=by
 have h1:=h.n;have h2:=h.x;have av:=h.s.ok.i;have aZ:=h.s.ok.l;obtain⟨r,z,t,⟨bN,cz,gM⟩,e⟩:=ang q (a.ns.map .str) (aA.ds a.xs) x h.s.ok axv (by grind[aA.tK]);have bW:=bN.i;refine⟨r,⟨a.ns++[t],a.xs++[z]⟩,⟨bN,⟨h.s.trans bN,axv,axv,aA.LA h.g ⟨cz,trivial⟩,λhe=> ?_⟩⟩,?_⟩
 .have w1:=gM he;have bS:=h.w (bN.ch he);grind[ly.w,fH,qM,aA.xi,fM,aA.ws]
 .rw[az5,aA.Cy];exact e
theorem anh(p:aG)(x:ef)(hp:p.Ok):∃(q:aG) (a:ly),zD p q 1 a/\aM 94 [.ptr 0 0,.func 191 [] [.ptr 1 0,.ptr 2 0]] (LM p [] [] x) (.tuple []) (a.st q x):=by
 suffices h:∃r s',(∃(q:aG) (a:ly),zD p q 1 a/\r=.tuple []/\s'=a.st q x)/\aM 94 [.ptr 0 0,.func 191 [] [.ptr 1 0,.ptr 2 0]] (LM p [] [] x) r s' by
  grind
 obtain⟨q,b,⟨h1,h2⟩,av⟩:=aa' (p:=p) (q:=p) (a:=⟨[],[]⟩) x ⟨Step.refl hp,azF _,azF _,trivial,λ_=>by show 0+0+_<=_;omega⟩;generalize az:b.ns.map D.str=ns at av;generalize ak:aA.ds b.xs=xs at av;refine u7.cr _ λad ae K ao=> ?_;refine ai ?_;refine⟨b6 (λz:aG×ly=>aa9 z.1 z.2 x) (λz=>zD p z.1 1 z.2) λz=>z.1.l.length-z.1.i,_,⟨(q,b),h2,rfl,by subst az ak;kernel_rfl⟩,?_⟩;clear h1 h2 av az ak;rintro _ _ ⟨⟨q,b⟩,h2,rfl,rfl⟩;replace h2:zD p q 1 b:=h2;have aT:=h2.s.ok;dsimp only[aa9,ly.st];generalize az:b.ns.map D.str=ns;generalize ak:aA.ds b.xs=xs;cases hi:q.is [44]with
 |false=>
  have aj:=mJ aT hi;refine ai ?_;exact ao _ _ ⟨q,b,h2,axt,by subst az ak;kernel_rfl⟩
 |true=>
  have dM:=aG.r8 (aG.hI hi);have hs:=aG.hY aT (aG.hI hi);have aj:=mI aT hi;have uS:q.next.i=q.i+1:=rfl;obtain⟨q',cg,⟨bN,cz⟩,gM⟩:=aa' (p:=p) (q:=q.next) (a:=b) x ⟨h2.s.trans hs,by have:=h2.n;omega,by have:=h2.x;omega,h2.g,λhe=>by have:=h2.w he;omega⟩;rw[az,ak]at gM;generalize ani:cg.ns.map D.str=zE at gM;generalize kO:aA.ds cg.xs=zF at gM;refine ai ?_;refine eb (q',cg) cz ?_ (by subst ani kO;kernel_rfl);have:=bN.i;show q'.l.length-q'.i<q.l.length-q.i;rw[bN.l];show q.l.length-q'.i<q.l.length-q.i;omega
structure np(p q:aG)(x:bk):Prop where
 s:Step p q
 g:x.good
 w:q.e=0->x.w+20000*p.i<=20000*q.i
def pQ(f d:Nat):Prop:=∀p:aG,p.Ok->p.dR=d->∃(q:aG) (x:bk),np p q x/\aM f [.ptr 0 0] [p.ob] (.d (.agg x.bB.cs)) [q.ob]
theorem np.zero{p q:aG}(h:Step p q)(he:q.e≠0):np p q r':=⟨h,Cz,λk=>absurd k he⟩
theorem np.then{p q r:aG}{x:bk}(k:np p q x)(h:Step q r):np p r x:=⟨k.s.trans h,k.g,λhe=>by have:=k.w (h.ch he);have:=h.i;omega⟩
theorem np.after{p q r:aG}{x:bk}(h:Step p q)(k:np q r x):np p r x:=⟨h.trans k.s,k.g,λhe=>by have:=k.w he;have:=h.i;omega⟩
theorem oN{ad:bn}(h:ad=bn.bY){a b:Int}(h1:0<=a+b)(h2:a+b<=9223372036854775807):ad.io .add .i64 a b=a+b:=by subst h;exact aJ.wrap_small h1 h2
theorem abb{ad:bn}(h:ad=bn.bY){a b:Int}(h1:0<=a-b)(h2:a-b<=9223372036854775807):ad.io .sub .i64 a b=a-b:=by subst h;exact aJ.wrap_small h1 h2
theorem cv{ad:bn}(h:ad=bn.bY){n:Nat}(az:n<=4611686018427387904):ad.io .add .i64 (Int.ofNat n) 1=Int.ofNat (n+1):=oN h axv axv
theorem tL{ad:bn}(h:ad=bn.bY){n m:Nat}(az:n=m+1)(hm:m<=4611686018427387904):ad.io .sub .i64 (Int.ofNat n) 1=Int.ofNat m:=by
 grind[abb]
theorem anj{f d:Nat}(bm:d<32->pQ f (d+1))(p:aG)(hp:p.Ok)(a6:p.dR=d):
  ∃(q:aG) (x:bk),np p q x/\aM 99 [.ptr 0 0,.func f [.ptr 0 0] []] [p.ob] (.d (.agg x.bB.cs)) [q.ob]:=by
 by_cases LF:p.dR=32
 .have aj:=pN p 52 hp;have hs:=aG.r7 (e:=52) hp;have he:=aG.oK (p:=p) (e:=52) axs;generalize p.fail 52=q at aj hs he;refine⟨q,r',.zero hs he,?_⟩;refine Cm.cw λad ae Q a8=> ?_;conv=>cbv
  split
  .refine ai ?_;all_goals (subst ae;exact b5 a8 axr axr)
  .rename_i h;simp only[aI ae,azH,azN,az2,az8,aAF,azM]at h;exact absurd (show(p.dR:Int)=32 by omega) h
 .have aH:=hp.d;have aB:d<32:=axs;obtain⟨q,x,ak,hv⟩:=bm aB (p.dep (d+1)) (aG.sa hp axs) rfl;have xj:q.dR=d+1:=ak.s.d;refine⟨q.dep d,x,⟨⟨aG.sa ak.s.ok axs,ak.s.l,ak.s.n,a6.symm,ak.s.i,ak.s.e⟩,ak.g,ak.w⟩,?_⟩;generalize x.bB=c at hv;refine Cm.cw λad ae Q a8=> ?_;have h1:=cv ae (n:=p.dR) axs;have h2:=tL ae xj axs;rw[show p.dR+1=d+1 by omega]at h1;conv=>cbv
  split
  .rename_i h;simp only[aI ae,azH,azN,az2,az8,aAF,azM]at h;have h:(p.dR:Int)=32:=h;omega
  .conv=>cbv
   repeat ((first|refine bG ?_|refine bH ?_|simp -proj only[h1]);conv=>cbv)
   try trivial
   simp only[h2];all_goals (subst ae;exact b5 a8 axr axr)
theorem ank{f d:Nat}(bm:d<32->∀p:aG,p.Ok->p.dR=d+1->∃(q:aG) (x:bk),np p q x/\aM f [.ptr 0 0] [.box [.ptr 1 0],p.ob] (.d (.agg x.bB.cs)) [.box [.ptr 1 0],q.ob])(p:aG)(hp:p.Ok)(a6:p.dR=d):
  ∃(q:aG) (x:bk),np p q x/\aM 99 [.ptr 0 0,.func f [] [.ptr 1 0]] [p.ob,.box [.ptr 0 0]] (.d (.agg x.bB.cs)) [q.ob,.box [.ptr 0 0]]:=by
 by_cases LF:p.dR=32
 .have aj:=pN p 52 hp;have hs:=aG.r7 (e:=52) hp;have he:=aG.oK (p:=p) (e:=52) axs;generalize p.fail 52=q at aj hs he;refine⟨q,r',.zero hs he,?_⟩;refine Cm.cw λad ae Q a8=> ?_;conv=>cbv
  split
  .refine ai ?_;all_goals (subst ae;exact b5 a8 axr axr)
  .rename_i h;simp only[aI ae,azH,azN,az2,az8,aAF,azM]at h;exact absurd (show(p.dR:Int)=32 by omega) h
 .have aH:=hp.d;have aB:d<32:=axs;obtain⟨q,x,ak,hv⟩:=bm aB (p.dep (d+1)) (aG.sa hp axs) rfl;have xj:q.dR=d+1:=ak.s.d;refine⟨q.dep d,x,⟨⟨aG.sa ak.s.ok axs,ak.s.l,ak.s.n,a6.symm,ak.s.i,ak.s.e⟩,ak.g,ak.w⟩,?_⟩;generalize x.bB=c at hv;refine Cm.cw λad ae Q a8=> ?_;have h1:=cv ae (n:=p.dR) axs;have h2:=tL ae xj axs;rw[show p.dR+1=d+1 by omega]at h1;conv=>cbv
  split
  .rename_i h;simp only[aI ae,azH,azN,az2,az8,aAF,azM]at h;have h:(p.dR:Int)=32:=h;omega
  .conv=>cbv
   repeat ((first|refine bG ?_|refine bH ?_|simp -proj only[h1]);conv=>cbv)
   try trivial
   simp only[h2];all_goals (subst ae;exact b5 a8 axr axr)
theorem anl{d:Nat}(h:pQ 100 (d+1))(p:aG)(hp:p.Ok)(a6:p.dR=d+1):∃(q:aG) (x:bk),np p q x/\aM 189 [.ptr 0 0] [.box [.ptr 1 0],p.ob] (.d (.agg x.bB.cs)) [.box [.ptr 1 0],q.ob]:=by
 have hw:=aG.zy (s:=[40]) hp;have aj:=jL p [40] hp;obtain⟨q,x,h1,aD⟩:=h (p.want [40]) hw.ok ays;have mo:=aG.zy (s:=[41]) h1.s.ok;have aW:=jL q [41] h1.s.ok;generalize q.want [41]=bK at mo aW;generalize p.want [40]=q1 at hw h1 aj aD;refine⟨bK,x,(h1.after hw).then mo,?_⟩;generalize x.bB=c at aD;refine Xd.cw λad ae Q a8=> ?_;refine ai ?_;all_goals (subst ae;exact b5 a8 axr axr)
theorem abd{d:Nat}(h:d<32->pQ 100 (d+1)):pQ 156 d:=by
 intro p hp a6;have pP:=Cw p [40] hp;cases aL:p.is [40]with
 |true=>
  rw[aL]at pP;obtain⟨q,x,h1,aD⟩:=ank (λaB=>anl (h aB)) p hp a6;refine⟨q,x,h1,?_⟩;generalize x.bB=c at aD;refine KM.cw λad ae Q a8=> ?_;refine ai ?_;all_goals (subst ae;exact b5 a8 axr axr)
 |false=>
  rw[aL]at pP;have bh:=nh (k:=1) hp axs;have g1:=aG.oM (k:=1) hp;have aj:=nW p hp;generalize p.ie 1=q1 at aj bh;generalize (p.jb 1).t=t1 at aj g1;refine⟨q1,.mk 1 t1 [] kY [] [] [] [] [] 0,⟨bh.s,Cz,λhe=> ?_⟩,?_⟩
  .have:=bh.a he;show 500+t1.length+0+200+0+0+0+0+0+_<=_;omega
  refine KM.cw λad ae Q a8=> ?_;refine ai ?_;all_goals (subst ae;exact b5 a8 axr axr)
structure LN(p q:aG)(m:Nat)(on:List (ax×ax)):Prop where
 s:Step p q
 n:on.length<=q.i+m
 w:q.e=0->j6 on+20000*p.i<=20000*q.i
theorem anm(p:aG)(k:Int)(n c:Nat)(x y:ef)(hp:p.Ok):∃(q:aG) (on:List (ax×ax)),LN p q 1 on/\
  aM 94 [.ptr 0 0,.func 226 [] [.ptr 1 0,.ptr 2 0]] (j9 p k n c (x.v++y.v) (.own 1 []) [] [] [] 0) (.tuple []) (j9 q k n c (x.v++y.v) (.own 1 []) (on.map fy) [] [] 0):=by
 obtain⟨q,b,⟨_,on,h1,rfl⟩,e⟩:=ane 226 k n c x y 0 (λq a=>∃on,LN p q 0 on/\a=⟨on.map fy,[],[]⟩) (λq a=>∃on,LN p q 1 on/\a=⟨on.map fy,[],[]⟩)
  (by
   rintro q a aT ⟨on,h1,rfl⟩;have:=h1.n;have:=aT.i;have:=aT.l;obtain⟨r,z,⟨a2,g1,g2⟩,e⟩:=am8 q k n c x y (on.map fy) aT axv;have hi:=a2.s.i;refine⟨r,⟨(on++[z]).map fy,[],[]⟩,a2.s,⟨on++[z],⟨h1.s.trans a2.s,axv,λhe=> ?_⟩,rfl⟩,?_⟩
   .have:=a2.a he;have:=h1.w (a2.s.ch he);unfold j6 at this⊢;rw[qM];show _+(200+(z.1.length+z.2.length)+0)+_<=_;omega
   .rw[az5];exact e)
  (by
   rintro q a aT ⟨on,h1,rfl⟩ hi;have az:=aG.hY aT (aG.hI hi);have:q.next.i=q.i+1:=rfl;exact⟨on,⟨h1.s.trans az,by have:=h1.n;omega,λhe=>ay4⟩,rfl⟩)
  p ⟨[],[],[]⟩ hp ⟨[],⟨Step.refl hp,azF _,λ_=>ax7⟩,rfl⟩
 grind
def ano(q:aG)(k:Int)(x y:ef)(on:List D):aV:=[q.ob,.box (xk k (.aS 5 0 2 2 16) (.own 1 []) [] on [] [] 0),.dead,.box [.ptr 0 0],.box [.ptr 1 0],.box (x.v++y.v)]
theorem anp{d:Nat}(h:pQ 156 d)(p:aG)(k:Int)(x:ef)(hp:p.Ok)(a6:p.dR=d):∃(q:aG) (y:bk) (on:List (ax×ax)),(Step p q/\y.good/\(q.e=0->y.w+j6 on+20000*p.i<=20000*q.i))/\
  aM 192 [.ptr 0 0,.ptr 1 0] [p.ob,.box (xk k (.aS 2 0 1 1 16) (.own 1 []) [] [] [] [] 0),.box x.v] (.tuple []) (ano q k x y.bB (on.map fy)):=by
 obtain⟨q1,y,h1,aj⟩:=h p hp a6;have a2:=lZ (s:=[111,110]) h1.s.ok;have aD:=jL q1 [111,110] h1.s.ok;generalize q1.want [111,110]=bK at aD a2;obtain⟨cI,on,av,aW⟩:=anm bK k 2 2 x y.bB a2.ok;refine⟨cI,y,on,⟨(h1.s.trans a2.s).trans av.s,h1.g,λhe=> ?_⟩,?_⟩
 .have:=av.w he;have:=a2.a (av.s.ch he);have:=h1.w (a2.s.ch (av.s.ch he));omega
 generalize y.bB=c at aj aW;generalize on.map fy=L at aW;refine Xf.cw λad ae Q a8=> ?_;conv=>cbv
 refine⟨?_,?_⟩
 .refine ai ?_;all_goals (subst ae;exact b5 a8 axt axr)
 .refine cj (aj) ?_;refine cj (aD) ?_;refine cj (aW) ?_;all_goals (subst ae;exact b5 a8 axt axr)
end Go.Proofs.YtmgpekpnidjfoaaGreatDoor
