/- Part of many_said. -/
import Derived.Test.YtdfonihgkhbpcaaGreatDoorChecked
import Derived.Test.YtdfonihgkhbpcaaGreatDoorM6
set_option maxRecDepth 100000
set_option maxHeartbeats 8000000
namespace Go.Proofs.YtdfonihgkhbpcaaGreatDoor
open Go Go.aG
theorem Up:∃P:Program,P=Tryz.prog:=⟨_,rfl⟩
noncomputable def a1:Program:=Classical.choose Up
theorem qv:a1=Tryz.prog:=Classical.choose_spec Up
noncomputable abbrev a7(k:Nat) (a:ey):Option aW:=(Tryz.prog.funcs[k]?).bind (vG Tryz.prog a)
theorem a8{k:Nat}{v:aW}(a:ey)(h:a7 k a=some v:=by kernel_rfl)(g:(Tryz.prog.funcs[k]?).map (λb=>b.name== "runtime.NumGoroutine")=some false:=by kernel_rfl):a6 a1 k v:=qv▸a6.of (P:=Tryz.prog) a g h
theorem kg{k:Nat}{a:ey}{b:Func}{c:Code}{n:Nat}{m:fh}{x:eL}{l:List (List Nat×List Nat)}{r:List oW}(h:Tryz.prog.funcs[k]?=some b)(e:b.body=some c)(g:b.ntmps=n)(i:boxes a c=m)(f:dv Tryz.prog a n m c a.live=some (x,l))(d:zB Tryz.prog a b.results.toList=some r):a7 k a=some ⟨x,r⟩:=by
 subst g;subst i;simp[a7,h,vG,e,f,d]
variable {P:Program}{a:ey}{nt:Nat}{m:fh}{c d:Code}{x y:eL}{l k j:List (List Nat×List Nat)}
theorem kh(e:dv P a nt m c l=some (x,k))(b:dv P a nt m d k=some (y,j)):dv P a nt m (.seq c d) l=some (.seq x y,j):=by simp[dv,e,b]
theorem ki{o:Operand}{u:O}(e:bW P 0 o=some u)(f:dv P a nt m c l=some (x,k))(b:dv P a nt m d k=some (y,j)):dv P a nt m (.cond o c d) l=some (.cond u x y,j):=by simp[dv,e,f,b]
theorem kj{i:Nat}(b:dv P a nt m c l=some (x,k)):dv P a nt m (.block i c) l=some (.block i x,k):=by simp[dv,b]
theorem kk{t b:List Nat}(d:dv P a nt m c l=some (x,k)):dv P a nt m (.loop c) ((t,b)::l)=some (.loop t b x,k):=by simp[dv,d]
def aIF:aW:=⟨(.seq (.ops [⟨none,.e3 2 (.c (.own 25 []))⟩,⟨none,.e3 3 (.c (.d (.int .i64 0)))⟩,⟨none,.e3 4 (.c (.d (.int .i64 0)))⟩]) (.seq (.ops [⟨none,.cZ 6 (.t 0)⟩,⟨none,.n6 (some 7) (.c (.d (.fn 11))) [(.t 6)]⟩,⟨none,.e3 5 (.t 7)⟩]) (.seq (.block 0 (.loop [2,5] [] (.seq (.seq (.any [⟨none,.cZ 8 (.t 5)⟩,⟨none,.xe 9 (.t 8)⟩,⟨none,.gJ 10 (.t 9) 4⟩,⟨none,.aE 11 (.t 10) 1 false⟩,⟨none,.bi 12 .eql (.t 11) (.c (.d (.int .i64 0)))⟩,⟨none,.cZ 13 (.t 12)⟩,⟨some (13,true),.cZ 14 (.t 5)⟩,⟨some (13,true),.xe 15 (.t 14)⟩,⟨some (13,true),.gJ 16 (.t 15) 1⟩,⟨some (13,true),.aE 17 (.t 16) 1 false⟩,⟨some (13,true),.cZ 18 (.t 5)⟩,⟨some (13,true),.xe 19 (.t 18)⟩,⟨some (13,true),.gJ 20 (.t 19) 0⟩,⟨some (13,true),.aE 21 (.t 20) 1 false⟩,⟨some (13,true),.nE 22 false (.t 21)⟩,⟨some (13,true),.bi 23 .lss (.t 17) (.t 22)⟩,⟨none,.dU 24 (.t 13) (.t 23) (.c (.d (.bool false)))⟩] [[],[],[],[],[],[],[],[],[],[],[],[],[],[],[],[],[]]) (.cond (.t 24) .skip (.exit 0))) (.block 1 (.ops [⟨none,.ht 25 2⟩,⟨none,.cZ 26 (.t 5)⟩,⟨none,.n6 (some 27) (.c (.d (.fn 12))) [(.t 26)]⟩,⟨none,.li 28 25 [(.t 27)]⟩,⟨none,.nF 29 25 (.t 28) 25 344944824400⟩,⟨none,.e3 2 (.t 29)⟩]))))) (.seq (.ops [⟨none,.cZ 30 (.t 5)⟩,⟨none,.cZ 31 (.t 2)⟩,⟨none,.n6 (some 32) (.c (.d (.fn 13))) [(.t 30),(.t 31)]⟩,⟨none,.ex 33 (.t 32) 0⟩,⟨none,.ex 34 (.t 32) 1⟩,⟨none,.ex 35 (.t 32) 2⟩,⟨none,.e3 2 (.t 33)⟩,⟨none,.e3 3 (.t 34)⟩,⟨none,.e3 4 (.t 35)⟩]) .ret)))),[.t 2,.t 3,.t 4]⟩
theorem aJD:a6 a1 5 aIF:=a8 {take:=[25],live:=[([2,5],[])],objs:=[29]}
end Go.Proofs.YtdfonihgkhbpcaaGreatDoor
