/- Part of ranges_said. -/
import Derived.Test.YthffhbakgmemaaaGreatDoorChecked
import Derived.Test.YthffhbakgmemaaaGreatDoorM6
set_option maxRecDepth 100000
set_option maxHeartbeats 8000000
namespace Go.Proofs.YthffhbakgmemaaaGreatDoor
open Go Go.aH
theorem To:∃P:Program,P=Tryz.prog:=⟨_,rfl⟩
noncomputable def a1:Program:=Classical.choose To
theorem sD:a1=Tryz.prog:=aC9 To
noncomputable abbrev bb(k:Nat) (a:eo):Option aX:=(Tryz.prog.funcs[k]?).bind (u0 Tryz.prog a)
theorem bf{k:Nat}{v:aX}(a:eo)(h:bb k a=some v:=by kernel_rfl)(g:(Tryz.prog.funcs[k]?).map (λfn=>fn.name== "runtime.NumGoroutine")=some false:=by kernel_rfl):a7 a1 k v:=sD▸a7.of (P:=Tryz.prog) a g h
theorem ma{k:Nat}{a:eo}{fn:Func}{c:Code}{n:Nat}{m:fl}{x:eG}{l:List (List Nat×List Nat)}{r:List oB}(h1:Tryz.prog.funcs[k]?=some fn)(sh:fn.body=some c)(ay:fn.ntmps=n)(hm:boxes a c=m)(ak:dm Tryz.prog a n m c a.live=some (x,l))(ax:yR Tryz.prog a fn.results.toList=some r):bb k a=some ⟨x,r⟩:=by
 subst ay;subst hm;simp[bb,h1,u0,sh,ak,ax]
variable {P:Program}{a:eo}{nt:Nat}{m:fl}{c d:Code}{x y:eG}{l k j:List (List Nat×List Nat)}
theorem mb(h1:dm P a nt m c l=some (x,k))(sh:dm P a nt m d k=some (y,j)):dm P a nt m (.seq c d) l=some (.seq x y,j):=by simp[dm,h1,sh]
theorem mc{o:Operand}{u:O}(wb:bO P 0 o=some u)(h1:dm P a nt m c l=some (x,k))(sh:dm P a nt m d k=some (y,j)):dm P a nt m (.cond o c d) l=some (.cond u x y,j):=by simp[dm,wb,h1,sh]
theorem me{i:Nat}(h1:dm P a nt m c l=some (x,k)):dm P a nt m (.block i c) l=some (.block i x,k):=by simp[dm,h1]
theorem mf{t b:List Nat}(h1:dm P a nt m c l=some (x,k)):dm P a nt m (.loop c) ((t,b)::l)=some (.loop t b x,k):=by simp[dm,h1]
end Go.Proofs.YthffhbakgmemaaaGreatDoor
