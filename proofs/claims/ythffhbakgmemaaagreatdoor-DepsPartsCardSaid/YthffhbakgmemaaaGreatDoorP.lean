/- Part of parts_said. -/
import Derived.Test.YthffhbakgmemaaaGreatDoorChecked
import Derived.Test.YthffhbakgmemaaaGreatDoorM6
set_option maxRecDepth 100000
set_option maxHeartbeats 8000000
namespace Go.Proofs.YthffhbakgmemaaaGreatDoor
open Go Go.aG
theorem Up:∃P:Program,P=Tryz.prog:=⟨_,rfl⟩
noncomputable def a1:Program:=Classical.choose Up
theorem qv:a1=Tryz.prog:=aEv Up
noncomputable abbrev a7(k:Nat) (a:ey):Option aW:=(Tryz.prog.funcs[k]?).bind (vG Tryz.prog a)
theorem a8{k:Nat}{v:aW}(a:ey)(h:a7 k a=some v:=by kernel_rfl)(g:(Tryz.prog.funcs[k]?).map (λc=>c.name== "runtime.NumGoroutine")=some false:=by kernel_rfl):a6 a1 k v:=qv▸a6.of (P:=Tryz.prog) a g h
theorem kg{k:Nat}{a:ey}{d:Func}{c:Code}{n:Nat}{m:fh}{x:eL}{l:List (List Nat×List Nat)}{r:List oW}(h1:Tryz.prog.funcs[k]?=some d)(g:d.body=some c)(o:d.ntmps=n)(p:boxes a c=m)(j:dv Tryz.prog a n m c a.live=some (x,l))(f:zB Tryz.prog a d.results.toList=some r):a7 k a=some ⟨x,r⟩:=by
 subst o;subst p;simp[a7,h1,vG,g,j,f]
variable {P:Program}{a:ey}{nt:Nat}{m:fh}{c d:Code}{x y:eL}{l k j:List (List Nat×List Nat)}
theorem kh(h1:dv P a nt m c l=some (x,k))(f:dv P a nt m d k=some (y,j)):dv P a nt m (.seq c d) l=some (.seq x y,j):=by simp[dv,h1,f]
theorem ki{o:Operand}{u:O}(bB:bW P 0 o=some u)(h1:dv P a nt m c l=some (x,k))(f:dv P a nt m d k=some (y,j)):dv P a nt m (.cond o c d) l=some (.cond u x y,j):=by simp[dv,bB,h1,f]
theorem kj{i:Nat}(h1:dv P a nt m c l=some (x,k)):dv P a nt m (.block i c) l=some (.block i x,k):=by simp[dv,h1]
theorem kk{t b:List Nat}(h1:dv P a nt m c l=some (x,k)):dv P a nt m (.loop c) ((t,b)::l)=some (.loop t b x,k):=by simp[dv,h1]
end Go.Proofs.YthffhbakgmemaaaGreatDoor
