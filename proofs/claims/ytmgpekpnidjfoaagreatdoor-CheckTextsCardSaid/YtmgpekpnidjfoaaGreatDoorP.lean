/- Part of texts_said. -/
import Derived.Test.YtmgpekpnidjfoaaGreatDoorChecked
import Derived.Test.YtmgpekpnidjfoaaGreatDoorM6
set_option maxRecDepth 100000
set_option maxHeartbeats 8000000
namespace Go.Proofs.YtmgpekpnidjfoaaGreatDoor
open Go Go.aJ
theorem SJ:∃P:Program,P=Tryz.prog:=⟨_,rfl⟩
noncomputable def a1.prog:Program:=Classical.choose SJ
theorem r3:a1.prog=Tryz.prog:=aCC SJ
noncomputable abbrev bf(k:Nat) (a:eo):Option aX:=(Tryz.prog.funcs[k]?).bind (ur Tryz.prog a)
theorem bg{k:Nat}{v:aX}(a:eo)(h:bf k a=some v:=by kernel_rfl)(g:(Tryz.prog.funcs[k]?).map (λfn=>fn.name== "runtime.NumGoroutine")=some false:=by kernel_rfl):a7 a1.prog k v:=r3▸a7.of (P:=Tryz.prog) a g h
theorem mC{k:Nat}{a:eo}{fn:Func}{c:Code}{n:Nat}{m:fl}{x:eG}{l:List (List Nat×List Nat)}{r:List n9}(h1:Tryz.prog.funcs[k]?=some fn)(h2:fn.body=some c)(az:fn.ntmps=n)(hm:boxes a c=m)(ak:dq Tryz.prog a n m c a.live=some (x,l))(aw:x7 Tryz.prog a fn.results.toList=some r):bf k a=some ⟨x,r⟩:=by
 subst az;subst hm;simp[bf,h1,ur,h2,ak,aw]
variable {P:Program}{a:eo}{nt:Nat}{m:fl}{c d:Code}{x y:eG}{l k j:List (List Nat×List Nat)}
theorem mD(h1:dq P a nt m c l=some (x,k))(h2:dq P a nt m d k=some (y,j)):dq P a nt m (.seq c d) l=some (.seq x y,j):=by simp[dq,h1,h2]
theorem mE{o:Operand}{u:O}(h0:bP P 0 o=some u)(h1:dq P a nt m c l=some (x,k))(h2:dq P a nt m d k=some (y,j)):dq P a nt m (.cond o c d) l=some (.cond u x y,j):=by simp[dq,h0,h1,h2]
theorem mF{i:Nat}(h1:dq P a nt m c l=some (x,k)):dq P a nt m (.block i c) l=some (.block i x,k):=by simp[dq,h1]
theorem mG{t b:List Nat}(h1:dq P a nt m c l=some (x,k)):dq P a nt m (.loop c) ((t,b)::l)=some (.loop t b x,k):=by simp[dq,h1]
end Go.Proofs.YtmgpekpnidjfoaaGreatDoor
