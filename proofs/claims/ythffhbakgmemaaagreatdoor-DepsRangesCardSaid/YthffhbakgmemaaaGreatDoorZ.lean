/- DepsRanges: for every input the law's function returns true; the arguments read as they did. Conditions: none. -/
import Derived.Test.YthffhbakgmemaaaGreatDoorY
import Derived.Test.YthffhbakgmemaaaGreatDoorB18
import Derived.Test.YthffhbakgmemaaaGreatDoorA
set_option maxRecDepth 100000
set_option maxHeartbeats 8000000
namespace Go.Proofs.YthffhbakgmemaaaGreatDoor
open Go Go.aH
theorem ranges_said:Rows.DepsRangesCardSaid:=aGl λdN h=>by
 cases h with
 |cons ai ts xs l8 vs h1 h=>
  cases h with
  |cons ai ts ys l8 vs sh h=>
   cases h with
   |cons ai ts zs l8 vs av h=>
    cases h;cases h1 with
    |cons t x ts xs bw bJ=>
     cases bJ;cases sh with
     |cons t x ts xs a2 a6=>
      cases a6;cases av with
      |cons t x ts xs a3 cq=>
       cases cq with
       |cons t x ts xs a4 im=>
        cases im;cases bw with
        |str s _=>
         cases a2 with
         |str v _=>
          cases a3 with
          |int k n _=>
           cases a4 with
           |int k m _=>
            have h:=aGm amV s v n m;unfold aM at h;rw[sD]at h;exact h
end Go.Proofs.YthffhbakgmemaaaGreatDoor
