/- CheckGraphs: for every text the law's function returns true; the argument reads as it did. Conditions: none. -/
import Derived.Test.YtmgpekpnidjfoaaGreatDoorY
import Derived.Test.YtmgpekpnidjfoaaGreatDoorB17
import Derived.Test.YtmgpekpnidjfoaaGreatDoorA
set_option maxRecDepth 100000
set_option maxHeartbeats 8000000
namespace Go.Proofs.YtmgpekpnidjfoaaGreatDoor
open Go Go.aH
theorem graphs_said:Rows.CheckGraphsCardSaid:=card λdN h=>by
 cases h with
 |cons ai ts xs l8 vs h1 h2=>
  cases h2;cases h1 with
  |cons t x ts xs av aW=>
   cases aW;cases av with
   |str s _=>
    have h:=am' amV s;unfold aM at h;rw[sD]at h;exact h
end Go.Proofs.YtmgpekpnidjfoaaGreatDoor
