/- CheckTexts: for every text the law's function returns true; the argument reads as it did. Conditions: none. -/
import Derived.Test.YtmgpekpnidjfoaaGreatDoorY
import Derived.Test.YtmgpekpnidjfoaaGreatDoorB17
import Derived.Test.YtmgpekpnidjfoaaGreatDoorA
set_option maxRecDepth 100000
set_option maxHeartbeats 8000000
namespace Go.Proofs.YtmgpekpnidjfoaaGreatDoor
open Go Go.aJ
theorem texts_said:Rows.CheckTextsCardSaid:=card λdL h=>by
 cases h with
 |cons ah ts xs lU vs h1 h2=>
  cases h2;cases h1 with
  |cons t x ts xs av aZ=>
   cases aZ;cases av with
   |str s _=>
    have h:=aml al7 s;unfold aM at h;rw[r3]at h;exact h
end Go.Proofs.YtmgpekpnidjfoaaGreatDoor
