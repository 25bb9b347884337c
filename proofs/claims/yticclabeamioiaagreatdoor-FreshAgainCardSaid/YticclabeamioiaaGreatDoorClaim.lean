/- FreshAgain: for every integer that names an error the law's function returns true; the argument reads as it did. Conditions: none. -/
import Derived.Test.YticclabeamioiaaGreatDoorLiftFreshAgain
import Derived.Test.YticclabeamioiaaGreatDoorLaw
namespace Go.Proofs.YticclabeamioiaaGreatDoor
open Go Go.Vm

theorem again_said : Rows.FreshAgainCardSaid := card fun qs h => by
  cases h with
  | cons ag ts xs tys vs h1 h2 =>
    cases h2
    cases h1 with
    | cons t x ts xs h3 h4 =>
      cases h4
      cases h3 with
      | int k n _ _ => exact e3 n

end Go.Proofs.YticclabeamioiaaGreatDoor
