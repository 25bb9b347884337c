/- CheckEmpty: for every name and every integer the law's function returns true; the arguments read as they did. Conditions: none. -/
import Derived.Test.YtaobjdbdpdbekaaGreatDoorLiftCheckEmpty
import Derived.Test.YtaobjdbdpdbekaaGreatDoorLawEmpty
namespace Go.Proofs.YtaobjdbdpdbekaaGreatDoor
open Go Go.Vm

theorem empty_said : Rows.CheckEmptyCardSaid := card fun qs h => by
  cases h with
  | cons ag ts xs tys vs h1 h2 =>
    cases h1 with
    | cons t x ts xs h3 h4 =>
      cases h4
      cases h3 with
      | str s _ =>
        cases h2 with
        | cons ag ts xs tys vs h1 h2 =>
          cases h2
          cases h1 with
          | cons t x ts xs h3 h4 =>
            cases h4
            cases h3 with
            | int k n _ _ => exact e6 s n

end Go.Proofs.YtaobjdbdpdbekaaGreatDoor
