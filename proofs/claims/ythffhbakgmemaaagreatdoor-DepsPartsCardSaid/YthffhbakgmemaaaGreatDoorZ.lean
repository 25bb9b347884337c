/- DepsParts: for every input the law's function returns true; the arguments read as they did. Conditions: none. -/
import Derived.Test.YthffhbakgmemaaaGreatDoorY
import Derived.Test.YthffhbakgmemaaaGreatDoorB19
import Derived.Test.YthffhbakgmemaaaGreatDoorA
set_option maxRecDepth 100000
set_option maxHeartbeats 8000000
namespace Go.Proofs.YthffhbakgmemaaaGreatDoor
open Go Go.aG
theorem acB{n:Nat}:∀{l:List D},qh n true [.str,.int .i64] l->∃ps:List (ax×Int),l=ps.map fI
 |[],_=>⟨[],rfl⟩
 |_::_,h=>by
  cases h with
  |agg ts cs l h c=>
   obtain⟨ps,rfl⟩:=acB c;cases h with
   |cons t x ts xs a h=>
    cases a with
    |str v _=>
     cases h with
     |cons t x ts xs a h=>
      cases a;cases h;exact⟨(v,_)::ps,rfl⟩
theorem parts_said:Rows.DepsPartsCardSaid:=aor λn d h=>by
 cases h with
 |cons aw ts xs lY vs h1 h=>
  cases h with
  |cons aw ts ys lY vs a h=>
   cases h;cases h1 with
   |cons t x ts xs bp bq=>
    cases bq;cases a with
    |cons t x ts xs a2 aT=>
     cases aT;cases bp with
     |str s _=>
      cases a2 with
      |list aw ts l _ h=>
       obtain⟨c,rfl⟩:=acB h;have h:=aos aod s c;unfold aL at h;rw[qv]at h;exact h
end Go.Proofs.YthffhbakgmemaaaGreatDoor
