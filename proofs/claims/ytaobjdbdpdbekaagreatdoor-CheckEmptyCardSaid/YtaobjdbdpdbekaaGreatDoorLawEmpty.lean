/- A model without nodes: what the law's function comes to. Conditions: none. -/
import Derived.Test.YtaobjdbdpdbekaaGreatDoorAwake
set_option maxRecDepth 1000000
namespace Go.Proofs.YtaobjdbdpdbekaaGreatDoor
open Go Go.Vm

theorem e6a (name : List UInt8) (n : Nat) : execQ awx9 tab gl 1000 60 6 [.d (.str name), .d (.int .i64 (.ofNat n))] [] = some (.d (.bool true), []) := by kernel_rfl
theorem e6b (name : List UInt8) : execQ awx9 tab gl 1000 60 6 [.d (.str name), .d (.int .i64 (.negSucc 0))] [] = some (.d (.bool true), []) := by kernel_rfl
theorem e6c (name : List UInt8) (n : Nat) : execQ awx9 tab gl 1000 60 6 [.d (.str name), .d (.int .i64 (.negSucc (n + 1)))] [] = some (.d (.bool true), []) := by kernel_rfl

theorem e6 (name : List UInt8) (i : Int) : VEv Tryz.prog gl 6 [.d (.str name), .d (.int .i64 i)] [] (.d (.bool true)) [] := by
  cases i with
  | ofNat n => exact execQ_sound awk9 tabOk 60 _ _ _ _ _ (e6a name n)
  | negSucc n =>
    cases n with
    | zero => exact execQ_sound awk9 tabOk 60 _ _ _ _ _ (e6b name)
    | succ n => exact execQ_sound awk9 tabOk 60 _ _ _ _ _ (e6c name n)

end Go.Proofs.YtaobjdbdpdbekaaGreatDoor
