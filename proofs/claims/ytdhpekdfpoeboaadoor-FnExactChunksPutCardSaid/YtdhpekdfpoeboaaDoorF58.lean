-- Written by a program of this session (wip/myprint.py) through the print of the kit: not trusted, Lean checks it.
import Derived.Test.YtdhpekdfpoeboaaDoorF00
namespace Go.Proofs.YtdhpekdfpoeboaaDoor.P
open Go.RowKit Go.Proofs.YtdhpekdfpoeboaaDoorW.PrintWords Go.Proofs.YtdhpekdfpoeboaaDoorW.PrintLast Go.Proofs.YtdhpekdfpoeboaaDoorW.PrintMore
attribute [local go_sem] max2_int min2_int max_two min_two max_three min_three max_four min_four   -- for this text's walks alone
set_option linter.unusedVariables false
set_option linter.unusedSimpArgs false

/-! ### spec_l2Xor: function 58 -/
def spec_l2Xor.f (a0 : Int) (a1 : Int) : Option (Int) := some (Go.bits .xor .i64 a0 a1)
set_option maxHeartbeats 8000000 in
set_option maxRecDepth 100000 in
theorem spec_l2Xor.calls (a0 : Int) (a1 : Int) (r : Int) (w : World) (h : spec_l2Xor.f a0 a1 = some r) :
    Calls Tryd.prog 58 #[.int .i64 a0, .int .i64 a1] w fun e w' => e = .returned (.int .i64 r) ∧ Drawn0 w w' := by
  have H : (some (Go.bits .xor .i64 a0 a1)) = some r := h
  clear h
  obtain rfl := Option.some.inj H
  go_enter Tryd.func58, Tryd.ntmps58
  go_wp2
  go_ret
  exact ⟨by first | rfl | (simp; done) | (simp [*]; done), by repeat (first | exact Drawn0.refl _ | apply Drawn0.step)⟩

end Go.Proofs.YtdhpekdfpoeboaaDoor.P
