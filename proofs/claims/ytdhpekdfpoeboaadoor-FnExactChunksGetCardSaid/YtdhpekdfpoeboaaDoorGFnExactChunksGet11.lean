-- Several texts of this session in one (wip/merge.py).
import Derived.Test.YtdhpekdfpoeboaaDoorF00
-- Written by a program of this session (wip/myprint.py) through the print of the kit: not trusted, Lean checks it.
namespace Go.Proofs.YtdhpekdfpoeboaaDoor.P
open Go.RowKit Go.Proofs.YtdhpekdfpoeboaaDoorW.PrintWords Go.Proofs.YtdhpekdfpoeboaaDoorW.PrintLast Go.Proofs.YtdhpekdfpoeboaaDoorW.PrintMore
attribute [local go_sem] max2_int min2_int max_two min_two max_three min_three max_four min_four   -- for this text's walks alone
set_option linter.unusedVariables false
set_option linter.unusedSimpArgs false

/-! ### impl_nameOk: function 24 -/
def nameB (s : ByteArray) : Bool := s.data.toList.all fun b => letters.data.toList.contains b
def impl_nameOk.f (a0 : ByteArray) : Option Bool := some (decide (a0.size = 4) && nameB a0)
set_option maxHeartbeats 2000000 in
set_option maxRecDepth 100000 in
theorem impl_nameOk.calls (a0 : ByteArray) (r : Bool) (w : World) (h : impl_nameOk.f a0 = some r) :
    Calls Tryd.prog 24 #[.string a0] w fun e w' => e = .returned (.bool r) ∧ Below w.heap.size w w' := by
  unfold impl_nameOk.f at h
  obtain rfl := Option.some.inj h
  by_cases h4 : a0.size = 4
  · have e4 : ((a0.size : Int) == 4) = true := by rw [h4]; rfl
    have e5 : (a0.size == 4) = true := by rw [h4]; rfl
    rw [decide_eq_true h4, Bool.true_and]
    obtain ⟨t, ht⟩ : ∃ t : ByteArray, t = ⟨(Lib.trimS a0.data.toList letters.data.toList).toArray⟩ := ⟨_, rfl⟩
    obtain ⟨b, hb0⟩ : ∃ b, b = nameB a0 := ⟨_, rfl⟩
    have hq : t.toList.isEmpty = b := by
      have e1 : t.toList = Lib.trimS a0.data.toList letters.data.toList := by
        rw [ByteArray.toList_eq, ht]
      rw [e1, hb0]
      unfold nameB
      cases hb : a0.data.toList.all fun b => letters.data.toList.contains b with
      | true => rw [(trimS_nil _ _).2 hb]; rfl
      | false =>
        cases e2 : Lib.trimS a0.data.toList letters.data.toList with
        | nil =>
          rw [(trimS_nil _ _).1 e2] at hb
          exact absurd hb.symm Bool.false_ne_true
        | cons x l => rfl
    have hq2 : (t.toList == ([] : List UInt8)) = b := by
      rw [← hq]
      cases t.toList <;> rfl
    have HT := Aside0.mk (trim_letters a0 · (show a0.size ≤ 9223372036854775807 by omega))
    rw [← ht] at HT
    rw [← hb0]
    clear ht hb0
    go_enter Tryd.func24, Tryd.ntmps24
    go_wp2_with (go_at_call 39; refine (HT.out _).mono ?_; rintro e w' ⟨rfl, hb⟩)
    go_ret
    exact ⟨rfl, hb⟩
  · have e4 : ((a0.size : Int) == 4) = false := beq_eq_false_iff_ne.2 (by omega)
    have e5 : (a0.size == 4) = false := beq_eq_false_iff_ne.2 h4
    rw [decide_eq_false h4, Bool.false_and]
    go_enter Tryd.func24, Tryd.ntmps24
    go_wp2
    go_ret
    exact ⟨rfl, Below.refl _ _⟩

end Go.Proofs.YtdhpekdfpoeboaaDoor.P
-- Written by a program of this session (wip/myprint.py) through the print of the kit: not trusted, Lean checks it.
namespace Go.Proofs.YtdhpekdfpoeboaaDoor.P
open Go.RowKit Go.Proofs.YtdhpekdfpoeboaaDoorW.PrintWords Go.Proofs.YtdhpekdfpoeboaaDoorW.PrintLast Go.Proofs.YtdhpekdfpoeboaaDoorW.PrintMore
attribute [local go_sem] max2_int min2_int max_two min_two max_three min_three max_four min_four   -- for this text's walks alone
set_option linter.unusedVariables false
set_option linter.unusedSimpArgs false

/-! ### impl_in: function 44 -/
def impl_in.f (a0 : Int) (a1 : Int) (a2 : Int) : Option (Bool) := if a0 ≥ a1 then (some (decide (a0 ≤ a2))) else (some false)
set_option maxHeartbeats 8000000 in
set_option maxRecDepth 100000 in
theorem impl_in.calls (a0 : Int) (a1 : Int) (a2 : Int) (r : Bool) (w : World) (h : impl_in.f a0 a1 a2 = some r) :
    Calls Tryd.prog 44 #[.int .i64 a0, .int .i64 a1, .int .i64 a2] w fun e w' => e = .returned (.bool r) ∧ Drawn0 w w' := by
  have H : (if a0 ≥ a1 then (some (decide (a0 ≤ a2))) else (some false)) = some r := h
  clear h
  by_cases c4 : a0 ≥ a1
  · rw [if_pos c4] at H
    have c4b0 : decide (a1 ≤ a0) = true := decide_eq_true c4
    clear c4
    obtain rfl := Option.some.inj H
    go_enter Tryd.func44, Tryd.ntmps44
    go_wp2
    go_ret
    exact ⟨by first | rfl | (simp; done) | (simp [*]; done), by repeat (first | exact Drawn0.refl _ | apply Drawn0.step)⟩
  · rw [if_neg c4] at H
    have c4b0 : decide (a1 ≤ a0) = false := decide_eq_false c4
    clear c4
    obtain rfl := Option.some.inj H
    go_enter Tryd.func44, Tryd.ntmps44
    go_wp2
    go_ret
    exact ⟨by first | rfl | (simp; done) | (simp [*]; done), by repeat (first | exact Drawn0.refl _ | apply Drawn0.step)⟩

end Go.Proofs.YtdhpekdfpoeboaaDoor.P
