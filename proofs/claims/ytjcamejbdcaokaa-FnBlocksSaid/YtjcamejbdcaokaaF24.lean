-- Written by a program of this session (wip/myprint.py) through the print of the kit: not trusted, Lean checks it.
import Derived.Test.YtjcamejbdcaokaaF00
import Derived.Test.YtjcamejbdcaokaaF67
import Derived.Test.YtjcamejbdcaokaaF82
namespace Go.Proofs.Ytjcamejbdcaokaa.P
open Go.RowKit Go.Proofs.YtjcamejbdcaokaaW.PrintWords Go.Proofs.YtjcamejbdcaokaaW.PrintLast Go.Proofs.YtjcamejbdcaokaaW.PrintMore
attribute [local go_sem] max2_int min2_int max_two min_two max_three min_three max_four min_four   -- for this text's walks alone
set_option linter.unusedVariables false
set_option linter.unusedSimpArgs false

/-! ### spec_BlocksGet: function 24 -/
def spec_BlocksGet.f (k : Nat) (a0 : ByteArray) (a1 : Int) : Option (ByteArray × Int × Bool) := if (a0.size : Int) > 9000 then (some ((⟨#[]⟩ : ByteArray), 0, false)) else ((spec_l1In.f a1 0 (a0.size : Int)).bind fun t245 => (if t245 = true then ((spec_l10Join.f k a0 a1).bind fun bt246 => (some (bt246.1, bt246.2.1, bt246.2.2))) else (some ((⟨#[]⟩ : ByteArray), 0, false))))
theorem spec_BlocksGet.mono : ∀ a0 a1 k, LeO (spec_BlocksGet.f k a0 a1) (spec_BlocksGet.f (k + 1) a0 a1) := by
  intro a0 a1 k
  unfold spec_BlocksGet.f
  repeat' first
      | (with_reducible exact spec_l10Join.mono _ _ _)
      | (with_reducible exact LeO.refl _)
      | (with_reducible exact LeO.none _)
      | (with_reducible refine LeO.ite ?_ ?_)
      | (with_reducible refine LeO.bind ?_ (fun _ => ?_))
      | exact spec_l10Join.mono _ _ _
      | exact LeO.none _
      | refine LeO.ite ?_ ?_
      | refine LeO.bind ?_ (fun _ => ?_)
set_option maxHeartbeats 8000000 in
set_option maxRecDepth 100000 in
theorem spec_BlocksGet.calls (k : Nat) (a0 : ByteArray) (a1 : Int) (r1 : ByteArray) (r2 : Int) (r3 : Bool) (w : World) (h : spec_BlocksGet.f k a0 a1 = some (r1, r2, r3)) :
    Calls Try.prog 24 #[.string a0, .int .i64 a1] w fun e w' => e = .returned (.tuple #[.string r1, .int .i64 r2, .bool r3]) ∧ Drawn0 w w' := by
  have H : (if (a0.size : Int) > 9000 then (some ((⟨#[]⟩ : ByteArray), 0, false)) else ((spec_l1In.f a1 0 (a0.size : Int)).bind fun t245 => (if t245 = true then ((spec_l10Join.f k a0 a1).bind fun bt246 => (some (bt246.1, bt246.2.1, bt246.2.2))) else (some ((⟨#[]⟩ : ByteArray), 0, false))))) = some (r1, r2, r3) := h
  clear h
  by_cases c3 : (a0.size : Int) > 9000
  · rw [if_pos c3] at H
    have c3b0 : decide (9000 < (a0.size : Int)) = true := decide_eq_true c3
    have c3b1 : decide (9000 < a0.size) = true := decide_eq_true (by omega)
    clear c3
    simp only [Option.some.injEq, Prod.mk.injEq] at H
    obtain ⟨rfl, rfl, rfl⟩ := H
    go_enter Try.func24, Try.ntmps24
    go_wp2
    go_ret3
    exact ⟨by first | rfl | (simp; done) | (simp [*]; done), by repeat (first | exact Drawn0.refl _ | apply Drawn0.step)⟩
  · rw [if_neg c3] at H
    have c3b0 : decide (9000 < (a0.size : Int)) = false := decide_eq_false c3
    have c3b1 : decide (9000 < a0.size) = false := decide_eq_false (by omega)
    clear c3
    replace H := Option.bind_eq_some_iff.mp H
    obtain ⟨t245, A40, H⟩ := H
    replace H : (if t245 = true then ((spec_l10Join.f k a0 a1).bind fun bt246 => (some (bt246.1, bt246.2.1, bt246.2.2))) else (some ((⟨#[]⟩ : ByteArray), 0, false))) = some (r1, r2, r3) := H
    have A4 := Aside0.mk A40
    clear A40
    by_cases c5 : t245 = true
    · subst c5
      have H1 : ((spec_l10Join.f k a0 a1).bind fun bt246 => (some (bt246.1, bt246.2.1, bt246.2.2))) = some (r1, r2, r3) := by rw [if_pos rfl] at H; exact H
      clear H
      have H := H1
      clear H1
      replace H := Option.bind_eq_some_iff.mp H
      obtain ⟨⟨t246, t247, t248⟩, A60, H⟩ := H
      replace H : (some (t246, t247, t248)) = some (r1, r2, r3) := H
      have A6 := Aside0.mk A60
      clear A60
      simp only [Option.some.injEq, Prod.mk.injEq] at H
      obtain ⟨rfl, rfl, rfl⟩ := H
      go_enter Try.func24, Try.ntmps24
      go_wp2_with (first | (go_at_call 67; (with_reducible refine (spec_l1In.calls a1 0 (a0.size : Int) true _ A4.out).mono ?_); rintro e w' ⟨rfl, ⟨nd, rfl⟩⟩) | ((with_reducible refine gate_callee (f := 82) rfl ?_); refine goesL_ (some 19) rfl rfl Try.func82 (by kernel_rfl) rfl #[.string a0, .int .i64 a1] rfl (by (try simp only [List.map_toArray, List.map_cons, List.map_nil]); first | done | rfl | (simp only [List.length_drop, List.length_take]; rfl)) ?_; (with_reducible refine (spec_l10Join.calls k a0 a1 t246 t247 t248 _ A6.out).mono ?_); rintro e w' ⟨rfl, ⟨nd, rfl⟩⟩; refine ⟨_, rfl, ?_⟩))
      go_ret3
      exact ⟨by first | rfl | (simp; done) | (simp [*]; done), by repeat (first | exact Drawn0.refl _ | apply Drawn0.step)⟩
    · replace c5 := Bool.eq_false_iff.mpr c5
      subst c5
      have H1 : (some ((⟨#[]⟩ : ByteArray), 0, false)) = some (r1, r2, r3) := by rw [if_neg (show ¬ (false = true) by decide)] at H; exact H
      clear H
      have H := H1
      clear H1
      simp only [Option.some.injEq, Prod.mk.injEq] at H
      obtain ⟨rfl, rfl, rfl⟩ := H
      go_enter Try.func24, Try.ntmps24
      go_wp2_with (first | (go_at_call 67; (with_reducible refine (spec_l1In.calls a1 0 (a0.size : Int) false _ A4.out).mono ?_); rintro e w' ⟨rfl, ⟨nd, rfl⟩⟩))
      go_ret3
      exact ⟨by first | rfl | (simp; done) | (simp [*]; done), by repeat (first | exact Drawn0.refl _ | apply Drawn0.step)⟩

end Go.Proofs.Ytjcamejbdcaokaa.P
