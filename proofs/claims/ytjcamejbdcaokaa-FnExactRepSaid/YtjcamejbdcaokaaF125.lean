-- Written by a program of this session (wip/myprint.py) through the print of the kit: not trusted, Lean checks it.
import Derived.Test.YtjcamejbdcaokaaF00
namespace Go.Proofs.Ytjcamejbdcaokaa.P
open Go.RowKit Go.Proofs.YtjcamejbdcaokaaW.PrintWords Go.Proofs.YtjcamejbdcaokaaW.PrintLast Go.Proofs.YtjcamejbdcaokaaW.PrintMore
attribute [local go_sem] max2_int min2_int max_two min_two max_three min_three max_four min_four   -- for this text's walks alone
set_option linter.unusedVariables false
set_option linter.unusedSimpArgs false

/-! ### spec_l8Depth: function 125 -/
def spec_l8Depth.j0 : Nat → Int → Int → Bool → Option (Bool)
  | 0, _, _, _ => none
  | k + 1, x1, x5, x6 => if x6 = true then (if x1 = 1 then (some true) else (if x1 = 2 then (some true) else (if x1 = 4 then (some true) else (some (x1 == 8))))) else (if x5 = 2 then (some (x1 == 24)) else (if x5 = 3 then (some (x1 == 32)) else (some false)))
def spec_l8Depth.f (k : Nat) (a0 : Int) (a1 : Int) : Option (Bool) := if a0 = 1 then (spec_l8Depth.j0 k a1 a0 (a0 == 1)) else (spec_l8Depth.j0 k a1 a0 (a0 == 4))
theorem spec_l8Depth.mono_l : ∀ k, (∀ y0 y1 y2, LeO (spec_l8Depth.j0 k y0 y1 y2) (spec_l8Depth.j0 (k + 1) y0 y1 y2))
  | 0 => fun _ _ _ r h => by simp [spec_l8Depth.j0] at h
  | k + 1 => by
    have ih0 := spec_l8Depth.mono_l k
    · intro y0 y1 y2
      unfold spec_l8Depth.j0
      repeat' first
      | (with_reducible exact ih0 _ _ _)
      | (with_reducible exact LeO.refl _)
      | (with_reducible exact LeO.none _)
      | (with_reducible refine LeO.ite ?_ ?_)
      | (with_reducible refine LeO.bind ?_ (fun _ => ?_))
      | exact ih0 _ _ _
      | exact LeO.none _
      | refine LeO.ite ?_ ?_
      | refine LeO.bind ?_ (fun _ => ?_)
theorem spec_l8Depth.mono : ∀ a0 a1 k, LeO (spec_l8Depth.f k a0 a1) (spec_l8Depth.f (k + 1) a0 a1) := by
  intro a0 a1 k
  have ih0 := spec_l8Depth.mono_l k
  unfold spec_l8Depth.f
  repeat' first
      | (with_reducible exact ih0 _ _ _)
      | (with_reducible exact LeO.refl _)
      | (with_reducible exact LeO.none _)
      | (with_reducible refine LeO.ite ?_ ?_)
      | (with_reducible refine LeO.bind ?_ (fun _ => ?_))
      | exact ih0 _ _ _
      | exact LeO.none _
      | refine LeO.ite ?_ ?_
      | refine LeO.bind ?_ (fun _ => ?_)
set_option maxHeartbeats 8000000 in
set_option maxRecDepth 100000 in
theorem spec_l8Depth.calls (k : Nat) (a0 : Int) (a1 : Int) (r : Bool) (w : World) (h : spec_l8Depth.f k a0 a1 = some r) :
    Calls Try.prog 125 #[.int .i64 a0, .int .i64 a1] w fun e w' => e = .returned (.bool r) ∧ Drawn0 w w' := by
  have H : (if a0 = 1 then (spec_l8Depth.j0 k a1 a0 (a0 == 1)) else (spec_l8Depth.j0 k a1 a0 (a0 == 4))) = some r := h
  clear h
  have HC3 := Aside0.mk H
  clear H
  go_enter Try.func125, Try.ntmps125
  go_upto_if 6 with (fail)
  go_cut [6] (fun v6 wc => ∃ (kq : Nat) (x6_2 : Bool), v6 = .bool x6_2 ∧ Aside0 (spec_l8Depth.j0 kq a1 a0 x6_2 = some r) ∧ Aside0 (kq ≤ k) ∧ Drawn0 w wc)
  case first =>
    have H := HC3.out
    clear HC3
    by_cases c4 : a0 = 1
    · rw [if_pos c4] at H
      have c4b0 : (a0 == 1) = true := beq_iff_eq.mpr c4
      have c4b1 : (a0 != 1) = false := bne_eq_false_iff_eq.mpr c4
      clear c4
      (first | rw [c4b0] | (simp only [i64_w, i32_w]; rw [c4b0]) | skip)
      have H' := Aside0.mk H
      clear H
      go_wp2
      go_meet
      case rel => exact ⟨_, ((a0 == 1)), (by first | rfl | (simp; done) | (simp [*]; done)), H', ⟨by first | omega | exact Nat.le_refl _⟩, by repeat (first | exact Drawn0.refl _ | apply Drawn0.step)⟩
    · rw [if_neg c4] at H
      have c4b0 : (a0 == 1) = false := beq_eq_false_iff_ne.mpr c4
      have c4b1 : (a0 != 1) = true := bne_iff_ne.mpr c4
      (first | rw [c4b0] | (simp only [i64_w, i32_w]; rw [c4b0]) | skip)
      have H' := Aside0.mk H
      clear H
      go_wp2
      go_meet
      case rel => exact ⟨_, ((a0 == 4)), (by first | rfl | (simp; done) | (simp [*]; done)), H', ⟨by first | omega | exact Nat.le_refl _⟩, by repeat (first | exact Drawn0.refl _ | apply Drawn0.step)⟩
  case rest =>
    clear HC3
    try clear c1
    try clear p2
    try clear c4
    try clear c4b0
    try clear c4b1
    obtain ⟨kq, x6_2, rfl, HA, HJ2, ⟨mc2, rfl⟩⟩ := hcut
    cases kq with
    | zero => exact absurd HA.out (by simp [spec_l8Depth.j0])
    | succ kj2 =>
      have H := HA.out
      clear HA
      simp only [spec_l8Depth.j0] at H
      by_cases c5 : x6_2 = true
      · subst c5
        have H1 : (if a1 = 1 then (some true) else (if a1 = 2 then (some true) else (if a1 = 4 then (some true) else (some (a1 == 8))))) = some r := by rw [if_pos rfl] at H; exact H
        clear H
        have H := H1
        clear H1
        by_cases c6 : a1 = 1
        · rw [if_pos c6] at H
          have c6b0 : (a1 == 1) = true := beq_iff_eq.mpr c6
          have c6b1 : (a1 != 1) = false := bne_eq_false_iff_eq.mpr c6
          clear c6
          obtain rfl := Option.some.inj H
          go_wp2
          go_ret
          exact ⟨by first | rfl | (simp; done) | (simp [*]; done), by repeat (first | exact Drawn0.refl _ | apply Drawn0.step)⟩
        · rw [if_neg c6] at H
          have c6b0 : (a1 == 1) = false := beq_eq_false_iff_ne.mpr c6
          have c6b1 : (a1 != 1) = true := bne_iff_ne.mpr c6
          by_cases c7 : a1 = 2
          · rw [if_pos c7] at H
            have c7b0 : (a1 == 2) = true := beq_iff_eq.mpr c7
            have c7b1 : (a1 != 2) = false := bne_eq_false_iff_eq.mpr c7
            clear c7
            obtain rfl := Option.some.inj H
            go_wp2
            go_ret
            exact ⟨by first | rfl | (simp; done) | (simp [*]; done), by repeat (first | exact Drawn0.refl _ | apply Drawn0.step)⟩
          · rw [if_neg c7] at H
            have c7b0 : (a1 == 2) = false := beq_eq_false_iff_ne.mpr c7
            have c7b1 : (a1 != 2) = true := bne_iff_ne.mpr c7
            by_cases c8 : a1 = 4
            · rw [if_pos c8] at H
              have c8b0 : (a1 == 4) = true := beq_iff_eq.mpr c8
              have c8b1 : (a1 != 4) = false := bne_eq_false_iff_eq.mpr c8
              clear c8
              obtain rfl := Option.some.inj H
              go_wp2
              go_ret
              exact ⟨by first | rfl | (simp; done) | (simp [*]; done), by repeat (first | exact Drawn0.refl _ | apply Drawn0.step)⟩
            · rw [if_neg c8] at H
              have c8b0 : (a1 == 4) = false := beq_eq_false_iff_ne.mpr c8
              have c8b1 : (a1 != 4) = true := bne_iff_ne.mpr c8
              obtain rfl := Option.some.inj H
              go_wp2
              go_ret
              exact ⟨by first | rfl | (simp; done) | (simp [*]; done), by repeat (first | exact Drawn0.refl _ | apply Drawn0.step)⟩
      · replace c5 := Bool.eq_false_iff.mpr c5
        subst c5
        have H1 : (if a0 = 2 then (some (a1 == 24)) else (if a0 = 3 then (some (a1 == 32)) else (some false))) = some r := by rw [if_neg (show ¬ (false = true) by decide)] at H; exact H
        clear H
        have H := H1
        clear H1
        by_cases c9 : a0 = 2
        · rw [if_pos c9] at H
          have c9b0 : (a0 == 2) = true := beq_iff_eq.mpr c9
          have c9b1 : (a0 != 2) = false := bne_eq_false_iff_eq.mpr c9
          clear c9
          obtain rfl := Option.some.inj H
          go_wp2
          go_ret
          exact ⟨by first | rfl | (simp; done) | (simp [*]; done), by repeat (first | exact Drawn0.refl _ | apply Drawn0.step)⟩
        · rw [if_neg c9] at H
          have c9b0 : (a0 == 2) = false := beq_eq_false_iff_ne.mpr c9
          have c9b1 : (a0 != 2) = true := bne_iff_ne.mpr c9
          by_cases c10 : a0 = 3
          · rw [if_pos c10] at H
            have c10b0 : (a0 == 3) = true := beq_iff_eq.mpr c10
            have c10b1 : (a0 != 3) = false := bne_eq_false_iff_eq.mpr c10
            clear c10
            obtain rfl := Option.some.inj H
            go_wp2
            go_ret
            exact ⟨by first | rfl | (simp; done) | (simp [*]; done), by repeat (first | exact Drawn0.refl _ | apply Drawn0.step)⟩
          · rw [if_neg c10] at H
            have c10b0 : (a0 == 3) = false := beq_eq_false_iff_ne.mpr c10
            have c10b1 : (a0 != 3) = true := bne_iff_ne.mpr c10
            obtain rfl := Option.some.inj H
            go_wp2
            go_ret
            exact ⟨by first | rfl | (simp; done) | (simp [*]; done), by repeat (first | exact Drawn0.refl _ | apply Drawn0.step)⟩

end Go.Proofs.Ytjcamejbdcaokaa.P
