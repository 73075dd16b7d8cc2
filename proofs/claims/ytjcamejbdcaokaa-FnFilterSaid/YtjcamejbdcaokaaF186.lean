-- Written by a program of this session (wip/myprint.py) through the print of the kit: not trusted, Lean checks it.
import Derived.Test.YtjcamejbdcaokaaF00
import Derived.Test.YtjcamejbdcaokaaF198
namespace Go.Proofs.Ytjcamejbdcaokaa.P
open Go.RowKit Go.Proofs.YtjcamejbdcaokaaW.PrintWords Go.Proofs.YtjcamejbdcaokaaW.PrintLast Go.Proofs.YtjcamejbdcaokaaW.PrintMore
attribute [local go_sem] max2_int min2_int max_two min_two max_three min_three max_four min_four   -- for this text's walks alone
set_option linter.unusedVariables false
set_option linter.unusedSimpArgs false

/-! ### spec_l9Near: function 186 -/
def spec_l9Near.j0 : Nat → Int → Int → Int → Int → Int → Bool → Option (Int)
  | 0, _, _, _, _, _, _ => none
  | k + 1, x0, x1, x2, x9, x10, x28 => if x28 = true then (some x0) else (if x9 ≤ x10 then (some x1) else (some x2))
def spec_l9Near.f (k : Nat) (a0 : Int) (a1 : Int) (a2 : Int) : Option (Int) := (spec_l9Abs.f (wrap64 ((wrap64 ((wrap64 (a0 + a1)) - a2)) - a0))).bind fun t311 => ((spec_l9Abs.f (wrap64 ((wrap64 ((wrap64 (a0 + a1)) - a2)) - a1))).bind fun t312 => ((spec_l9Abs.f (wrap64 ((wrap64 ((wrap64 (a0 + a1)) - a2)) - a2))).bind fun t313 => (if t311 ≤ t312 then (spec_l9Near.j0 k a0 a1 a2 t312 t313 (decide (t311 ≤ t313))) else (spec_l9Near.j0 k a0 a1 a2 t312 t313 false))))
theorem spec_l9Near.mono_l : ∀ k, (∀ y0 y1 y2 y3 y4 y5, LeO (spec_l9Near.j0 k y0 y1 y2 y3 y4 y5) (spec_l9Near.j0 (k + 1) y0 y1 y2 y3 y4 y5))
  | 0 => fun _ _ _ _ _ _ r h => by simp [spec_l9Near.j0] at h
  | k + 1 => by
    have ih0 := spec_l9Near.mono_l k
    · intro y0 y1 y2 y3 y4 y5
      unfold spec_l9Near.j0
      repeat' first
      | (with_reducible exact ih0 _ _ _ _ _ _)
      | (with_reducible exact LeO.refl _)
      | (with_reducible exact LeO.none _)
      | (with_reducible refine LeO.ite ?_ ?_)
      | (with_reducible refine LeO.bind ?_ (fun _ => ?_))
      | exact ih0 _ _ _ _ _ _
      | exact LeO.none _
      | refine LeO.ite ?_ ?_
      | refine LeO.bind ?_ (fun _ => ?_)
theorem spec_l9Near.mono : ∀ a0 a1 a2 k, LeO (spec_l9Near.f k a0 a1 a2) (spec_l9Near.f (k + 1) a0 a1 a2) := by
  intro a0 a1 a2 k
  have ih0 := spec_l9Near.mono_l k
  unfold spec_l9Near.f
  repeat' first
      | (with_reducible exact ih0 _ _ _ _ _ _)
      | (with_reducible exact LeO.refl _)
      | (with_reducible exact LeO.none _)
      | (with_reducible refine LeO.ite ?_ ?_)
      | (with_reducible refine LeO.bind ?_ (fun _ => ?_))
      | exact ih0 _ _ _ _ _ _
      | exact LeO.none _
      | refine LeO.ite ?_ ?_
      | refine LeO.bind ?_ (fun _ => ?_)
set_option maxHeartbeats 8000000 in
set_option maxRecDepth 100000 in
theorem spec_l9Near.calls (k : Nat) (a0 : Int) (a1 : Int) (a2 : Int) (r : Int) (w : World) (h : spec_l9Near.f k a0 a1 a2 = some r) :
    Calls Try.prog 186 #[.int .i64 a0, .int .i64 a1, .int .i64 a2] w fun e w' => e = .returned (.int .i64 r) ∧ Drawn0 w w' := by
  have H : ((spec_l9Abs.f (wrap64 ((wrap64 ((wrap64 (a0 + a1)) - a2)) - a0))).bind fun t311 => ((spec_l9Abs.f (wrap64 ((wrap64 ((wrap64 (a0 + a1)) - a2)) - a1))).bind fun t312 => ((spec_l9Abs.f (wrap64 ((wrap64 ((wrap64 (a0 + a1)) - a2)) - a2))).bind fun t313 => (if t311 ≤ t312 then (spec_l9Near.j0 k a0 a1 a2 t312 t313 (decide (t311 ≤ t313))) else (spec_l9Near.j0 k a0 a1 a2 t312 t313 false))))) = some r := h
  clear h
  replace H := Option.bind_eq_some_iff.mp H
  obtain ⟨t311, A40, H⟩ := H
  replace H : ((spec_l9Abs.f (wrap64 ((wrap64 ((wrap64 (a0 + a1)) - a2)) - a1))).bind fun t312 => ((spec_l9Abs.f (wrap64 ((wrap64 ((wrap64 (a0 + a1)) - a2)) - a2))).bind fun t313 => (if t311 ≤ t312 then (spec_l9Near.j0 k a0 a1 a2 t312 t313 (decide (t311 ≤ t313))) else (spec_l9Near.j0 k a0 a1 a2 t312 t313 false)))) = some r := H
  have A4 := Aside0.mk A40
  clear A40
  replace H := Option.bind_eq_some_iff.mp H
  obtain ⟨t312, A50, H⟩ := H
  replace H : ((spec_l9Abs.f (wrap64 ((wrap64 ((wrap64 (a0 + a1)) - a2)) - a2))).bind fun t313 => (if t311 ≤ t312 then (spec_l9Near.j0 k a0 a1 a2 t312 t313 (decide (t311 ≤ t313))) else (spec_l9Near.j0 k a0 a1 a2 t312 t313 false))) = some r := H
  have A5 := Aside0.mk A50
  clear A50
  replace H := Option.bind_eq_some_iff.mp H
  obtain ⟨t313, A60, H⟩ := H
  replace H : (if t311 ≤ t312 then (spec_l9Near.j0 k a0 a1 a2 t312 t313 (decide (t311 ≤ t313))) else (spec_l9Near.j0 k a0 a1 a2 t312 t313 false)) = some r := H
  have A6 := Aside0.mk A60
  clear A60
  have HC7 := Aside0.mk H
  clear H
  go_enter Try.func186, Try.ntmps186
  go_upto_region 5 with (first | ((with_reducible refine gate_callee (f := 198) rfl ?_); refine goesL_ (some 19) rfl rfl Try.func198 (by kernel_rfl) rfl #[.int .i64 (wrap64 ((wrap64 ((wrap64 (a0 + a1)) - a2)) - a0))] rfl (by (try simp only [List.map_toArray, List.map_cons, List.map_nil]); first | done | rfl | (simp only [List.length_drop, List.length_take]; rfl)) ?_; (with_reducible refine (spec_l9Abs.calls (wrap64 ((wrap64 ((wrap64 (a0 + a1)) - a2)) - a0)) t311 _ A4.out).mono ?_); rintro e w' ⟨rfl, ⟨nd, rfl⟩⟩; refine ⟨_, rfl, ?_⟩) | ((with_reducible refine gate_callee (f := 198) rfl ?_); refine goesL_ (some 23) rfl rfl Try.func198 (by kernel_rfl) rfl #[.int .i64 (wrap64 ((wrap64 ((wrap64 (a0 + a1)) - a2)) - a1))] rfl (by (try simp only [List.map_toArray, List.map_cons, List.map_nil]); first | done | rfl | (simp only [List.length_drop, List.length_take]; rfl)) ?_; (with_reducible refine (spec_l9Abs.calls (wrap64 ((wrap64 ((wrap64 (a0 + a1)) - a2)) - a1)) t312 _ A5.out).mono ?_); rintro e w' ⟨rfl, ⟨nd, rfl⟩⟩; refine ⟨_, rfl, ?_⟩) | ((with_reducible refine gate_callee (f := 198) rfl ?_); refine goesL_ (some 27) rfl rfl Try.func198 (by kernel_rfl) rfl #[.int .i64 (wrap64 ((wrap64 ((wrap64 (a0 + a1)) - a2)) - a2))] rfl (by (try simp only [List.map_toArray, List.map_cons, List.map_nil]); first | done | rfl | (simp only [List.length_drop, List.length_take]; rfl)) ?_; (with_reducible refine (spec_l9Abs.calls (wrap64 ((wrap64 ((wrap64 (a0 + a1)) - a2)) - a2)) t313 _ A6.out).mono ?_); rintro e w' ⟨rfl, ⟨nd, rfl⟩⟩; refine ⟨_, rfl, ?_⟩))
  (try simp only [Act.put, List.setIfInBounds_toArray, List.set_cons_zero, List.set_cons_succ])
  go_cut [28] (fun v28 wc => ∃ (kq : Nat) (x28_6 : Bool), v28 = .bool x28_6 ∧ Aside0 (spec_l9Near.j0 kq a0 a1 a2 t312 t313 x28_6 = some r) ∧ Aside0 (kq ≤ k) ∧ Drawn0 w wc)
  case first =>
    have H := HC7.out
    clear HC7
    by_cases c8 : t311 ≤ t312
    · rw [if_pos c8] at H
      have c8b0 : decide (t311 ≤ t312) = true := decide_eq_true c8
      clear c8
      (first | rw [c8b0] | (simp only [i64_w, i32_w]; rw [c8b0]) | skip)
      have H' := Aside0.mk H
      clear H
      go_wp2
      go_meet
      case rel => exact ⟨_, (decide (t311 ≤ t313)), (by first | rfl | (simp; done) | (simp [*]; done)), H', ⟨by first | omega | exact Nat.le_refl _⟩, by repeat (first | exact Drawn0.refl _ | apply Drawn0.step)⟩
    · rw [if_neg c8] at H
      have c8b0 : decide (t311 ≤ t312) = false := decide_eq_false c8
      clear c8
      (first | rw [c8b0] | (simp only [i64_w, i32_w]; rw [c8b0]) | skip)
      have H' := Aside0.mk H
      clear H
      go_wp2
      go_meet
      case rel => exact ⟨_, (false), (by first | rfl | (simp; done) | (simp [*]; done)), H', ⟨by first | omega | exact Nat.le_refl _⟩, by repeat (first | exact Drawn0.refl _ | apply Drawn0.step)⟩
  case rest =>
    clear HC7
    try clear c1
    try clear p2
    try clear p6
    try clear c8
    try clear c8b0
    obtain ⟨kq, x28_6, rfl, HA, HJ6, ⟨mc6, rfl⟩⟩ := hcut
    cases kq with
    | zero => exact absurd HA.out (by simp [spec_l9Near.j0])
    | succ kj6 =>
      have H := HA.out
      clear HA
      simp only [spec_l9Near.j0] at H
      by_cases c9 : x28_6 = true
      · subst c9
        have H1 : (some a0) = some r := by rw [if_pos rfl] at H; exact H
        clear H
        have H := H1
        clear H1
        obtain rfl := Option.some.inj H
        go_wp2
        go_ret
        exact ⟨by first | rfl | (simp; done) | (simp [*]; done), by repeat (first | exact Drawn0.refl _ | apply Drawn0.step)⟩
      · replace c9 := Bool.eq_false_iff.mpr c9
        subst c9
        have H1 : (if t312 ≤ t313 then (some a1) else (some a2)) = some r := by rw [if_neg (show ¬ (false = true) by decide)] at H; exact H
        clear H
        have H := H1
        clear H1
        by_cases c10 : t312 ≤ t313
        · rw [if_pos c10] at H
          have c10b0 : decide (t312 ≤ t313) = true := decide_eq_true c10
          clear c10
          obtain rfl := Option.some.inj H
          go_wp2
          go_ret
          exact ⟨by first | rfl | (simp; done) | (simp [*]; done), by repeat (first | exact Drawn0.refl _ | apply Drawn0.step)⟩
        · rw [if_neg c10] at H
          have c10b0 : decide (t312 ≤ t313) = false := decide_eq_false c10
          clear c10
          obtain rfl := Option.some.inj H
          go_wp2
          go_ret
          exact ⟨by first | rfl | (simp; done) | (simp [*]; done), by repeat (first | exact Drawn0.refl _ | apply Drawn0.step)⟩

end Go.Proofs.Ytjcamejbdcaokaa.P
