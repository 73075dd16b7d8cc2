-- Several texts of this session in one (wip/merge.py).
import Derived.Test.YtdhpekdfpoeboaaDoorGFnChunksByte0
import Derived.Test.YtdhpekdfpoeboaaDoorGFnChunksByte4
-- Written by a program of this session (wip/myprint.py) through the print of the kit: not trusted, Lean checks it.
namespace Go.Proofs.YtdhpekdfpoeboaaDoor.P
open Go.RowKit Go.Proofs.YtdhpekdfpoeboaaDoorW.PrintWords Go.Proofs.YtdhpekdfpoeboaaDoorW.PrintLast Go.Proofs.YtdhpekdfpoeboaaDoorW.PrintMore
attribute [local go_sem] max2_int min2_int max_two min_two max_three min_three max_four min_four   -- for this text's walks alone
set_option linter.unusedVariables false
set_option linter.unusedSimpArgs false

/-! ### impl_NumGet: function 29 -/
mutual
def impl_NumGet.j0 : Nat → ByteArray → Int → Int → Bool → Bool → Option (Int × Bool)
  | 0, _, _, _, _, _ => none
  | k + 1, x0, x1, x2, x3, x29 => if x29 = true then (some (0, false)) else (impl_NumGet.l0 k x0 x1 x2 x3 0 x2 0)
def impl_NumGet.l0 : Nat → ByteArray → Int → Int → Bool → Int → Int → Int → Option (Int × Bool)
  | 0, _, _, _, _, _, _, _ => none
  | k + 1, x0, x1, x2, x3, x10, x30, x31 => if x31 < x30 then (if x3 = true then (if 0 ≤ (wrap64 (x1 + x31)) then (if (wrap64 (x1 + x31)) < (x0.size : Int) then (impl_NumGet.l0 k x0 x1 x2 x3 (Go.bits .or .i64 (wrap64 (x10 * 256)) (wrap64 (bt x0 (wrap64 (x1 + x31))))) x30 (wrap64 (x31 + 1))) else (none)) else (none)) else (if 0 ≤ (wrap64 ((wrap64 ((wrap64 (x1 + x2)) - 1)) - x31)) then (if (wrap64 ((wrap64 ((wrap64 (x1 + x2)) - 1)) - x31)) < (x0.size : Int) then (impl_NumGet.l0 k x0 x1 x2 x3 (Go.bits .or .i64 (wrap64 (x10 * 256)) (wrap64 (bt x0 (wrap64 ((wrap64 ((wrap64 (x1 + x2)) - 1)) - x31))))) x30 (wrap64 (x31 + 1))) else (none)) else (none))) else (some (x10, true))
end
def impl_NumGet.f (k : Nat) (a0 : ByteArray) (a1 : Int) (a2 : Int) (a3 : Bool) : Option (Int × Bool) := (impl_in.f a2 1 4).bind fun t217 => (if t217 = true then (if (a0.size : Int) > 9000 then (impl_NumGet.j0 k a0 a1 a2 a3 true) else ((impl_in.f a1 0 (wrap64 ((a0.size : Int) - a2))).bind fun t218 => (impl_NumGet.j0 k a0 a1 a2 a3 (!t218)))) else (impl_NumGet.j0 k a0 a1 a2 a3 true))
theorem impl_NumGet.mono_l : ∀ k, (∀ y0 y1 y2 y3 y4, LeO (impl_NumGet.j0 k y0 y1 y2 y3 y4) (impl_NumGet.j0 (k + 1) y0 y1 y2 y3 y4)) ∧ (∀ y0 y1 y2 y3 y4 y5 y6, LeO (impl_NumGet.l0 k y0 y1 y2 y3 y4 y5 y6) (impl_NumGet.l0 (k + 1) y0 y1 y2 y3 y4 y5 y6))
  | 0 => ⟨fun _ _ _ _ _ r h => by simp [impl_NumGet.j0] at h, fun _ _ _ _ _ _ _ r h => by simp [impl_NumGet.l0] at h⟩
  | k + 1 => by
    obtain ⟨ih0, ih1⟩ := impl_NumGet.mono_l k
    refine ⟨?_, ?_⟩
    · intro y0 y1 y2 y3 y4
      unfold impl_NumGet.j0
      repeat' first
      | (with_reducible exact ih0 _ _ _ _ _)
      | (with_reducible exact ih1 _ _ _ _ _ _ _)
      | (with_reducible exact LeO.refl _)
      | (with_reducible exact LeO.none _)
      | (with_reducible refine LeO.ite ?_ ?_)
      | (with_reducible refine LeO.bind ?_ (fun _ => ?_))
      | exact ih0 _ _ _ _ _
      | exact ih1 _ _ _ _ _ _ _
      | exact LeO.none _
      | refine LeO.ite ?_ ?_
      | refine LeO.bind ?_ (fun _ => ?_)
    · intro y0 y1 y2 y3 y4 y5 y6
      unfold impl_NumGet.l0
      repeat' first
      | (with_reducible exact ih0 _ _ _ _ _)
      | (with_reducible exact ih1 _ _ _ _ _ _ _)
      | (with_reducible exact LeO.refl _)
      | (with_reducible exact LeO.none _)
      | (with_reducible refine LeO.ite ?_ ?_)
      | (with_reducible refine LeO.bind ?_ (fun _ => ?_))
      | exact ih0 _ _ _ _ _
      | exact ih1 _ _ _ _ _ _ _
      | exact LeO.none _
      | refine LeO.ite ?_ ?_
      | refine LeO.bind ?_ (fun _ => ?_)
theorem impl_NumGet.mono : ∀ a0 a1 a2 a3 k, LeO (impl_NumGet.f k a0 a1 a2 a3) (impl_NumGet.f (k + 1) a0 a1 a2 a3) := by
  intro a0 a1 a2 a3 k
  obtain ⟨ih0, ih1⟩ := impl_NumGet.mono_l k
  unfold impl_NumGet.f
  repeat' first
      | (with_reducible exact ih0 _ _ _ _ _)
      | (with_reducible exact ih1 _ _ _ _ _ _ _)
      | (with_reducible exact LeO.refl _)
      | (with_reducible exact LeO.none _)
      | (with_reducible refine LeO.ite ?_ ?_)
      | (with_reducible refine LeO.bind ?_ (fun _ => ?_))
      | exact ih0 _ _ _ _ _
      | exact ih1 _ _ _ _ _ _ _
      | exact LeO.none _
      | refine LeO.ite ?_ ?_
      | refine LeO.bind ?_ (fun _ => ?_)
set_option maxHeartbeats 8000000 in
set_option maxRecDepth 100000 in
theorem impl_NumGet.calls (k : Nat) (a0 : ByteArray) (a1 : Int) (a2 : Int) (a3 : Bool) (r1 : Int) (r2 : Bool) (w : World) (h : impl_NumGet.f k a0 a1 a2 a3 = some (r1, r2)) :
    Calls Tryd.prog 29 #[.string a0, .int .i64 a1, .int .i64 a2, .bool a3] w fun e w' => e = .returned (.tuple #[.int .i64 r1, .bool r2]) ∧ Drawn0 w w' := by
  have H : ((impl_in.f a2 1 4).bind fun t217 => (if t217 = true then (if (a0.size : Int) > 9000 then (impl_NumGet.j0 k a0 a1 a2 a3 true) else ((impl_in.f a1 0 (wrap64 ((a0.size : Int) - a2))).bind fun t218 => (impl_NumGet.j0 k a0 a1 a2 a3 (!t218)))) else (impl_NumGet.j0 k a0 a1 a2 a3 true))) = some (r1, r2) := h
  clear h
  have HC5 := Aside0.mk H
  clear H
  go_enter Tryd.func29, Tryd.ntmps29
  go_upto_region 1 with (fail)
  go_cut [29] (fun v29 wc => ∃ (kq : Nat) (x29_4 : Bool), v29 = .bool x29_4 ∧ Aside0 (impl_NumGet.j0 kq a0 a1 a2 a3 x29_4 = some (r1, r2)) ∧ Aside0 (kq ≤ k) ∧ Drawn0 w wc)
  case first =>
    have H := HC5.out
    clear HC5
    replace H := Option.bind_eq_some_iff.mp H
    obtain ⟨t217, A60, H⟩ := H
    replace H : (if t217 = true then (if (a0.size : Int) > 9000 then (impl_NumGet.j0 k a0 a1 a2 a3 true) else ((impl_in.f a1 0 (wrap64 ((a0.size : Int) - a2))).bind fun t218 => (impl_NumGet.j0 k a0 a1 a2 a3 (!t218)))) else (impl_NumGet.j0 k a0 a1 a2 a3 true)) = some (r1, r2) := H
    have A6 := Aside0.mk A60
    clear A60
    by_cases c7 : t217 = true
    · subst c7
      have H1 : (if (a0.size : Int) > 9000 then (impl_NumGet.j0 k a0 a1 a2 a3 true) else ((impl_in.f a1 0 (wrap64 ((a0.size : Int) - a2))).bind fun t218 => (impl_NumGet.j0 k a0 a1 a2 a3 (!t218)))) = some (r1, r2) := by rw [if_pos rfl] at H; exact H
      clear H
      have H := H1
      clear H1
      by_cases c8 : (a0.size : Int) > 9000
      · rw [if_pos c8] at H
        have c8b0 : decide (9000 < (a0.size : Int)) = true := decide_eq_true c8
        have c8b1 : decide (9000 < a0.size) = true := decide_eq_true (by omega)
        clear c8
        (first | rw [c8b0] | (simp only [i64_w, i32_w]; rw [c8b0]) | skip)
        have H' := Aside0.mk H
        clear H
        go_wp2_with (first | ((with_reducible refine gate_callee (f := 44) rfl ?_); refine goesL_ (some 14) rfl rfl Tryd.func44 (by kernel_rfl) rfl #[.int .i64 a2, .int .i64 1, .int .i64 4] rfl (by (try simp only [List.map_toArray, List.map_cons, List.map_nil]); first | done | rfl | (simp only [List.length_drop, List.length_take]; rfl)) ?_; (with_reducible refine (impl_in.calls a2 1 4 true _ A6.out).mono ?_); rintro e w' ⟨rfl, ⟨nd, rfl⟩⟩; refine ⟨_, rfl, ?_⟩))
        go_meet
        case rel => exact ⟨_, (true), (by first | rfl | (simp; done) | (simp [*]; done)), H', ⟨by first | omega | exact Nat.le_refl _⟩, by repeat (first | exact Drawn0.refl _ | apply Drawn0.step)⟩
      · rw [if_neg c8] at H
        have c8b0 : decide (9000 < (a0.size : Int)) = false := decide_eq_false c8
        have c8b1 : decide (9000 < a0.size) = false := decide_eq_false (by omega)
        clear c8
        (first | rw [c8b0] | (simp only [i64_w, i32_w]; rw [c8b0]) | skip)
        replace H := Option.bind_eq_some_iff.mp H
        obtain ⟨t218, A90, H⟩ := H
        replace H : (impl_NumGet.j0 k a0 a1 a2 a3 (!t218)) = some (r1, r2) := H
        have A9 := Aside0.mk A90
        clear A90
        have H' := Aside0.mk H
        clear H
        go_wp2_with (first | ((with_reducible refine gate_callee (f := 44) rfl ?_); refine goesL_ (some 14) rfl rfl Tryd.func44 (by kernel_rfl) rfl #[.int .i64 a2, .int .i64 1, .int .i64 4] rfl (by (try simp only [List.map_toArray, List.map_cons, List.map_nil]); first | done | rfl | (simp only [List.length_drop, List.length_take]; rfl)) ?_; (with_reducible refine (impl_in.calls a2 1 4 true _ A6.out).mono ?_); rintro e w' ⟨rfl, ⟨nd, rfl⟩⟩; refine ⟨_, rfl, ?_⟩) | (go_at_call 44; (with_reducible refine (impl_in.calls a1 0 (wrap64 ((a0.size : Int) - a2)) t218 _ A9.out).mono ?_); rintro e w' ⟨rfl, ⟨nd, rfl⟩⟩))
        go_meet
        case rel => exact ⟨_, (!t218), (by first | rfl | (simp; done) | (simp [*]; done)), H', ⟨by first | omega | exact Nat.le_refl _⟩, by repeat (first | exact Drawn0.refl _ | apply Drawn0.step)⟩
    · replace c7 := Bool.eq_false_iff.mpr c7
      subst c7
      have H1 : (impl_NumGet.j0 k a0 a1 a2 a3 true) = some (r1, r2) := by rw [if_neg (show ¬ (false = true) by decide)] at H; exact H
      clear H
      have H := H1
      clear H1
      have H' := Aside0.mk H
      clear H
      go_wp2_with (first | ((with_reducible refine gate_callee (f := 44) rfl ?_); refine goesL_ (some 14) rfl rfl Tryd.func44 (by kernel_rfl) rfl #[.int .i64 a2, .int .i64 1, .int .i64 4] rfl (by (try simp only [List.map_toArray, List.map_cons, List.map_nil]); first | done | rfl | (simp only [List.length_drop, List.length_take]; rfl)) ?_; (with_reducible refine (impl_in.calls a2 1 4 false _ A6.out).mono ?_); rintro e w' ⟨rfl, ⟨nd, rfl⟩⟩; refine ⟨_, rfl, ?_⟩))
      go_meet
      case rel => exact ⟨_, (true), (by first | rfl | (simp; done) | (simp [*]; done)), H', ⟨by first | omega | exact Nat.le_refl _⟩, by repeat (first | exact Drawn0.refl _ | apply Drawn0.step)⟩
  case rest =>
    clear HC5
    try clear c2
    try clear p2
    try clear c4
    try clear p6
    try clear c7
    try clear c8
    try clear c8b0
    try clear c8b1
    obtain ⟨kq, x29_4, rfl, HA, HJ4, ⟨mc4, rfl⟩⟩ := hcut
    cases kq with
    | zero => exact absurd HA.out (by simp [impl_NumGet.j0])
    | succ kj4 =>
      have H := HA.out
      clear HA
      simp only [impl_NumGet.j0] at H
      by_cases c10 : x29_4 = true
      · subst c10
        have H1 : (some (0, false)) = some (r1, r2) := by rw [if_pos rfl] at H; exact H
        clear H
        have H := H1
        clear H1
        simp only [Option.some.injEq, Prod.mk.injEq] at H
        obtain ⟨rfl, rfl⟩ := H
        go_wp2
        go_ret2
        exact ⟨by first | rfl | (simp; done) | (simp [*]; done), by repeat (first | exact Drawn0.refl _ | apply Drawn0.step)⟩
      · replace c10 := Bool.eq_false_iff.mpr c10
        subst c10
        have H1 : (impl_NumGet.l0 kj4 a0 a1 a2 a3 0 a2 0) = some (r1, r2) := by rw [if_neg (show ¬ (false = true) by decide)] at H; exact H
        clear H
        have H := H1
        clear H1
        have H' := Aside0.mk H
        clear H
        go_wp2
        go_loopg [10, 31] kj4 (fun kq v10 v31 w' => ∃ (x10_2 : Int) (x31_2 : Int), v10 = .int .i64 x10_2 ∧ v31 = .int .i64 x31_2 ∧ Aside0 (impl_NumGet.l0 kq a0 a1 a2 a3 x10_2 a2 x31_2 = some (r1, r2)) ∧ Aside0 (kq ≤ kj4) ∧ Drawn0 w w')
        case atStart => exact ⟨(0), (0), (by first | rfl | (simp; done) | (simp [*]; done)), (by first | rfl | (simp; done) | (simp [*]; done)), H', ⟨Nat.le_refl _⟩, by repeat (first | exact Drawn0.refl _ | apply Drawn0.step)⟩
        case round =>
          clear H'
          try clear c1
          try clear c2
          try clear p2
          try clear c4
          try clear p6
          try clear c7
          try clear c8
          try clear c8b0
          try clear c8b1
          try clear c10
          try clear p2
          try clear p6
          obtain ⟨x10_2, x31_2, rfl, rfl, HA, HK2, ⟨m2, rfl⟩⟩ := hrel
          cases gk with
          | zero => exact absurd HA.out (by simp [impl_NumGet.l0])
          | succ k2 =>
            have H := HA.out
            clear HA
            simp only [impl_NumGet.l0] at H
            by_cases c11 : x31_2 < a2
            · rw [if_pos c11] at H
              have c11b0 : decide (x31_2 < a2) = true := decide_eq_true c11
              clear c11
              by_cases c12 : a3 = true
              · subst c12
                have H1 : (if 0 ≤ (wrap64 (a1 + x31_2)) then (if (wrap64 (a1 + x31_2)) < (a0.size : Int) then (impl_NumGet.l0 k2 a0 a1 a2 true (Go.bits .or .i64 (wrap64 (x10_2 * 256)) (wrap64 (bt a0 (wrap64 (a1 + x31_2))))) a2 (wrap64 (x31_2 + 1))) else (none)) else (none)) = some (r1, r2) := by rw [if_pos rfl] at H; exact H
                clear H
                have H := H1
                clear H1
                obtain ⟨ji13, hji13⟩ : ∃ j_ : Int, (wrap64 (a1 + x31_2)) = j_ := ⟨_, rfl⟩
                replace H : (if 0 ≤ (ji13) then (if (ji13) < (a0.size : Int) then (impl_NumGet.l0 k2 a0 a1 a2 true (Go.bits .or .i64 (wrap64 (x10_2 * 256)) (wrap64 (bt a0 (ji13)))) a2 (wrap64 (x31_2 + 1))) else (none)) else (none)) = some (r1, r2) := by first | (rw [hji13] at H; exact H) | (simp only [hji13] at H ⊢; exact H)
                have hji13w : (IntKind.i64.wrap (a1 + x31_2)) = ji13 := (i64_w _).trans hji13
                by_cases c14 : 0 ≤ (ji13)
                · rw [if_pos c14] at H
                  have c14b0 : decide (0 ≤ (ji13)) = true := decide_eq_true c14
                  clear c14
                  by_cases c15 : (ji13) < (a0.size : Int)
                  · rw [if_pos c15] at H
                    have c15b0 : decide ((ji13) < (a0.size : Int)) = true := decide_eq_true c15
                    clear c15
                    have H' := Aside0.mk H
                    clear H
                    have p16 : 0 ≤ ((ji13) : Int) := of_decide_eq_true (by first | (with_reducible assumption) | assumption)
                    have q16 : (ji13) < (a0.size : Int) := of_decide_eq_true (by first | (with_reducible assumption) | assumption)
                    have hx16 := bt_at a0 (ji13)
                    replace p16 := eq_true p16
                    replace q16 := eq_true q16
                    go_wp2
                    go_roundg k2
                    case measure => have := HJ4.out; have := HK2.out; omega
                    case rel => exact ⟨(Go.bits .or .i64 (wrap64 (x10_2 * 256)) (wrap64 (bt a0 (ji13)))), (wrap64 (x31_2 + 1)), (by first | rfl | (simp; done) | (simp only [← hji13] <;> (first | rfl | simp)) | (simp [*]; done)), (by first | rfl | (simp; done) | (simp [*]; done)), H', ⟨by have := HJ4.out; have := HK2.out; omega⟩, by repeat (first | exact Drawn0.refl _ | apply Drawn0.step)⟩
                  · rw [if_neg c15] at H
                    exact absurd H (by simp)
                · rw [if_neg c14] at H
                  exact absurd H (by simp)
              · replace c12 := Bool.eq_false_iff.mpr c12
                subst c12
                have H1 : (if 0 ≤ (wrap64 ((wrap64 ((wrap64 (a1 + a2)) - 1)) - x31_2)) then (if (wrap64 ((wrap64 ((wrap64 (a1 + a2)) - 1)) - x31_2)) < (a0.size : Int) then (impl_NumGet.l0 k2 a0 a1 a2 false (Go.bits .or .i64 (wrap64 (x10_2 * 256)) (wrap64 (bt a0 (wrap64 ((wrap64 ((wrap64 (a1 + a2)) - 1)) - x31_2))))) a2 (wrap64 (x31_2 + 1))) else (none)) else (none)) = some (r1, r2) := by rw [if_neg (show ¬ (false = true) by decide)] at H; exact H
                clear H
                have H := H1
                clear H1
                obtain ⟨ji17, hji17⟩ : ∃ j_ : Int, (wrap64 ((wrap64 ((wrap64 (a1 + a2)) - 1)) - x31_2)) = j_ := ⟨_, rfl⟩
                replace H : (if 0 ≤ (ji17) then (if (ji17) < (a0.size : Int) then (impl_NumGet.l0 k2 a0 a1 a2 false (Go.bits .or .i64 (wrap64 (x10_2 * 256)) (wrap64 (bt a0 (ji17)))) a2 (wrap64 (x31_2 + 1))) else (none)) else (none)) = some (r1, r2) := by first | (rw [hji17] at H; exact H) | (simp only [hji17] at H ⊢; exact H)
                have hji17w : (IntKind.i64.wrap ((wrap64 ((wrap64 (a1 + a2)) - 1)) - x31_2)) = ji17 := (i64_w _).trans hji17
                by_cases c18 : 0 ≤ (ji17)
                · rw [if_pos c18] at H
                  have c18b0 : decide (0 ≤ (ji17)) = true := decide_eq_true c18
                  clear c18
                  by_cases c19 : (ji17) < (a0.size : Int)
                  · rw [if_pos c19] at H
                    have c19b0 : decide ((ji17) < (a0.size : Int)) = true := decide_eq_true c19
                    clear c19
                    have H' := Aside0.mk H
                    clear H
                    have p20 : 0 ≤ ((ji17) : Int) := of_decide_eq_true (by first | (with_reducible assumption) | assumption)
                    have q20 : (ji17) < (a0.size : Int) := of_decide_eq_true (by first | (with_reducible assumption) | assumption)
                    have hx20 := bt_at a0 (ji17)
                    replace p20 := eq_true p20
                    replace q20 := eq_true q20
                    go_wp2
                    go_roundg k2
                    case measure => have := HJ4.out; have := HK2.out; omega
                    case rel => exact ⟨(Go.bits .or .i64 (wrap64 (x10_2 * 256)) (wrap64 (bt a0 (ji17)))), (wrap64 (x31_2 + 1)), (by first | rfl | (simp; done) | (simp only [← hji17] <;> (first | rfl | simp)) | (simp [*]; done)), (by first | rfl | (simp; done) | (simp [*]; done)), H', ⟨by have := HJ4.out; have := HK2.out; omega⟩, by repeat (first | exact Drawn0.refl _ | apply Drawn0.step)⟩
                  · rw [if_neg c19] at H
                    exact absurd H (by simp)
                · rw [if_neg c18] at H
                  exact absurd H (by simp)
            · rw [if_neg c11] at H
              have c11b0 : decide (x31_2 < a2) = false := decide_eq_false c11
              clear c11
              simp only [Option.some.injEq, Prod.mk.injEq] at H
              obtain ⟨rfl, rfl⟩ := H
              go_wp2
              go_ret2
              exact ⟨by first | rfl | (simp; done) | (simp [*]; done), by repeat (first | exact Drawn0.refl _ | apply Drawn0.step)⟩

end Go.Proofs.YtdhpekdfpoeboaaDoor.P
