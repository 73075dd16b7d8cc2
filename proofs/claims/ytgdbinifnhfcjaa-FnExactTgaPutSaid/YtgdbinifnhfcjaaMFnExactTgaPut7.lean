/- Texts of one law put together (wip/merge2.py). -/
import Derived.Test.YtgdbinifnhfcjaaMFnExactTgaPut1
import Derived.Test.YtgdbinifnhfcjaaMFnExactTgaPut6
import Derived.Test.YtgdbinifnhfcjaaMFnExactTgaPut5
namespace Go.Proofs.Ytgdbinifnhfcjaa.P
open Go.RowKit Go.Proofs.YtgdbinifnhfcjaaW.PrintWords Go.Proofs.YtgdbinifnhfcjaaW.PrintLast Go.Proofs.YtgdbinifnhfcjaaW.PrintMore
attribute [local go_sem] max2_int min2_int max_two min_two max_three min_three max_four min_four   -- for this text's walks alone
set_option linter.unusedVariables false
set_option linter.unusedSimpArgs false
/-! ### impl_cut_int: function 122 -/
def impl_cut_int.l0 : Nat → List Int → Int → Int → Int → Option (Int × Bool)
 | 0, _, _, _, _ => none
 | k + 1, x0, x1, x2, x9 => if x9 < 128 then (if (wrap64 (x1 + x9)) < (x0.length : Int) then ((impl_same_int.f k x0 (wrap64 (x1 + x9))).bind fun t840 => (if t840 < x2 then (impl_cut_int.l0 k x0 x1 x2 (wrap64 (x9 + 1))) else (some (x9, false)))) else (some (x9, false))) else (some (x9, false))
def impl_cut_int.f (k : Nat) (l0 : List Int) (a1 : Int) (a2 : Int) : Option (Int × Bool) := (impl_same_int.f k l0 a1).bind fun t839 => (if t839 ≥ a2 then (some (mn t839 128, true)) else (impl_cut_int.l0 k l0 a1 a2 1))
theorem impl_cut_int.mono_l : ∀ k, (∀ y0 y1 y2 y3, LeO (impl_cut_int.l0 k y0 y1 y2 y3) (impl_cut_int.l0 (k + 1) y0 y1 y2 y3))
 | 0 => fun _ _ _ _ r h => by simp [impl_cut_int.l0] at h
 | k + 1 => by
  have ih0 := impl_cut_int.mono_l k
  ·intro y0 y1 y2 y3; unfold impl_cut_int.l0
   repeat' first
   | (with_reducible exact ih0 _ _ _ _)
   | (with_reducible exact impl_same_int.mono _ _ _)
   | (with_reducible exact LeO.refl _)
   | (with_reducible exact LeO.none _)
   | (with_reducible refine LeO.ite ?_ ?_)
   | (with_reducible refine LeO.bind ?_ (fun _ => ?_))
   | exact ih0 _ _ _ _
   | exact impl_same_int.mono _ _ _
   | exact LeO.none _
   | refine LeO.ite ?_ ?_
   | refine LeO.bind ?_ (fun _ => ?_)
theorem impl_cut_int.mono : ∀ a0 a1 a2 k, LeO (impl_cut_int.f k a0 a1 a2) (impl_cut_int.f (k + 1) a0 a1 a2) := by
 intro a0 a1 a2 k; have ih0 := impl_cut_int.mono_l k; unfold impl_cut_int.f
 repeat' first
  | (with_reducible exact ih0 _ _ _ _)
  | (with_reducible exact impl_same_int.mono _ _ _)
  | (with_reducible exact LeO.refl _)
  | (with_reducible exact LeO.none _)
  | (with_reducible refine LeO.ite ?_ ?_)
  | (with_reducible refine LeO.bind ?_ (fun _ => ?_))
  | exact ih0 _ _ _ _
  | exact impl_same_int.mono _ _ _
  | exact LeO.none _
  | refine LeO.ite ?_ ?_
  | refine LeO.bind ?_ (fun _ => ?_)
set_option maxHeartbeats 8000000 in
set_option maxRecDepth 100000 in
theorem impl_cut_int.calls (k : Nat) (A0 : Option Addr) (c0 : Nat) (l0 : List Int) (a1 : Int) (a2 : Int) (r1 : Int) (r2 : Bool) (w : World) (hr0 : Kd.C (Kd.int .i64) w A0 l0.length l0) (hc0 : l0.length ≤ c0) (h : impl_cut_int.f k l0 a1 a2 = some (r1, r2)) :
 Calls Try.prog 122 #[.slice A0 l0.length c0, .int .i64 a1, .int .i64 a2] w fun e w' => e = .returned (.tuple #[.int .i64 r1, .bool r2]) ∧ Below w.heap.size w w' := by
 have HR0 := Aside0.mk hr0; have HC0 := Aside0.mk hc0; clear hr0 hc0; have HB := Aside0.mk (Below.refl w.heap.size w); have H : ((impl_same_int.f k l0 a1).bind fun t839 => (if t839 ≥ a2 then (some (mn t839 128, true)) else (impl_cut_int.l0 k l0 a1 a2 1))) = some (r1, r2) := h; clear h; replace H := Option.bind_eq_some_iff.mp H; obtain ⟨t839, A40, H⟩ := H; replace H : (if t839 ≥ a2 then (some (mn t839 128, true)) else (impl_cut_int.l0 k l0 a1 a2 1)) = some (r1, r2) := H; have A4 := Aside0.mk A40; clear A40
 by_cases c5 : t839 ≥ a2
 ·rw [if_pos c5] at H; have c5b0 : decide (a2 ≤ t839) = true := decide_eq_true c5; clear c5; obtain ⟨ji6, hji6⟩ : ∃ j_ : Int, (mn t839 128) = j_ := ⟨_, rfl⟩; replace H : (some (ji6, true)) = some (r1, r2) := by first | (rw [hji6] at H; exact H) | (simp only [hji6] at H ⊢; exact H)
  (try rw [hji6] at A4)
  (try (have hji6h : ji6 ≤ 128 := by (rw [← hji6]; unfold mn; (repeat' split) <;> omega)))
  (try (have hji6g : ji6 ≤ 64 := by omega))
  have hji6_ : (if 128 < t839 then 128 else t839) = ji6 := hji6; simp only [Option.some.injEq, Prod.mk.injEq] at H; obtain ⟨rfl, rfl⟩ := H; go_enter Try.func122, Try.ntmps122
  go_wp2_with (first | ((with_reducible refine gate_callee (f := 54) rfl ?_); refine goesL_ (some 12) rfl rfl Try.func54 (by kernel_rfl) rfl #[.slice A0 l0.length c0, .int .i64 a1] rfl (by (try simp only [Sq.mp]); first | done | rfl | (simp only [List.length_drop, List.length_take]; rfl)) ?_; (with_reducible refine (impl_same_int.calls k _ _ l0 a1 t839 _ ?side1 ?side2 A4.out).mono ?_); (case side1 => repeat (first | exact HR0.out | (with_reducible refine Kd.C_alloc ?_ _) | (with_reducible refine Kd.C_drewN ?_ _) | (with_reducible refine Kd.C_drew ?_))); (case side2 => exact HC0.out); rintro e w' ⟨rfl, ⟨nd, rfl⟩⟩; refine ⟨_, rfl, ?_⟩))
  go_ret2
  exact ⟨by first | rfl | (simp [errW_none, errW_some] <;> rfl) | (simp only [← hji6]; first | rfl | (simp [errW_none, errW_some] <;> rfl)) | (simp [*, errW_none, errW_some] <;> rfl), by repeat (first | (with_reducible first | exact HB.out | apply below_alloc | apply pw_below_drewN | apply below_drew1) | exact HB.out)⟩
 ·rw [if_neg c5] at H; have c5b0 : decide (a2 ≤ t839) = false := decide_eq_false c5; clear c5; have H' := Aside0.mk H; clear H; go_enter Try.func122, Try.ntmps122
  go_wp2_with (first | ((with_reducible refine gate_callee (f := 54) rfl ?_); refine goesL_ (some 12) rfl rfl Try.func54 (by kernel_rfl) rfl #[.slice A0 l0.length c0, .int .i64 a1] rfl (by (try simp only [Sq.mp]); first | done | rfl | (simp only [List.length_drop, List.length_take]; rfl)) ?_; (with_reducible refine (impl_same_int.calls k _ _ l0 a1 t839 _ ?side1 ?side2 A4.out).mono ?_); (case side1 => repeat (first | exact HR0.out | (with_reducible refine Kd.C_alloc ?_ _) | (with_reducible refine Kd.C_drewN ?_ _) | (with_reducible refine Kd.C_drew ?_))); (case side2 => exact HC0.out); rintro e w' ⟨rfl, ⟨nd, rfl⟩⟩; refine ⟨_, rfl, ?_⟩))
  go_loopg [9] k (fun kq v9 w' => ∃ (x9_1 : Int), v9 = .int .i64 x9_1 ∧ Aside0 (impl_cut_int.l0 kq l0 a1 a2 x9_1 = some (r1, r2)) ∧ Aside0 (kq ≤ k) ∧ Aside0 (Below w.heap.size w w'))
  case atStart => exact ⟨(1), (by first | rfl | (simp; done) | (simp [*]; done)), H', ⟨Nat.le_refl _⟩, Sq.a_ HB⟩
  case round =>
   clear H'; try clear c1
   try clear p2
   try clear c5
   try clear c5b0
   obtain ⟨x9_1, rfl, HA, HK1, HB⟩ := hrel; cases gk with
   | zero => exact absurd HA.out (by simp [impl_cut_int.l0])
   | succ k1 =>
    have H := HA.out; clear HA; simp only [impl_cut_int.l0] at H
    by_cases c7 : x9_1 < 128
    ·rw [if_pos c7] at H; have c7b0 : decide (x9_1 < 128) = true := decide_eq_true c7; clear c7
     by_cases c8 : (wrap64 (a1 + x9_1)) < (l0.length : Int)
     ·rw [if_pos c8] at H; have c8b0 : decide ((wrap64 (a1 + x9_1)) < (l0.length : Int)) = true := decide_eq_true c8; clear c8; replace H := Option.bind_eq_some_iff.mp H; obtain ⟨t840, A90, H⟩ := H; replace H : (if t840 < a2 then (impl_cut_int.l0 k1 l0 a1 a2 (wrap64 (x9_1 + 1))) else (some (x9_1, false))) = some (r1, r2) := H; have A9 := Aside0.mk A90; clear A90
      by_cases c10 : t840 < a2
      ·rw [if_pos c10] at H; have c10b0 : decide (t840 < a2) = true := decide_eq_true c10; clear c10; have H' := Aside0.mk H; clear H; go_wp2_with (first | (go_at_call 54; (with_reducible refine (impl_same_int.calls k1 _ _ l0 (wrap64 (a1 + x9_1)) t840 _ ?side1 ?side2 A9.out).mono ?_); (case side1 => exact Sq.i_ HR0 HB); (case side2 => exact HC0.out); rintro e w' ⟨rfl, ⟨nd, rfl⟩⟩))
       go_roundg k1
       case measure => have := HK1.out; omega
       case rel => exact ⟨(wrap64 (x9_1 + 1)), (by first | rfl | (simp; done) | (simp [*]; done)), H', ⟨by have := HK1.out; omega⟩, Sq.a_ HB⟩
      ·rw [if_neg c10] at H; have c10b0 : decide (t840 < a2) = false := decide_eq_false c10; clear c10; simp only [Option.some.injEq, Prod.mk.injEq] at H; obtain ⟨rfl, rfl⟩ := H; go_wp2_with (first | (go_at_call 54; (with_reducible refine (impl_same_int.calls k1 _ _ l0 (wrap64 (a1 + x9_1)) t840 _ ?side1 ?side2 A9.out).mono ?_); (case side1 => exact Sq.i_ HR0 HB); (case side2 => exact HC0.out); rintro e w' ⟨rfl, ⟨nd, rfl⟩⟩))
       go_ret2
       exact ⟨by first | rfl | (simp [errW_none, errW_some] <;> rfl) | (simp [*, errW_none, errW_some] <;> rfl), by repeat (first | (with_reducible first | exact HB.out | apply below_alloc | apply pw_below_drewN | apply below_drew1) | exact HB.out)⟩
     ·rw [if_neg c8] at H; have c8b0 : decide ((wrap64 (a1 + x9_1)) < (l0.length : Int)) = false := decide_eq_false c8; clear c8; simp only [Option.some.injEq, Prod.mk.injEq] at H; obtain ⟨rfl, rfl⟩ := H; go_wp2
      go_ret2
      exact ⟨by first | rfl | (simp [errW_none, errW_some] <;> rfl) | (simp [*, errW_none, errW_some] <;> rfl), by repeat (first | (with_reducible first | exact HB.out | apply below_alloc | apply pw_below_drewN | apply below_drew1) | exact HB.out)⟩
    ·rw [if_neg c7] at H; have c7b0 : decide (x9_1 < 128) = false := decide_eq_false c7; clear c7; simp only [Option.some.injEq, Prod.mk.injEq] at H; obtain ⟨rfl, rfl⟩ := H; go_wp2
     go_ret2
     exact ⟨by first | rfl | (simp [errW_none, errW_some] <;> rfl) | (simp [*, errW_none, errW_some] <;> rfl), by repeat (first | (with_reducible first | exact HB.out | apply below_alloc | apply pw_below_drewN | apply below_drew1) | exact HB.out)⟩
/-! ### impl_RunPut: function 91 -/
mutual
def impl_RunPut.j0 : Nat → List Int → Int → Bool → Option (ByteArray)
 | 0, _, _, _ => none
 | k + 1, x0, x1, x21 => if x21 = true then (some (⟨#[]⟩ : ByteArray)) else (impl_RunPut.l0 k x0 x1 x0 (x0.length : Int) 0)
def impl_RunPut.l0 : Nat → List Int → Int → List Int → Int → Int → Option (ByteArray)
 | 0, _, _, _, _, _ => none
 | k + 1, x0, x1, x22, x23, x24 => if x24 < x23 then (if 0 ≤ x24 then (if x24 < (x22.length : Int) then (if 0 ≤ (wrap64 (8 * x1)) then ((impl_in.f (rd x22 x24) 0 (wrap64 ((shl .i64 1 (wrap64 (8 * x1))) - 1))).bind fun t843 => (if t843 = true then (impl_RunPut.l0 k x0 x1 x22 x23 (wrap64 (x24 + 1))) else (some (⟨#[]⟩ : ByteArray)))) else (none)) else (none)) else (none)) else (impl_RunPut.l1 k x0 x1 (⟨#[]⟩ : ByteArray) 0)
def impl_RunPut.l1 : Nat → List Int → Int → ByteArray → Int → Option (ByteArray)
 | 0, _, _, _, _ => none
 | k + 1, x0, x1, x7, x8 => if x8 < (x0.length : Int) then ((impl_cut_int.f k x0 x8 2).bind fun bt844 => (if 0 ≤ x8 then (if x8 ≤ (wrap64 (x8 + bt844.1)) then (if (wrap64 (x8 + bt844.1)) ≤ (x0.length : Int) then ((some ((x0.take ((wrap64 (x8 + bt844.1)) : Int).toNat).drop (x8 : Int).toNat : List Int)).bind fun y846 => (if bt844.2 = true then ((some (([(wrap64 (127 + bt844.1)) % 256] : List Int) : List Int)).bind fun y851 => (if x7.size + (strOfNums y851).size ≤ 9223372036854775807 then (if 1 ≤ (y846.length : Int) then (impl_RunPut.j3 k x0 x1 (x7 ++ (strOfNums y851)) x8 bt844.1 (y846.take 1)) else (none)) else (none))) else ((some (([(wrap64 (bt844.1 - 1)) % 256] : List Int) : List Int)).bind fun y859 => (if x7.size + (strOfNums y859).size ≤ 9223372036854775807 then (impl_RunPut.j3 k x0 x1 (x7 ++ (strOfNums y859)) x8 bt844.1 y846) else (none))))) else (none)) else (none)) else (none))) else (some x7)
def impl_RunPut.j3 : Nat → List Int → Int → ByteArray → Int → Int → List Int → Option (ByteArray)
 | 0, _, _, _, _, _, _ => none
 | k + 1, x0, x1, x7, x8, x9, x11 => impl_RunPut.l2 k x0 x1 x7 x8 x9 x11 (x11.length : Int) 0
def impl_RunPut.l2 : Nat → List Int → Int → ByteArray → Int → Int → List Int → Int → Int → Option (ByteArray)
 | 0, _, _, _, _, _, _, _, _ => none
 | k + 1, x0, x1, x7, x8, x9, x69, x70, x71 => if x71 < x70 then (if 0 ≤ x71 then (if x71 < (x69.length : Int) then ((impl_NumPut.f k (rd x69 x71) x1 false).bind fun t863 => (if x7.size + t863.size ≤ 9223372036854775807 then (impl_RunPut.l2 k x0 x1 (x7 ++ t863) x8 x9 x69 x70 (wrap64 (x71 + 1))) else (none))) else (none)) else (none)) else (impl_RunPut.l1 k x0 x1 x7 (wrap64 (x8 + x9)))
end
def impl_RunPut.f (k : Nat) (l0 : List Int) (a1 : Int) : Option (ByteArray) := if (l0.length : Int) > 1000 then (impl_RunPut.j0 k l0 a1 true) else ((impl_in.f a1 1 4).bind fun t841 => (impl_RunPut.j0 k l0 a1 (!t841)))
theorem impl_RunPut.mono_l : ∀ k, (∀ y0 y1 y2, LeO (impl_RunPut.j0 k y0 y1 y2) (impl_RunPut.j0 (k + 1) y0 y1 y2)) ∧ (∀ y0 y1 y2 y3 y4, LeO (impl_RunPut.l0 k y0 y1 y2 y3 y4) (impl_RunPut.l0 (k + 1) y0 y1 y2 y3 y4)) ∧ (∀ y0 y1 y2 y3, LeO (impl_RunPut.l1 k y0 y1 y2 y3) (impl_RunPut.l1 (k + 1) y0 y1 y2 y3)) ∧ (∀ y0 y1 y2 y3 y4 y5, LeO (impl_RunPut.j3 k y0 y1 y2 y3 y4 y5) (impl_RunPut.j3 (k + 1) y0 y1 y2 y3 y4 y5)) ∧ (∀ y0 y1 y2 y3 y4 y5 y6 y7, LeO (impl_RunPut.l2 k y0 y1 y2 y3 y4 y5 y6 y7) (impl_RunPut.l2 (k + 1) y0 y1 y2 y3 y4 y5 y6 y7))
 | 0 => ⟨fun _ _ _ r h => by simp [impl_RunPut.j0] at h, fun _ _ _ _ _ r h => by simp [impl_RunPut.l0] at h, fun _ _ _ _ r h => by simp [impl_RunPut.l1] at h, fun _ _ _ _ _ _ r h => by simp [impl_RunPut.j3] at h, fun _ _ _ _ _ _ _ _ r h => by simp [impl_RunPut.l2] at h⟩
 | k + 1 => by
  obtain ⟨ih0, ih1, ih2, ih3, ih4⟩ := impl_RunPut.mono_l k
  refine ⟨?_, ?_, ?_, ?_, ?_⟩
  ·intro y0 y1 y2; unfold impl_RunPut.j0
   repeat' first
   | (with_reducible exact ih0 _ _ _)
   | (with_reducible exact ih1 _ _ _ _ _)
   | (with_reducible exact ih2 _ _ _ _)
   | (with_reducible exact ih3 _ _ _ _ _ _)
   | (with_reducible exact ih4 _ _ _ _ _ _ _ _)
   | (with_reducible exact impl_NumPut.mono _ _ _ _)
   | (with_reducible exact impl_cut_int.mono _ _ _ _)
   | (with_reducible exact LeO.refl _)
   | (with_reducible exact LeO.none _)
   | (with_reducible refine LeO.ite ?_ ?_)
   | (with_reducible refine LeO.bind ?_ (fun _ => ?_))
   | exact ih0 _ _ _
   | exact ih1 _ _ _ _ _
   | exact ih2 _ _ _ _
   | exact ih3 _ _ _ _ _ _
   | exact ih4 _ _ _ _ _ _ _ _
   | exact impl_NumPut.mono _ _ _ _
   | exact impl_cut_int.mono _ _ _ _
   | exact LeO.none _
   | refine LeO.ite ?_ ?_
   | refine LeO.bind ?_ (fun _ => ?_)
  ·intro y0 y1 y2 y3 y4; unfold impl_RunPut.l0
   repeat' first
   | (with_reducible exact ih0 _ _ _)
   | (with_reducible exact ih1 _ _ _ _ _)
   | (with_reducible exact ih2 _ _ _ _)
   | (with_reducible exact ih3 _ _ _ _ _ _)
   | (with_reducible exact ih4 _ _ _ _ _ _ _ _)
   | (with_reducible exact impl_NumPut.mono _ _ _ _)
   | (with_reducible exact impl_cut_int.mono _ _ _ _)
   | (with_reducible exact LeO.refl _)
   | (with_reducible exact LeO.none _)
   | (with_reducible refine LeO.ite ?_ ?_)
   | (with_reducible refine LeO.bind ?_ (fun _ => ?_))
   | exact ih0 _ _ _
   | exact ih1 _ _ _ _ _
   | exact ih2 _ _ _ _
   | exact ih3 _ _ _ _ _ _
   | exact ih4 _ _ _ _ _ _ _ _
   | exact impl_NumPut.mono _ _ _ _
   | exact impl_cut_int.mono _ _ _ _
   | exact LeO.none _
   | refine LeO.ite ?_ ?_
   | refine LeO.bind ?_ (fun _ => ?_)
  ·intro y0 y1 y2 y3; unfold impl_RunPut.l1
   repeat' first
   | (with_reducible exact ih0 _ _ _)
   | (with_reducible exact ih1 _ _ _ _ _)
   | (with_reducible exact ih2 _ _ _ _)
   | (with_reducible exact ih3 _ _ _ _ _ _)
   | (with_reducible exact ih4 _ _ _ _ _ _ _ _)
   | (with_reducible exact impl_NumPut.mono _ _ _ _)
   | (with_reducible exact impl_cut_int.mono _ _ _ _)
   | (with_reducible exact LeO.refl _)
   | (with_reducible exact LeO.none _)
   | (with_reducible refine LeO.ite ?_ ?_)
   | (with_reducible refine LeO.bind ?_ (fun _ => ?_))
   | exact ih0 _ _ _
   | exact ih1 _ _ _ _ _
   | exact ih2 _ _ _ _
   | exact ih3 _ _ _ _ _ _
   | exact ih4 _ _ _ _ _ _ _ _
   | exact impl_NumPut.mono _ _ _ _
   | exact impl_cut_int.mono _ _ _ _
   | exact LeO.none _
   | refine LeO.ite ?_ ?_
   | refine LeO.bind ?_ (fun _ => ?_)
  ·intro y0 y1 y2 y3 y4 y5; unfold impl_RunPut.j3
   repeat' first
   | (with_reducible exact ih0 _ _ _)
   | (with_reducible exact ih1 _ _ _ _ _)
   | (with_reducible exact ih2 _ _ _ _)
   | (with_reducible exact ih3 _ _ _ _ _ _)
   | (with_reducible exact ih4 _ _ _ _ _ _ _ _)
   | (with_reducible exact impl_NumPut.mono _ _ _ _)
   | (with_reducible exact impl_cut_int.mono _ _ _ _)
   | (with_reducible exact LeO.refl _)
   | (with_reducible exact LeO.none _)
   | (with_reducible refine LeO.ite ?_ ?_)
   | (with_reducible refine LeO.bind ?_ (fun _ => ?_))
   | exact ih0 _ _ _
   | exact ih1 _ _ _ _ _
   | exact ih2 _ _ _ _
   | exact ih3 _ _ _ _ _ _
   | exact ih4 _ _ _ _ _ _ _ _
   | exact impl_NumPut.mono _ _ _ _
   | exact impl_cut_int.mono _ _ _ _
   | exact LeO.none _
   | refine LeO.ite ?_ ?_
   | refine LeO.bind ?_ (fun _ => ?_)
  ·intro y0 y1 y2 y3 y4 y5 y6 y7; unfold impl_RunPut.l2
   repeat' first
   | (with_reducible exact ih0 _ _ _)
   | (with_reducible exact ih1 _ _ _ _ _)
   | (with_reducible exact ih2 _ _ _ _)
   | (with_reducible exact ih3 _ _ _ _ _ _)
   | (with_reducible exact ih4 _ _ _ _ _ _ _ _)
   | (with_reducible exact impl_NumPut.mono _ _ _ _)
   | (with_reducible exact impl_cut_int.mono _ _ _ _)
   | (with_reducible exact LeO.refl _)
   | (with_reducible exact LeO.none _)
   | (with_reducible refine LeO.ite ?_ ?_)
   | (with_reducible refine LeO.bind ?_ (fun _ => ?_))
   | exact ih0 _ _ _
   | exact ih1 _ _ _ _ _
   | exact ih2 _ _ _ _
   | exact ih3 _ _ _ _ _ _
   | exact ih4 _ _ _ _ _ _ _ _
   | exact impl_NumPut.mono _ _ _ _
   | exact impl_cut_int.mono _ _ _ _
   | exact LeO.none _
   | refine LeO.ite ?_ ?_
   | refine LeO.bind ?_ (fun _ => ?_)
theorem impl_RunPut.mono : ∀ a0 a1 k, LeO (impl_RunPut.f k a0 a1) (impl_RunPut.f (k + 1) a0 a1) := by
 intro a0 a1 k; obtain ⟨ih0, ih1, ih2, ih3, ih4⟩ := impl_RunPut.mono_l k; unfold impl_RunPut.f
 repeat' first
  | (with_reducible exact ih0 _ _ _)
  | (with_reducible exact ih1 _ _ _ _ _)
  | (with_reducible exact ih2 _ _ _ _)
  | (with_reducible exact ih3 _ _ _ _ _ _)
  | (with_reducible exact ih4 _ _ _ _ _ _ _ _)
  | (with_reducible exact impl_NumPut.mono _ _ _ _)
  | (with_reducible exact impl_cut_int.mono _ _ _ _)
  | (with_reducible exact LeO.refl _)
  | (with_reducible exact LeO.none _)
  | (with_reducible refine LeO.ite ?_ ?_)
  | (with_reducible refine LeO.bind ?_ (fun _ => ?_))
  | exact ih0 _ _ _
  | exact ih1 _ _ _ _ _
  | exact ih2 _ _ _ _
  | exact ih3 _ _ _ _ _ _
  | exact ih4 _ _ _ _ _ _ _ _
  | exact impl_NumPut.mono _ _ _ _
  | exact impl_cut_int.mono _ _ _ _
  | exact LeO.none _
  | refine LeO.ite ?_ ?_
  | refine LeO.bind ?_ (fun _ => ?_)
set_option maxHeartbeats 8000000 in
set_option maxRecDepth 100000 in
theorem impl_RunPut.calls (k : Nat) (P0_ : Nat → Prop) (A0 : Option Addr) (c0 : Nat) (l0 : List Int) (a1 : Int) (r : ByteArray) (w : World) (hs0 : Kd.V (Kd.int .i64) 3 w w.heap.size (fun k_ => P0_ k_) (.slice A0 l0.length c0) l0) (h : impl_RunPut.f k l0 a1 = some r) :
 Calls Try.prog 91 #[.slice A0 l0.length c0, .int .i64 a1] w fun e w' => e = .returned (.string r) ∧ Below w.heap.size w w' := by
 have HO0 := Aside0.mk (show Kd.V (Kd.int .i64) 3 w w.heap.size (fun k_ => (P0_ k_ ∨ w.heap.size ≤ k_)) (.slice A0 l0.length c0) l0 from Kd.V_mono hs0 (fun k_ hk => .inl hk)); have HB := Aside0.mk (Below.refl w.heap.size w); have H : (if (l0.length : Int) > 1000 then (impl_RunPut.j0 k l0 a1 true) else ((impl_in.f a1 1 4).bind fun t841 => (impl_RunPut.j0 k l0 a1 (!t841)))) = some r := h; clear h; have HC3 := Aside0.mk H; clear H; go_enter Try.func91, Try.ntmps91
 go_upto_region 1 with (fail)
 go_cut [21] (fun v21 wc => ∃ (kq : Nat) (x21_2 : Bool), v21 = .bool x21_2 ∧ Aside0 (impl_RunPut.j0 kq l0 a1 x21_2 = some r) ∧ Aside0 (kq ≤ k) ∧ Aside0 (Kd.V (Kd.int .i64) 3 wc w.heap.size (fun k_ => (P0_ k_ ∨ w.heap.size ≤ k_)) (.slice A0 l0.length c0) l0) ∧ Aside0 (Below w.heap.size w wc))
 case first =>
  have H := HC3.out; clear HC3
  by_cases c4 : (l0.length : Int) > 1000
  ·rw [if_pos c4] at H; have c4b0 : decide (1000 < (l0.length : Int)) = true := decide_eq_true c4; have c4b1 : decide (1000 < l0.length) = true := decide_eq_true (by omega); clear c4; (first | rw [c4b0] | (simp only [i64_w, i32_w]; rw [c4b0]) | skip)
   have H' := Aside0.mk H; clear H; go_wp2
   go_meet
   case rel => exact ⟨_, (true), (by first | rfl | (simp; done) | (simp [*]; done)), H', ⟨by first | omega | exact Nat.le_refl _⟩, ⟨by (with_reducible repeat (first | apply Kd.V_alloc | apply Kd.V_drewN | apply Kd.V_drew)); exact HO0.out⟩, Sq.a_ HB⟩
  ·rw [if_neg c4] at H; have c4b0 : decide (1000 < (l0.length : Int)) = false := decide_eq_false c4; have c4b1 : decide (1000 < l0.length) = false := decide_eq_false (by omega); clear c4; (first | rw [c4b0] | (simp only [i64_w, i32_w]; rw [c4b0]) | skip)
   replace H := Option.bind_eq_some_iff.mp H; obtain ⟨t841, A50, H⟩ := H; have A5 := Aside0.mk A50; clear A50; have H' := Aside0.mk H; clear H; go_wp2_with (first | (go_at_call 45; (with_reducible refine (impl_in.calls a1 1 4 t841 _ A5.out).mono ?_); rintro e w' ⟨rfl, ⟨nd, rfl⟩⟩))
   go_meet
   case rel => exact ⟨_, (!t841), (by first | rfl | (simp; done) | (simp [*]; done)), H', ⟨by first | omega | exact Nat.le_refl _⟩, ⟨by (with_reducible repeat (first | apply Kd.V_alloc | apply Kd.V_drewN | apply Kd.V_drew)); exact HO0.out⟩, Sq.a_ HB⟩
 case rest =>
  clear HC3; try clear p2
  try clear c4
  try clear c4b0
  try clear c4b1
  obtain ⟨kq, x21_2, rfl, HA, HJ2, HO_0, HB⟩ := hcut; cases kq with
  | zero => exact absurd HA.out (by simp [impl_RunPut.j0])
  | succ kj2 =>
   have H := HA.out; clear HA; simp only [impl_RunPut.j0] at H
   by_cases c6 : x21_2 = true
   ·subst c6; replace H := Sq.t H; obtain rfl := Option.some.inj H; go_wp2
    go_ret
    exact ⟨by first | rfl | (simp [errW_none, errW_some] <;> rfl) | (simp [*, errW_none, errW_some] <;> rfl), by repeat (first | (with_reducible first | exact HB.out | apply below_alloc | apply pw_below_drewN | apply below_drew1) | exact HB.out)⟩
   ·replace c6 := Bool.eq_false_iff.mpr c6; subst c6; replace H := Sq.f H; have H' := Aside0.mk H; clear H; go_wp2
    go_loopg [24] kj2 (fun kq v24 w' => ∃ (x24_2 : Int), v24 = .int .i64 x24_2 ∧ Aside0 (impl_RunPut.l0 kq l0 a1 l0 (l0.length : Int) x24_2 = some r) ∧ Aside0 (kq ≤ kj2) ∧ Aside0 (Kd.V (Kd.int .i64) 3 w' w.heap.size (fun k_ => (P0_ k_ ∨ w.heap.size ≤ k_)) (.slice A0 l0.length c0) l0) ∧ Aside0 (Kd.V (Kd.int .i64) 3 w' w.heap.size (fun k_ => (P0_ k_ ∨ w.heap.size ≤ k_)) (.slice A0 l0.length c0) l0) ∧ Aside0 (Below w.heap.size w w'))
    case atStart => exact ⟨(0), (by first | rfl | (simp; done) | (simp [*]; done)), H', ⟨Nat.le_refl _⟩, ⟨by (with_reducible repeat (first | apply Kd.V_alloc | apply Kd.V_drewN | apply Kd.V_drew)); exact HO_0.out⟩, ⟨by (with_reducible repeat (first | apply Kd.V_alloc | apply Kd.V_drewN | apply Kd.V_drew)); exact HO_0.out⟩, Sq.a_ HB⟩
    case round =>
     clear H'; try clear p2
     try clear c4
     try clear c4b0
     try clear c4b1
     try clear c6
     try clear p2
     obtain ⟨x24_2, rfl, HA, HK2, HO_0, HO_22, HB⟩ := hrel; cases gk with
     | zero => exact absurd HA.out (by simp [impl_RunPut.l0])
     | succ k2 =>
      have H := HA.out; clear HA; simp only [impl_RunPut.l0] at H
      by_cases c7 : x24_2 < (l0.length : Int)
      ·rw [if_pos c7] at H; have c7b0 : decide (x24_2 < (l0.length : Int)) = true := decide_eq_true c7; clear c7
       by_cases c8 : 0 ≤ x24_2
       ·rw [if_pos c8] at H; have c8b0 : decide (0 ≤ x24_2) = true := decide_eq_true c8; clear c8
        by_cases c9 : x24_2 < (l0.length : Int)
        ·rw [if_pos c9] at H; have c9b0 : decide (x24_2 < (l0.length : Int)) = true := decide_eq_true c9; clear c9; obtain ⟨ji10, hji10⟩ : ∃ j_ : Int, (wrap64 (8 * a1)) = j_ := ⟨_, rfl⟩; replace H : (if 0 ≤ (ji10) then ((impl_in.f (rd l0 x24_2) 0 (wrap64 ((shl .i64 1 (ji10)) - 1))).bind fun t843 => (if t843 = true then (impl_RunPut.l0 k2 l0 a1 l0 (l0.length : Int) (wrap64 (x24_2 + 1))) else (some (⟨#[]⟩ : ByteArray)))) else (none)) = some r := by first | (rw [hji10] at H; exact H) | (simp only [hji10] at H ⊢; exact H)
         have hji10w : (IntKind.i64.wrap (8 * a1)) = ji10 := (i64_w _).trans hji10
         by_cases c11 : 0 ≤ (ji10)
         ·rw [if_pos c11] at H; have c11b0 := eq_true c11; have c11b1 : decide (0 ≤ (ji10)) = true := decide_eq_true c11; clear c11; obtain ⟨ji12, hji12⟩ : ∃ j_ : Int, (shl .i64 1 (ji10)) = j_ := ⟨_, rfl⟩; replace H : ((impl_in.f (rd l0 x24_2) 0 (wrap64 ((ji12) - 1))).bind fun t843 => (if t843 = true then (impl_RunPut.l0 k2 l0 a1 l0 (l0.length : Int) (wrap64 (x24_2 + 1))) else (some (⟨#[]⟩ : ByteArray)))) = some r := by first | (rw [hji12] at H; exact H) | (simp only [hji12] at H ⊢; exact H)
          have hji12_ : (IntKind.i64.wrap (1 * 2 ^ min (ji10).toNat 64)) = ji12 := hji12; have hji12z : (ji10) ≤ 64 → (IntKind.i64.wrap (1 * 2 ^ (ji10).toNat)) = ji12 := shl_small hji12; have hji12u : (IntKind.i64.wrap (2 ^ min (ji10).toNat 64)) = ji12 := by have h_ := hji12_; rw [Int.one_mul] at h_; exact h_
          have hji12v : (ji10) ≤ 64 → (IntKind.i64.wrap (2 ^ (ji10).toNat)) = ji12 := fun hle_ => by have h_ := hji12z hle_; rw [Int.one_mul] at h_; exact h_
          have hji12y : (wrap64 (1 * 2 ^ min (ji10).toNat 64)) = ji12 := (i64_w _).symm.trans hji12_; have hji12x : (ji10) ≤ 64 → (wrap64 (1 * 2 ^ (ji10).toNat)) = ji12 := fun h_ => (i64_w _).symm.trans (hji12z h_)
          replace H := Option.bind_eq_some_iff.mp H; obtain ⟨t843, A130, H⟩ := H; have A13 := Aside0.mk A130; clear A130
          by_cases c14 : t843 = true
          ·subst c14; replace H := Sq.t H; have H' := Aside0.mk H; clear H; have p842 : 0 ≤ (x24_2 : Int) := of_decide_eq_true (by first | (with_reducible assumption) | assumption); have q842 : x24_2 < (l0.length : Int) := of_decide_eq_true (by first | (with_reducible assumption) | assumption); obtain ⟨ad842, e842, hx842_0⟩ := Kd.at_int (Kd.V_reads' HO_22.out).2.2 x24_2 p842 q842; cases e842; replace p842 := eq_true p842; replace q842 := eq_true q842; go_wp2_with (first | ((with_reducible refine gate_callee (f := 45) rfl ?_); refine goesL_ (some 33) rfl rfl Try.func45 (by kernel_rfl) rfl #[.int .i64 (rd l0 x24_2), .int .i64 0, .int .i64 (wrap64 ((ji12) - 1))] rfl (by (try simp only [Sq.mp]); first | done | (simp only [hji12]; rfl) | rfl | (simp only [List.length_drop, List.length_take]; rfl)) ?_; (with_reducible refine (impl_in.calls (rd l0 x24_2) 0 (wrap64 ((ji12) - 1)) true _ A13.out).mono ?_); rintro e w' ⟨rfl, ⟨nd, rfl⟩⟩; refine ⟨_, rfl, ?_⟩))
           go_roundg k2
           case measure => have := HJ2.out; have := HK2.out; omega
           case rel => exact ⟨(wrap64 (x24_2 + 1)), (by first | rfl | (simp; done) | (simp [*]; done)), H', ⟨by have := HJ2.out; have := HK2.out; omega⟩, ⟨by (with_reducible repeat (first | apply Kd.V_alloc | apply Kd.V_drewN | apply Kd.V_drew)); exact HO_0.out⟩, ⟨by (with_reducible repeat (first | apply Kd.V_alloc | apply Kd.V_drewN | apply Kd.V_drew)); exact HO_22.out⟩, Sq.a_ HB⟩
          ·replace c14 := Bool.eq_false_iff.mpr c14; subst c14; replace H := Sq.f H; obtain rfl := Option.some.inj H; have p842 : 0 ≤ (x24_2 : Int) := of_decide_eq_true (by first | (with_reducible assumption) | assumption); have q842 : x24_2 < (l0.length : Int) := of_decide_eq_true (by first | (with_reducible assumption) | assumption); obtain ⟨ad842, e842, hx842_0⟩ := Kd.at_int (Kd.V_reads' HO_22.out).2.2 x24_2 p842 q842; cases e842; replace p842 := eq_true p842; replace q842 := eq_true q842; go_wp2_with (first | ((with_reducible refine gate_callee (f := 45) rfl ?_); refine goesL_ (some 33) rfl rfl Try.func45 (by kernel_rfl) rfl #[.int .i64 (rd l0 x24_2), .int .i64 0, .int .i64 (wrap64 ((ji12) - 1))] rfl (by (try simp only [Sq.mp]); first | done | (simp only [hji12]; rfl) | rfl | (simp only [List.length_drop, List.length_take]; rfl)) ?_; (with_reducible refine (impl_in.calls (rd l0 x24_2) 0 (wrap64 ((ji12) - 1)) false _ A13.out).mono ?_); rintro e w' ⟨rfl, ⟨nd, rfl⟩⟩; refine ⟨_, rfl, ?_⟩))
           go_ret
           exact ⟨by first | rfl | (simp [errW_none, errW_some] <;> rfl) | (simp only [← hji10, ← hji12]; first | rfl | (simp [errW_none, errW_some] <;> rfl)) | (simp [*, errW_none, errW_some] <;> rfl), by repeat (first | (with_reducible first | exact HB.out | apply below_alloc | apply pw_below_drewN | apply below_drew1) | exact HB.out)⟩
         ·rw [if_neg c11] at H; exact absurd H (by simp)
        ·rw [if_neg c9] at H; exact absurd H (by simp)
       ·rw [if_neg c8] at H; exact absurd H (by simp)
      ·rw [if_neg c7] at H; have c7b0 : decide (x24_2 < (l0.length : Int)) = false := decide_eq_false c7; clear c7; have H' := Aside0.mk H; clear H; go_wp2
       go_loopg [7, 8] k2 (fun kq v7 v8 w' => ∃ (x7_3 : ByteArray) (x8_3 : Int), v7 = .string x7_3 ∧ v8 = .int .i64 x8_3 ∧ Aside0 (impl_RunPut.l1 kq l0 a1 x7_3 x8_3 = some r) ∧ Aside0 (kq ≤ k2) ∧ Aside0 (Kd.V (Kd.int .i64) 3 w' w.heap.size (fun k_ => (P0_ k_ ∨ w.heap.size ≤ k_)) (.slice A0 l0.length c0) l0) ∧ Aside0 (Below w.heap.size w w'))
       case atStart => exact ⟨((⟨#[]⟩ : ByteArray)), (0), (by first | rfl | (simp; done) | (simp [*]; done)), (by first | rfl | (simp; done) | (simp [*]; done)), H', ⟨Nat.le_refl _⟩, ⟨by (with_reducible repeat (first | apply Kd.V_alloc | apply Kd.V_drewN | apply Kd.V_drew)); exact HO_0.out⟩, Sq.a_ HB⟩
       case round =>
        clear H'; try clear c1
        try clear p2
        try clear c4
        try clear c4b0
        try clear c4b1
        try clear c6
        try clear p6
        try clear c7
        try clear c7b0
        try clear c8
        try clear c8b0
        try clear p8
        try clear q8
        try clear hx8
        try clear c9
        try clear c9b0
        try clear c11
        try clear c11b0
        try clear c11b1
        try clear c14
        try clear hx842_0
        try clear p2
        try clear p842
        try clear q842
        obtain ⟨x7_3, x8_3, rfl, rfl, HA, HK3, HO_0, HB⟩ := hrel; cases gk with
        | zero => exact absurd HA.out (by simp [impl_RunPut.l1])
        | succ k3 =>
         have H := HA.out; clear HA; simp only [impl_RunPut.l1] at H
         by_cases c15 : x8_3 < (l0.length : Int)
         ·rw [if_pos c15] at H; have c15b0 : decide (x8_3 < (l0.length : Int)) = true := decide_eq_true c15; clear c15; replace H := Option.bind_eq_some_iff.mp H; obtain ⟨⟨t844, t845⟩, A160, H⟩ := H; have A16 := Aside0.mk A160; clear A160
          by_cases c17 : 0 ≤ x8_3
          ·rw [if_pos c17] at H; have c17b0 := eq_true c17; have c17b1 : decide (0 ≤ x8_3) = true := decide_eq_true c17; clear c17
           by_cases c18 : x8_3 ≤ (wrap64 (x8_3 + t844))
           ·rw [if_pos c18] at H; have c18b0 := eq_true c18; have c18b1 : decide (x8_3 ≤ (wrap64 (x8_3 + t844))) = true := decide_eq_true c18
            by_cases c19 : (wrap64 (x8_3 + t844)) ≤ (l0.length : Int)
            ·rw [if_pos c19] at H; have c19b0 := eq_true c19; have c19b1 : decide ((wrap64 (x8_3 + t844)) ≤ (l0.length : Int)) = true := decide_eq_true c19; obtain ⟨y846, hy846⟩ : ∃ y_ : List Int, y_ = ((l0.take ((wrap64 (x8_3 + t844)) : Int).toNat).drop (x8_3 : Int).toNat) := ⟨_, rfl⟩; replace H := Sq.y hy846 H; have Ny846 := Aside0.mk hy846; clear hy846; have HC20 := Aside0.mk H; clear H
             go_upto_if 52 with (first | ((with_reducible refine gate_callee (f := 122) rfl ?_); refine goesL_ (some 43) rfl rfl Try.func122 (by kernel_rfl) rfl #[.slice A0 l0.length c0, .int .i64 x8_3, .int .i64 2] rfl (by (try simp only [Sq.mp]); first | done | rfl | (simp only [List.length_drop, List.length_take]; rfl)) ?_; (with_reducible refine (impl_cut_int.calls k3 _ _ l0 x8_3 2 t844 t845 _ ?side1 ?side2 A16.out).mono ?_); (case side1 => repeat (first | exact (Kd.V_reads' HO_0.out).2.2 | (with_reducible refine Kd.C_alloc ?_ _) | (with_reducible refine Kd.C_drewN ?_ _) | (with_reducible refine Kd.C_drew ?_))); (case side2 => exact (Kd.V_reads' HO_0.out).2.1); rintro e w21 ⟨rfl, hb⟩; refine ⟨_, rfl, ?_⟩; have n0_ := Aside0.mk (Kd.V_below (by (with_reducible repeat (first | apply Kd.V_alloc | apply Kd.V_drewN | apply Kd.V_drew)); exact HO_0.out) hb); have n1_ := Sq.s_ HB hb; clear HO_0; clear HB; have HO_0 := n0_; have HB := n1_; clear n0_ n1_; (try clear hb); (try clear hb2); (try clear hk); (try clear hi); have q22 : ((wrap64 (x8_3 + t844)) : Int) ≤ ((l0.length : Int) : Int) := of_decide_eq_true (by first | (with_reducible assumption) | assumption); obtain ⟨i022, hi022, _, hsz22, _⟩ := info_parts info3; have hroom22 : l0.length ≤ c0 := (Kd.V_reads' HO_0.out).2.1; have hC22 : Kd.F (Kd.int .i64) _ _ A0 l0.length l0 := (Kd.V_at (base := w.heap.size) HO_0.out).2.2; have ql22 : (x8_3 : Int) ≤ ((wrap64 (x8_3 + t844)) : Int) := of_decide_eq_true (by first | (with_reducible assumption) | assumption); have q022 : (0 : Int) ≤ (x8_3 : Int) := of_decide_eq_true (by first | (with_reducible assumption) | assumption); have hcut22 := cut_mid (P := Try.prog) 31 3 .i64 .i64 Try.underlying31 hi022 1 hsz22 A0 l0.length c0 x8_3 (wrap64 (x8_3 + t844)) q022 ql22 q22 hroom22; have hr22 := Kd.F_mid (lo := (x8_3 : Int).toNat) (hi := ((wrap64 (x8_3 + t844)) : Int).toNat) (c := c0) hC22 (by omega) (by omega) hroom22; obtain ⟨A22, hA22⟩ : ∃ A1, A1 = (if c0 = (x8_3 : Int).toNat then A0 else (A0 : Option Addr).map (·.add ((x8_3 : Int).toNat * 1))) := ⟨_, rfl⟩; obtain ⟨c22, hc22⟩ : ∃ c1, c1 = c0 - (x8_3 : Int).toNat := ⟨_, rfl⟩; have hy22 : y846.length = ((wrap64 (x8_3 + t844)) : Int).toNat - (x8_3 : Int).toNat := (by rw [Ny846.out, List.length_drop, List.length_take] <;> omega); rw [show ((l0).take ((wrap64 (x8_3 + t844)) : Int).toNat).drop (x8_3 : Int).toNat = y846 from Ny846.out.symm] at hr22; replace hr22 : Kd.F (Kd.int .i64) _ _ A22 y846.length y846 := (by rw [hA22]; exact hr22); rw [← hy22, ← hA22, ← hc22] at hcut22; have HO850 := Aside0.mk (show Kd.V (Kd.int .i64) 3 _ w.heap.size _ (.slice A22 y846.length c22) y846 from Kd.V_mk (by rw [hy22, hc22]; exact Nat.sub_le_sub_right (Nat.le_trans (by omega) hroom22) _) hr22); have HC850 := Aside0.mk (show y846.length ≤ c22 from by rw [hy22, hc22]; exact Nat.sub_le_sub_right (Nat.le_trans (by omega) hroom22) _); clear hr22 hC22 hroom22 hi022 hsz22 hc22; have KY22 := Aside0.mk hy22; have KA22 := Aside0.mk hA22; clear hy22 hA22; replace q22 := eq_true q22))
             (try simp only [Act.put, List.setIfInBounds_toArray, List.set_cons_zero, List.set_cons_succ])
             go_cut [7, 11] (fun v7 v11 wc => ∃ (kq : Nat) (x7_19 : ByteArray) (x11_19 : List Int), v7 = .string x7_19 ∧ Aside0 (impl_RunPut.j3 kq l0 a1 x7_19 x8_3 t844 x11_19 = some r) ∧ Aside0 (kq ≤ k3) ∧ Aside0 (Kd.V (Kd.int .i64) 3 wc w.heap.size (fun k_ => (P0_ k_ ∨ w.heap.size ≤ k_)) (.slice A0 l0.length c0) l0) ∧ Aside0 (Kd.V (Kd.int .i64) 3 wc w.heap.size (fun k_ => (P0_ k_ ∨ w.heap.size ≤ k_)) v11 x11_19) ∧ Aside0 (Below w.heap.size w wc))
             case first =>
              have H := HC20.out; clear HC20
              by_cases c23 : t845 = true
              ·subst c23; replace H := Sq.t H; obtain ⟨y851, hy851⟩ : ∃ y_ : List Int, y_ = (([(wrap64 (127 + t844)) % 256] : List Int)) := ⟨_, rfl⟩; replace H := Sq.y hy851 H; have Ny851 := Aside0.mk hy851; clear hy851
               by_cases c24 : x7_3.size + (strOfNums y851).size ≤ 9223372036854775807
               ·rw [if_pos c24] at H; have c24b0 := eq_true c24; have c24b1 : decide (x7_3.size + (strOfNums y851).size ≤ 9223372036854775807) = true := decide_eq_true c24; try have c24b2 : (9223372036854775807 < x7_3.size + (strOfNums y851).size) = False := eq_false (Nat.not_lt.2 c24)
                by_cases c25 : 1 ≤ (y846.length : Int)
                ·rw [if_pos c25] at H; have c25b0 := eq_true c25; have c25b1 : decide (1 ≤ (y846.length : Int)) = true := decide_eq_true c25; clear c25; obtain ⟨y854, hy854⟩ : ∃ y_ : List Int, y_ = (y846.take 1) := ⟨_, rfl⟩; rw [← hy854] at H; have Ny854 := Aside0.mk hy854; clear hy854; have H' := Aside0.mk H; clear H
                 go_wp2_with (first | ((with_reducible refine gate_dst (N := 57) rfl ?_); refine Kd.R_lit (Kd.int .u8) _ 5 ?hg (N := 57) ?hd (xs := ([(wrap64 (127 + t844)) % 256] : List Int)) (inner := [.int .u8 ((wrap64 (127 + t844)) % 256)]) (ok := fun _ => True) (okp := fun _ => True) ?hr ?hp (fun _ hk => hk) trivial (Below.refl _ _) (Nat.le_refl _) (by simp) ?_; (case hd => rfl); (case hg => rfl); (case hr => first | (go_simp; done) | (go_simp; rfl)); (case hp => exact (Reps.one (show Kd.M (Kd.int .u8) _ _ _ ((wrap64 (127 + t844)) % 256) [.int .u8 ((wrap64 (127 + t844)) % 256)] from rfl) (Reps.none _ _))); intro v852 w26 ho27 hb hg_ hnew_; clear hg_ hnew_; (first | rw [← Ny851.out] at ho27 | (simp only [Int.reduceToNat] at ho27; rw [← Ny851.out] at ho27)); have n0_ := Aside0.mk (Kd.V_elder' (by (with_reducible repeat (first | apply Kd.V_alloc | apply Kd.V_drewN | apply Kd.V_drew)); exact HO_0.out) (Kd.R_base ho27) hb); have n1_ := Aside0.mk (Kd.V_elder' (by (with_reducible repeat (first | apply Kd.V_alloc | apply Kd.V_drewN | apply Kd.V_drew)); exact HO850.out) (Kd.R_base ho27) hb); have n2_ := Aside0.mk (Kd.R_lower (Kd.R_newM (M := fun k_ => (w.heap.size ≤ k_)) ho27 (below_size (by repeat (first | (with_reducible first | exact HB.out | apply below_alloc | apply pw_below_drewN | apply below_drew1) | exact HB.out))) (fun k_ h_ => h_)) (below_size (by repeat (first | (with_reducible first | exact HB.out | apply below_alloc | apply pw_below_drewN | apply below_drew1) | exact HB.out)))); have n3_ := Sq.s_ HB hb; clear HO_0; clear HO850; clear HB; have HO_0 := n0_; have HO850 := n1_; have HO853 := n2_; have HB := n3_; clear n0_ n1_ n2_ n3_; clear hb ho27; have hcv28 := own_string (P := Try.prog) Try.underlying28 Try.underlying5 Try.underlying9 (Kd.own_of_R HO853.out); have q29 : (1 : Int) ≤ ((y846.length : Int) : Int) := of_decide_eq_true (by first | (with_reducible assumption) | assumption); obtain ⟨i029, hi029, _, hsz29, _⟩ := info_parts info3; have hroom29 : y846.length ≤ c22 := (Kd.V_reads' HO850.out).2.1; have hC29 : Kd.F (Kd.int .i64) _ _ A22 y846.length y846 := (Kd.V_at (base := w.heap.size) HO850.out).2.2; have hcut29 := cut_to (P := Try.prog) 31 3 .i64 Try.underlying31 hi029 A22 y846.length c22 1 (by omega) q29 hroom29; have hr29 := Kd.F_take (m := 1) hC29 (by omega); have hy29 : y854.length = (1 : Int).toNat := (by rw [Ny854.out, List.length_take]; omega); rw [← Ny854.out] at hr29; rw [← hy29] at hcut29; have HO858 := Aside0.mk (show Kd.V (Kd.int .i64) 3 _ w.heap.size _ (.slice A22 y854.length c22) y854 from Kd.V_mk (by omega) hr29); have HC858 := Aside0.mk (show y854.length ≤ c22 from by omega); clear hr29 hC29 hroom29 hi029 hsz29; have KY29 := Aside0.mk hy29; clear hy29; replace q29 := eq_true q29))
                 go_meet
                 case rel => exact ⟨_, (x7_3 ++ (strOfNums y851)), (y854), (by first | rfl | (simp; done) | (simp [*]; done)), H', ⟨by have := HJ2.out; have := HK2.out; have := HK3.out; first | omega | exact Nat.le_refl _⟩, ⟨by (with_reducible repeat (first | apply Kd.V_alloc | apply Kd.V_drewN | apply Kd.V_drew)); exact Kd.V_mono HO_0.out (fun _ hk => hk.1)⟩, ⟨by (with_reducible repeat (first | apply Kd.V_alloc | apply Kd.V_drewN | apply Kd.V_drew)); exact Kd.V_mono HO858.out (fun _ hk => hk.1)⟩, Sq.a_ HB⟩
                ·rw [if_neg c25] at H; exact absurd H (by simp)
               ·rw [if_neg c24] at H; exact absurd H (by simp)
              ·replace c23 := Bool.eq_false_iff.mpr c23; subst c23; replace H := Sq.f H; obtain ⟨y859, hy859⟩ : ∃ y_ : List Int, y_ = (([(wrap64 (t844 - 1)) % 256] : List Int)) := ⟨_, rfl⟩; replace H := Sq.y hy859 H; have Ny859 := Aside0.mk hy859; clear hy859
               by_cases c30 : x7_3.size + (strOfNums y859).size ≤ 9223372036854775807
               ·rw [if_pos c30] at H; have c30b0 := eq_true c30; have c30b1 : decide (x7_3.size + (strOfNums y859).size ≤ 9223372036854775807) = true := decide_eq_true c30; try have c30b2 : (9223372036854775807 < x7_3.size + (strOfNums y859).size) = False := eq_false (Nat.not_lt.2 c30)
                have H' := Aside0.mk H; clear H; go_wp2_with (first | ((with_reducible refine gate_dst (N := 66) rfl ?_); refine Kd.R_lit (Kd.int .u8) _ 5 ?hg (N := 66) ?hd (xs := ([(wrap64 (t844 - 1)) % 256] : List Int)) (inner := [.int .u8 ((wrap64 (t844 - 1)) % 256)]) (ok := fun _ => True) (okp := fun _ => True) ?hr ?hp (fun _ hk => hk) trivial (Below.refl _ _) (Nat.le_refl _) (by simp) ?_; (case hd => rfl); (case hg => rfl); (case hr => first | (go_simp; done) | (go_simp; rfl)); (case hp => exact (Reps.one (show Kd.M (Kd.int .u8) _ _ _ ((wrap64 (t844 - 1)) % 256) [.int .u8 ((wrap64 (t844 - 1)) % 256)] from rfl) (Reps.none _ _))); intro v860 w31 ho32 hb hg_ hnew_; clear hg_ hnew_; (first | rw [← Ny859.out] at ho32 | (simp only [Int.reduceToNat] at ho32; rw [← Ny859.out] at ho32)); have n0_ := Aside0.mk (Kd.V_elder' (by (with_reducible repeat (first | apply Kd.V_alloc | apply Kd.V_drewN | apply Kd.V_drew)); exact HO_0.out) (Kd.R_base ho32) hb); have n1_ := Aside0.mk (Kd.V_elder' (by (with_reducible repeat (first | apply Kd.V_alloc | apply Kd.V_drewN | apply Kd.V_drew)); exact HO850.out) (Kd.R_base ho32) hb); have n2_ := Aside0.mk (Kd.R_lower (Kd.R_newM (M := fun k_ => (w.heap.size ≤ k_)) ho32 (below_size (by repeat (first | (with_reducible first | exact HB.out | apply below_alloc | apply pw_below_drewN | apply below_drew1) | exact HB.out))) (fun k_ h_ => h_)) (below_size (by repeat (first | (with_reducible first | exact HB.out | apply below_alloc | apply pw_below_drewN | apply below_drew1) | exact HB.out)))); have n3_ := Sq.s_ HB hb; clear HO_0; clear HO850; clear HB; have HO_0 := n0_; have HO850 := n1_; have HO861 := n2_; have HB := n3_; clear n0_ n1_ n2_ n3_; clear hb ho32; have hcv33 := own_string (P := Try.prog) Try.underlying28 Try.underlying5 Try.underlying9 (Kd.own_of_R HO861.out)))
                go_meet
                case rel => exact ⟨_, (x7_3 ++ (strOfNums y859)), (y846), (by first | rfl | (simp; done) | (simp [*]; done)), H', ⟨by have := HJ2.out; have := HK2.out; have := HK3.out; first | omega | exact Nat.le_refl _⟩, ⟨by (with_reducible repeat (first | apply Kd.V_alloc | apply Kd.V_drewN | apply Kd.V_drew)); exact Kd.V_mono HO_0.out (fun _ hk => hk.1)⟩, ⟨by (with_reducible repeat (first | apply Kd.V_alloc | apply Kd.V_drewN | apply Kd.V_drew)); exact Kd.V_mono HO850.out (fun _ hk => hk.1)⟩, Sq.a_ HB⟩
               ·rw [if_neg c30] at H; exact absurd H (by simp)
             case rest =>
              clear HC20; try clear c1
              try clear c2
              try clear p2
              try clear q2
              try clear hcv2
              try clear c3
              try clear hcv3
              try clear c4
              try clear c4b0
              try clear c4b1
              try clear c6
              try clear p6
              try clear c7
              try clear c7b0
              try clear c8
              try clear c8b0
              try clear p8
              try clear q8
              try clear hx8
              try clear c9
              try clear c9b0
              try clear c11
              try clear c11b0
              try clear c11b1
              try clear c12
              try clear c14
              try clear c15
              try clear c15b0
              try clear c17
              try clear c17b0
              try clear c17b1
              try clear c18
              try clear c18b0
              try clear c18b1
              try clear c19
              try clear c19b0
              try clear c19b1
              try clear c22
              try clear q22
              try clear c23
              try clear c24
              try clear c24b0
              try clear c24b1
              try clear c24b2
              try clear c25
              try clear c25b0
              try clear c25b1
              try clear hcv28
              try clear q29
              try clear c30
              try clear c30b0
              try clear c30b1
              try clear c30b2
              try clear hcv33
              try clear hx842_0
              try clear p2
              try clear p6
              try clear p8
              try clear p842
              try clear q022
              try clear q22
              try clear q29
              try clear q8
              try clear q842
              obtain ⟨kq, x7_19, x11_19, rfl, HA, HJ19, HO_0, HO_11, HB⟩ := hcut; cases kq with
              | zero => exact absurd HA.out (by simp [impl_RunPut.j3])
              | succ kj19 =>
               have H := HA.out; clear HA; simp only [impl_RunPut.j3] at H; have H' := Aside0.mk H; clear H; obtain ⟨Ao34, co34, eo34⟩ := Kd.V_slice HO_11.out; subst eo34; go_wp2
               go_loopg [7, 71] kj19 (fun kq v7 v71 w' => ∃ (x7_5 : ByteArray) (x71_5 : Int), v7 = .string x7_5 ∧ v71 = .int .i64 x71_5 ∧ Aside0 (impl_RunPut.l2 kq l0 a1 x7_5 x8_3 t844 x11_19 (x11_19.length : Int) x71_5 = some r) ∧ Aside0 (kq ≤ kj19) ∧ Aside0 (Kd.V (Kd.int .i64) 3 w' w.heap.size (fun k_ => (P0_ k_ ∨ w.heap.size ≤ k_)) (.slice A0 l0.length c0) l0) ∧ Aside0 (Kd.V (Kd.int .i64) 3 w' w.heap.size (fun k_ => (P0_ k_ ∨ w.heap.size ≤ k_)) (.slice Ao34 x11_19.length co34) x11_19) ∧ Aside0 (Below w.heap.size w w'))
               case atStart => exact ⟨(x7_19), (0), (by first | rfl | (simp; done) | (simp [*]; done)), (by first | rfl | (simp; done) | (simp [*]; done)), H', ⟨Nat.le_refl _⟩, ⟨by (with_reducible repeat (first | apply Kd.V_alloc | apply Kd.V_drewN | apply Kd.V_drew)); exact HO_0.out⟩, ⟨by (with_reducible repeat (first | apply Kd.V_alloc | apply Kd.V_drewN | apply Kd.V_drew)); exact HO_11.out⟩, Sq.a_ HB⟩
               case round =>
                clear H'; try clear c1
                try clear c2
                try clear p2
                try clear q2
                try clear hcv2
                try clear c3
                try clear hcv3
                try clear c4
                try clear c4b0
                try clear c4b1
                try clear c6
                try clear p6
                try clear c7
                try clear c7b0
                try clear c8
                try clear c8b0
                try clear p8
                try clear q8
                try clear hx8
                try clear c9
                try clear c9b0
                try clear c11
                try clear c11b0
                try clear c11b1
                try clear c12
                try clear c14
                try clear c15
                try clear c15b0
                try clear c17
                try clear c17b0
                try clear c17b1
                try clear c18
                try clear c18b0
                try clear c18b1
                try clear c19
                try clear c19b0
                try clear c19b1
                try clear c22
                try clear q22
                try clear c23
                try clear c24
                try clear c24b0
                try clear c24b1
                try clear c24b2
                try clear c25
                try clear c25b0
                try clear c25b1
                try clear hcv28
                try clear q29
                try clear c30
                try clear c30b0
                try clear c30b1
                try clear c30b2
                try clear hcv33
                try clear hx842_0
                try clear p2
                try clear p6
                try clear p8
                try clear p842
                try clear q022
                try clear q2
                try clear q22
                try clear q29
                try clear q8
                try clear q842
                obtain ⟨x7_5, x71_5, rfl, rfl, HA, HK5, HO_0, HO_69, HB⟩ := hrel; cases gk with
                | zero => exact absurd HA.out (by simp [impl_RunPut.l2])
                | succ k5 =>
                 have H := HA.out; clear HA; simp only [impl_RunPut.l2] at H
                 by_cases c35 : x71_5 < (x11_19.length : Int)
                 ·rw [if_pos c35] at H; have c35b0 : decide (x71_5 < (x11_19.length : Int)) = true := decide_eq_true c35; clear c35
                  by_cases c36 : 0 ≤ x71_5
                  ·rw [if_pos c36] at H; have c36b0 : decide (0 ≤ x71_5) = true := decide_eq_true c36; clear c36
                   by_cases c37 : x71_5 < (x11_19.length : Int)
                   ·rw [if_pos c37] at H; have c37b0 : decide (x71_5 < (x11_19.length : Int)) = true := decide_eq_true c37; clear c37; replace H := Option.bind_eq_some_iff.mp H; obtain ⟨t863, A380, H⟩ := H; have A38 := Aside0.mk A380; clear A380
                    by_cases c39 : x7_5.size + t863.size ≤ 9223372036854775807
                    ·rw [if_pos c39] at H; have c39b0 := eq_true c39; have c39b1 : decide (x7_5.size + t863.size ≤ 9223372036854775807) = true := decide_eq_true c39; try have c39b2 : (9223372036854775807 < x7_5.size + t863.size) = False := eq_false (Nat.not_lt.2 c39)
                     have H' := Aside0.mk H; clear H; have p862 : 0 ≤ (x71_5 : Int) := of_decide_eq_true (by first | (with_reducible assumption) | assumption); have q862 : x71_5 < (x11_19.length : Int) := of_decide_eq_true (by first | (with_reducible assumption) | assumption); obtain ⟨ad862, e862, hx862_0⟩ := Kd.at_int (Kd.V_reads' HO_69.out).2.2 x71_5 p862 q862; cases e862; replace p862 := eq_true p862; replace q862 := eq_true q862; go_wp2_with (first | ((with_reducible refine gate_callee (f := 112) rfl ?_); refine goesL_ (some 78) rfl rfl Try.func112 (by kernel_rfl) rfl #[.int .i64 (rd x11_19 x71_5), .int .i64 a1, .bool false] rfl (by (try simp only [Sq.mp]); first | done | rfl | (simp only [List.length_drop, List.length_take]; rfl)) ?_; (with_reducible refine (impl_NumPut.calls k5 (rd x11_19 x71_5) a1 false t863 _ A38.out).mono ?_); rintro e w40 ⟨rfl, hb⟩; refine ⟨_, rfl, ?_⟩; have n0_ := Aside0.mk (Kd.V_below (by (with_reducible repeat (first | apply Kd.V_alloc | apply Kd.V_drewN | apply Kd.V_drew)); exact HO_0.out) hb); have n1_ := Aside0.mk (Kd.V_below (by (with_reducible repeat (first | apply Kd.V_alloc | apply Kd.V_drewN | apply Kd.V_drew)); exact HO_69.out) hb); have n2_ := Sq.s_ HB hb; clear HO_0; clear HO_69; clear HB; have HO_0 := n0_; have HO_69 := n1_; have HB := n2_; clear n0_ n1_ n2_; (try clear hb); (try clear hb2); (try clear hk); (try clear hi)))
                     go_roundg k5
                     case measure => have := HJ2.out; have := HK2.out; have := HK3.out; have := HJ19.out; have := HK5.out; omega
                     case rel => exact ⟨(x7_5 ++ t863), (wrap64 (x71_5 + 1)), (by first | rfl | (simp; done) | (simp [*]; done)), (by first | rfl | (simp; done) | (simp [*]; done)), H', ⟨by have := HJ2.out; have := HK2.out; have := HK3.out; have := HJ19.out; have := HK5.out; omega⟩, ⟨by (with_reducible repeat (first | apply Kd.V_alloc | apply Kd.V_drewN | apply Kd.V_drew)); exact HO_0.out⟩, ⟨by (with_reducible repeat (first | apply Kd.V_alloc | apply Kd.V_drewN | apply Kd.V_drew)); exact HO_69.out⟩, Sq.a_ HB⟩
                    ·rw [if_neg c39] at H; exact absurd H (by simp)
                   ·rw [if_neg c37] at H; exact absurd H (by simp)
                  ·rw [if_neg c36] at H; exact absurd H (by simp)
                 ·rw [if_neg c35] at H; have c35b0 : decide (x71_5 < (x11_19.length : Int)) = false := decide_eq_false c35; clear c35; have H' := Aside0.mk H; clear H; go_wp2
                  go_roundg k5
                  case measure => have := HJ2.out; have := HK2.out; have := HK3.out; have := HJ19.out; have := HK5.out; omega
                  case rel => exact ⟨(x7_5), (wrap64 (x8_3 + t844)), (by first | rfl | (simp; done) | (simp [*]; done)), (by first | rfl | (simp; done) | (simp [*]; done)), H', ⟨by have := HJ2.out; have := HK2.out; have := HK3.out; have := HJ19.out; have := HK5.out; omega⟩, ⟨by (with_reducible repeat (first | apply Kd.V_alloc | apply Kd.V_drewN | apply Kd.V_drew)); exact HO_0.out⟩, Sq.a_ HB⟩
            ·rw [if_neg c19] at H; exact absurd H (by simp)
           ·rw [if_neg c18] at H; exact absurd H (by simp)
          ·rw [if_neg c17] at H; exact absurd H (by simp)
         ·rw [if_neg c15] at H; have c15b0 : decide (x8_3 < (l0.length : Int)) = false := decide_eq_false c15; clear c15; obtain rfl := Option.some.inj H; go_wp2
          go_ret
          exact ⟨by first | rfl | (simp [errW_none, errW_some] <;> rfl) | (simp [*, errW_none, errW_some] <;> rfl), by repeat (first | (with_reducible first | exact HB.out | apply below_alloc | apply pw_below_drewN | apply below_drew1) | exact HB.out)⟩
end Go.Proofs.Ytgdbinifnhfcjaa.P
