/- Texts of one law put together (wip/merge2.py). -/
import Derived.Test.YtgdbinifnhfcjaaMFnExactTgaPut1
namespace Go.Proofs.Ytgdbinifnhfcjaa.P
open Go.RowKit Go.Proofs.YtgdbinifnhfcjaaW.PrintWords Go.Proofs.YtgdbinifnhfcjaaW.PrintLast Go.Proofs.YtgdbinifnhfcjaaW.PrintMore
attribute [local go_sem] max2_int min2_int max_two min_two max_three min_three max_four min_four   -- for this text's walks alone
set_option linter.unusedVariables false
set_option linter.unusedSimpArgs false
/-! ### impl_NumGet: function 34 -/
mutual
def impl_NumGet.j0 : Nat → ByteArray → Int → Int → Bool → Bool → Option (Int × Bool)
 | 0, _, _, _, _, _ => none
 | k + 1, x0, x1, x2, x3, x29 => if x29 = true then (some (0, false)) else (impl_NumGet.l0 k x0 x1 x2 x3 0 x2 0)
def impl_NumGet.l0 : Nat → ByteArray → Int → Int → Bool → Int → Int → Int → Option (Int × Bool)
 | 0, _, _, _, _, _, _, _ => none
 | k + 1, x0, x1, x2, x3, x10, x30, x31 => if x31 < x30 then (if x3 = true then (if 0 ≤ (wrap64 (x1 + x31)) then (if (wrap64 (x1 + x31)) < (x0.size : Int) then (impl_NumGet.l0 k x0 x1 x2 x3 (Go.bits .or .i64 (wrap64 (x10 * 256)) (wrap64 (bt x0 (wrap64 (x1 + x31))))) x30 (wrap64 (x31 + 1))) else (none)) else (none)) else (if 0 ≤ (wrap64 ((wrap64 ((wrap64 (x1 + x2)) - 1)) - x31)) then (if (wrap64 ((wrap64 ((wrap64 (x1 + x2)) - 1)) - x31)) < (x0.size : Int) then (impl_NumGet.l0 k x0 x1 x2 x3 (Go.bits .or .i64 (wrap64 (x10 * 256)) (wrap64 (bt x0 (wrap64 ((wrap64 ((wrap64 (x1 + x2)) - 1)) - x31))))) x30 (wrap64 (x31 + 1))) else (none)) else (none))) else (some (x10, true))
end
def impl_NumGet.f (k : Nat) (a0 : ByteArray) (a1 : Int) (a2 : Int) (a3 : Bool) : Option (Int × Bool) := (impl_in.f a2 1 4).bind fun t522 => (if t522 = true then (if (a0.size : Int) > 9000 then (impl_NumGet.j0 k a0 a1 a2 a3 true) else ((impl_in.f a1 0 (wrap64 ((a0.size : Int) - a2))).bind fun t523 => (impl_NumGet.j0 k a0 a1 a2 a3 (!t523)))) else (impl_NumGet.j0 k a0 a1 a2 a3 true))
theorem impl_NumGet.mono_l : ∀ k, (∀ y0 y1 y2 y3 y4, LeO (impl_NumGet.j0 k y0 y1 y2 y3 y4) (impl_NumGet.j0 (k + 1) y0 y1 y2 y3 y4)) ∧ (∀ y0 y1 y2 y3 y4 y5 y6, LeO (impl_NumGet.l0 k y0 y1 y2 y3 y4 y5 y6) (impl_NumGet.l0 (k + 1) y0 y1 y2 y3 y4 y5 y6))
 | 0 => ⟨fun _ _ _ _ _ r h => by simp [impl_NumGet.j0] at h, fun _ _ _ _ _ _ _ r h => by simp [impl_NumGet.l0] at h⟩
 | k + 1 => by
  obtain ⟨ih0, ih1⟩ := impl_NumGet.mono_l k
  refine ⟨?_, ?_⟩
  ·intro y0 y1 y2 y3 y4; unfold impl_NumGet.j0
   repeat' first
   | (with_reducible exact ih0 _ _ _ _ _)
   | (with_reducible exact ih1 _ _ _ _ _ _ _)
   | (with_reducible exact LeO.refl _)
   | (with_reducible exact LeO.none _)
   | (with_reducible refine LeO.ite ?_ ?_)
   | (with_reducible refine LeO.bind ?_ (fun _ => ?_))
   | exact ih0 _ _ _ _ _
   | exact ih1 _ _ _ _ _ _ _
   | exact LeO.none _
   | refine LeO.ite ?_ ?_
   | refine LeO.bind ?_ (fun _ => ?_)
  ·intro y0 y1 y2 y3 y4 y5 y6; unfold impl_NumGet.l0
   repeat' first
   | (with_reducible exact ih0 _ _ _ _ _)
   | (with_reducible exact ih1 _ _ _ _ _ _ _)
   | (with_reducible exact LeO.refl _)
   | (with_reducible exact LeO.none _)
   | (with_reducible refine LeO.ite ?_ ?_)
   | (with_reducible refine LeO.bind ?_ (fun _ => ?_))
   | exact ih0 _ _ _ _ _
   | exact ih1 _ _ _ _ _ _ _
   | exact LeO.none _
   | refine LeO.ite ?_ ?_
   | refine LeO.bind ?_ (fun _ => ?_)
theorem impl_NumGet.mono : ∀ a0 a1 a2 a3 k, LeO (impl_NumGet.f k a0 a1 a2 a3) (impl_NumGet.f (k + 1) a0 a1 a2 a3) := by
 intro a0 a1 a2 a3 k; obtain ⟨ih0, ih1⟩ := impl_NumGet.mono_l k; unfold impl_NumGet.f
 repeat' first
  | (with_reducible exact ih0 _ _ _ _ _)
  | (with_reducible exact ih1 _ _ _ _ _ _ _)
  | (with_reducible exact LeO.refl _)
  | (with_reducible exact LeO.none _)
  | (with_reducible refine LeO.ite ?_ ?_)
  | (with_reducible refine LeO.bind ?_ (fun _ => ?_))
  | exact ih0 _ _ _ _ _
  | exact ih1 _ _ _ _ _ _ _
  | exact LeO.none _
  | refine LeO.ite ?_ ?_
  | refine LeO.bind ?_ (fun _ => ?_)
set_option maxHeartbeats 8000000 in
set_option maxRecDepth 100000 in
theorem impl_NumGet.calls (k : Nat) (a0 : ByteArray) (a1 : Int) (a2 : Int) (a3 : Bool) (r1 : Int) (r2 : Bool) (w : World) (h : impl_NumGet.f k a0 a1 a2 a3 = some (r1, r2)) :
 Calls Try.prog 34 #[.string a0, .int .i64 a1, .int .i64 a2, .bool a3] w fun e w' => e = .returned (.tuple #[.int .i64 r1, .bool r2]) ∧ Drawn0 w w' := by
 have H : ((impl_in.f a2 1 4).bind fun t522 => (if t522 = true then (if (a0.size : Int) > 9000 then (impl_NumGet.j0 k a0 a1 a2 a3 true) else ((impl_in.f a1 0 (wrap64 ((a0.size : Int) - a2))).bind fun t523 => (impl_NumGet.j0 k a0 a1 a2 a3 (!t523)))) else (impl_NumGet.j0 k a0 a1 a2 a3 true))) = some (r1, r2) := h; clear h; have HC5 := Aside0.mk H; clear H; go_enter Try.func34, Try.ntmps34
 go_upto_region 1 with (fail)
 go_cut [29] (fun v29 wc => ∃ (kq : Nat) (x29_4 : Bool), v29 = .bool x29_4 ∧ Aside0 (impl_NumGet.j0 kq a0 a1 a2 a3 x29_4 = some (r1, r2)) ∧ Aside0 (kq ≤ k) ∧ Drawn0 w wc)
 case first =>
  have H := HC5.out; clear HC5; replace H := Option.bind_eq_some_iff.mp H; obtain ⟨t522, A60, H⟩ := H; replace H : (if t522 = true then (if (a0.size : Int) > 9000 then (impl_NumGet.j0 k a0 a1 a2 a3 true) else ((impl_in.f a1 0 (wrap64 ((a0.size : Int) - a2))).bind fun t523 => (impl_NumGet.j0 k a0 a1 a2 a3 (!t523)))) else (impl_NumGet.j0 k a0 a1 a2 a3 true)) = some (r1, r2) := H; have A6 := Aside0.mk A60; clear A60
  by_cases c7 : t522 = true
  ·subst c7; replace H := Sq.t H
   by_cases c8 : (a0.size : Int) > 9000
   ·rw [if_pos c8] at H; have c8b0 : decide (9000 < (a0.size : Int)) = true := decide_eq_true c8; have c8b1 : decide (9000 < a0.size) = true := decide_eq_true (by omega); clear c8; (first | rw [c8b0] | (simp only [i64_w, i32_w]; rw [c8b0]) | skip)
    have H' := Aside0.mk H; clear H; go_wp2_with (first | ((with_reducible refine gate_callee (f := 45) rfl ?_); refine goesL_ (some 14) rfl rfl Try.func45 (by kernel_rfl) rfl #[.int .i64 a2, .int .i64 1, .int .i64 4] rfl (by (try simp only [Sq.mp]); first | done | rfl | (simp only [List.length_drop, List.length_take]; rfl)) ?_; (with_reducible refine (impl_in.calls a2 1 4 true _ A6.out).mono ?_); rintro e w' ⟨rfl, ⟨nd, rfl⟩⟩; refine ⟨_, rfl, ?_⟩))
    go_meet
    case rel => exact ⟨_, (true), (by first | rfl | (simp; done) | (simp [*]; done)), H', ⟨by first | omega | exact Nat.le_refl _⟩, by repeat (first | exact Drawn0.refl _ | apply Drawn0.step)⟩
   ·rw [if_neg c8] at H; have c8b0 : decide (9000 < (a0.size : Int)) = false := decide_eq_false c8; have c8b1 : decide (9000 < a0.size) = false := decide_eq_false (by omega); clear c8; (first | rw [c8b0] | (simp only [i64_w, i32_w]; rw [c8b0]) | skip)
    replace H := Option.bind_eq_some_iff.mp H; obtain ⟨t523, A90, H⟩ := H; replace H : (impl_NumGet.j0 k a0 a1 a2 a3 (!t523)) = some (r1, r2) := H; have A9 := Aside0.mk A90; clear A90; have H' := Aside0.mk H; clear H; go_wp2_with (first | ((with_reducible refine gate_callee (f := 45) rfl ?_); refine goesL_ (some 14) rfl rfl Try.func45 (by kernel_rfl) rfl #[.int .i64 a2, .int .i64 1, .int .i64 4] rfl (by (try simp only [Sq.mp]); first | done | rfl | (simp only [List.length_drop, List.length_take]; rfl)) ?_; (with_reducible refine (impl_in.calls a2 1 4 true _ A6.out).mono ?_); rintro e w' ⟨rfl, ⟨nd, rfl⟩⟩; refine ⟨_, rfl, ?_⟩) | (go_at_call 45; (with_reducible refine (impl_in.calls a1 0 (wrap64 ((a0.size : Int) - a2)) t523 _ A9.out).mono ?_); rintro e w' ⟨rfl, ⟨nd, rfl⟩⟩))
    go_meet
    case rel => exact ⟨_, (!t523), (by first | rfl | (simp; done) | (simp [*]; done)), H', ⟨by first | omega | exact Nat.le_refl _⟩, by repeat (first | exact Drawn0.refl _ | apply Drawn0.step)⟩
  ·replace c7 := Bool.eq_false_iff.mpr c7; subst c7; replace H := Sq.f H; have H' := Aside0.mk H; clear H; go_wp2_with (first | ((with_reducible refine gate_callee (f := 45) rfl ?_); refine goesL_ (some 14) rfl rfl Try.func45 (by kernel_rfl) rfl #[.int .i64 a2, .int .i64 1, .int .i64 4] rfl (by (try simp only [Sq.mp]); first | done | rfl | (simp only [List.length_drop, List.length_take]; rfl)) ?_; (with_reducible refine (impl_in.calls a2 1 4 false _ A6.out).mono ?_); rintro e w' ⟨rfl, ⟨nd, rfl⟩⟩; refine ⟨_, rfl, ?_⟩))
   go_meet
   case rel => exact ⟨_, (true), (by first | rfl | (simp; done) | (simp [*]; done)), H', ⟨by first | omega | exact Nat.le_refl _⟩, by repeat (first | exact Drawn0.refl _ | apply Drawn0.step)⟩
 case rest =>
  clear HC5; try clear p2
  try clear c3
  try clear c4
  try clear p6
  try clear c7
  try clear c8
  try clear c8b0
  try clear c8b1
  obtain ⟨kq, x29_4, rfl, HA, HJ4, ⟨mc4, rfl⟩⟩ := hcut; cases kq with
  | zero => exact absurd HA.out (by simp [impl_NumGet.j0])
  | succ kj4 =>
   have H := HA.out; clear HA; simp only [impl_NumGet.j0] at H
   by_cases c10 : x29_4 = true
   ·subst c10; replace H := Sq.t H; simp only [Option.some.injEq, Prod.mk.injEq] at H; obtain ⟨rfl, rfl⟩ := H; go_wp2
    go_ret2
    exact ⟨by first | rfl | (simp; done) | (simp [*]; done), by repeat (first | exact Drawn0.refl _ | apply Drawn0.step)⟩
   ·replace c10 := Bool.eq_false_iff.mpr c10; subst c10; replace H := Sq.f H; have H' := Aside0.mk H; clear H; go_wp2
    go_loopg [10, 31] kj4 (fun kq v10 v31 w' => ∃ (x10_2 : Int) (x31_2 : Int), v10 = .int .i64 x10_2 ∧ v31 = .int .i64 x31_2 ∧ Aside0 (impl_NumGet.l0 kq a0 a1 a2 a3 x10_2 a2 x31_2 = some (r1, r2)) ∧ Aside0 (kq ≤ kj4) ∧ Drawn0 w w')
    case atStart => exact ⟨(0), (0), (by first | rfl | (simp; done) | (simp [*]; done)), (by first | rfl | (simp; done) | (simp [*]; done)), H', ⟨Nat.le_refl _⟩, by repeat (first | exact Drawn0.refl _ | apply Drawn0.step)⟩
    case round =>
     clear H'; try clear c1
     try clear p2
     try clear c3
     try clear c4
     try clear p6
     try clear c7
     try clear c8
     try clear c8b0
     try clear c8b1
     try clear c10
     try clear p2
     try clear p6
     obtain ⟨x10_2, x31_2, rfl, rfl, HA, HK2, ⟨m2, rfl⟩⟩ := hrel; cases gk with
     | zero => exact absurd HA.out (by simp [impl_NumGet.l0])
     | succ k2 =>
      have H := HA.out; clear HA; simp only [impl_NumGet.l0] at H
      by_cases c11 : x31_2 < a2
      ·rw [if_pos c11] at H; have c11b0 : decide (x31_2 < a2) = true := decide_eq_true c11; clear c11
       by_cases c12 : a3 = true
       ·subst c12; replace H := Sq.t H; obtain ⟨ji13, hji13⟩ : ∃ j_ : Int, (wrap64 (a1 + x31_2)) = j_ := ⟨_, rfl⟩; replace H : (if 0 ≤ (ji13) then (if (ji13) < (a0.size : Int) then (impl_NumGet.l0 k2 a0 a1 a2 true (Go.bits .or .i64 (wrap64 (x10_2 * 256)) (wrap64 (bt a0 (ji13)))) a2 (wrap64 (x31_2 + 1))) else (none)) else (none)) = some (r1, r2) := by first | (rw [hji13] at H; exact H) | (simp only [hji13] at H ⊢; exact H)
        have hji13w : (IntKind.i64.wrap (a1 + x31_2)) = ji13 := (i64_w _).trans hji13
        by_cases c14 : 0 ≤ (ji13)
        ·rw [if_pos c14] at H; have c14b0 : decide (0 ≤ (ji13)) = true := decide_eq_true c14; clear c14
         by_cases c15 : (ji13) < (a0.size : Int)
         ·rw [if_pos c15] at H; have c15b0 : decide ((ji13) < (a0.size : Int)) = true := decide_eq_true c15; clear c15; have H' := Aside0.mk H; clear H; have p16 : 0 ≤ ((ji13) : Int) := of_decide_eq_true (by first | (with_reducible assumption) | assumption); have q16 : (ji13) < (a0.size : Int) := of_decide_eq_true (by first | (with_reducible assumption) | assumption); have hx16 := bt_at a0 (ji13); replace p16 := eq_true p16; replace q16 := eq_true q16; go_wp2
          go_roundg k2
          case measure => have := HJ4.out; have := HK2.out; omega
          case rel => exact ⟨(Go.bits .or .i64 (wrap64 (x10_2 * 256)) (wrap64 (bt a0 (ji13)))), (wrap64 (x31_2 + 1)), (by first | rfl | (simp; done) | (simp only [← hji13] <;> (first | rfl | simp)) | (simp [*]; done)), (by first | rfl | (simp; done) | (simp [*]; done)), H', ⟨by have := HJ4.out; have := HK2.out; omega⟩, by repeat (first | exact Drawn0.refl _ | apply Drawn0.step)⟩
         ·rw [if_neg c15] at H; exact absurd H (by simp)
        ·rw [if_neg c14] at H; exact absurd H (by simp)
       ·replace c12 := Bool.eq_false_iff.mpr c12; subst c12; replace H := Sq.f H; obtain ⟨ji17, hji17⟩ : ∃ j_ : Int, (wrap64 ((wrap64 ((wrap64 (a1 + a2)) - 1)) - x31_2)) = j_ := ⟨_, rfl⟩; replace H : (if 0 ≤ (ji17) then (if (ji17) < (a0.size : Int) then (impl_NumGet.l0 k2 a0 a1 a2 false (Go.bits .or .i64 (wrap64 (x10_2 * 256)) (wrap64 (bt a0 (ji17)))) a2 (wrap64 (x31_2 + 1))) else (none)) else (none)) = some (r1, r2) := by first | (rw [hji17] at H; exact H) | (simp only [hji17] at H ⊢; exact H)
        have hji17w : (IntKind.i64.wrap ((wrap64 ((wrap64 (a1 + a2)) - 1)) - x31_2)) = ji17 := (i64_w _).trans hji17
        by_cases c18 : 0 ≤ (ji17)
        ·rw [if_pos c18] at H; have c18b0 : decide (0 ≤ (ji17)) = true := decide_eq_true c18; clear c18
         by_cases c19 : (ji17) < (a0.size : Int)
         ·rw [if_pos c19] at H; have c19b0 : decide ((ji17) < (a0.size : Int)) = true := decide_eq_true c19; clear c19; have H' := Aside0.mk H; clear H; have p20 : 0 ≤ ((ji17) : Int) := of_decide_eq_true (by first | (with_reducible assumption) | assumption); have q20 : (ji17) < (a0.size : Int) := of_decide_eq_true (by first | (with_reducible assumption) | assumption); have hx20 := bt_at a0 (ji17); replace p20 := eq_true p20; replace q20 := eq_true q20; go_wp2
          go_roundg k2
          case measure => have := HJ4.out; have := HK2.out; omega
          case rel => exact ⟨(Go.bits .or .i64 (wrap64 (x10_2 * 256)) (wrap64 (bt a0 (ji17)))), (wrap64 (x31_2 + 1)), (by first | rfl | (simp; done) | (simp only [← hji17] <;> (first | rfl | simp)) | (simp [*]; done)), (by first | rfl | (simp; done) | (simp [*]; done)), H', ⟨by have := HJ4.out; have := HK2.out; omega⟩, by repeat (first | exact Drawn0.refl _ | apply Drawn0.step)⟩
         ·rw [if_neg c19] at H; exact absurd H (by simp)
        ·rw [if_neg c18] at H; exact absurd H (by simp)
      ·rw [if_neg c11] at H; have c11b0 : decide (x31_2 < a2) = false := decide_eq_false c11; clear c11; simp only [Option.some.injEq, Prod.mk.injEq] at H; obtain ⟨rfl, rfl⟩ := H; go_wp2
       go_ret2
       exact ⟨by first | rfl | (simp; done) | (simp [*]; done), by repeat (first | exact Drawn0.refl _ | apply Drawn0.step)⟩
/-! ### spec_l1Field: function 66 -/
mutual
def spec_l1Field.j0 : Nat → ByteArray → Int → Int → Bool → Bool → Option (Int)
 | 0, _, _, _, _, _ => none
 | k + 1, x0, x1, x2, x3, x20 => if x20 = true then (some 0) else (spec_l1Field.l0 k x0 x1 x2 x3 0 0)
def spec_l1Field.l0 : Nat → ByteArray → Int → Int → Bool → Int → Int → Option (Int)
 | 0, _, _, _, _, _, _ => none
 | k + 1, x0, x1, x2, x3, x9, x10 => if x10 < x2 then (if x3 = true then (if 0 ≤ (wrap64 (x1 + x10)) then (if (wrap64 (x1 + x10)) < (x0.size : Int) then (spec_l1Field.l0 k x0 x1 x2 x3 (wrap64 ((wrap64 (256 * x9)) + (wrap64 (bt x0 (wrap64 (x1 + x10)))))) (wrap64 (x10 + 1))) else (none)) else (none)) else (if 0 ≤ (wrap64 ((wrap64 ((wrap64 (x1 + x2)) - 1)) - x10)) then (if (wrap64 ((wrap64 ((wrap64 (x1 + x2)) - 1)) - x10)) < (x0.size : Int) then (spec_l1Field.l0 k x0 x1 x2 x3 (wrap64 ((wrap64 (256 * x9)) + (wrap64 (bt x0 (wrap64 ((wrap64 ((wrap64 (x1 + x2)) - 1)) - x10)))))) (wrap64 (x10 + 1))) else (none)) else (none))) else (some x9)
end
def spec_l1Field.f (k : Nat) (a0 : ByteArray) (a1 : Int) (a2 : Int) (a3 : Bool) : Option (Int) := if a1 < 0 then (spec_l1Field.j0 k a0 a1 a2 a3 true) else (spec_l1Field.j0 k a0 a1 a2 a3 (decide ((wrap64 (a1 + a2)) > (a0.size : Int))))
theorem spec_l1Field.mono_l : ∀ k, (∀ y0 y1 y2 y3 y4, LeO (spec_l1Field.j0 k y0 y1 y2 y3 y4) (spec_l1Field.j0 (k + 1) y0 y1 y2 y3 y4)) ∧ (∀ y0 y1 y2 y3 y4 y5, LeO (spec_l1Field.l0 k y0 y1 y2 y3 y4 y5) (spec_l1Field.l0 (k + 1) y0 y1 y2 y3 y4 y5))
 | 0 => ⟨fun _ _ _ _ _ r h => by simp [spec_l1Field.j0] at h, fun _ _ _ _ _ _ r h => by simp [spec_l1Field.l0] at h⟩
 | k + 1 => by
  obtain ⟨ih0, ih1⟩ := spec_l1Field.mono_l k
  refine ⟨?_, ?_⟩
  ·intro y0 y1 y2 y3 y4; unfold spec_l1Field.j0
   repeat' first
   | (with_reducible exact ih0 _ _ _ _ _)
   | (with_reducible exact ih1 _ _ _ _ _ _)
   | (with_reducible exact LeO.refl _)
   | (with_reducible exact LeO.none _)
   | (with_reducible refine LeO.ite ?_ ?_)
   | (with_reducible refine LeO.bind ?_ (fun _ => ?_))
   | exact ih0 _ _ _ _ _
   | exact ih1 _ _ _ _ _ _
   | exact LeO.none _
   | refine LeO.ite ?_ ?_
   | refine LeO.bind ?_ (fun _ => ?_)
  ·intro y0 y1 y2 y3 y4 y5; unfold spec_l1Field.l0
   repeat' first
   | (with_reducible exact ih0 _ _ _ _ _)
   | (with_reducible exact ih1 _ _ _ _ _ _)
   | (with_reducible exact LeO.refl _)
   | (with_reducible exact LeO.none _)
   | (with_reducible refine LeO.ite ?_ ?_)
   | (with_reducible refine LeO.bind ?_ (fun _ => ?_))
   | exact ih0 _ _ _ _ _
   | exact ih1 _ _ _ _ _ _
   | exact LeO.none _
   | refine LeO.ite ?_ ?_
   | refine LeO.bind ?_ (fun _ => ?_)
theorem spec_l1Field.mono : ∀ a0 a1 a2 a3 k, LeO (spec_l1Field.f k a0 a1 a2 a3) (spec_l1Field.f (k + 1) a0 a1 a2 a3) := by
 intro a0 a1 a2 a3 k; obtain ⟨ih0, ih1⟩ := spec_l1Field.mono_l k; unfold spec_l1Field.f
 repeat' first
  | (with_reducible exact ih0 _ _ _ _ _)
  | (with_reducible exact ih1 _ _ _ _ _ _)
  | (with_reducible exact LeO.refl _)
  | (with_reducible exact LeO.none _)
  | (with_reducible refine LeO.ite ?_ ?_)
  | (with_reducible refine LeO.bind ?_ (fun _ => ?_))
  | exact ih0 _ _ _ _ _
  | exact ih1 _ _ _ _ _ _
  | exact LeO.none _
  | refine LeO.ite ?_ ?_
  | refine LeO.bind ?_ (fun _ => ?_)
set_option maxHeartbeats 8000000 in
set_option maxRecDepth 100000 in
theorem spec_l1Field.calls (k : Nat) (a0 : ByteArray) (a1 : Int) (a2 : Int) (a3 : Bool) (r : Int) (w : World) (h : spec_l1Field.f k a0 a1 a2 a3 = some r) :
 Calls Try.prog 66 #[.string a0, .int .i64 a1, .int .i64 a2, .bool a3] w fun e w' => e = .returned (.int .i64 r) ∧ Drawn0 w w' := by
 have H : (if a1 < 0 then (spec_l1Field.j0 k a0 a1 a2 a3 true) else (spec_l1Field.j0 k a0 a1 a2 a3 (decide ((wrap64 (a1 + a2)) > (a0.size : Int))))) = some r := h; clear h; have HC5 := Aside0.mk H; clear H; go_enter Try.func66, Try.ntmps66
 go_upto_region 1 with (fail)
 go_cut [20] (fun v20 wc => ∃ (kq : Nat) (x20_4 : Bool), v20 = .bool x20_4 ∧ Aside0 (spec_l1Field.j0 kq a0 a1 a2 a3 x20_4 = some r) ∧ Aside0 (kq ≤ k) ∧ Drawn0 w wc)
 case first =>
  have H := HC5.out; clear HC5
  by_cases c6 : a1 < 0
  ·rw [if_pos c6] at H; have c6b0 : decide (a1 < 0) = true := decide_eq_true c6; clear c6; (first | rw [c6b0] | (simp only [i64_w, i32_w]; rw [c6b0]) | skip)
   have H' := Aside0.mk H; clear H; go_wp2
   go_meet
   case rel => exact ⟨_, (true), (by first | rfl | (simp; done) | (simp [*]; done)), H', ⟨by first | omega | exact Nat.le_refl _⟩, by repeat (first | exact Drawn0.refl _ | apply Drawn0.step)⟩
  ·rw [if_neg c6] at H; have c6b0 : decide (a1 < 0) = false := decide_eq_false c6; clear c6; (first | rw [c6b0] | (simp only [i64_w, i32_w]; rw [c6b0]) | skip)
   have H' := Aside0.mk H; clear H; go_wp2
   go_meet
   case rel => exact ⟨_, (decide ((wrap64 (a1 + a2)) > (a0.size : Int))), (by first | rfl | (simp; done) | (simp [*]; done)), H', ⟨by first | omega | exact Nat.le_refl _⟩, by repeat (first | exact Drawn0.refl _ | apply Drawn0.step)⟩
 case rest =>
  clear HC5; try clear p2
  try clear c6
  try clear c6b0
  try clear p6
  obtain ⟨kq, x20_4, rfl, HA, HJ4, ⟨mc4, rfl⟩⟩ := hcut; cases kq with
  | zero => exact absurd HA.out (by simp [spec_l1Field.j0])
  | succ kj4 =>
   have H := HA.out; clear HA; simp only [spec_l1Field.j0] at H
   by_cases c7 : x20_4 = true
   ·subst c7; replace H := Sq.t H; obtain rfl := Option.some.inj H; go_wp2
    go_ret
    exact ⟨by first | rfl | (simp; done) | (simp [*]; done), by repeat (first | exact Drawn0.refl _ | apply Drawn0.step)⟩
   ·replace c7 := Bool.eq_false_iff.mpr c7; subst c7; replace H := Sq.f H; have H' := Aside0.mk H; clear H; go_wp2
    go_loopg [9, 10] kj4 (fun kq v9 v10 w' => ∃ (x9_2 : Int) (x10_2 : Int), v9 = .int .i64 x9_2 ∧ v10 = .int .i64 x10_2 ∧ Aside0 (spec_l1Field.l0 kq a0 a1 a2 a3 x9_2 x10_2 = some r) ∧ Aside0 (kq ≤ kj4) ∧ Drawn0 w w')
    case atStart => exact ⟨(0), (0), (by first | rfl | (simp; done) | (simp [*]; done)), (by first | rfl | (simp; done) | (simp [*]; done)), H', ⟨Nat.le_refl _⟩, by repeat (first | exact Drawn0.refl _ | apply Drawn0.step)⟩
    case round =>
     clear H'; try clear p2
     try clear c4
     try clear c6
     try clear c6b0
     try clear p6
     try clear c7
     try clear p2
     try clear p6
     obtain ⟨x9_2, x10_2, rfl, rfl, HA, HK2, ⟨m2, rfl⟩⟩ := hrel; cases gk with
     | zero => exact absurd HA.out (by simp [spec_l1Field.l0])
     | succ k2 =>
      have H := HA.out; clear HA; simp only [spec_l1Field.l0] at H
      by_cases c8 : x10_2 < a2
      ·rw [if_pos c8] at H; have c8b0 : decide (x10_2 < a2) = true := decide_eq_true c8; clear c8
       by_cases c9 : a3 = true
       ·subst c9; replace H := Sq.t H; obtain ⟨ji10, hji10⟩ : ∃ j_ : Int, (wrap64 (a1 + x10_2)) = j_ := ⟨_, rfl⟩; replace H : (if 0 ≤ (ji10) then (if (ji10) < (a0.size : Int) then (spec_l1Field.l0 k2 a0 a1 a2 true (wrap64 ((wrap64 (256 * x9_2)) + (wrap64 (bt a0 (ji10))))) (wrap64 (x10_2 + 1))) else (none)) else (none)) = some r := by first | (rw [hji10] at H; exact H) | (simp only [hji10] at H ⊢; exact H)
        have hji10w : (IntKind.i64.wrap (a1 + x10_2)) = ji10 := (i64_w _).trans hji10
        by_cases c11 : 0 ≤ (ji10)
        ·rw [if_pos c11] at H; have c11b0 : decide (0 ≤ (ji10)) = true := decide_eq_true c11; clear c11
         by_cases c12 : (ji10) < (a0.size : Int)
         ·rw [if_pos c12] at H; have c12b0 : decide ((ji10) < (a0.size : Int)) = true := decide_eq_true c12; clear c12; have H' := Aside0.mk H; clear H; have p13 : 0 ≤ ((ji10) : Int) := of_decide_eq_true (by first | (with_reducible assumption) | assumption); have q13 : (ji10) < (a0.size : Int) := of_decide_eq_true (by first | (with_reducible assumption) | assumption); have hx13 := bt_at a0 (ji10); replace p13 := eq_true p13; replace q13 := eq_true q13; go_wp2
          go_roundg k2
          case measure => have := HJ4.out; have := HK2.out; omega
          case rel => exact ⟨(wrap64 ((wrap64 (256 * x9_2)) + (wrap64 (bt a0 (ji10))))), (wrap64 (x10_2 + 1)), (by first | rfl | (simp; done) | (simp only [← hji10] <;> (first | rfl | simp)) | (simp [*]; done)), (by first | rfl | (simp; done) | (simp [*]; done)), H', ⟨by have := HJ4.out; have := HK2.out; omega⟩, by repeat (first | exact Drawn0.refl _ | apply Drawn0.step)⟩
         ·rw [if_neg c12] at H; exact absurd H (by simp)
        ·rw [if_neg c11] at H; exact absurd H (by simp)
       ·replace c9 := Bool.eq_false_iff.mpr c9; subst c9; replace H := Sq.f H; obtain ⟨ji14, hji14⟩ : ∃ j_ : Int, (wrap64 ((wrap64 ((wrap64 (a1 + a2)) - 1)) - x10_2)) = j_ := ⟨_, rfl⟩; replace H : (if 0 ≤ (ji14) then (if (ji14) < (a0.size : Int) then (spec_l1Field.l0 k2 a0 a1 a2 false (wrap64 ((wrap64 (256 * x9_2)) + (wrap64 (bt a0 (ji14))))) (wrap64 (x10_2 + 1))) else (none)) else (none)) = some r := by first | (rw [hji14] at H; exact H) | (simp only [hji14] at H ⊢; exact H)
        have hji14w : (IntKind.i64.wrap ((wrap64 ((wrap64 (a1 + a2)) - 1)) - x10_2)) = ji14 := (i64_w _).trans hji14
        by_cases c15 : 0 ≤ (ji14)
        ·rw [if_pos c15] at H; have c15b0 : decide (0 ≤ (ji14)) = true := decide_eq_true c15; clear c15
         by_cases c16 : (ji14) < (a0.size : Int)
         ·rw [if_pos c16] at H; have c16b0 : decide ((ji14) < (a0.size : Int)) = true := decide_eq_true c16; clear c16; have H' := Aside0.mk H; clear H; have p17 : 0 ≤ ((ji14) : Int) := of_decide_eq_true (by first | (with_reducible assumption) | assumption); have q17 : (ji14) < (a0.size : Int) := of_decide_eq_true (by first | (with_reducible assumption) | assumption); have hx17 := bt_at a0 (ji14); replace p17 := eq_true p17; replace q17 := eq_true q17; go_wp2
          go_roundg k2
          case measure => have := HJ4.out; have := HK2.out; omega
          case rel => exact ⟨(wrap64 ((wrap64 (256 * x9_2)) + (wrap64 (bt a0 (ji14))))), (wrap64 (x10_2 + 1)), (by first | rfl | (simp; done) | (simp only [← hji14] <;> (first | rfl | simp)) | (simp [*]; done)), (by first | rfl | (simp; done) | (simp [*]; done)), H', ⟨by have := HJ4.out; have := HK2.out; omega⟩, by repeat (first | exact Drawn0.refl _ | apply Drawn0.step)⟩
         ·rw [if_neg c16] at H; exact absurd H (by simp)
        ·rw [if_neg c15] at H; exact absurd H (by simp)
      ·rw [if_neg c8] at H; have c8b0 : decide (x10_2 < a2) = false := decide_eq_false c8; clear c8; obtain rfl := Option.some.inj H; go_wp2
       go_ret
       exact ⟨by first | rfl | (simp; done) | (simp [*]; done), by repeat (first | exact Drawn0.refl _ | apply Drawn0.step)⟩
/-! ### impl_NumPut: function 112 -/
mutual
def impl_NumPut.j0 : Nat → Int → Int → Bool → Bool → Option (ByteArray)
 | 0, _, _, _, _ => none
 | k + 1, x0, x1, x2, x21 => if x21 = true then (some (⟨#[]⟩ : ByteArray)) else (if 0 ≤ x1 then (if (x1 : Int).toNat ≤ 281474976710656 then ((some (List.replicate (x1 : Int).toNat 0 : List Int)).bind fun y422 => (impl_NumPut.l0 k x0 x1 x2 y422 (y422.length : Int) 0)) else (none)) else (none))
def impl_NumPut.l0 : Nat → Int → Int → Bool → List Int → Int → Int → Option (ByteArray)
 | 0, _, _, _, _, _, _ => none
 | k + 1, x0, x1, x2, x7, x25, x26 => if x26 < x25 then (if x2 = true then (if 0 ≤ (wrap64 (8 * x26)) then (if 0 ≤ (wrap64 ((wrap64 (x1 - 1)) - x26)) then (if (wrap64 ((wrap64 (x1 - 1)) - x26)) < (x7.length : Int) then (impl_NumPut.l0 k x0 x1 x2 (x7.set ((wrap64 ((wrap64 (x1 - 1)) - x26)) : Int).toNat ((shr .i64 x0 (wrap64 (8 * x26))) % 256)) x25 (wrap64 (x26 + 1))) else (none)) else (none)) else (none)) else (if 0 ≤ (wrap64 (8 * x26)) then (if 0 ≤ x26 then (if x26 < (x7.length : Int) then (impl_NumPut.l0 k x0 x1 x2 (x7.set (x26 : Int).toNat ((shr .i64 x0 (wrap64 (8 * x26))) % 256)) x25 (wrap64 (x26 + 1))) else (none)) else (none)) else (none))) else (some (strOfNums x7))
end
def impl_NumPut.f (k : Nat) (a0 : Int) (a1 : Int) (a2 : Bool) : Option (ByteArray) := (impl_in.f a1 1 4).bind fun t420 => (if t420 = true then (if 0 ≤ (wrap64 (8 * a1)) then ((impl_in.f a0 0 (wrap64 ((shl .i64 1 (wrap64 (8 * a1))) - 1))).bind fun t421 => (impl_NumPut.j0 k a0 a1 a2 (!t421))) else (none)) else (impl_NumPut.j0 k a0 a1 a2 true))
theorem impl_NumPut.mono_l : ∀ k, (∀ y0 y1 y2 y3, LeO (impl_NumPut.j0 k y0 y1 y2 y3) (impl_NumPut.j0 (k + 1) y0 y1 y2 y3)) ∧ (∀ y0 y1 y2 y3 y4 y5, LeO (impl_NumPut.l0 k y0 y1 y2 y3 y4 y5) (impl_NumPut.l0 (k + 1) y0 y1 y2 y3 y4 y5))
 | 0 => ⟨fun _ _ _ _ r h => by simp [impl_NumPut.j0] at h, fun _ _ _ _ _ _ r h => by simp [impl_NumPut.l0] at h⟩
 | k + 1 => by
  obtain ⟨ih0, ih1⟩ := impl_NumPut.mono_l k
  refine ⟨?_, ?_⟩
  ·intro y0 y1 y2 y3; unfold impl_NumPut.j0
   repeat' first
   | (with_reducible exact ih0 _ _ _ _)
   | (with_reducible exact ih1 _ _ _ _ _ _)
   | (with_reducible exact LeO.refl _)
   | (with_reducible exact LeO.none _)
   | (with_reducible refine LeO.ite ?_ ?_)
   | (with_reducible refine LeO.bind ?_ (fun _ => ?_))
   | exact ih0 _ _ _ _
   | exact ih1 _ _ _ _ _ _
   | exact LeO.none _
   | refine LeO.ite ?_ ?_
   | refine LeO.bind ?_ (fun _ => ?_)
  ·intro y0 y1 y2 y3 y4 y5; unfold impl_NumPut.l0
   repeat' first
   | (with_reducible exact ih0 _ _ _ _)
   | (with_reducible exact ih1 _ _ _ _ _ _)
   | (with_reducible exact LeO.refl _)
   | (with_reducible exact LeO.none _)
   | (with_reducible refine LeO.ite ?_ ?_)
   | (with_reducible refine LeO.bind ?_ (fun _ => ?_))
   | exact ih0 _ _ _ _
   | exact ih1 _ _ _ _ _ _
   | exact LeO.none _
   | refine LeO.ite ?_ ?_
   | refine LeO.bind ?_ (fun _ => ?_)
theorem impl_NumPut.mono : ∀ a0 a1 a2 k, LeO (impl_NumPut.f k a0 a1 a2) (impl_NumPut.f (k + 1) a0 a1 a2) := by
 intro a0 a1 a2 k; obtain ⟨ih0, ih1⟩ := impl_NumPut.mono_l k; unfold impl_NumPut.f
 repeat' first
  | (with_reducible exact ih0 _ _ _ _)
  | (with_reducible exact ih1 _ _ _ _ _ _)
  | (with_reducible exact LeO.refl _)
  | (with_reducible exact LeO.none _)
  | (with_reducible refine LeO.ite ?_ ?_)
  | (with_reducible refine LeO.bind ?_ (fun _ => ?_))
  | exact ih0 _ _ _ _
  | exact ih1 _ _ _ _ _ _
  | exact LeO.none _
  | refine LeO.ite ?_ ?_
  | refine LeO.bind ?_ (fun _ => ?_)
set_option maxHeartbeats 8000000 in
set_option maxRecDepth 100000 in
theorem impl_NumPut.calls (k : Nat) (a0 : Int) (a1 : Int) (a2 : Bool) (r : ByteArray) (w : World) (h : impl_NumPut.f k a0 a1 a2 = some r) :
 Calls Try.prog 112 #[.int .i64 a0, .int .i64 a1, .bool a2] w fun e w' => e = .returned (.string r) ∧ Below w.heap.size w w' := by
 have HB := Aside0.mk (Below.refl w.heap.size w); have H : ((impl_in.f a1 1 4).bind fun t420 => (if t420 = true then (if 0 ≤ (wrap64 (8 * a1)) then ((impl_in.f a0 0 (wrap64 ((shl .i64 1 (wrap64 (8 * a1))) - 1))).bind fun t421 => (impl_NumPut.j0 k a0 a1 a2 (!t421))) else (none)) else (impl_NumPut.j0 k a0 a1 a2 true))) = some r := h; clear h; have HC4 := Aside0.mk H; clear H; go_enter Try.func112, Try.ntmps112
 go_upto_region 1 with (fail)
 go_cut [21] (fun v21 wc => ∃ (kq : Nat) (x21_3 : Bool), v21 = .bool x21_3 ∧ Aside0 (impl_NumPut.j0 kq a0 a1 a2 x21_3 = some r) ∧ Aside0 (kq ≤ k) ∧ Aside0 (Below w.heap.size w wc))
 case first =>
  have H := HC4.out; clear HC4; replace H := Option.bind_eq_some_iff.mp H; obtain ⟨t420, A50, H⟩ := H; have A5 := Aside0.mk A50; clear A50
  by_cases c6 : t420 = true
  ·subst c6; replace H := Sq.t H; obtain ⟨ji7, hji7⟩ : ∃ j_ : Int, (wrap64 (8 * a1)) = j_ := ⟨_, rfl⟩; replace H : (if 0 ≤ (ji7) then ((impl_in.f a0 0 (wrap64 ((shl .i64 1 (ji7)) - 1))).bind fun t421 => (impl_NumPut.j0 k a0 a1 a2 (!t421))) else (none)) = some r := by first | (rw [hji7] at H; exact H) | (simp only [hji7] at H ⊢; exact H)
   (try rw [hji7] at A5)
   have hji7w : (IntKind.i64.wrap (8 * a1)) = ji7 := (i64_w _).trans hji7
   by_cases c8 : 0 ≤ (ji7)
   ·rw [if_pos c8] at H; have c8b0 := eq_true c8; have c8b1 : decide (0 ≤ (ji7)) = true := decide_eq_true c8; clear c8; obtain ⟨ji9, hji9⟩ : ∃ j_ : Int, (shl .i64 1 (ji7)) = j_ := ⟨_, rfl⟩; replace H : ((impl_in.f a0 0 (wrap64 ((ji9) - 1))).bind fun t421 => (impl_NumPut.j0 k a0 a1 a2 (!t421))) = some r := by first | (rw [hji9] at H; exact H) | (simp only [hji9] at H ⊢; exact H)
    (try rw [hji9] at A5)
    have hji9_ : (IntKind.i64.wrap (1 * 2 ^ min (ji7).toNat 64)) = ji9 := hji9; have hji9z : (ji7) ≤ 64 → (IntKind.i64.wrap (1 * 2 ^ (ji7).toNat)) = ji9 := shl_small hji9; have hji9u : (IntKind.i64.wrap (2 ^ min (ji7).toNat 64)) = ji9 := by have h_ := hji9_; rw [Int.one_mul] at h_; exact h_
    have hji9v : (ji7) ≤ 64 → (IntKind.i64.wrap (2 ^ (ji7).toNat)) = ji9 := fun hle_ => by have h_ := hji9z hle_; rw [Int.one_mul] at h_; exact h_
    have hji9y : (wrap64 (1 * 2 ^ min (ji7).toNat 64)) = ji9 := (i64_w _).symm.trans hji9_; have hji9x : (ji7) ≤ 64 → (wrap64 (1 * 2 ^ (ji7).toNat)) = ji9 := fun h_ => (i64_w _).symm.trans (hji9z h_)
    replace H := Option.bind_eq_some_iff.mp H; obtain ⟨t421, A100, H⟩ := H; have A10 := Aside0.mk A100; clear A100; have H' := Aside0.mk H; clear H; go_wp2_with (first | ((with_reducible refine gate_callee (f := 45) rfl ?_); refine goesL_ (some 11) rfl rfl Try.func45 (by kernel_rfl) rfl #[.int .i64 a1, .int .i64 1, .int .i64 4] rfl (by (try simp only [Sq.mp]); first | done | rfl | (simp only [List.length_drop, List.length_take]; rfl)) ?_; (with_reducible refine (impl_in.calls a1 1 4 true _ A5.out).mono ?_); rintro e w' ⟨rfl, ⟨nd, rfl⟩⟩; refine ⟨_, rfl, ?_⟩) | (go_at_call 45; (with_reducible refine (impl_in.calls a0 0 (wrap64 ((ji9) - 1)) t421 _ A10.out).mono ?_); rintro e w' ⟨rfl, ⟨nd, rfl⟩⟩))
    go_meet
    case rel => exact ⟨_, (!t421), (by first | rfl | (simp; done) | (simp [*]; done)), H', ⟨by first | omega | exact Nat.le_refl _⟩, Sq.a_ HB⟩
   ·rw [if_neg c8] at H; exact absurd H (by simp)
  ·replace c6 := Bool.eq_false_iff.mpr c6; subst c6; replace H := Sq.f H; have H' := Aside0.mk H; clear H; go_wp2_with (first | ((with_reducible refine gate_callee (f := 45) rfl ?_); refine goesL_ (some 11) rfl rfl Try.func45 (by kernel_rfl) rfl #[.int .i64 a1, .int .i64 1, .int .i64 4] rfl (by (try simp only [Sq.mp]); first | done | rfl | (simp only [List.length_drop, List.length_take]; rfl)) ?_; (with_reducible refine (impl_in.calls a1 1 4 false _ A5.out).mono ?_); rintro e w' ⟨rfl, ⟨nd, rfl⟩⟩; refine ⟨_, rfl, ?_⟩))
   go_meet
   case rel => exact ⟨_, (true), (by first | rfl | (simp; done) | (simp [*]; done)), H', ⟨by first | omega | exact Nat.le_refl _⟩, Sq.a_ HB⟩
 case rest =>
  clear HC4; try clear c1
  try clear p2
  try clear c4
  try clear c6
  try clear p6
  try clear c8
  try clear c8b0
  try clear c8b1
  obtain ⟨kq, x21_3, rfl, HA, HJ3, HB⟩ := hcut; cases kq with
  | zero => exact absurd HA.out (by simp [impl_NumPut.j0])
  | succ kj3 =>
   have H := HA.out; clear HA; simp only [impl_NumPut.j0] at H
   by_cases c11 : x21_3 = true
   ·subst c11; replace H := Sq.t H; obtain rfl := Option.some.inj H; go_wp2
    go_ret
    exact ⟨by first | rfl | (simp [errW_none, errW_some] <;> rfl) | (simp [*, errW_none, errW_some] <;> rfl), by repeat (first | (with_reducible first | exact HB.out | apply below_alloc | apply pw_below_drewN | apply below_drew1) | exact HB.out)⟩
   ·replace c11 := Bool.eq_false_iff.mpr c11; subst c11; replace H := Sq.f H
    by_cases c12 : 0 ≤ a1
    ·rw [if_pos c12] at H; have c12b0 := eq_true c12; have c12b1 : decide (0 ≤ a1) = true := decide_eq_true c12; clear c12
     by_cases c13 : (a1 : Int).toNat ≤ 281474976710656
     ·rw [if_pos c13] at H; have c13b0 := eq_true c13; have c13b1 : decide ((a1 : Int).toNat ≤ 281474976710656) = true := decide_eq_true c13; clear c13; obtain ⟨y422, hy422⟩ : ∃ y_ : List Int, y_ = (List.replicate (a1 : Int).toNat 0) := ⟨_, rfl⟩; replace H := Sq.y hy422 H; have Ny422 := Aside0.mk hy422; clear hy422; have H' := Aside0.mk H; clear H; go_wp2_with (first | ((with_reducible refine gate_dst (N := 23) rfl ?_); refine Kd.R_make (Kd.int .u8) _ 5 rfl (N := 23) rfl 28 _ _ rfl a1 rfl rfl Try.underlying28 (.int .u8 0) 1 info5 rfl (by decide) (by omega) 0 (ok := fun _ => True) (okp := fun _ => True) rfl (fun _ hk => hk) trivial (of_decide_eq_true (by first | (with_reducible assumption) | assumption)) (Nat.le_trans (Nat.mul_le_mul_right _ (of_decide_eq_true (by first | (with_reducible assumption) | assumption) : a1.toNat ≤ 281474976710656)) (by omega)) (Below.refl _ _) (Nat.le_refl _) ?_; intro v423 w14 ho15 hb hg_ hnew_; clear hg_ hnew_; (first | rw [← Ny422.out] at ho15 | (simp only [Int.reduceToNat] at ho15; rw [← Ny422.out] at ho15)); have n0_ := Aside0.mk (Kd.R_lower ho15 (below_size (by repeat (first | (with_reducible first | exact HB.out | apply below_alloc | apply pw_below_drewN | apply below_drew1) | exact HB.out)))); have n1_ := Sq.s_ HB hb; clear HB; have HO424 := n0_; have HB := n1_; clear n0_ n1_; clear hb ho15; obtain ⟨Ao16, co16, eo16⟩ := Kd.R_slice HO424.out; subst eo16))
      go_loopg [26] kj3 (fun kq v26 w' => ∃ (x7_2 : List Int) (x26_2 : Int), v26 = .int .i64 x26_2 ∧ Aside0 (impl_NumPut.l0 kq a0 a1 a2 x7_2 (y422.length : Int) x26_2 = some r) ∧ Aside0 (kq ≤ kj3) ∧ Aside0 (Kd.R (Kd.int .u8) 5 w' w.heap.size (fun _ => True) (.slice Ao16 y422.length co16) x7_2) ∧ Aside0 (Below w.heap.size w w'))
      case atStart => exact ⟨(y422), (0), (by first | rfl | (simp; done) | (simp [*]; done)), H', ⟨Nat.le_refl _⟩, Sq.nn_ HO424, Sq.a_ HB⟩
      case round =>
       clear H'; try clear c1
       try clear p2
       try clear c4
       try clear c6
       try clear p6
       try clear c8
       try clear c8b0
       try clear c8b1
       try clear c11
       try clear c12
       try clear c12b0
       try clear c12b1
       try clear c13
       try clear c13b0
       try clear c13b1
       try clear p2
       try clear p6
       obtain ⟨x7_2, x26_2, rfl, HA, HK2, HO_7, HB⟩ := hrel; have hl7_2 := (Kd.R_reads' HO_7.out).1; rw [hl7_2] at HO_7; (try simp only [hl7_2])
       cases gk with
       | zero => exact absurd HA.out (by simp [impl_NumPut.l0])
       | succ k2 =>
        have H := HA.out; clear HA; simp only [impl_NumPut.l0] at H
        by_cases c17 : x26_2 < (y422.length : Int)
        ·rw [if_pos c17] at H; have c17b0 : decide (x26_2 < (y422.length : Int)) = true := decide_eq_true c17; clear c17; (try simp only [hl7_2] at c17b0)
         by_cases c18 : a2 = true
         ·subst c18; replace H := Sq.t H; obtain ⟨ji19, hji19⟩ : ∃ j_ : Int, (wrap64 (8 * x26_2)) = j_ := ⟨_, rfl⟩; replace H : (if 0 ≤ (ji19) then (if 0 ≤ (wrap64 ((wrap64 (a1 - 1)) - x26_2)) then (if (wrap64 ((wrap64 (a1 - 1)) - x26_2)) < (x7_2.length : Int) then (impl_NumPut.l0 k2 a0 a1 true (x7_2.set ((wrap64 ((wrap64 (a1 - 1)) - x26_2)) : Int).toNat ((shr .i64 a0 (ji19)) % 256)) (y422.length : Int) (wrap64 (x26_2 + 1))) else (none)) else (none)) else (none)) = some r := by first | (rw [hji19] at H; exact H) | (simp only [hji19] at H ⊢; exact H)
          have hji19w : (IntKind.i64.wrap (8 * x26_2)) = ji19 := (i64_w _).trans hji19
          by_cases c20 : 0 ≤ (ji19)
          ·rw [if_pos c20] at H; have c20b0 := eq_true c20; have c20b1 : decide (0 ≤ (ji19)) = true := decide_eq_true c20; clear c20; obtain ⟨ji21, hji21⟩ : ∃ j_ : Int, (shr .i64 a0 (ji19)) = j_ := ⟨_, rfl⟩; replace H : (if 0 ≤ (wrap64 ((wrap64 (a1 - 1)) - x26_2)) then (if (wrap64 ((wrap64 (a1 - 1)) - x26_2)) < (x7_2.length : Int) then (impl_NumPut.l0 k2 a0 a1 true (x7_2.set ((wrap64 ((wrap64 (a1 - 1)) - x26_2)) : Int).toNat ((ji21) % 256)) (y422.length : Int) (wrap64 (x26_2 + 1))) else (none)) else (none)) = some r := by first | (rw [hji21] at H; exact H) | (simp only [hji21] at H ⊢; exact H)
           have hji21_ : (a0 / 2 ^ min (ji19).toNat 64) = ji21 := hji21; have hji21z : (ji19) ≤ 64 → (a0 / 2 ^ (ji19).toNat) = ji21 := shr_small hji21; obtain ⟨ji22, hji22⟩ : ∃ j_ : Int, (wrap64 ((wrap64 (a1 - 1)) - x26_2)) = j_ := ⟨_, rfl⟩; replace H : (if 0 ≤ (ji22) then (if (ji22) < (x7_2.length : Int) then (impl_NumPut.l0 k2 a0 a1 true (x7_2.set ((ji22) : Int).toNat ((ji21) % 256)) (y422.length : Int) (wrap64 (x26_2 + 1))) else (none)) else (none)) = some r := by first | (rw [hji22] at H; exact H) | (simp only [hji22] at H ⊢; exact H)
           have hji22w : (IntKind.i64.wrap ((wrap64 (a1 - 1)) - x26_2)) = ji22 := (i64_w _).trans hji22
           by_cases c23 : 0 ≤ (ji22)
           ·rw [if_pos c23] at H; have c23b0 : decide (0 ≤ (ji22)) = true := decide_eq_true c23; clear c23
            by_cases c24 : (ji22) < (x7_2.length : Int)
            ·rw [if_pos c24] at H; have c24b0 : decide ((ji22) < (x7_2.length : Int)) = true := decide_eq_true c24; clear c24; obtain ⟨y425, hy425⟩ : ∃ y_ : List Int, y_ = (x7_2.set ((ji22) : Int).toNat ((ji21) % 256)) := ⟨_, rfl⟩; rw [← hy425] at H; have Ny425 := Aside0.mk hy425; clear hy425; have H' := Aside0.mk H; clear H; have p25 : 0 ≤ ((ji22) : Int) := of_decide_eq_true (by first | (with_reducible assumption) | assumption); have q25 : ((ji22) : Int) < ((x7_2.length : Int) : Int) := of_decide_eq_true (by first | (with_reducible assumption) | assumption); obtain ⟨go25, co25, eo25, gb25, gl25, cl25, HG25⟩ := Kd.R_form HO_7.out (by omega); (first | cases eo25 | (injection eo25 with ea_ en_ ec_; (first | subst ea_ | (injection ea_ with ea_; subst ea_)); subst ec_; clear en_))
             have GB25 := Aside0.mk gb25; have GG25 := Aside0.mk HG25; clear gb25 gl25 HG25; obtain ⟨hx25_0, hf25_0⟩ := Kd.R_celln 0 HO_7.out ((ji22) : Int) p25 q25; replace p25 := eq_true p25; replace q25 := eq_true q25; have HP26 := Kd.R_putg HO_7.out ((ji22) : Int) ((ji21) % 256); go_wp2_with (first | ((with_reducible refine gate_store (t := 5) (p := 42) rfl ?_); refine store_event (t := 5) (p := 42) (v := ?vo_w27) (w1 := (wr.setCell ⟨go25, ((ji22) : Int).toNat, none⟩ (.int .u8 ((ji21) % 256)))) ?hg ?ho ?hn ?hr ?_; (case ho => rfl); (case hg => rfl); (case hn => rfl); (case hr => first | (go_simp; done) | (go_simp; rfl)); intro w27 hw; have hg : wr.grownBy w27 (some go25) := (by rw [hw]; exact HP26.2); have hp_ : Kd.R (Kd.int .u8) 5 w27 w.heap.size (fun _ => True) (.slice (some ⟨go25, 0, none⟩) x7_2.length co16) y425 := (by rw [hw, Ny425.out]; exact HP26.1); clear HP26; have n0_ := Aside0.mk (hp_); have n1_ := Aside0.mk ((by rw [hw]; exact below_set (HB.out) GB25.out : Below w.heap.size w w27)); clear HO_7; clear HB; have HO_7 := n0_; have HB := n1_; clear n0_ n1_; clear hg hw hp_))
             (try simp only [← hl7_2])
             go_roundg k2
             case measure => have := HJ3.out; have := HK2.out; omega
             case rel => exact ⟨(y425), (wrap64 (x26_2 + 1)), (by first | rfl | (simp; done) | (simp [*]; done)), H', ⟨by have := HJ3.out; have := HK2.out; omega⟩, ⟨by (try simp only [hl7_2]); (with_reducible repeat (first | apply Kd.R_alloc | apply Kd.R_drewN | apply Kd.R_drew)); exact HO_7.out⟩, Sq.a_ HB⟩
            ·rw [if_neg c24] at H; exact absurd H (by simp)
           ·rw [if_neg c23] at H; exact absurd H (by simp)
          ·rw [if_neg c20] at H; exact absurd H (by simp)
         ·replace c18 := Bool.eq_false_iff.mpr c18; subst c18; replace H := Sq.f H; obtain ⟨ji28, hji28⟩ : ∃ j_ : Int, (wrap64 (8 * x26_2)) = j_ := ⟨_, rfl⟩; replace H : (if 0 ≤ (ji28) then (if 0 ≤ x26_2 then (if x26_2 < (x7_2.length : Int) then (impl_NumPut.l0 k2 a0 a1 false (x7_2.set (x26_2 : Int).toNat ((shr .i64 a0 (ji28)) % 256)) (y422.length : Int) (wrap64 (x26_2 + 1))) else (none)) else (none)) else (none)) = some r := by first | (rw [hji28] at H; exact H) | (simp only [hji28] at H ⊢; exact H)
          have hji28w : (IntKind.i64.wrap (8 * x26_2)) = ji28 := (i64_w _).trans hji28
          by_cases c29 : 0 ≤ (ji28)
          ·rw [if_pos c29] at H; have c29b0 := eq_true c29; have c29b1 : decide (0 ≤ (ji28)) = true := decide_eq_true c29; clear c29; obtain ⟨ji30, hji30⟩ : ∃ j_ : Int, (shr .i64 a0 (ji28)) = j_ := ⟨_, rfl⟩; replace H : (if 0 ≤ x26_2 then (if x26_2 < (x7_2.length : Int) then (impl_NumPut.l0 k2 a0 a1 false (x7_2.set (x26_2 : Int).toNat ((ji30) % 256)) (y422.length : Int) (wrap64 (x26_2 + 1))) else (none)) else (none)) = some r := by first | (rw [hji30] at H; exact H) | (simp only [hji30] at H ⊢; exact H)
           have hji30_ : (a0 / 2 ^ min (ji28).toNat 64) = ji30 := hji30; have hji30z : (ji28) ≤ 64 → (a0 / 2 ^ (ji28).toNat) = ji30 := shr_small hji30
           by_cases c31 : 0 ≤ x26_2
           ·rw [if_pos c31] at H; have c31b0 : decide (0 ≤ x26_2) = true := decide_eq_true c31; clear c31
            by_cases c32 : x26_2 < (x7_2.length : Int)
            ·rw [if_pos c32] at H; have c32b0 : decide (x26_2 < (x7_2.length : Int)) = true := decide_eq_true c32; clear c32; obtain ⟨y426, hy426⟩ : ∃ y_ : List Int, y_ = (x7_2.set (x26_2 : Int).toNat ((ji30) % 256)) := ⟨_, rfl⟩; rw [← hy426] at H; have Ny426 := Aside0.mk hy426; clear hy426; have H' := Aside0.mk H; clear H; have p33 : 0 ≤ (x26_2 : Int) := of_decide_eq_true (by first | (with_reducible assumption) | assumption); have q33 : (x26_2 : Int) < ((x7_2.length : Int) : Int) := of_decide_eq_true (by first | (with_reducible assumption) | assumption); obtain ⟨go33, co33, eo33, gb33, gl33, cl33, HG33⟩ := Kd.R_form HO_7.out (by omega); (first | cases eo33 | (injection eo33 with ea_ en_ ec_; (first | subst ea_ | (injection ea_ with ea_; subst ea_)); subst ec_; clear en_))
             have GB33 := Aside0.mk gb33; have GG33 := Aside0.mk HG33; clear gb33 gl33 HG33; obtain ⟨hx33_0, hf33_0⟩ := Kd.R_celln 0 HO_7.out (x26_2 : Int) p33 q33; replace p33 := eq_true p33; replace q33 := eq_true q33; have HP34 := Kd.R_putg HO_7.out (x26_2 : Int) ((ji30) % 256); go_wp2_with (first | ((with_reducible refine gate_store (t := 5) (p := 42) rfl ?_); refine store_event (t := 5) (p := 42) (v := ?vo_w35) (w1 := (wr.setCell ⟨go33, (x26_2 : Int).toNat, none⟩ (.int .u8 ((ji30) % 256)))) ?hg ?ho ?hn ?hr ?_; (case ho => rfl); (case hg => rfl); (case hn => rfl); (case hr => first | (go_simp; done) | (go_simp; rfl)); intro w35 hw; have hg : wr.grownBy w35 (some go33) := (by rw [hw]; exact HP34.2); have hp_ : Kd.R (Kd.int .u8) 5 w35 w.heap.size (fun _ => True) (.slice (some ⟨go33, 0, none⟩) x7_2.length co16) y426 := (by rw [hw, Ny426.out]; exact HP34.1); clear HP34; have n0_ := Aside0.mk (hp_); have n1_ := Aside0.mk ((by rw [hw]; exact below_set (HB.out) GB33.out : Below w.heap.size w w35)); clear HO_7; clear HB; have HO_7 := n0_; have HB := n1_; clear n0_ n1_; clear hg hw hp_))
             (try simp only [← hl7_2])
             go_roundg k2
             case measure => have := HJ3.out; have := HK2.out; omega
             case rel => exact ⟨(y426), (wrap64 (x26_2 + 1)), (by first | rfl | (simp; done) | (simp [*]; done)), H', ⟨by have := HJ3.out; have := HK2.out; omega⟩, ⟨by (try simp only [hl7_2]); (with_reducible repeat (first | apply Kd.R_alloc | apply Kd.R_drewN | apply Kd.R_drew)); exact HO_7.out⟩, Sq.a_ HB⟩
            ·rw [if_neg c32] at H; exact absurd H (by simp)
           ·rw [if_neg c31] at H; exact absurd H (by simp)
          ·rw [if_neg c29] at H; exact absurd H (by simp)
        ·rw [if_neg c17] at H; have c17b0 : decide (x26_2 < (y422.length : Int)) = false := decide_eq_false c17; clear c17; (try simp only [hl7_2] at c17b0)
         obtain rfl := Option.some.inj H; have hcv36 := own_string (P := Try.prog) Try.underlying28 Try.underlying5 Try.underlying9 (Kd.own_of_R HO_7.out); go_wp2
         go_ret
         exact ⟨by first | rfl | (simp [errW_none, errW_some] <;> rfl) | (simp [*, errW_none, errW_some] <;> rfl), by repeat (first | (with_reducible first | exact HB.out | apply below_alloc | apply pw_below_drewN | apply below_drew1) | exact HB.out)⟩
     ·rw [if_neg c13] at H; exact absurd H (by simp)
    ·rw [if_neg c12] at H; exact absurd H (by simp)
/-! ### spec_l1Num: function 109 -/
def spec_l1Num.l0 : Nat → Int → Int → Bool → ByteArray → Int → Option (ByteArray)
 | 0, _, _, _, _, _ => none
 | k + 1, x0, x1, x2, x7, x8 => if x8 < x1 then ((some (([(Int.tmod x0 256) % 256] : List Int) : List Int)).bind fun y339 => (if x2 = true then (if (strOfNums y339).size + x7.size ≤ 9223372036854775807 then (spec_l1Num.l0 k (wrap64 (Int.tdiv x0 256)) x1 x2 ((strOfNums y339) ++ x7) (wrap64 (x8 + 1))) else (none)) else (if x7.size + (strOfNums y339).size ≤ 9223372036854775807 then (spec_l1Num.l0 k (wrap64 (Int.tdiv x0 256)) x1 x2 (x7 ++ (strOfNums y339)) (wrap64 (x8 + 1))) else (none)))) else (some x7)
def spec_l1Num.f (k : Nat) (a0 : Int) (a1 : Int) (a2 : Bool) : Option (ByteArray) := spec_l1Num.l0 k a0 a1 a2 (⟨#[]⟩ : ByteArray) 0
theorem spec_l1Num.mono_l : ∀ k, (∀ y0 y1 y2 y3 y4, LeO (spec_l1Num.l0 k y0 y1 y2 y3 y4) (spec_l1Num.l0 (k + 1) y0 y1 y2 y3 y4))
 | 0 => fun _ _ _ _ _ r h => by simp [spec_l1Num.l0] at h
 | k + 1 => by
  have ih0 := spec_l1Num.mono_l k
  ·intro y0 y1 y2 y3 y4; unfold spec_l1Num.l0
   repeat' first
   | (with_reducible exact ih0 _ _ _ _ _)
   | (with_reducible exact LeO.refl _)
   | (with_reducible exact LeO.none _)
   | (with_reducible refine LeO.ite ?_ ?_)
   | (with_reducible refine LeO.bind ?_ (fun _ => ?_))
   | exact ih0 _ _ _ _ _
   | exact LeO.none _
   | refine LeO.ite ?_ ?_
   | refine LeO.bind ?_ (fun _ => ?_)
theorem spec_l1Num.mono : ∀ a0 a1 a2 k, LeO (spec_l1Num.f k a0 a1 a2) (spec_l1Num.f (k + 1) a0 a1 a2) := by
 intro a0 a1 a2 k; have ih0 := spec_l1Num.mono_l k; unfold spec_l1Num.f
 repeat' first
  | (with_reducible exact ih0 _ _ _ _ _)
  | (with_reducible exact LeO.refl _)
  | (with_reducible exact LeO.none _)
  | (with_reducible refine LeO.ite ?_ ?_)
  | (with_reducible refine LeO.bind ?_ (fun _ => ?_))
  | exact ih0 _ _ _ _ _
  | exact LeO.none _
  | refine LeO.ite ?_ ?_
  | refine LeO.bind ?_ (fun _ => ?_)
set_option maxHeartbeats 8000000 in
set_option maxRecDepth 100000 in
theorem spec_l1Num.calls (k : Nat) (a0 : Int) (a1 : Int) (a2 : Bool) (r : ByteArray) (w : World) (h : spec_l1Num.f k a0 a1 a2 = some r) :
 Calls Try.prog 109 #[.int .i64 a0, .int .i64 a1, .bool a2] w fun e w' => e = .returned (.string r) ∧ Below w.heap.size w w' := by
 have HB := Aside0.mk (Below.refl w.heap.size w); have H : (spec_l1Num.l0 k a0 a1 a2 (⟨#[]⟩ : ByteArray) 0) = some r := h; clear h; have H' := Aside0.mk H; clear H; go_enter Try.func109, Try.ntmps109
 go_wp2
 go_loopg [0, 7, 8] k (fun kq v0 v7 v8 w' => ∃ (x0_1 : Int) (x7_1 : ByteArray) (x8_1 : Int), v0 = .int .i64 x0_1 ∧ v7 = .string x7_1 ∧ v8 = .int .i64 x8_1 ∧ Aside0 (spec_l1Num.l0 kq x0_1 a1 a2 x7_1 x8_1 = some r) ∧ Aside0 (kq ≤ k) ∧ Aside0 (Below w.heap.size w w'))
 case atStart => exact ⟨(a0), ((⟨#[]⟩ : ByteArray)), (0), (by first | rfl | (simp; done) | (simp [*]; done)), (by first | rfl | (simp; done) | (simp [*]; done)), (by first | rfl | (simp; done) | (simp [*]; done)), H', ⟨Nat.le_refl _⟩, Sq.a_ HB⟩
 case round =>
  clear H'; try clear c1
  try clear p2
  obtain ⟨x0_1, x7_1, x8_1, rfl, rfl, rfl, HA, HK1, HB⟩ := hrel; cases gk with
  | zero => exact absurd HA.out (by simp [spec_l1Num.l0])
  | succ k1 =>
   have H := HA.out; clear HA; simp only [spec_l1Num.l0] at H
   by_cases c4 : x8_1 < a1
   ·rw [if_pos c4] at H; have c4b0 : decide (x8_1 < a1) = true := decide_eq_true c4; clear c4; obtain ⟨y339, hy339⟩ : ∃ y_ : List Int, y_ = (([(Int.tmod x0_1 256) % 256] : List Int)) := ⟨_, rfl⟩; replace H := Sq.y hy339 H; have Ny339 := Aside0.mk hy339; clear hy339
    by_cases c5 : a2 = true
    ·subst c5; replace H := Sq.t H
     by_cases c6 : (strOfNums y339).size + x7_1.size ≤ 9223372036854775807
     ·rw [if_pos c6] at H; have c6b0 := eq_true c6; have c6b1 : decide ((strOfNums y339).size + x7_1.size ≤ 9223372036854775807) = true := decide_eq_true c6; try have c6b2 : (9223372036854775807 < (strOfNums y339).size + x7_1.size) = False := eq_false (Nat.not_lt.2 c6)
      have H' := Aside0.mk H; clear H; go_wp2_with (first | ((with_reducible refine gate_dst (N := 18) rfl ?_); refine Kd.R_lit (Kd.int .u8) _ 5 ?hg (N := 18) ?hd (xs := ([(Int.tmod x0_1 256) % 256] : List Int)) (inner := [.int .u8 ((Int.tmod x0_1 256) % 256)]) (ok := fun _ => True) (okp := fun _ => True) ?hr ?hp (fun _ hk => hk) trivial (Below.refl _ _) (Nat.le_refl _) (by simp) ?_; (case hd => rfl); (case hg => rfl); (case hr => first | (go_simp; done) | (go_simp; rfl)); (case hp => exact (Reps.one (show Kd.M (Kd.int .u8) _ _ _ ((Int.tmod x0_1 256) % 256) [.int .u8 ((Int.tmod x0_1 256) % 256)] from rfl) (Reps.none _ _))); intro v340 w7 ho8 hb hg_ hnew_; clear hg_ hnew_; (first | rw [← Ny339.out] at ho8 | (simp only [Int.reduceToNat] at ho8; rw [← Ny339.out] at ho8)); have n0_ := Aside0.mk (Kd.R_lower ho8 (below_size (by repeat (first | (with_reducible first | exact HB.out | apply below_alloc | apply pw_below_drewN | apply below_drew1) | exact HB.out)))); have n1_ := Sq.s_ HB hb; clear HB; have HO341 := n0_; have HB := n1_; clear n0_ n1_; clear hb ho8; have hcv9 := own_string (P := Try.prog) Try.underlying28 Try.underlying5 Try.underlying9 (Kd.own_of_R HO341.out)))
      go_roundg k1
      case measure => have := HK1.out; omega
      case rel => exact ⟨(wrap64 (Int.tdiv x0_1 256)), ((strOfNums y339) ++ x7_1), (wrap64 (x8_1 + 1)), (by first | rfl | (simp; done) | (simp [*]; done)), (by first | rfl | (simp; done) | (simp [*]; done)), (by first | rfl | (simp; done) | (simp [*]; done)), H', ⟨by have := HK1.out; omega⟩, Sq.a_ HB⟩
     ·rw [if_neg c6] at H; exact absurd H (by simp)
    ·replace c5 := Bool.eq_false_iff.mpr c5; subst c5; replace H := Sq.f H
     by_cases c10 : x7_1.size + (strOfNums y339).size ≤ 9223372036854775807
     ·rw [if_pos c10] at H; have c10b0 := eq_true c10; have c10b1 : decide (x7_1.size + (strOfNums y339).size ≤ 9223372036854775807) = true := decide_eq_true c10; try have c10b2 : (9223372036854775807 < x7_1.size + (strOfNums y339).size) = False := eq_false (Nat.not_lt.2 c10)
      have H' := Aside0.mk H; clear H; go_wp2_with (first | ((with_reducible refine gate_dst (N := 18) rfl ?_); refine Kd.R_lit (Kd.int .u8) _ 5 ?hg (N := 18) ?hd (xs := ([(Int.tmod x0_1 256) % 256] : List Int)) (inner := [.int .u8 ((Int.tmod x0_1 256) % 256)]) (ok := fun _ => True) (okp := fun _ => True) ?hr ?hp (fun _ hk => hk) trivial (Below.refl _ _) (Nat.le_refl _) (by simp) ?_; (case hd => rfl); (case hg => rfl); (case hr => first | (go_simp; done) | (go_simp; rfl)); (case hp => exact (Reps.one (show Kd.M (Kd.int .u8) _ _ _ ((Int.tmod x0_1 256) % 256) [.int .u8 ((Int.tmod x0_1 256) % 256)] from rfl) (Reps.none _ _))); intro v340 w11 ho12 hb hg_ hnew_; clear hg_ hnew_; (first | rw [← Ny339.out] at ho12 | (simp only [Int.reduceToNat] at ho12; rw [← Ny339.out] at ho12)); have n0_ := Aside0.mk (Kd.R_lower ho12 (below_size (by repeat (first | (with_reducible first | exact HB.out | apply below_alloc | apply pw_below_drewN | apply below_drew1) | exact HB.out)))); have n1_ := Sq.s_ HB hb; clear HB; have HO341 := n0_; have HB := n1_; clear n0_ n1_; clear hb ho12; have hcv13 := own_string (P := Try.prog) Try.underlying28 Try.underlying5 Try.underlying9 (Kd.own_of_R HO341.out)))
      go_roundg k1
      case measure => have := HK1.out; omega
      case rel => exact ⟨(wrap64 (Int.tdiv x0_1 256)), (x7_1 ++ (strOfNums y339)), (wrap64 (x8_1 + 1)), (by first | rfl | (simp; done) | (simp [*]; done)), (by first | rfl | (simp; done) | (simp [*]; done)), (by first | rfl | (simp; done) | (simp [*]; done)), H', ⟨by have := HK1.out; omega⟩, Sq.a_ HB⟩
     ·rw [if_neg c10] at H; exact absurd H (by simp)
   ·rw [if_neg c4] at H; have c4b0 : decide (x8_1 < a1) = false := decide_eq_false c4; clear c4; obtain rfl := Option.some.inj H; go_wp2
    go_ret
    exact ⟨by first | rfl | (simp [errW_none, errW_some] <;> rfl) | (simp [*, errW_none, errW_some] <;> rfl), by repeat (first | (with_reducible first | exact HB.out | apply below_alloc | apply pw_below_drewN | apply below_drew1) | exact HB.out)⟩
end Go.Proofs.Ytgdbinifnhfcjaa.P
