/- Texts of one law put together (wip/merge2.py). -/
import Derived.Test.YtgdbinifnhfcjaaMFnExactTgaPut1
import Derived.Test.YtgdbinifnhfcjaaMFnExactTgaPut5
namespace Go.Proofs.Ytgdbinifnhfcjaa.P
open Go.RowKit Go.Proofs.YtgdbinifnhfcjaaW.PrintWords Go.Proofs.YtgdbinifnhfcjaaW.PrintLast Go.Proofs.YtgdbinifnhfcjaaW.PrintMore
attribute [local go_sem] max2_int min2_int max_two min_two max_three min_three max_four min_four   -- for this text's walks alone
set_option linter.unusedVariables false
set_option linter.unusedSimpArgs false
/-! ### spec_l7Equal: function 103 -/
def spec_l7Equal.l0 : Nat → List Int → Int → Int → Int → Option (Int)
 | 0, _, _, _, _ => none
 | k + 1, x0, x1, x2, x7 => if x7 < x2 then (if (wrap64 (x1 + x7)) < (x0.length : Int) then (if 0 ≤ (wrap64 (x1 + x7)) then (if 0 ≤ x1 then (if x1 < (x0.length : Int) then (if (rd x0 (wrap64 (x1 + x7))) = (rd x0 x1) then (spec_l7Equal.l0 k x0 x1 x2 (wrap64 (x7 + 1))) else (some x7)) else (none)) else (none)) else (none)) else (some x7)) else (some x7)
def spec_l7Equal.f (k : Nat) (l0 : List Int) (a1 : Int) (a2 : Int) : Option (Int) := spec_l7Equal.l0 k l0 a1 a2 1
theorem spec_l7Equal.mono_l : ∀ k, (∀ y0 y1 y2 y3, LeO (spec_l7Equal.l0 k y0 y1 y2 y3) (spec_l7Equal.l0 (k + 1) y0 y1 y2 y3))
 | 0 => fun _ _ _ _ r h => by simp [spec_l7Equal.l0] at h
 | k + 1 => by
  have ih0 := spec_l7Equal.mono_l k
  ·intro y0 y1 y2 y3; unfold spec_l7Equal.l0
   repeat' first
   | (with_reducible exact ih0 _ _ _ _)
   | (with_reducible exact LeO.refl _)
   | (with_reducible exact LeO.none _)
   | (with_reducible refine LeO.ite ?_ ?_)
   | (with_reducible refine LeO.bind ?_ (fun _ => ?_))
   | exact ih0 _ _ _ _
   | exact LeO.none _
   | refine LeO.ite ?_ ?_
   | refine LeO.bind ?_ (fun _ => ?_)
theorem spec_l7Equal.mono : ∀ a0 a1 a2 k, LeO (spec_l7Equal.f k a0 a1 a2) (spec_l7Equal.f (k + 1) a0 a1 a2) := by
 intro a0 a1 a2 k; have ih0 := spec_l7Equal.mono_l k; unfold spec_l7Equal.f
 repeat' first
  | (with_reducible exact ih0 _ _ _ _)
  | (with_reducible exact LeO.refl _)
  | (with_reducible exact LeO.none _)
  | (with_reducible refine LeO.ite ?_ ?_)
  | (with_reducible refine LeO.bind ?_ (fun _ => ?_))
  | exact ih0 _ _ _ _
  | exact LeO.none _
  | refine LeO.ite ?_ ?_
  | refine LeO.bind ?_ (fun _ => ?_)
set_option maxHeartbeats 8000000 in
set_option maxRecDepth 100000 in
theorem spec_l7Equal.calls (k : Nat) (A0 : Option Addr) (c0 : Nat) (l0 : List Int) (a1 : Int) (a2 : Int) (r : Int) (w : World) (hr0 : Kd.C (Kd.int .i64) w A0 l0.length l0) (hc0 : l0.length ≤ c0) (h : spec_l7Equal.f k l0 a1 a2 = some r) :
 Calls Try.prog 103 #[.slice A0 l0.length c0, .int .i64 a1, .int .i64 a2] w fun e w' => e = .returned (.int .i64 r) ∧ Drawn0 w w' := by
 have HR0 := Aside0.mk hr0; have HC0 := Aside0.mk hc0; clear hr0 hc0; have H : (spec_l7Equal.l0 k l0 a1 a2 1) = some r := h; clear h; have H' := Aside0.mk H; clear H; go_enter Try.func103, Try.ntmps103
 go_wp2
 repeat (go_quiet (fail); try go_wp2)
 go_loopg [7] k (fun kq v7 w' => ∃ (x7_1 : Int), v7 = .int .i64 x7_1 ∧ Aside0 (spec_l7Equal.l0 kq l0 a1 a2 x7_1 = some r) ∧ Aside0 (kq ≤ k) ∧ Drawn0 w w')
 case atStart => exact ⟨(1), (by first | rfl | (simp; done) | (simp [*]; done)), H', ⟨Nat.le_refl _⟩, by repeat (first | exact Drawn0.refl _ | apply Drawn0.step)⟩
 case round =>
  clear H'; try clear c1
  try clear p2
  obtain ⟨x7_1, rfl, HA, HK1, ⟨m1, rfl⟩⟩ := hrel; cases gk with
  | zero => exact absurd HA.out (by simp [spec_l7Equal.l0])
  | succ k1 =>
   have H := HA.out; clear HA; simp only [spec_l7Equal.l0] at H
   by_cases c4 : x7_1 < a2
   ·rw [if_pos c4] at H; have c4b0 : decide (x7_1 < a2) = true := decide_eq_true c4; clear c4
    by_cases c5 : (wrap64 (a1 + x7_1)) < (l0.length : Int)
    ·rw [if_pos c5] at H; have c5b0 : decide ((wrap64 (a1 + x7_1)) < (l0.length : Int)) = true := decide_eq_true c5; clear c5; obtain ⟨ji6, hji6⟩ : ∃ j_ : Int, (wrap64 (a1 + x7_1)) = j_ := ⟨_, rfl⟩; replace H : (if 0 ≤ (ji6) then (if 0 ≤ a1 then (if a1 < (l0.length : Int) then (if (rd l0 (ji6)) = (rd l0 a1) then (spec_l7Equal.l0 k1 l0 a1 a2 (wrap64 (x7_1 + 1))) else (some x7_1)) else (none)) else (none)) else (none)) = some r := by first | (rw [hji6] at H; exact H) | (simp only [hji6] at H ⊢; exact H)
     (try rw [hji6] at c5b0)
     have hji6w : (IntKind.i64.wrap (a1 + x7_1)) = ji6 := (i64_w _).trans hji6
     by_cases c7 : 0 ≤ (ji6)
     ·rw [if_pos c7] at H; have c7b0 : decide (0 ≤ (ji6)) = true := decide_eq_true c7; clear c7
      by_cases c8 : 0 ≤ a1
      ·rw [if_pos c8] at H; have c8b0 : decide (0 ≤ a1) = true := decide_eq_true c8; clear c8
       by_cases c9 : a1 < (l0.length : Int)
       ·rw [if_pos c9] at H; have c9b0 : decide (a1 < (l0.length : Int)) = true := decide_eq_true c9; clear c9
        by_cases c10 : (rd l0 (ji6)) = (rd l0 a1)
        ·rw [if_pos c10] at H; have c10b0 : ((rd l0 (ji6)) == (rd l0 a1)) = true := beq_iff_eq.mpr c10; have c10b1 : ((rd l0 (ji6)) != (rd l0 a1)) = false := bne_eq_false_iff_eq.mpr c10; clear c10; have H' := Aside0.mk H; clear H; have p173 : 0 ≤ ((ji6) : Int) := of_decide_eq_true (by first | (with_reducible assumption) | assumption); have q173 : (ji6) < (l0.length : Int) := of_decide_eq_true (by first | (with_reducible assumption) | assumption); obtain ⟨ad173, e173, hx173_0⟩ := Kd.at_int HR0.out (ji6) p173 q173; cases e173; replace p173 := eq_true p173; replace q173 := eq_true q173; have p174 : 0 ≤ (a1 : Int) := of_decide_eq_true (by first | (with_reducible assumption) | assumption); have q174 : a1 < (l0.length : Int) := of_decide_eq_true (by first | (with_reducible assumption) | assumption); obtain ⟨ad174, e174, hx174_0⟩ := Kd.at_int HR0.out a1 p174 q174; obtain rfl : ad173 = ad174 := (by injection e174); replace p174 := eq_true p174; replace q174 := eq_true q174; go_wp2
         repeat (go_quiet (fail); try go_wp2)
         go_roundg k1
         case measure => have := HK1.out; omega
         case rel => exact ⟨(wrap64 (x7_1 + 1)), (by first | rfl | (simp; done) | (simp [*]; done)), H', ⟨by have := HK1.out; omega⟩, by repeat (first | exact Drawn0.refl _ | apply Drawn0.step)⟩
        ·rw [if_neg c10] at H; have c10b0 : ((rd l0 (ji6)) == (rd l0 a1)) = false := beq_eq_false_iff_ne.mpr c10; have c10b1 : ((rd l0 (ji6)) != (rd l0 a1)) = true := bne_iff_ne.mpr c10; obtain rfl := Option.some.inj H; have p173 : 0 ≤ ((ji6) : Int) := of_decide_eq_true (by first | (with_reducible assumption) | assumption); have q173 : (ji6) < (l0.length : Int) := of_decide_eq_true (by first | (with_reducible assumption) | assumption); obtain ⟨ad173, e173, hx173_0⟩ := Kd.at_int HR0.out (ji6) p173 q173; cases e173; replace p173 := eq_true p173; replace q173 := eq_true q173; have p174 : 0 ≤ (a1 : Int) := of_decide_eq_true (by first | (with_reducible assumption) | assumption); have q174 : a1 < (l0.length : Int) := of_decide_eq_true (by first | (with_reducible assumption) | assumption); obtain ⟨ad174, e174, hx174_0⟩ := Kd.at_int HR0.out a1 p174 q174; obtain rfl : ad173 = ad174 := (by injection e174); replace p174 := eq_true p174; replace q174 := eq_true q174; go_wp2
         repeat (go_quiet (fail); try go_wp2)
         go_ret
         exact ⟨by first | rfl | (simp; done) | (simp only [← hji6] <;> (first | rfl | simp)) | (simp [*]; done), by repeat (first | exact Drawn0.refl _ | apply Drawn0.step)⟩
       ·rw [if_neg c9] at H; exact absurd H (by simp)
      ·rw [if_neg c8] at H; exact absurd H (by simp)
     ·rw [if_neg c7] at H; exact absurd H (by simp)
    ·rw [if_neg c5] at H; have c5b0 : decide ((wrap64 (a1 + x7_1)) < (l0.length : Int)) = false := decide_eq_false c5; clear c5; obtain rfl := Option.some.inj H; go_wp2
     repeat (go_quiet (fail); try go_wp2)
     go_ret
     exact ⟨by first | rfl | (simp; done) | (simp [*]; done), by repeat (first | exact Drawn0.refl _ | apply Drawn0.step)⟩
   ·rw [if_neg c4] at H; have c4b0 : decide (x7_1 < a2) = false := decide_eq_false c4; clear c4; obtain rfl := Option.some.inj H; go_wp2
    repeat (go_quiet (fail); try go_wp2)
    go_ret
    exact ⟨by first | rfl | (simp; done) | (simp [*]; done), by repeat (first | exact Drawn0.refl _ | apply Drawn0.step)⟩
/-! ### spec_l7Other: function 139 -/
def spec_l7Other.l0 : Nat → List Int → Int → Int → Int → Option (Int)
 | 0, _, _, _, _ => none
 | k + 1, x0, x1, x2, x7 => if x7 < x2 then (if (wrap64 (x1 + x7)) < (x0.length : Int) then ((spec_l7Equal.f k x0 (wrap64 (x1 + x7)) 2).bind fun t784 => (if t784 < 2 then (spec_l7Other.l0 k x0 x1 x2 (wrap64 (x7 + 1))) else (some x7))) else (some x7)) else (some x7)
def spec_l7Other.f (k : Nat) (l0 : List Int) (a1 : Int) (a2 : Int) : Option (Int) := spec_l7Other.l0 k l0 a1 a2 1
theorem spec_l7Other.mono_l : ∀ k, (∀ y0 y1 y2 y3, LeO (spec_l7Other.l0 k y0 y1 y2 y3) (spec_l7Other.l0 (k + 1) y0 y1 y2 y3))
 | 0 => fun _ _ _ _ r h => by simp [spec_l7Other.l0] at h
 | k + 1 => by
  have ih0 := spec_l7Other.mono_l k
  ·intro y0 y1 y2 y3; unfold spec_l7Other.l0
   repeat' first
   | (with_reducible exact ih0 _ _ _ _)
   | (with_reducible exact spec_l7Equal.mono _ _ _ _)
   | (with_reducible exact LeO.refl _)
   | (with_reducible exact LeO.none _)
   | (with_reducible refine LeO.ite ?_ ?_)
   | (with_reducible refine LeO.bind ?_ (fun _ => ?_))
   | exact ih0 _ _ _ _
   | exact spec_l7Equal.mono _ _ _ _
   | exact LeO.none _
   | refine LeO.ite ?_ ?_
   | refine LeO.bind ?_ (fun _ => ?_)
theorem spec_l7Other.mono : ∀ a0 a1 a2 k, LeO (spec_l7Other.f k a0 a1 a2) (spec_l7Other.f (k + 1) a0 a1 a2) := by
 intro a0 a1 a2 k; have ih0 := spec_l7Other.mono_l k; unfold spec_l7Other.f
 repeat' first
  | (with_reducible exact ih0 _ _ _ _)
  | (with_reducible exact spec_l7Equal.mono _ _ _ _)
  | (with_reducible exact LeO.refl _)
  | (with_reducible exact LeO.none _)
  | (with_reducible refine LeO.ite ?_ ?_)
  | (with_reducible refine LeO.bind ?_ (fun _ => ?_))
  | exact ih0 _ _ _ _
  | exact spec_l7Equal.mono _ _ _ _
  | exact LeO.none _
  | refine LeO.ite ?_ ?_
  | refine LeO.bind ?_ (fun _ => ?_)
set_option maxHeartbeats 8000000 in
set_option maxRecDepth 100000 in
theorem spec_l7Other.calls (k : Nat) (A0 : Option Addr) (c0 : Nat) (l0 : List Int) (a1 : Int) (a2 : Int) (r : Int) (w : World) (hr0 : Kd.C (Kd.int .i64) w A0 l0.length l0) (hc0 : l0.length ≤ c0) (h : spec_l7Other.f k l0 a1 a2 = some r) :
 Calls Try.prog 139 #[.slice A0 l0.length c0, .int .i64 a1, .int .i64 a2] w fun e w' => e = .returned (.int .i64 r) ∧ Drawn0 w w' := by
 have HR0 := Aside0.mk hr0; have HC0 := Aside0.mk hc0; clear hr0 hc0; have H : (spec_l7Other.l0 k l0 a1 a2 1) = some r := h; clear h; have H' := Aside0.mk H; clear H; go_enter Try.func139, Try.ntmps139
 go_wp2
 go_loopg [7] k (fun kq v7 w' => ∃ (x7_1 : Int), v7 = .int .i64 x7_1 ∧ Aside0 (spec_l7Other.l0 kq l0 a1 a2 x7_1 = some r) ∧ Aside0 (kq ≤ k) ∧ Drawn0 w w')
 case atStart => exact ⟨(1), (by first | rfl | (simp; done) | (simp [*]; done)), H', ⟨Nat.le_refl _⟩, by repeat (first | exact Drawn0.refl _ | apply Drawn0.step)⟩
 case round =>
  clear H'; try clear c1
  try clear p2
  obtain ⟨x7_1, rfl, HA, HK1, ⟨m1, rfl⟩⟩ := hrel; cases gk with
  | zero => exact absurd HA.out (by simp [spec_l7Other.l0])
  | succ k1 =>
   have H := HA.out; clear HA; simp only [spec_l7Other.l0] at H
   by_cases c4 : x7_1 < a2
   ·rw [if_pos c4] at H; have c4b0 : decide (x7_1 < a2) = true := decide_eq_true c4; clear c4
    by_cases c5 : (wrap64 (a1 + x7_1)) < (l0.length : Int)
    ·rw [if_pos c5] at H; have c5b0 : decide ((wrap64 (a1 + x7_1)) < (l0.length : Int)) = true := decide_eq_true c5; clear c5; replace H := Option.bind_eq_some_iff.mp H; obtain ⟨t784, A60, H⟩ := H; have A6 := Aside0.mk A60; clear A60
     by_cases c7 : t784 < 2
     ·rw [if_pos c7] at H; have c7b0 : decide (t784 < 2) = true := decide_eq_true c7; clear c7; have H' := Aside0.mk H; clear H; go_wp2_with (first | (go_at_call 103; (with_reducible refine (spec_l7Equal.calls k1 _ _ l0 (wrap64 (a1 + x7_1)) 2 t784 _ ?side1 ?side2 A6.out).mono ?_); (case side1 => repeat (first | exact HR0.out | (with_reducible refine Kd.C_alloc ?_ _) | (with_reducible refine Kd.C_drewN ?_ _) | (with_reducible refine Kd.C_drew ?_))); (case side2 => exact HC0.out); rintro e w' ⟨rfl, ⟨nd, rfl⟩⟩))
      go_roundg k1
      case measure => have := HK1.out; omega
      case rel => exact ⟨(wrap64 (x7_1 + 1)), (by first | rfl | (simp; done) | (simp [*]; done)), H', ⟨by have := HK1.out; omega⟩, by repeat (first | exact Drawn0.refl _ | apply Drawn0.step)⟩
     ·rw [if_neg c7] at H; have c7b0 : decide (t784 < 2) = false := decide_eq_false c7; clear c7; obtain rfl := Option.some.inj H; go_wp2_with (first | (go_at_call 103; (with_reducible refine (spec_l7Equal.calls k1 _ _ l0 (wrap64 (a1 + x7_1)) 2 t784 _ ?side1 ?side2 A6.out).mono ?_); (case side1 => repeat (first | exact HR0.out | (with_reducible refine Kd.C_alloc ?_ _) | (with_reducible refine Kd.C_drewN ?_ _) | (with_reducible refine Kd.C_drew ?_))); (case side2 => exact HC0.out); rintro e w' ⟨rfl, ⟨nd, rfl⟩⟩))
      go_ret
      exact ⟨by first | rfl | (simp; done) | (simp [*]; done), by repeat (first | exact Drawn0.refl _ | apply Drawn0.step)⟩
    ·rw [if_neg c5] at H; have c5b0 : decide ((wrap64 (a1 + x7_1)) < (l0.length : Int)) = false := decide_eq_false c5; clear c5; obtain rfl := Option.some.inj H; go_wp2
     go_ret
     exact ⟨by first | rfl | (simp; done) | (simp [*]; done), by repeat (first | exact Drawn0.refl _ | apply Drawn0.step)⟩
   ·rw [if_neg c4] at H; have c4b0 : decide (x7_1 < a2) = false := decide_eq_false c4; clear c4; obtain rfl := Option.some.inj H; go_wp2
    go_ret
    exact ⟨by first | rfl | (simp; done) | (simp [*]; done), by repeat (first | exact Drawn0.refl _ | apply Drawn0.step)⟩
/-! ### spec_l7Run: function 120 -/
mutual
def spec_l7Run.l0 : Nat → List Int → Int → ByteArray → Int → Option (ByteArray)
 | 0, _, _, _, _ => none
 | k + 1, x0, x1, x5, x6 => if x6 < (x0.length : Int) then ((spec_l7Equal.f k x0 x6 128).bind fun t785 => (if t785 ≥ 2 then ((some (([(wrap64 (127 + t785)) % 256] : List Int) : List Int)).bind fun y786 => (if x5.size + (strOfNums y786).size ≤ 9223372036854775807 then (if 0 ≤ x6 then ((spec_l1Num.f k (rd x0 x6) x1 false).bind fun t790 => (if (x5 ++ (strOfNums y786)).size + t790.size ≤ 9223372036854775807 then (spec_l7Run.l0 k x0 x1 ((x5 ++ (strOfNums y786)) ++ t790) (wrap64 (x6 + t785))) else (none))) else (none)) else (none))) else ((spec_l7Other.f k x0 x6 128).bind fun t791 => ((some (([(wrap64 (t791 - 1)) % 256] : List Int) : List Int)).bind fun y792 => (if x5.size + (strOfNums y792).size ≤ 9223372036854775807 then (spec_l7Run.l1 k x0 x1 (x5 ++ (strOfNums y792)) x6 t791 0) else (none)))))) else (some x5)
def spec_l7Run.l1 : Nat → List Int → Int → ByteArray → Int → Int → Int → Option (ByteArray)
 | 0, _, _, _, _, _, _ => none
 | k + 1, x0, x1, x5, x6, x7, x8 => if x8 < x7 then (if 0 ≤ (wrap64 (x6 + x8)) then (if (wrap64 (x6 + x8)) < (x0.length : Int) then ((spec_l1Num.f k (rd x0 (wrap64 (x6 + x8))) x1 false).bind fun t796 => (if x5.size + t796.size ≤ 9223372036854775807 then (spec_l7Run.l1 k x0 x1 (x5 ++ t796) x6 x7 (wrap64 (x8 + 1))) else (none))) else (none)) else (none)) else (spec_l7Run.l0 k x0 x1 x5 (wrap64 (x6 + x7)))
end
def spec_l7Run.f (k : Nat) (l0 : List Int) (a1 : Int) : Option (ByteArray) := spec_l7Run.l0 k l0 a1 (⟨#[]⟩ : ByteArray) 0
theorem spec_l7Run.mono_l : ∀ k, (∀ y0 y1 y2 y3, LeO (spec_l7Run.l0 k y0 y1 y2 y3) (spec_l7Run.l0 (k + 1) y0 y1 y2 y3)) ∧ (∀ y0 y1 y2 y3 y4 y5, LeO (spec_l7Run.l1 k y0 y1 y2 y3 y4 y5) (spec_l7Run.l1 (k + 1) y0 y1 y2 y3 y4 y5))
 | 0 => ⟨fun _ _ _ _ r h => by simp [spec_l7Run.l0] at h, fun _ _ _ _ _ _ r h => by simp [spec_l7Run.l1] at h⟩
 | k + 1 => by
  obtain ⟨ih0, ih1⟩ := spec_l7Run.mono_l k
  refine ⟨?_, ?_⟩
  ·intro y0 y1 y2 y3; unfold spec_l7Run.l0
   repeat' first
   | (with_reducible exact ih0 _ _ _ _)
   | (with_reducible exact ih1 _ _ _ _ _ _)
   | (with_reducible exact spec_l1Num.mono _ _ _ _)
   | (with_reducible exact spec_l7Equal.mono _ _ _ _)
   | (with_reducible exact spec_l7Other.mono _ _ _ _)
   | (with_reducible exact LeO.refl _)
   | (with_reducible exact LeO.none _)
   | (with_reducible refine LeO.ite ?_ ?_)
   | (with_reducible refine LeO.bind ?_ (fun _ => ?_))
   | exact ih0 _ _ _ _
   | exact ih1 _ _ _ _ _ _
   | exact spec_l1Num.mono _ _ _ _
   | exact spec_l7Equal.mono _ _ _ _
   | exact spec_l7Other.mono _ _ _ _
   | exact LeO.none _
   | refine LeO.ite ?_ ?_
   | refine LeO.bind ?_ (fun _ => ?_)
  ·intro y0 y1 y2 y3 y4 y5; unfold spec_l7Run.l1
   repeat' first
   | (with_reducible exact ih0 _ _ _ _)
   | (with_reducible exact ih1 _ _ _ _ _ _)
   | (with_reducible exact spec_l1Num.mono _ _ _ _)
   | (with_reducible exact spec_l7Equal.mono _ _ _ _)
   | (with_reducible exact spec_l7Other.mono _ _ _ _)
   | (with_reducible exact LeO.refl _)
   | (with_reducible exact LeO.none _)
   | (with_reducible refine LeO.ite ?_ ?_)
   | (with_reducible refine LeO.bind ?_ (fun _ => ?_))
   | exact ih0 _ _ _ _
   | exact ih1 _ _ _ _ _ _
   | exact spec_l1Num.mono _ _ _ _
   | exact spec_l7Equal.mono _ _ _ _
   | exact spec_l7Other.mono _ _ _ _
   | exact LeO.none _
   | refine LeO.ite ?_ ?_
   | refine LeO.bind ?_ (fun _ => ?_)
theorem spec_l7Run.mono : ∀ a0 a1 k, LeO (spec_l7Run.f k a0 a1) (spec_l7Run.f (k + 1) a0 a1) := by
 intro a0 a1 k; obtain ⟨ih0, ih1⟩ := spec_l7Run.mono_l k; unfold spec_l7Run.f
 repeat' first
  | (with_reducible exact ih0 _ _ _ _)
  | (with_reducible exact ih1 _ _ _ _ _ _)
  | (with_reducible exact spec_l1Num.mono _ _ _ _)
  | (with_reducible exact spec_l7Equal.mono _ _ _ _)
  | (with_reducible exact spec_l7Other.mono _ _ _ _)
  | (with_reducible exact LeO.refl _)
  | (with_reducible exact LeO.none _)
  | (with_reducible refine LeO.ite ?_ ?_)
  | (with_reducible refine LeO.bind ?_ (fun _ => ?_))
  | exact ih0 _ _ _ _
  | exact ih1 _ _ _ _ _ _
  | exact spec_l1Num.mono _ _ _ _
  | exact spec_l7Equal.mono _ _ _ _
  | exact spec_l7Other.mono _ _ _ _
  | exact LeO.none _
  | refine LeO.ite ?_ ?_
  | refine LeO.bind ?_ (fun _ => ?_)
def spec_l7Run.T6 : Bool × List (List Nat × List Nat) := (true, [([], []), ([], []), ([1], [1]), ([2], [2]), ([3], [3]), ([4], [4]), ([0, 5], [0, 5]), ([], []), ([], []), ([7, 8], [7, 8]), ([9], [9]), ([], []), ([10, 11], [10, 11]), ([6, 12], [6, 12]), ([13, 12, 0, 1, 2, 3, 4, 5, 6, 7, 8, 9, 10, 11, 12, 13], [0, 13])])
def spec_l7Run.B6 : List Nat := [0, 0, 2, 6, 14, 30, 63, 0, 0, 384, 896, 0, 3968, 8191, 16383]
theorem spec_l7Run.tab6 : rtab .any (opsOf Try.f120 6) = spec_l7Run.T6 := by kernel_rfl
theorem spec_l7Run.bits6 : waitsOk spec_l7Run.T6.2 spec_l7Run.B6 = true := by kernel_rfl
set_option maxHeartbeats 8000000 in
set_option maxRecDepth 100000 in
theorem spec_l7Run.calls (k : Nat) (A0 : Option Addr) (c0 : Nat) (l0 : List Int) (a1 : Int) (r : ByteArray) (w : World) (hr0 : Kd.C (Kd.int .i64) w A0 l0.length l0) (hc0 : l0.length ≤ c0) (h : spec_l7Run.f k l0 a1 = some r) :
 Calls Try.prog 120 #[.slice A0 l0.length c0, .int .i64 a1] w fun e w' => e = .returned (.string r) ∧ Below w.heap.size w w' := by
 have HR0 := Aside0.mk hr0; have HC0 := Aside0.mk hc0; clear hr0 hc0; have HB := Aside0.mk (Below.refl w.heap.size w); have H : (spec_l7Run.l0 k l0 a1 (⟨#[]⟩ : ByteArray) 0) = some r := h; clear h; have H' := Aside0.mk H; clear H; go_enter Try.func120, Try.ntmps120
 go_wp2
 go_loopg [5, 6] k (fun kq v5 v6 w' => ∃ (x5_1 : ByteArray) (x6_1 : Int), v5 = .string x5_1 ∧ v6 = .int .i64 x6_1 ∧ Aside0 (spec_l7Run.l0 kq l0 a1 x5_1 x6_1 = some r) ∧ Aside0 (kq ≤ k) ∧ Aside0 (Below w.heap.size w w'))
 case atStart => exact ⟨((⟨#[]⟩ : ByteArray)), (0), (by first | rfl | (simp; done) | (simp [*]; done)), (by first | rfl | (simp; done) | (simp [*]; done)), H', ⟨Nat.le_refl _⟩, Sq.a_ HB⟩
 case round =>
  clear H'; try clear c1
  try clear p2
  obtain ⟨x5_1, x6_1, rfl, rfl, HA, HK1, HB⟩ := hrel; cases gk with
  | zero => exact absurd HA.out (by simp [spec_l7Run.l0])
  | succ k1 =>
   have H := HA.out; clear HA; simp only [spec_l7Run.l0] at H
   by_cases c3 : x6_1 < (l0.length : Int)
   ·rw [if_pos c3] at H; have c3b0 : decide (x6_1 < (l0.length : Int)) = true := decide_eq_true c3; clear c3; replace H := Option.bind_eq_some_iff.mp H; obtain ⟨t785, A40, H⟩ := H; have A4 := Aside0.mk A40; clear A40
    by_cases c5 : t785 ≥ 2
    ·rw [if_pos c5] at H; have c5b0 : decide (2 ≤ t785) = true := decide_eq_true c5; clear c5; obtain ⟨y786, hy786⟩ : ∃ y_ : List Int, y_ = (([(wrap64 (127 + t785)) % 256] : List Int)) := ⟨_, rfl⟩; replace H := Sq.y hy786 H; have Ny786 := Aside0.mk hy786; clear hy786
     by_cases c6 : x5_1.size + (strOfNums y786).size ≤ 9223372036854775807
     ·rw [if_pos c6] at H; have c6b0 := eq_true c6; have c6b1 : decide (x5_1.size + (strOfNums y786).size ≤ 9223372036854775807) = true := decide_eq_true c6; try have c6b2 : (9223372036854775807 < x5_1.size + (strOfNums y786).size) = False := eq_false (Nat.not_lt.2 c6)
      by_cases c7 : 0 ≤ x6_1
      ·rw [if_pos c7] at H; have c7b0 : decide (0 ≤ x6_1) = true := decide_eq_true c7; clear c7; replace H := Option.bind_eq_some_iff.mp H; obtain ⟨t790, A80, H⟩ := H; have A8 := Aside0.mk A80; clear A80
       by_cases c9 : (x5_1 ++ (strOfNums y786)).size + t790.size ≤ 9223372036854775807
       ·rw [if_pos c9] at H; have c9b0 := eq_true c9; have c9b1 : decide ((x5_1 ++ (strOfNums y786)).size + t790.size ≤ 9223372036854775807) = true := decide_eq_true c9; try have c9b2 : (9223372036854775807 < (x5_1 ++ (strOfNums y786)).size + t790.size) = False := eq_false (Nat.not_lt.2 c9)
        try have c9b3 := c9b2
        try simp only [ByteArray.size_append] at c9b3
        have H' := Aside0.mk H; clear H; try go_wp2_with (first | ((with_reducible refine gate_callee (f := 103) rfl ?_); refine goesL_ (some 15) rfl rfl Try.func103 (by kernel_rfl) rfl #[.slice A0 l0.length c0, .int .i64 x6_1, .int .i64 128] rfl (by (try simp only [Sq.mp]); first | done | rfl | (simp only [List.length_drop, List.length_take]; rfl)) ?_; (with_reducible refine (spec_l7Equal.calls k1 _ _ l0 x6_1 128 t785 _ ?side1 ?side2 A4.out).mono ?_); (case side1 => exact Sq.i_ HR0 HB); (case side2 => exact HC0.out); rintro e w' ⟨rfl, ⟨nd, rfl⟩⟩; refine ⟨_, rfl, ?_⟩))
        (try (rw [drewN_self wr]; generalize hq_ : World.drewN wr _ = wr; have n0_ : Aside0 (Below w.heap.size w wr) := ⟨by rw [← hq_]; exact (by repeat (first | (with_reducible first | exact HB.out | apply below_alloc | apply pw_below_drewN | apply below_drew1) | exact HB.out))⟩; clear HB hq_; have HB := n0_; clear n0_))
        have n0_ := Aside0.mk (below_drew1 HB.out); clear HB; have HB := n0_; clear n0_; have p789 : 0 ≤ (x6_1 : Int) := of_decide_eq_true (by first | (with_reducible assumption) | assumption); have q789 : x6_1 < (l0.length : Int) := of_decide_eq_true (by first | (with_reducible assumption) | assumption); obtain ⟨ad789, e789, hx789_0⟩ := Kd.at_int HR0.out x6_1 p789 q789; have hw789_0 := hx789_0; cases e789; replace hx789_0 := (HB.out.cell (World.block_lt_of_cell? w _ hx789_0)).trans hx789_0; replace p789 := eq_true p789; replace q789 := eq_true q789; refine start_ (n := 15) (S := fun w' => w'.cell? (ad789.add (x6_1).toNat) = some (.int .i64 (rd l0 x6_1))) (ds := []) #[false, false, false, false, false, false, false, false, false, false, false, false, false, false, false] (by kernel_rfl) rfl rfl (((HB.out.cell (World.block_lt_of_cell? w _ hw789_0)).trans hw789_0)) (fun hHeld => ?_); refine with_tabW spec_l7Run.tab6 spec_l7Run.bits6 (fun HT_ HW_ => ?_)
        generalize wr.drew = w10 at HB hx789_0 hHeld ⊢; refine Sq.p_ 0 18 ?_ (Sq.b 15 1) rfl rfl HT_ (by kernel_rfl) (fun _ _ _ h => h) (Or.inl ⟨by rfl, ?_⟩) ?_ ?_ ?_
        rotate_left
        ·intro w'; go_simp; with_reducible rfl
        rotate_left
        ·simp only [Sq.put]; rfl
        refine Sq.p_ 1 19 ?_ (Sq.b 15 3) rfl rfl HT_ (by kernel_rfl) (fun _ _ _ h => h) (Or.inl ⟨by rfl, ?_⟩) ?_ ?_ ?_
        rotate_left
        ·intro w'; go_simp; with_reducible rfl
        rotate_left
        ·simp only [Sq.put]; rfl
        refine Sq.p_ 2 20 ?_ (Sq.b 15 7) rfl rfl HT_ (by kernel_rfl) (fun _ _ _ h => h) (Or.inl ⟨by rfl, ?_⟩) ?_ ?_ ?_
        rotate_left
        ·intro w'; go_simp; with_reducible rfl
        rotate_left
        ·simp only [Sq.put]; rfl
        refine Sq.p_ 3 21 ?_ (Sq.b 15 15) rfl rfl HT_ (by kernel_rfl) (fun _ _ _ h => h) (Or.inl ⟨by rfl, ?_⟩) ?_ ?_ ?_
        rotate_left
        ·intro w'; go_simp; with_reducible rfl
        rotate_left
        ·simp only [Sq.put]; rfl
        refine Sq.p_ 7 25 ?_ (Sq.b 15 143) rfl rfl HT_ (by kernel_rfl) (fun _ _ _ h => h) (Or.inl ⟨by rfl, ?_⟩) ?_ ?_ ?_
        rotate_left
        ·intro w'; go_simp; with_reducible rfl
        rotate_left
        ·simp only [Sq.put]; rfl
        refine Sq.p_ 8 26 ?_ (Sq.b 15 399) rfl rfl HT_ (by kernel_rfl) (fun _ _ _ h => h) (Or.inl ⟨by rfl, ?_⟩) ?_ ?_ ?_
        rotate_left
        ·intro w'; go_simp; with_reducible rfl
        rotate_left
        ·simp only [Sq.put]; rfl
        refine Sq.p_ 9 27 ?_ (Sq.b 15 911) rfl rfl HT_ (by kernel_rfl) (fun _ _ _ h => h) (Or.inl ⟨by rfl, ?_⟩) ?_ ?_ ?_
        rotate_left
        ·intro w'; go_simp; with_reducible rfl
        rotate_left
        ·simp only [Sq.put]; rfl
        refine Sq.p_ 11 29 ?_ (Sq.b 15 2959) rfl rfl HT_ (by kernel_rfl) (fun _ _ _ h => h) (Or.inl ⟨by rfl, ?_⟩) ?_ ?_ ?_
        rotate_left
        ·intro w'; go_simp; with_reducible rfl
        rotate_left
        ·simp only [Sq.put]; rfl
        refine Sq.k 10 28 ?_ (Sq.b 15 3983) rfl rfl HT_ HW_ (by kernel_rfl) (fun _ _ _ h => h) (Or.inl ⟨by rfl, ?_⟩) hHeld ?_ ?_ ?_
        rotate_left
        ·intro w' s0; go_simp; with_reducible rfl
        rotate_left
        ·simp only [Sq.put]; rfl
        refine join_ (σ := Value) 2 #[true, true, true, true, true, true, true, true, true, true, true, true, true, false, false] (fun s_ => [(22, s_), (23, .string (strOfNums y786)), (30, .string t790), (24, .string (x5_1 ++ (strOfNums y786)))]) (fun s_ w' => (w'.cell? (ad789.add (x6_1).toNat) = some (.int .i64 (rd l0 x6_1))) ∧ (Kd.R (Kd.int .u8) 5 w' w.heap.size (fun _ => True) s_ y786) ∧ (Below w.heap.size w w')) ?_ ?_
        rotate_left
        ·intro hCont
         refine two_ (i := 4) (j := 12) (Ni := some 22) (Nj := some 30) #[true, true, true, true, true, false, false, true, true, true, true, true, false, false, false] #[true, true, true, true, false, false, false, true, true, true, true, true, true, false, false] rfl rfl rfl rfl (two_of HT_.out (by kernel_rfl)) (by decide) (by decide) (fun K hK => ?_) (fun K hK => ?_)
         ·skip
          refine Kd.R_lit_step (Kd.int .u8) _ 5 ?hg (N := 22) ?hd (xs := ([(wrap64 (127 + t785)) % 256] : List Int)) (inner := [.int .u8 ((wrap64 (127 + t785)) % 256)]) (ok := fun _ => True) (okp := fun _ => True) ?hr ?hp (fun _ hk => hk) trivial (Below.refl _ _) (Nat.le_refl _) (by simp) ?_; (case hd => rfl); (case hg => rfl); (case hr => first | (go_simp; done) | (go_simp; rfl)); (case hp => exact (Reps.one (show Kd.M (Kd.int .u8) _ _ _ ((wrap64 (127 + t785)) % 256) [.int .u8 ((wrap64 (127 + t785)) % 256)] from rfl) (Reps.none _ _)))
          intro v787 w11 ho12 hb hg_ hnew_; clear hg_ hnew_; (first | rw [← Ny786.out] at ho12 | (simp only [Int.reduceToNat] at ho12; rw [← Ny786.out] at ho12))
          have n0_ := Aside0.mk (Kd.R_lower ho12 (below_size (by repeat (first | (with_reducible first | exact HB.out | apply below_alloc | apply pw_below_drewN | apply below_drew1) | exact HB.out)))); have n1_ := Sq.s_ HB hb; clear HB; have HO788 := n0_; have HB := n1_; clear n0_ n1_; clear hb ho12; refine hK.out _ _ (((HB.out.cell (World.block_lt_of_cell? w _ hw789_0)).trans hw789_0)) (fun hHeld => ?_); clear hK K; refine norm_ (a' := ?_) ?_ ?_
          rotate_left
          ·show Act.put _ (some 22) _ = _
           simp only [Sq.put]; rfl
          refine two_ (i := 5) (j := 12) (Ni := some 23) (Nj := some 30) #[true, true, true, true, true, true, false, true, true, true, true, true, false, false, false] #[true, true, true, true, true, false, false, true, true, true, true, true, true, false, false] rfl rfl rfl rfl (two_of HT_.out (by kernel_rfl)) (by decide) (by decide) (fun K hK => ?_) (fun K hK => ?_)
          ·skip
           have hcv13 := own_string (P := Try.prog) Try.underlying28 Try.underlying5 Try.underlying9 (Kd.own_of_R HO788.out); refine value_ (w1 := ?_) (v := ?_) (by rfl) rfl ?_ ?_
           rotate_left 2
           ·go_simp
            constructor
            ·rfl
            ·rfl
           clear hcv13; refine hK.out _ _ (((HB.out.cell (World.block_lt_of_cell? w _ hw789_0)).trans hw789_0)) (fun hHeld => ?_); clear hK K; refine norm_ (a' := ?_) ?_ ?_
           rotate_left
           ·show Act.put _ (some 23) _ = _
            simp only [Sq.put]; rfl
           refine Sq.p_ 6 24 ?_ (Sq.b 15 4095) rfl rfl HT_ (by kernel_rfl) (fun _ _ _ h => h) (Or.inl ⟨by rfl, ?_⟩) ?_ ?_ ?_
           rotate_left
           ·intro w'; go_simp; with_reducible rfl
           rotate_left
           ·simp only [Sq.put]; rfl
           refine one_ (i := 12) (N := some 30) (Sq.b 15 8191) rfl rfl (one_of HT_.out (by kernel_rfl)) (by decide) (fun K hK => ?_); refine goes_ Try.func109 (by kernel_rfl) rfl #[.int .i64 (rd l0 x6_1), .int .i64 a1, .bool false] (by rfl) rfl rfl (by (try simp only [Sq.mp]); first | done | rfl | (simp only [List.length_drop, List.length_take]; rfl)) ?_; with_reducible refine (spec_l1Num.calls k1 (rd l0 x6_1) a1 false t790 _ A8.out).mono ?_
           rintro e w14 ⟨rfl, hb⟩; refine ⟨_, rfl, ?_⟩; have n0_ := Sq.r_ HO788 hb; have n1_ := Sq.s_ HB hb; clear HO788; clear HB; have HO788 := n0_; have HB := n1_; clear n0_ n1_; (try clear hb)
           (try clear hb2)
           (try clear hk)
           (try clear hi)
           refine hK.out _ _ (((HB.out.cell (World.block_lt_of_cell? w _ hw789_0)).trans hw789_0)) (fun hHeld => ?_); clear hK K; refine norm_ (a' := ?_) ?_ ?_
           rotate_left
           ·show Act.put _ (some 30) _ = _
            simp only [Sq.put]; rfl
           exact norm_ (by simp only [putAll, Act.put, List.setIfInBounds_toArray, List.set_cons_zero, List.set_cons_succ]) (hCont (v787) _ ⟨hHeld, (by (with_reducible repeat (first | apply Kd.R_alloc | apply Kd.R_drewN | apply Kd.R_drew)); exact HO788.out), (by repeat (first | (with_reducible first | exact HB.out | apply below_alloc | apply pw_below_drewN | apply below_drew1) | exact HB.out))⟩)
          ·skip
           refine goes_ Try.func109 (by kernel_rfl) rfl #[.int .i64 (rd l0 x6_1), .int .i64 a1, .bool false] (by rfl) rfl rfl (by (try simp only [Sq.mp]); first | done | rfl | (simp only [List.length_drop, List.length_take]; rfl)) ?_; with_reducible refine (spec_l1Num.calls k1 (rd l0 x6_1) a1 false t790 _ A8.out).mono ?_
           rintro e w13 ⟨rfl, hb⟩; refine ⟨_, rfl, ?_⟩; have n0_ := Sq.r_ HO788 hb; have n1_ := Sq.s_ HB hb; clear HO788; clear HB; have HO788 := n0_; have HB := n1_; clear n0_ n1_; (try clear hb)
           (try clear hb2)
           (try clear hk)
           (try clear hi)
           refine hK.out _ _ (((HB.out.cell (World.block_lt_of_cell? w _ hw789_0)).trans hw789_0)) (fun hHeld => ?_); clear hK K; refine norm_ (a' := ?_) ?_ ?_
           rotate_left
           ·show Act.put _ (some 30) _ = _
            simp only [Sq.put]; rfl
           refine one_ (i := 5) (N := some 23) (Sq.b 15 8127) rfl rfl (one_of HT_.out (by kernel_rfl)) (by decide) (fun K hK => ?_); have hcv14 := own_string (P := Try.prog) Try.underlying28 Try.underlying5 Try.underlying9 (Kd.own_of_R HO788.out); refine value_ (w1 := ?_) (v := ?_) (by rfl) rfl ?_ ?_
           rotate_left 2
           ·go_simp
            constructor
            ·rfl
            ·rfl
           clear hcv14; refine hK.out _ _ (((HB.out.cell (World.block_lt_of_cell? w _ hw789_0)).trans hw789_0)) (fun hHeld => ?_); clear hK K; refine norm_ (a' := ?_) ?_ ?_
           rotate_left
           ·show Act.put _ (some 23) _ = _
            simp only [Sq.put]; rfl
           refine Sq.p_ 6 24 ?_ (Sq.b 15 8191) rfl rfl HT_ (by kernel_rfl) (fun _ _ _ h => h) (Or.inl ⟨by rfl, ?_⟩) ?_ ?_ ?_
           rotate_left
           ·intro w'; go_simp; with_reducible rfl
           rotate_left
           ·simp only [Sq.put]; rfl
           exact norm_ (by simp only [putAll, Act.put, List.setIfInBounds_toArray, List.set_cons_zero, List.set_cons_succ]) (hCont (v787) _ ⟨hHeld, (by (with_reducible repeat (first | apply Kd.R_alloc | apply Kd.R_drewN | apply Kd.R_drew)); exact HO788.out), (by repeat (first | (with_reducible first | exact HB.out | apply below_alloc | apply pw_below_drewN | apply below_drew1) | exact HB.out))⟩)
         ·skip
          refine goes_ Try.func109 (by kernel_rfl) rfl #[.int .i64 (rd l0 x6_1), .int .i64 a1, .bool false] (by rfl) rfl rfl (by (try simp only [Sq.mp]); first | done | rfl | (simp only [List.length_drop, List.length_take]; rfl)) ?_; with_reducible refine (spec_l1Num.calls k1 (rd l0 x6_1) a1 false t790 _ A8.out).mono ?_
          rintro e w11 ⟨rfl, hb⟩; refine ⟨_, rfl, ?_⟩; have n0_ := Sq.s_ HB hb; clear HB; have HB := n0_; clear n0_; (try clear hb)
          (try clear hb2)
          (try clear hk)
          (try clear hi)
          refine hK.out _ _ (((HB.out.cell (World.block_lt_of_cell? w _ hw789_0)).trans hw789_0)) (fun hHeld => ?_); clear hK K; refine norm_ (a' := ?_) ?_ ?_
          rotate_left
          ·show Act.put _ (some 30) _ = _
           simp only [Sq.put]; rfl
          refine one_ (i := 4) (N := some 22) (Sq.b 15 8095) rfl rfl (one_of HT_.out (by kernel_rfl)) (by decide) (fun K hK => ?_); refine Kd.R_lit_step (Kd.int .u8) _ 5 ?hg (N := 22) ?hd (xs := ([(wrap64 (127 + t785)) % 256] : List Int)) (inner := [.int .u8 ((wrap64 (127 + t785)) % 256)]) (ok := fun _ => True) (okp := fun _ => True) ?hr ?hp (fun _ hk => hk) trivial (Below.refl _ _) (Nat.le_refl _) (by simp) ?_; (case hd => rfl); (case hg => rfl); (case hr => first | (go_simp; done) | (go_simp; rfl)); (case hp => exact (Reps.one (show Kd.M (Kd.int .u8) _ _ _ ((wrap64 (127 + t785)) % 256) [.int .u8 ((wrap64 (127 + t785)) % 256)] from rfl) (Reps.none _ _)))
          intro v787 w12 ho13 hb hg_ hnew_; clear hg_ hnew_; (first | rw [← Ny786.out] at ho13 | (simp only [Int.reduceToNat] at ho13; rw [← Ny786.out] at ho13))
          have n0_ := Aside0.mk (Kd.R_lower ho13 (below_size (by repeat (first | (with_reducible first | exact HB.out | apply below_alloc | apply pw_below_drewN | apply below_drew1) | exact HB.out)))); have n1_ := Sq.s_ HB hb; clear HB; have HO788 := n0_; have HB := n1_; clear n0_ n1_; clear hb ho13; refine hK.out _ _ (((HB.out.cell (World.block_lt_of_cell? w _ hw789_0)).trans hw789_0)) (fun hHeld => ?_); clear hK K; refine norm_ (a' := ?_) ?_ ?_
          rotate_left
          ·show Act.put _ (some 22) _ = _
           simp only [Sq.put]; rfl
          refine one_ (i := 5) (N := some 23) (Sq.b 15 8127) rfl rfl (one_of HT_.out (by kernel_rfl)) (by decide) (fun K hK => ?_); have hcv14 := own_string (P := Try.prog) Try.underlying28 Try.underlying5 Try.underlying9 (Kd.own_of_R HO788.out); refine value_ (w1 := ?_) (v := ?_) (by rfl) rfl ?_ ?_
          rotate_left 2
          ·go_simp
           constructor
           ·rfl
           ·rfl
          clear hcv14; refine hK.out _ _ (((HB.out.cell (World.block_lt_of_cell? w _ hw789_0)).trans hw789_0)) (fun hHeld => ?_); clear hK K; refine norm_ (a' := ?_) ?_ ?_
          rotate_left
          ·show Act.put _ (some 23) _ = _
           simp only [Sq.put]; rfl
          refine Sq.p_ 6 24 ?_ (Sq.b 15 8191) rfl rfl HT_ (by kernel_rfl) (fun _ _ _ h => h) (Or.inl ⟨by rfl, ?_⟩) ?_ ?_ ?_
          rotate_left
          ·intro w'; go_simp; with_reducible rfl
          rotate_left
          ·simp only [Sq.put]; rfl
          exact norm_ (by simp only [putAll, Act.put, List.setIfInBounds_toArray, List.set_cons_zero, List.set_cons_succ]) (hCont (v787) _ ⟨hHeld, (by (with_reducible repeat (first | apply Kd.R_alloc | apply Kd.R_drewN | apply Kd.R_drew)); exact HO788.out), (by repeat (first | (with_reducible first | exact HB.out | apply below_alloc | apply pw_below_drewN | apply below_drew1) | exact HB.out))⟩)
        rintro v787 w15 ⟨hS_, h0_, h1_⟩; have n0_ : Aside0 (Kd.R (Kd.int .u8) 5 w15 w.heap.size (fun _ => True) v787 y786) := ⟨h0_⟩; have n1_ : Aside0 (Below w.heap.size w w15) := ⟨h1_⟩; clear HB; clear h0_ h1_; have HO788 := n0_; have HB := n1_; clear n0_ n1_; have hHeld : w15.cell? (ad789.add (x6_1).toNat) = some (.int .i64 (rd l0 x6_1)) := hS_; refine norm_ (a' := ?_) ?_ ?_
        rotate_left
        ·simp only [putAll, Act.put, List.setIfInBounds_toArray, List.set_cons_zero, List.set_cons_succ]; rfl
        refine Sq.p_ 13 31 ?_ (Sq.b 15 16383) rfl rfl HT_ (by kernel_rfl) (fun _ _ _ h => h) (Or.inl ⟨by rfl, ?_⟩) ?_ ?_ ?_
        rotate_left
        ·intro w'; go_simp; with_reducible rfl
        rotate_left
        ·simp only [Sq.put]; rfl
        refine Sq.p_ 14 5 ?_ (Sq.b 15 32767) rfl rfl HT_ (by kernel_rfl) (fun _ _ _ h => h) (Or.inl ⟨by rfl, ?_⟩) ?_ ?_ ?_
        rotate_left
        ·intro w'; go_simp; with_reducible rfl
        rotate_left
        ·simp only [Sq.put]; rfl
        refine done_ (done_of HT_.out (by kernel_rfl)) ?_; try go_wp2
        go_roundg k1
        case measure => have := HK1.out; omega
        case rel => exact ⟨((x5_1 ++ (strOfNums y786)) ++ t790), (wrap64 (x6_1 + t785)), (by first | rfl | (simp; done) | (simp [*]; done)), (by first | rfl | (simp; done) | (simp [*]; done)), H', ⟨by have := HK1.out; omega⟩, Sq.a_ HB⟩
       ·rw [if_neg c9] at H; exact absurd H (by simp)
      ·rw [if_neg c7] at H; exact absurd H (by simp)
     ·rw [if_neg c6] at H; exact absurd H (by simp)
    ·rw [if_neg c5] at H; have c5b0 : decide (2 ≤ t785) = false := decide_eq_false c5; clear c5; replace H := Option.bind_eq_some_iff.mp H; obtain ⟨t791, A160, H⟩ := H; have A16 := Aside0.mk A160; clear A160; obtain ⟨y792, hy792⟩ : ∃ y_ : List Int, y_ = (([(wrap64 (t791 - 1)) % 256] : List Int)) := ⟨_, rfl⟩; replace H := Sq.y hy792 H; have Ny792 := Aside0.mk hy792; clear hy792
     by_cases c17 : x5_1.size + (strOfNums y792).size ≤ 9223372036854775807
     ·rw [if_pos c17] at H; have c17b0 := eq_true c17; have c17b1 : decide (x5_1.size + (strOfNums y792).size ≤ 9223372036854775807) = true := decide_eq_true c17; try have c17b2 : (9223372036854775807 < x5_1.size + (strOfNums y792).size) = False := eq_false (Nat.not_lt.2 c17)
      have H' := Aside0.mk H; clear H
      go_wp2_with (first | ((with_reducible refine gate_callee (f := 103) rfl ?_); refine goesL_ (some 15) rfl rfl Try.func103 (by kernel_rfl) rfl #[.slice A0 l0.length c0, .int .i64 x6_1, .int .i64 128] rfl (by (try simp only [Sq.mp]); first | done | rfl | (simp only [List.length_drop, List.length_take]; rfl)) ?_; (with_reducible refine (spec_l7Equal.calls k1 _ _ l0 x6_1 128 t785 _ ?side1 ?side2 A4.out).mono ?_); (case side1 => exact Sq.i_ HR0 HB); (case side2 => exact HC0.out); rintro e w' ⟨rfl, ⟨nd, rfl⟩⟩; refine ⟨_, rfl, ?_⟩) | ((with_reducible refine gate_callee (f := 139) rfl ?_); refine goesL_ (some 34) rfl rfl Try.func139 (by kernel_rfl) rfl #[.slice A0 l0.length c0, .int .i64 x6_1, .int .i64 128] rfl (by (try simp only [Sq.mp]); first | done | rfl | (simp only [List.length_drop, List.length_take]; rfl)) ?_; (with_reducible refine (spec_l7Other.calls k1 _ _ l0 x6_1 128 t791 _ ?side1 ?side2 A16.out).mono ?_); (case side1 => repeat (first | exact (Kd.C_below HR0.out (by repeat (first | (with_reducible first | exact HB.out | apply below_alloc | apply pw_below_drewN | apply below_drew1) | exact HB.out))) | (with_reducible refine Kd.C_alloc ?_ _) | (with_reducible refine Kd.C_drewN ?_ _) | (with_reducible refine Kd.C_drew ?_))); (case side2 => exact HC0.out); rintro e w' ⟨rfl, ⟨nd, rfl⟩⟩; refine ⟨_, rfl, ?_⟩) | ((with_reducible refine gate_dst (N := 39) rfl ?_); refine Kd.R_lit (Kd.int .u8) _ 5 ?hg (N := 39) ?hd (xs := ([(wrap64 (t791 - 1)) % 256] : List Int)) (inner := [.int .u8 ((wrap64 (t791 - 1)) % 256)]) (ok := fun _ => True) (okp := fun _ => True) ?hr ?hp (fun _ hk => hk) trivial (Below.refl _ _) (Nat.le_refl _) (by simp) ?_; (case hd => rfl); (case hg => rfl); (case hr => first | (go_simp; done) | (go_simp; rfl)); (case hp => exact (Reps.one (show Kd.M (Kd.int .u8) _ _ _ ((wrap64 (t791 - 1)) % 256) [.int .u8 ((wrap64 (t791 - 1)) % 256)] from rfl) (Reps.none _ _))); intro v793 w18 ho19 hb hg_ hnew_; clear hg_ hnew_; (first | rw [← Ny792.out] at ho19 | (simp only [Int.reduceToNat] at ho19; rw [← Ny792.out] at ho19)); have n0_ := Aside0.mk (Kd.R_lower ho19 (below_size (by repeat (first | (with_reducible first | exact HB.out | apply below_alloc | apply pw_below_drewN | apply below_drew1) | exact HB.out)))); have n1_ := Sq.s_ HB hb; clear HB; have HO794 := n0_; have HB := n1_; clear n0_ n1_; clear hb ho19; have hcv20 := own_string (P := Try.prog) Try.underlying28 Try.underlying5 Try.underlying9 (Kd.own_of_R HO794.out)))
      go_loopg [5, 8] k1 (fun kq v5 v8 w' => ∃ (x5_2 : ByteArray) (x8_2 : Int), v5 = .string x5_2 ∧ v8 = .int .i64 x8_2 ∧ Aside0 (spec_l7Run.l1 kq l0 a1 x5_2 x6_1 t791 x8_2 = some r) ∧ Aside0 (kq ≤ k1) ∧ Aside0 (Below w.heap.size w w'))
      case atStart => exact ⟨(x5_1 ++ (strOfNums y792)), (0), (by first | rfl | (simp; done) | (simp [*]; done)), (by first | rfl | (simp; done) | (simp [*]; done)), H', ⟨Nat.le_refl _⟩, Sq.a_ HB⟩
      case round =>
       clear H'; try clear c1
       try clear hcv1
       try clear p2
       try clear hcv2
       try clear c3
       try clear c3b0
       try clear c5
       try clear c5b0
       try clear c6
       try clear c6b0
       try clear c6b1
       try clear c6b2
       try clear p6
       try clear c7
       try clear c7b0
       try clear p7
       try clear q7
       try clear hx7
       try clear c9
       try clear c9b0
       try clear c9b1
       try clear c9b2
       try clear c10
       try clear c12
       try clear c13
       try clear hcv13
       try clear hcv14
       try clear c17
       try clear c17b0
       try clear c17b1
       try clear c17b2
       try clear hcv20
       try clear hx789_0
       try clear p2
       try clear p789
       try clear q789
       obtain ⟨x5_2, x8_2, rfl, rfl, HA, HK2, HB⟩ := hrel; cases gk with
       | zero => exact absurd HA.out (by simp [spec_l7Run.l1])
       | succ k2 =>
        have H := HA.out; clear HA; simp only [spec_l7Run.l1] at H
        by_cases c21 : x8_2 < t791
        ·rw [if_pos c21] at H; have c21b0 : decide (x8_2 < t791) = true := decide_eq_true c21; clear c21; obtain ⟨ji22, hji22⟩ : ∃ j_ : Int, (wrap64 (x6_1 + x8_2)) = j_ := ⟨_, rfl⟩; replace H : (if 0 ≤ (ji22) then (if (ji22) < (l0.length : Int) then ((spec_l1Num.f k2 (rd l0 (ji22)) a1 false).bind fun t796 => (if x5_2.size + t796.size ≤ 9223372036854775807 then (spec_l7Run.l1 k2 l0 a1 (x5_2 ++ t796) x6_1 t791 (wrap64 (x8_2 + 1))) else (none))) else (none)) else (none)) = some r := by first | (rw [hji22] at H; exact H) | (simp only [hji22] at H ⊢; exact H)
         have hji22w : (IntKind.i64.wrap (x6_1 + x8_2)) = ji22 := (i64_w _).trans hji22
         by_cases c23 : 0 ≤ (ji22)
         ·rw [if_pos c23] at H; have c23b0 : decide (0 ≤ (ji22)) = true := decide_eq_true c23; clear c23
          by_cases c24 : (ji22) < (l0.length : Int)
          ·rw [if_pos c24] at H; have c24b0 : decide ((ji22) < (l0.length : Int)) = true := decide_eq_true c24; clear c24; replace H := Option.bind_eq_some_iff.mp H; obtain ⟨t796, A250, H⟩ := H; have A25 := Aside0.mk A250; clear A250
           by_cases c26 : x5_2.size + t796.size ≤ 9223372036854775807
           ·rw [if_pos c26] at H; have c26b0 := eq_true c26; have c26b1 : decide (x5_2.size + t796.size ≤ 9223372036854775807) = true := decide_eq_true c26; try have c26b2 : (9223372036854775807 < x5_2.size + t796.size) = False := eq_false (Nat.not_lt.2 c26)
            have H' := Aside0.mk H; clear H; have p795 : 0 ≤ ((ji22) : Int) := of_decide_eq_true (by first | (with_reducible assumption) | assumption); have q795 : (ji22) < (l0.length : Int) := of_decide_eq_true (by first | (with_reducible assumption) | assumption); obtain ⟨ad795, e795, hx795_0⟩ := Kd.at_int HR0.out (ji22) p795 q795; cases e795; replace hx795_0 := (HB.out.cell (World.block_lt_of_cell? w _ hx795_0)).trans hx795_0; replace p795 := eq_true p795; replace q795 := eq_true q795; go_wp2_with (first | ((with_reducible refine gate_callee (f := 109) rfl ?_); refine goesL_ (some 55) rfl rfl Try.func109 (by kernel_rfl) rfl #[.int .i64 (rd l0 (ji22)), .int .i64 a1, .bool false] rfl (by (try simp only [Sq.mp]); first | done | (simp only [hji22]; rfl) | rfl | (simp only [List.length_drop, List.length_take]; rfl)) ?_; (with_reducible refine (spec_l1Num.calls k2 (rd l0 (ji22)) a1 false t796 _ A25.out).mono ?_); rintro e w27 ⟨rfl, hb⟩; refine ⟨_, rfl, ?_⟩; have n0_ := Sq.s_ HB hb; clear HB; have HB := n0_; clear n0_; (try clear hb); (try clear hb2); (try clear hk); (try clear hi)))
            go_roundg k2
            case measure => have := HK1.out; have := HK2.out; omega
            case rel => exact ⟨(x5_2 ++ t796), (wrap64 (x8_2 + 1)), (by first | rfl | (simp; done) | (simp [*]; done)), (by first | rfl | (simp; done) | (simp [*]; done)), H', ⟨by have := HK1.out; have := HK2.out; omega⟩, Sq.a_ HB⟩
           ·rw [if_neg c26] at H; exact absurd H (by simp)
          ·rw [if_neg c24] at H; exact absurd H (by simp)
         ·rw [if_neg c23] at H; exact absurd H (by simp)
        ·rw [if_neg c21] at H; have c21b0 : decide (x8_2 < t791) = false := decide_eq_false c21; clear c21; have H' := Aside0.mk H; clear H; go_wp2
         go_roundg k2
         case measure => have := HK1.out; have := HK2.out; omega
         case rel => exact ⟨(x5_2), (wrap64 (x6_1 + t791)), (by first | rfl | (simp; done) | (simp [*]; done)), (by first | rfl | (simp; done) | (simp [*]; done)), H', ⟨by have := HK1.out; have := HK2.out; omega⟩, Sq.a_ HB⟩
     ·rw [if_neg c17] at H; exact absurd H (by simp)
   ·rw [if_neg c3] at H; have c3b0 : decide (x6_1 < (l0.length : Int)) = false := decide_eq_false c3; clear c3; obtain rfl := Option.some.inj H; go_wp2
    go_ret
    exact ⟨by first | rfl | (simp [errW_none, errW_some] <;> rfl) | (simp [*, errW_none, errW_some] <;> rfl), by repeat (first | (with_reducible first | exact HB.out | apply below_alloc | apply pw_below_drewN | apply below_drew1) | exact HB.out)⟩
end Go.Proofs.Ytgdbinifnhfcjaa.P
