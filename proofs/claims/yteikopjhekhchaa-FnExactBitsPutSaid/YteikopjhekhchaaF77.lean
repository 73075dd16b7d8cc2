-- Written by a program of this session (wip/myprint.py) through the print of the kit: not trusted, Lean checks it.
import Derived.Test.YteikopjhekhchaaF00
namespace Go.Proofs.Yteikopjhekhchaa.P
open Go.RowKit Go.Proofs.YteikopjhekhchaaW.PrintWords Go.Proofs.YteikopjhekhchaaW.PrintLast Go.Proofs.YteikopjhekhchaaW.PrintMore
attribute [local go_sem] max2_int min2_int max_two min_two max_three min_three max_four min_four   -- for this text's walks alone
set_option linter.unusedVariables false
set_option linter.unusedSimpArgs false

/-! ### impl_bitAt: function 77 -/
def impl_bitAt.f (a0 : ByteArray) (a1 : Int) (a2 : Bool) : Option (Int) := if a2 = true then (if 0 ≤ (wrap64 (Int.tdiv a1 8)) then (if (wrap64 (Int.tdiv a1 8)) < (a0.size : Int) then (if 0 ≤ (wrap64 (7 - (Int.tmod a1 8))) then (some (Go.bits .and .i64 (shr .i64 (wrap64 (bt a0 (wrap64 (Int.tdiv a1 8)))) (wrap64 (7 - (Int.tmod a1 8)))) 1)) else (none)) else (none)) else (none)) else (if 0 ≤ (wrap64 (Int.tdiv a1 8)) then (if (wrap64 (Int.tdiv a1 8)) < (a0.size : Int) then (if 0 ≤ (Int.tmod a1 8) then (some (Go.bits .and .i64 (shr .i64 (wrap64 (bt a0 (wrap64 (Int.tdiv a1 8)))) (Int.tmod a1 8)) 1)) else (none)) else (none)) else (none))
set_option maxHeartbeats 8000000 in
set_option maxRecDepth 100000 in
theorem impl_bitAt.calls (a0 : ByteArray) (a1 : Int) (a2 : Bool) (r : Int) (w : World) (h : impl_bitAt.f a0 a1 a2 = some r) :
    Calls Try.prog 77 #[.string a0, .int .i64 a1, .bool a2] w fun e w' => e = .returned (.int .i64 r) ∧ Drawn0 w w' := by
  have H : (if a2 = true then (if 0 ≤ (wrap64 (Int.tdiv a1 8)) then (if (wrap64 (Int.tdiv a1 8)) < (a0.size : Int) then (if 0 ≤ (wrap64 (7 - (Int.tmod a1 8))) then (some (Go.bits .and .i64 (shr .i64 (wrap64 (bt a0 (wrap64 (Int.tdiv a1 8)))) (wrap64 (7 - (Int.tmod a1 8)))) 1)) else (none)) else (none)) else (none)) else (if 0 ≤ (wrap64 (Int.tdiv a1 8)) then (if (wrap64 (Int.tdiv a1 8)) < (a0.size : Int) then (if 0 ≤ (Int.tmod a1 8) then (some (Go.bits .and .i64 (shr .i64 (wrap64 (bt a0 (wrap64 (Int.tdiv a1 8)))) (Int.tmod a1 8)) 1)) else (none)) else (none)) else (none))) = some r := h
  clear h
  by_cases c4 : a2 = true
  · subst c4
    have H1 : (if 0 ≤ (wrap64 (Int.tdiv a1 8)) then (if (wrap64 (Int.tdiv a1 8)) < (a0.size : Int) then (if 0 ≤ (wrap64 (7 - (Int.tmod a1 8))) then (some (Go.bits .and .i64 (shr .i64 (wrap64 (bt a0 (wrap64 (Int.tdiv a1 8)))) (wrap64 (7 - (Int.tmod a1 8)))) 1)) else (none)) else (none)) else (none)) = some r := by rw [if_pos rfl] at H; exact H
    clear H
    have H := H1
    clear H1
    obtain ⟨ji5, hji5⟩ : ∃ j_ : Int, (wrap64 (Int.tdiv a1 8)) = j_ := ⟨_, rfl⟩
    replace H : (if 0 ≤ (ji5) then (if (ji5) < (a0.size : Int) then (if 0 ≤ (wrap64 (7 - (Int.tmod a1 8))) then (some (Go.bits .and .i64 (shr .i64 (wrap64 (bt a0 (ji5))) (wrap64 (7 - (Int.tmod a1 8)))) 1)) else (none)) else (none)) else (none)) = some r := by first | (rw [hji5] at H; exact H) | (simp only [hji5] at H ⊢; exact H)
    have hji5w : (IntKind.i64.wrap (Int.tdiv a1 8)) = ji5 := (i64_w _).trans hji5
    by_cases c6 : 0 ≤ (ji5)
    · rw [if_pos c6] at H
      have c6b0 : decide (0 ≤ (ji5)) = true := decide_eq_true c6
      clear c6
      by_cases c7 : (ji5) < (a0.size : Int)
      · rw [if_pos c7] at H
        have c7b0 : decide ((ji5) < (a0.size : Int)) = true := decide_eq_true c7
        clear c7
        obtain ⟨ji9, hji9⟩ : ∃ j_ : Int, (wrap64 (7 - (Int.tmod a1 8))) = j_ := ⟨_, rfl⟩
        replace H : (if 0 ≤ (ji9) then (some (Go.bits .and .i64 (shr .i64 (wrap64 (bt a0 (ji5))) (ji9)) 1)) else (none)) = some r := by first | (rw [hji9] at H; exact H) | (simp only [hji9] at H ⊢; exact H)
        have hji9w : (IntKind.i64.wrap (7 - (Int.tmod a1 8))) = ji9 := (i64_w _).trans hji9
        by_cases c10 : 0 ≤ (ji9)
        · rw [if_pos c10] at H
          have c10b0 := eq_true c10
          have c10b1 : decide (0 ≤ (ji9)) = true := decide_eq_true c10
          clear c10
          obtain ⟨ji11, hji11⟩ : ∃ j_ : Int, (shr .i64 (wrap64 (bt a0 (ji5))) (ji9)) = j_ := ⟨_, rfl⟩
          replace H : (some (Go.bits .and .i64 (ji11) 1)) = some r := by first | (rw [hji11] at H; exact H) | (simp only [hji11] at H ⊢; exact H)
          have hji11_ : ((wrap64 (bt a0 (ji5))) / 2 ^ min (ji9).toNat 64) = ji11 := hji11
          have hji11z : (ji9) ≤ 64 → ((wrap64 (bt a0 (ji5))) / 2 ^ (ji9).toNat) = ji11 := shr_small hji11
          obtain rfl := Option.some.inj H
          have p8 : 0 ≤ ((ji5) : Int) := of_decide_eq_true (by first | (with_reducible assumption) | assumption)
          have q8 : (ji5) < (a0.size : Int) := of_decide_eq_true (by first | (with_reducible assumption) | assumption)
          have hx8 := bt_at a0 (ji5)
          replace p8 := eq_true p8
          replace q8 := eq_true q8
          go_enter Try.func77, Try.ntmps77
          go_wp2
          go_ret
          exact ⟨by first | rfl | (simp; done) | (simp only [← hji5, ← hji9, ← hji11] <;> (first | rfl | simp)) | (simp [*]; done), by repeat (first | exact Drawn0.refl _ | apply Drawn0.step)⟩
        · rw [if_neg c10] at H
          exact absurd H (by simp)
      · rw [if_neg c7] at H
        exact absurd H (by simp)
    · rw [if_neg c6] at H
      exact absurd H (by simp)
  · replace c4 := Bool.eq_false_iff.mpr c4
    subst c4
    have H1 : (if 0 ≤ (wrap64 (Int.tdiv a1 8)) then (if (wrap64 (Int.tdiv a1 8)) < (a0.size : Int) then (if 0 ≤ (Int.tmod a1 8) then (some (Go.bits .and .i64 (shr .i64 (wrap64 (bt a0 (wrap64 (Int.tdiv a1 8)))) (Int.tmod a1 8)) 1)) else (none)) else (none)) else (none)) = some r := by rw [if_neg (show ¬ (false = true) by decide)] at H; exact H
    clear H
    have H := H1
    clear H1
    obtain ⟨ji12, hji12⟩ : ∃ j_ : Int, (wrap64 (Int.tdiv a1 8)) = j_ := ⟨_, rfl⟩
    replace H : (if 0 ≤ (ji12) then (if (ji12) < (a0.size : Int) then (if 0 ≤ (Int.tmod a1 8) then (some (Go.bits .and .i64 (shr .i64 (wrap64 (bt a0 (ji12))) (Int.tmod a1 8)) 1)) else (none)) else (none)) else (none)) = some r := by first | (rw [hji12] at H; exact H) | (simp only [hji12] at H ⊢; exact H)
    have hji12w : (IntKind.i64.wrap (Int.tdiv a1 8)) = ji12 := (i64_w _).trans hji12
    by_cases c13 : 0 ≤ (ji12)
    · rw [if_pos c13] at H
      have c13b0 : decide (0 ≤ (ji12)) = true := decide_eq_true c13
      clear c13
      by_cases c14 : (ji12) < (a0.size : Int)
      · rw [if_pos c14] at H
        have c14b0 : decide ((ji12) < (a0.size : Int)) = true := decide_eq_true c14
        clear c14
        obtain ⟨ji16, hji16⟩ : ∃ j_ : Int, (Int.tmod a1 8) = j_ := ⟨_, rfl⟩
        replace H : (if 0 ≤ (ji16) then (some (Go.bits .and .i64 (shr .i64 (wrap64 (bt a0 (ji12))) (ji16)) 1)) else (none)) = some r := by first | (rw [hji16] at H; exact H) | (simp only [hji16] at H ⊢; exact H)
        by_cases c17 : 0 ≤ (ji16)
        · rw [if_pos c17] at H
          have c17b0 := eq_true c17
          have c17b1 : decide (0 ≤ (ji16)) = true := decide_eq_true c17
          clear c17
          obtain ⟨ji18, hji18⟩ : ∃ j_ : Int, (shr .i64 (wrap64 (bt a0 (ji12))) (ji16)) = j_ := ⟨_, rfl⟩
          replace H : (some (Go.bits .and .i64 (ji18) 1)) = some r := by first | (rw [hji18] at H; exact H) | (simp only [hji18] at H ⊢; exact H)
          have hji18_ : ((wrap64 (bt a0 (ji12))) / 2 ^ min (ji16).toNat 64) = ji18 := hji18
          have hji18z : (ji16) ≤ 64 → ((wrap64 (bt a0 (ji12))) / 2 ^ (ji16).toNat) = ji18 := shr_small hji18
          obtain rfl := Option.some.inj H
          have p15 : 0 ≤ ((ji12) : Int) := of_decide_eq_true (by first | (with_reducible assumption) | assumption)
          have q15 : (ji12) < (a0.size : Int) := of_decide_eq_true (by first | (with_reducible assumption) | assumption)
          have hx15 := bt_at a0 (ji12)
          replace p15 := eq_true p15
          replace q15 := eq_true q15
          go_enter Try.func77, Try.ntmps77
          go_wp2
          go_ret
          exact ⟨by first | rfl | (simp; done) | (simp only [← hji12, ← hji16, ← hji18] <;> (first | rfl | simp)) | (simp [*]; done), by repeat (first | exact Drawn0.refl _ | apply Drawn0.step)⟩
        · rw [if_neg c17] at H
          exact absurd H (by simp)
      · rw [if_neg c14] at H
        exact absurd H (by simp)
    · rw [if_neg c13] at H
      exact absurd H (by simp)

end Go.Proofs.Yteikopjhekhchaa.P
