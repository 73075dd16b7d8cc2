-- Written by a program of this session (wip/myprint.py) through the print of the kit: not trusted, Lean checks it.
import Derived.Test.YtjcamejbdcaokaaF00
import Derived.Test.YtjcamejbdcaokaaF127
namespace Go.Proofs.Ytjcamejbdcaokaa.P
open Go.RowKit Go.Proofs.YtjcamejbdcaokaaW.PrintWords Go.Proofs.YtjcamejbdcaokaaW.PrintLast Go.Proofs.YtjcamejbdcaokaaW.PrintMore
attribute [local go_sem] max2_int min2_int max_two min_two max_three min_three max_four min_four   -- for this text's walks alone
set_option linter.unusedVariables false
set_option linter.unusedSimpArgs false

/-! ### spec_l1Bit: function 191 -/
def spec_l1Bit.f (k : Nat) (a0 : ByteArray) (a1 : Int) (a2 : Bool) : Option (Int) := if a2 = true then (if 0 ≤ (wrap64 (Int.tdiv a1 8)) then (if (wrap64 (Int.tdiv a1 8)) < (a0.size : Int) then ((spec_l1Pow.f k (wrap64 (7 - (Int.tmod a1 8)))).bind fun t777 => (if t777 = 0 then (none) else (some (Int.tmod (wrap64 (Int.tdiv (wrap64 (bt a0 (wrap64 (Int.tdiv a1 8)))) t777)) 2)))) else (none)) else (none)) else (if 0 ≤ (wrap64 (Int.tdiv a1 8)) then (if (wrap64 (Int.tdiv a1 8)) < (a0.size : Int) then ((spec_l1Pow.f k (Int.tmod a1 8)).bind fun t778 => (if t778 = 0 then (none) else (some (Int.tmod (wrap64 (Int.tdiv (wrap64 (bt a0 (wrap64 (Int.tdiv a1 8)))) t778)) 2)))) else (none)) else (none))
theorem spec_l1Bit.mono : ∀ a0 a1 a2 k, LeO (spec_l1Bit.f k a0 a1 a2) (spec_l1Bit.f (k + 1) a0 a1 a2) := by
  intro a0 a1 a2 k
  unfold spec_l1Bit.f
  repeat' first
      | (with_reducible exact spec_l1Pow.mono _ _)
      | (with_reducible exact LeO.refl _)
      | (with_reducible exact LeO.none _)
      | (with_reducible refine LeO.ite ?_ ?_)
      | (with_reducible refine LeO.bind ?_ (fun _ => ?_))
      | exact spec_l1Pow.mono _ _
      | exact LeO.none _
      | refine LeO.ite ?_ ?_
      | refine LeO.bind ?_ (fun _ => ?_)
set_option maxHeartbeats 8000000 in
set_option maxRecDepth 100000 in
theorem spec_l1Bit.calls (k : Nat) (a0 : ByteArray) (a1 : Int) (a2 : Bool) (r : Int) (w : World) (h : spec_l1Bit.f k a0 a1 a2 = some r) :
    Calls Try.prog 191 #[.string a0, .int .i64 a1, .bool a2] w fun e w' => e = .returned (.int .i64 r) ∧ Drawn0 w w' := by
  have H : (if a2 = true then (if 0 ≤ (wrap64 (Int.tdiv a1 8)) then (if (wrap64 (Int.tdiv a1 8)) < (a0.size : Int) then ((spec_l1Pow.f k (wrap64 (7 - (Int.tmod a1 8)))).bind fun t777 => (if t777 = 0 then (none) else (some (Int.tmod (wrap64 (Int.tdiv (wrap64 (bt a0 (wrap64 (Int.tdiv a1 8)))) t777)) 2)))) else (none)) else (none)) else (if 0 ≤ (wrap64 (Int.tdiv a1 8)) then (if (wrap64 (Int.tdiv a1 8)) < (a0.size : Int) then ((spec_l1Pow.f k (Int.tmod a1 8)).bind fun t778 => (if t778 = 0 then (none) else (some (Int.tmod (wrap64 (Int.tdiv (wrap64 (bt a0 (wrap64 (Int.tdiv a1 8)))) t778)) 2)))) else (none)) else (none))) = some r := h
  clear h
  by_cases c4 : a2 = true
  · subst c4
    have H1 : (if 0 ≤ (wrap64 (Int.tdiv a1 8)) then (if (wrap64 (Int.tdiv a1 8)) < (a0.size : Int) then ((spec_l1Pow.f k (wrap64 (7 - (Int.tmod a1 8)))).bind fun t777 => (if t777 = 0 then (none) else (some (Int.tmod (wrap64 (Int.tdiv (wrap64 (bt a0 (wrap64 (Int.tdiv a1 8)))) t777)) 2)))) else (none)) else (none)) = some r := by rw [if_pos rfl] at H; exact H
    clear H
    have H := H1
    clear H1
    obtain ⟨ji5, hji5⟩ : ∃ j_ : Int, (wrap64 (Int.tdiv a1 8)) = j_ := ⟨_, rfl⟩
    replace H : (if 0 ≤ (ji5) then (if (ji5) < (a0.size : Int) then ((spec_l1Pow.f k (wrap64 (7 - (Int.tmod a1 8)))).bind fun t777 => (if t777 = 0 then (none) else (some (Int.tmod (wrap64 (Int.tdiv (wrap64 (bt a0 (ji5))) t777)) 2)))) else (none)) else (none)) = some r := by first | (rw [hji5] at H; exact H) | (simp only [hji5] at H ⊢; exact H)
    have hji5w : (IntKind.i64.wrap (Int.tdiv a1 8)) = ji5 := (i64_w _).trans hji5
    by_cases c6 : 0 ≤ (ji5)
    · rw [if_pos c6] at H
      have c6b0 : decide (0 ≤ (ji5)) = true := decide_eq_true c6
      clear c6
      by_cases c7 : (ji5) < (a0.size : Int)
      · rw [if_pos c7] at H
        have c7b0 : decide ((ji5) < (a0.size : Int)) = true := decide_eq_true c7
        clear c7
        replace H := Option.bind_eq_some_iff.mp H
        obtain ⟨t777, A90, H⟩ := H
        replace H : (if t777 = 0 then (none) else (some (Int.tmod (wrap64 (Int.tdiv (wrap64 (bt a0 (ji5))) t777)) 2))) = some r := H
        have A9 := Aside0.mk A90
        clear A90
        by_cases c10 : t777 = 0
        · rw [if_pos c10] at H
          exact absurd H (by simp)
        · rw [if_neg c10] at H
          have c10b0 : (t777 == 0) = false := beq_eq_false_iff_ne.mpr c10
          have c10b1 : (t777 != 0) = true := bne_iff_ne.mpr c10
          obtain rfl := Option.some.inj H
          have p8 : 0 ≤ ((ji5) : Int) := of_decide_eq_true (by first | (with_reducible assumption) | assumption)
          have q8 : (ji5) < (a0.size : Int) := of_decide_eq_true (by first | (with_reducible assumption) | assumption)
          have hx8 := bt_at a0 (ji5)
          replace p8 := eq_true p8
          replace q8 := eq_true q8
          go_enter Try.func191, Try.ntmps191
          go_wp2_with (first | (go_at_call 127; (with_reducible refine (spec_l1Pow.calls k (wrap64 (7 - (Int.tmod a1 8))) t777 _ A9.out).mono ?_); rintro e w' ⟨rfl, ⟨nd, rfl⟩⟩; (try first | exact ⟨rfl, _, World.drewN_drewN _ _ _⟩ | exact ⟨rfl, _, Eq.trans (World.drewN_drewN _ _ _) (congrArg (World.drewN _) (Nat.add_assoc _ _ _))⟩)))
          repeat (go_quiet (first | (go_at_call 127; (with_reducible refine (spec_l1Pow.calls k (wrap64 (7 - (Int.tmod a1 8))) t777 _ A9.out).mono ?_); rintro e w' ⟨rfl, ⟨nd, rfl⟩⟩; (try first | exact ⟨rfl, _, World.drewN_drewN _ _ _⟩ | exact ⟨rfl, _, Eq.trans (World.drewN_drewN _ _ _) (congrArg (World.drewN _) (Nat.add_assoc _ _ _))⟩))); try go_wp2_with (first | (go_at_call 127; (with_reducible refine (spec_l1Pow.calls k (wrap64 (7 - (Int.tmod a1 8))) t777 _ A9.out).mono ?_); rintro e w' ⟨rfl, ⟨nd, rfl⟩⟩; (try first | exact ⟨rfl, _, World.drewN_drewN _ _ _⟩ | exact ⟨rfl, _, Eq.trans (World.drewN_drewN _ _ _) (congrArg (World.drewN _) (Nat.add_assoc _ _ _))⟩))))
          go_ret
          exact ⟨by first | rfl | (simp; done) | (simp only [← hji5] <;> (first | rfl | simp)) | (simp [*]; done), by repeat (first | exact Drawn0.refl _ | apply Drawn0.step)⟩
      · rw [if_neg c7] at H
        exact absurd H (by simp)
    · rw [if_neg c6] at H
      exact absurd H (by simp)
  · replace c4 := Bool.eq_false_iff.mpr c4
    subst c4
    have H1 : (if 0 ≤ (wrap64 (Int.tdiv a1 8)) then (if (wrap64 (Int.tdiv a1 8)) < (a0.size : Int) then ((spec_l1Pow.f k (Int.tmod a1 8)).bind fun t778 => (if t778 = 0 then (none) else (some (Int.tmod (wrap64 (Int.tdiv (wrap64 (bt a0 (wrap64 (Int.tdiv a1 8)))) t778)) 2)))) else (none)) else (none)) = some r := by rw [if_neg (show ¬ (false = true) by decide)] at H; exact H
    clear H
    have H := H1
    clear H1
    obtain ⟨ji11, hji11⟩ : ∃ j_ : Int, (wrap64 (Int.tdiv a1 8)) = j_ := ⟨_, rfl⟩
    replace H : (if 0 ≤ (ji11) then (if (ji11) < (a0.size : Int) then ((spec_l1Pow.f k (Int.tmod a1 8)).bind fun t778 => (if t778 = 0 then (none) else (some (Int.tmod (wrap64 (Int.tdiv (wrap64 (bt a0 (ji11))) t778)) 2)))) else (none)) else (none)) = some r := by first | (rw [hji11] at H; exact H) | (simp only [hji11] at H ⊢; exact H)
    have hji11w : (IntKind.i64.wrap (Int.tdiv a1 8)) = ji11 := (i64_w _).trans hji11
    by_cases c12 : 0 ≤ (ji11)
    · rw [if_pos c12] at H
      have c12b0 : decide (0 ≤ (ji11)) = true := decide_eq_true c12
      clear c12
      by_cases c13 : (ji11) < (a0.size : Int)
      · rw [if_pos c13] at H
        have c13b0 : decide ((ji11) < (a0.size : Int)) = true := decide_eq_true c13
        clear c13
        replace H := Option.bind_eq_some_iff.mp H
        obtain ⟨t778, A150, H⟩ := H
        replace H : (if t778 = 0 then (none) else (some (Int.tmod (wrap64 (Int.tdiv (wrap64 (bt a0 (ji11))) t778)) 2))) = some r := H
        have A15 := Aside0.mk A150
        clear A150
        by_cases c16 : t778 = 0
        · rw [if_pos c16] at H
          exact absurd H (by simp)
        · rw [if_neg c16] at H
          have c16b0 : (t778 == 0) = false := beq_eq_false_iff_ne.mpr c16
          have c16b1 : (t778 != 0) = true := bne_iff_ne.mpr c16
          obtain rfl := Option.some.inj H
          have p14 : 0 ≤ ((ji11) : Int) := of_decide_eq_true (by first | (with_reducible assumption) | assumption)
          have q14 : (ji11) < (a0.size : Int) := of_decide_eq_true (by first | (with_reducible assumption) | assumption)
          have hx14 := bt_at a0 (ji11)
          replace p14 := eq_true p14
          replace q14 := eq_true q14
          go_enter Try.func191, Try.ntmps191
          go_wp2_with (first | (go_at_call 127; (with_reducible refine (spec_l1Pow.calls k (Int.tmod a1 8) t778 _ A15.out).mono ?_); rintro e w' ⟨rfl, ⟨nd, rfl⟩⟩; (try first | exact ⟨rfl, _, World.drewN_drewN _ _ _⟩ | exact ⟨rfl, _, Eq.trans (World.drewN_drewN _ _ _) (congrArg (World.drewN _) (Nat.add_assoc _ _ _))⟩)))
          repeat (go_quiet (first | (go_at_call 127; (with_reducible refine (spec_l1Pow.calls k (Int.tmod a1 8) t778 _ A15.out).mono ?_); rintro e w' ⟨rfl, ⟨nd, rfl⟩⟩; (try first | exact ⟨rfl, _, World.drewN_drewN _ _ _⟩ | exact ⟨rfl, _, Eq.trans (World.drewN_drewN _ _ _) (congrArg (World.drewN _) (Nat.add_assoc _ _ _))⟩))); try go_wp2_with (first | (go_at_call 127; (with_reducible refine (spec_l1Pow.calls k (Int.tmod a1 8) t778 _ A15.out).mono ?_); rintro e w' ⟨rfl, ⟨nd, rfl⟩⟩; (try first | exact ⟨rfl, _, World.drewN_drewN _ _ _⟩ | exact ⟨rfl, _, Eq.trans (World.drewN_drewN _ _ _) (congrArg (World.drewN _) (Nat.add_assoc _ _ _))⟩))))
          go_ret
          exact ⟨by first | rfl | (simp; done) | (simp only [← hji11] <;> (first | rfl | simp)) | (simp [*]; done), by repeat (first | exact Drawn0.refl _ | apply Drawn0.step)⟩
      · rw [if_neg c13] at H
        exact absurd H (by simp)
    · rw [if_neg c12] at H
      exact absurd H (by simp)

end Go.Proofs.Ytjcamejbdcaokaa.P
