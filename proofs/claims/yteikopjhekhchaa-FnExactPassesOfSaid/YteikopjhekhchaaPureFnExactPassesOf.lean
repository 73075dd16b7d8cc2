/- laws.FnExactPassesOf: at every two ints the program's PassesOf returns what the reference's returns, in memory of its own. No condition. -/
import Derived.Test.YteikopjhekhchaaF9
namespace Go.Proofs.Yteikopjhekhchaa.Pure
open Go.RowKit Go.Proofs.Yteikopjhekhchaa.P Go.Proofs.YteikopjhekhchaaW.PrintWords Go.Proofs.YteikopjhekhchaaW.PrintLast

set_option maxRecDepth 100000 in
theorem passes_all : ∀ a b : Fin 20, laws_FnExactPassesOf.f 12 ((a.val : Int) + 1) ((b.val : Int) + 1) = some true := by
  decide +kernel

theorem FnExactPassesOf : laws_FnExactPassesOf.Pure := by
  intro a b _ _
  by_cases h : 1 ≤ a ∧ a ≤ 20 ∧ 1 ≤ b ∧ b ≤ 20
  · have h1 := passes_all ⟨(a - 1).toNat, by omega⟩ ⟨(b - 1).toNat, by omega⟩
    have ea : (((a - 1).toNat : Nat) : Int) + 1 = a := by omega
    have eb : (((b - 1).toNat : Nat) : Int) + 1 = b := by omega
    simp only [ea, eb] at h1
    exact ⟨12, h1⟩
  · refine ⟨3, ?_⟩
    have hs : spec_PassesOf.f 3 a b = some [] := by
      unfold spec_PassesOf.f spec_l1In.f
      by_cases h1 : a ≥ 1
      · rw [if_pos h1]
        by_cases h2 : a ≤ 20
        · rw [decide_eq_true h2]
          simp only [Option.bind_some, if_true]
          by_cases h3 : b ≥ 1
          · rw [if_pos h3, decide_eq_false (show ¬ b ≤ 20 by omega)]; rfl
          · rw [if_neg h3]; rfl
        · rw [decide_eq_false h2]; rfl
      · rw [if_neg h1]; rfl
    have hi : impl_PassesOf.f 3 a b = some [] := by
      unfold impl_PassesOf.f impl_in.f
      by_cases h1 : a ≥ 1
      · rw [if_pos h1]
        by_cases h2 : a ≤ 20
        · rw [decide_eq_true h2]
          simp only [Option.bind_some, if_true]
          by_cases h3 : b ≥ 1
          · rw [if_pos h3, decide_eq_false (show ¬ b ≤ 20 by omega)]; rfl
          · rw [if_neg h3]; rfl
        · rw [decide_eq_false h2]; rfl
      · rw [if_neg h1]; rfl
    unfold laws_FnExactPassesOf.f
    rw [hs, hi]
    rfl

end Go.Proofs.Yteikopjhekhchaa.Pure
