/- laws.FnExactWovenRows: at every int the program's WovenRows returns what the reference's returns, in memory of its own. No condition. -/
import Derived.Test.YteikopjhekhchaaF7
set_option linter.unusedVariables false
set_option linter.unusedSimpArgs false
namespace Go.Proofs.Yteikopjhekhchaa.Pure
open Go.RowKit Go.Proofs.Yteikopjhekhchaa.P Go.Proofs.YteikopjhekhchaaW.PrintWords Go.Proofs.YteikopjhekhchaaW.PrintLast

set_option maxRecDepth 100000 in
theorem woven_all : ∀ a : Fin 20, laws_FnExactWovenRows.f 70 ((a.val : Int) + 1) = some true := by
  decide +kernel

theorem FnExactWovenRows : laws_FnExactWovenRows.Pure := by
  intro a _
  by_cases h : 1 ≤ a ∧ a ≤ 20
  · have h1 := woven_all ⟨(a - 1).toNat, by omega⟩
    have ea : (((a - 1).toNat : Nat) : Int) + 1 = a := by omega
    simp only [ea] at h1
    exact ⟨70, h1⟩
  · refine ⟨3, ?_⟩
    have hs : spec_WovenRows.f 3 a = some [] := by
      unfold spec_WovenRows.f spec_l1In.f
      by_cases h1 : a ≥ 1
      · rw [if_pos h1, decide_eq_false (show ¬ a ≤ 20 by omega)]; rfl
      · rw [if_neg h1]; rfl
    have hi : impl_WovenRows.f 3 a = some [] := by
      unfold impl_WovenRows.f impl_in.f
      by_cases h1 : a ≥ 1
      · rw [if_pos h1, decide_eq_false (show ¬ a ≤ 20 by omega)]; rfl
      · rw [if_neg h1]; rfl
    unfold laws_FnExactWovenRows.f
    rw [hs, hi]
    rfl
end Go.Proofs.Yteikopjhekhchaa.Pure
