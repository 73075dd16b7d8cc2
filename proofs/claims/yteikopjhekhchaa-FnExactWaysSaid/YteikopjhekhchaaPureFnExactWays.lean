/- laws.FnExactWays: at every int the program's Ways returns what the reference's returns. No condition. -/
import Derived.Test.YteikopjhekhchaaPFnExactWaysx1
namespace Go.Proofs.Yteikopjhekhchaa.Pure
open Go.RowKit Go.Proofs.Yteikopjhekhchaa.PFnExactWays Go.Proofs.YteikopjhekhchaaW.PrintWords Go.Proofs.YteikopjhekhchaaW.PrintLast

theorem FnExactWays : laws_FnExactWays.Pure := by
  intro a0 _
  unfold laws_FnExactWays.f spec_Ways.f impl_Ways.f impl_in.f
  by_cases h1 : a0 = 1
  · subst h1; rfl
  by_cases h2 : a0 = 2
  · subst h2; rfl
  by_cases h3 : a0 = 3
  · subst h3; rfl
  by_cases h4 : a0 = 4
  · subst h4; rfl
  by_cases h5 : a0 = 5
  · subst h5; rfl
  rw [if_neg h1, if_neg h2, if_neg h3, if_neg h4, if_neg h5, if_neg h1]
  by_cases hg : a0 ≥ 2
  · have hn : decide (a0 ≤ 5) = false := decide_eq_false (by omega)
    rw [if_pos hg, hn]; rfl
  · rw [if_neg hg]; rfl

end Go.Proofs.Yteikopjhekhchaa.Pure
