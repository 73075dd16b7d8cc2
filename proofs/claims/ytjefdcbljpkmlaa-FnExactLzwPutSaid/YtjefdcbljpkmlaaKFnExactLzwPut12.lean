/- What the law FnExactLzwPut needs, out of the texts Wb. -/
import Derived.Test.YtjefdcbljpkmlaaKFnExactLzwPut10
import Derived.Test.YtjefdcbljpkmlaaKFnExactLzwPut11
section
set_option linter.unusedVariables false
namespace Go.Proofs.Ytjefdcbljpkmlaa.G
open Go
/-- What depths a kind may have. -/
def dOk (k d : Int) : Prop := (k = 1 ∨ k = 4) ∧ (d = 1 ∨ d = 2 ∨ d = 4 ∨ d = 8) ∨ k = 2 ∧ d = 24 ∨ k = 3 ∧ d = 32
instance (k d : Int) : Decidable (dOk k d) := by unfold dOk; infer_instance
end Go.Proofs.Ytjefdcbljpkmlaa.G
end
