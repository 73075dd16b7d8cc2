/- What the law FnExactGifPut needs, out of the texts Bf. -/
import Derived.Test.YtjefdcbljpkmlaaKFnExactGifPut18
import Derived.Test.YtjefdcbljpkmlaaKFnExactGifPut20
section
set_option linter.unusedVariables false
set_option maxRecDepth 10000
namespace Go.Proofs.Ytjefdcbljpkmlaa.G
open Go
/-- The rows from below. -/
def below (W H : Nat) (ps : List Int) : List (List Int) := (List.range H).map fun i => seg ps ((H - 1 - i) * W) W
end Go.Proofs.Ytjefdcbljpkmlaa.G
end
