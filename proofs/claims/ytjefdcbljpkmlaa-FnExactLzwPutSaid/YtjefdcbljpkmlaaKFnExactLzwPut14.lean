/- What the law FnExactLzwPut needs, out of the texts Wf. -/
import Derived.Test.YtjefdcbljpkmlaaKFnExactLzwPut11
import Derived.Test.YtjefdcbljpkmlaaKFnExactLzwPut12
import Derived.Test.YtjefdcbljpkmlaaKFnExactLzwPut13
section
set_option linter.unusedVariables false
set_option maxRecDepth 8000
namespace Go.Proofs.Ytjefdcbljpkmlaa.G
open Go
def tT (k d : Int) : Int := if k = 4 ∧ d = 8 then 1 else if k = 2 ∨ k = 3 then 2 else if k = 1 ∧ d = 8 then 3 else 0
def tK (n d : Int) : Int := if n = 1 then 4 else if n = 2 then (if d = 24 then 2 else 3) else if n = 3 then 1 else 0
end Go.Proofs.Ytjefdcbljpkmlaa.G
end
