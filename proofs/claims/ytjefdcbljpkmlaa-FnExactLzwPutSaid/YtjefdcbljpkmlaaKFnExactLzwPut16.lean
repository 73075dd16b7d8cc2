/- What the law FnExactLzwPut needs, out of the texts Md. -/
import Derived.Test.YtjefdcbljpkmlaaKFnExactLzwPut13
section
set_option linter.unusedVariables false
set_option linter.unusedSimpArgs false
namespace Go.Proofs.Ytjefdcbljpkmlaa.G
open Go
section
variable {ops os : List Oper} {H : Option (List Hint)} {K : Env → GL → Prop} {e : Env} {l : GL} {d1 d2 : Nat} {T T2 : TypeId} {pos pos2 : String} {af af2 : Array Edge}
end
/-- So many numbers, each so many times. -/
def many (s : ByteArray) (z a times j : Nat) : List Int := (List.range j).flatMap fun i => List.replicate times (fld s (a + i * z) z false z)
end Go.Proofs.Ytjefdcbljpkmlaa.G
end
