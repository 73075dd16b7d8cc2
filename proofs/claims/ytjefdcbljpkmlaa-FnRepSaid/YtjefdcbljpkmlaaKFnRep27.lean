/- What the law FnRep needs, out of the texts Mh. -/
import Derived.Test.YtjefdcbljpkmlaaKFnRep20
import Derived.Test.YtjefdcbljpkmlaaKFnRep26
section
set_option linter.unusedVariables false
namespace Go.Proofs.Ytjefdcbljpkmlaa.G
open Go
def bytesV (l : List Int) : List Value := l.map (Value.int .u8)
section
variable {ops os : List Oper} {H : Option (List Hint)} {K : Env → GL → Prop} {e : Env} {l : GL} {d : Nat} {T : TypeId} {pos : String} {af : Array Edge}
end
end Go.Proofs.Ytjefdcbljpkmlaa.G
end
