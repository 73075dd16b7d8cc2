/- spec: l11List. -/
import Derived.Test.YtjefdcbljpkmlaaWn
set_option linter.unusedVariables false
set_option maxRecDepth 10000
namespace Go.Proofs.Ytjefdcbljpkmlaa.G
open Go
/-- The points of a TGA from a place on; they are packed or not. -/
def ptsAt (s : ByteArray) (z n p : Nat) (packed : Bool) : Option (List Int) :=
  if packed = true then (match runL s z n n [] p with
    | some (l, a) => if a = s.size then some l else none
    | none => none) else if p + n * z = s.size then some (nums s z p n) else none
def ListOut (R : Option (List Int)) : OutT := fun v F' ns => F' = [] ∧ ∃ w p l ok, v = .tuple #[w, .bool ok] ∧ ns = [p] ∧ OI w p l ∧ (ok = true → R = some l) ∧ (ok = false → R = none)
end Go.Proofs.Ytjefdcbljpkmlaa.G
