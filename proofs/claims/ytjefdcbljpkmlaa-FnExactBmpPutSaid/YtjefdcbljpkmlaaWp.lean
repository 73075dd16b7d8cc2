/- spec: l11Head. -/
import Derived.Test.YtjefdcbljpkmlaaWo
set_option linter.unusedVariables false
set_option maxRecDepth 10000
namespace Go.Proofs.Ytjefdcbljpkmlaa.G
open Go
/-- What the specification says of a head: the kind it tells, and whether all is well. -/
def sKind (s : ByteArray) : Int := if byt s 2 % 8 = 1 then 4 else if byt s 2 % 8 = 2 then (if byt s 16 = 32 then 3 else 2) else 1
def sWant (s : ByteArray) : Int := if byt s 2 % 8 = 2 ∧ byt s 16 = 32 then 8 else 0
def sCols (s : ByteArray) : Prop := byt s 2 % 8 = 1 ∧ byt s 1 = 1 ∧ byt s 7 = 24 ∧ (1 ≤ fld s 5 2 false 2 ∧ fld s 5 2 false 2 ≤ 256) ∨ byt s 2 % 8 ≠ 1 ∧ byt s 1 = 0 ∧ fld s 5 2 false 2 = 0 ∧ byt s 7 = 0
def sRest (s : ByteArray) : Prop := (1 ≤ byt s 2 % 8 ∧ byt s 2 % 8 ≤ 3) ∧ (byt s 2 < 4 ∨ 8 < byt s 2 ∧ byt s 2 < 12) ∧ fld s 3 2 false 2 = 0 ∧ fld s 8 4 false 4 = 0 ∧ (byt s 17 = sWant s ∨ byt s 17 = sWant s + 32)
def sOk (s : ByteArray) : Prop := sCols s ∧ sRest s ∧ dOk (sKind s) (byt s 16) ∧ 8 ≤ byt s 16 ∧ (1 ≤ fld s 12 2 false 2 ∧ fld s 12 2 false 2 ≤ 20) ∧ (1 ≤ fld s 14 2 false 2 ∧ fld s 14 2 false 2 ≤ 20)
def HeadOut2 (s : ByteArray) : OutT := fun v F' ns => F' = [] ∧ ns = [] ∧ ∃ ok, v = .tuple #[img (sKind s) (byt s 16) (fld s 12 2 false 2) (fld s 14 2 false 2) (.slice none 0 0) (.slice none 0 0), .bool ok] ∧ (ok = true ↔ sOk s)
end Go.Proofs.Ytjefdcbljpkmlaa.G
