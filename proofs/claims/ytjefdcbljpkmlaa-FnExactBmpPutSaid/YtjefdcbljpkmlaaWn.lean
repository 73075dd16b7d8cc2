/- spec: l11List, l8Blank. -/
import Derived.Test.YtjefdcbljpkmlaaWl
import Derived.Test.YtjefdcbljpkmlaaWm
set_option linter.unusedVariables false
set_option maxRecDepth 10000
namespace Go.Proofs.Ytjefdcbljpkmlaa.G
open Go
theorem row_eq {ps : List Int} {A W : Nat} (h : A * W + W ≤ ps.length) : (ps.drop (A * W)).take W = (List.range W).map fun x => ps.getD (A * W + x) 0 := by
  apply List.ext_getElem?
  intro i
  by_cases hi : i < W
  · rw [List.getElem?_take_of_lt hi, List.getElem?_drop, List.getElem?_map, List.getElem?_range hi]
    simp [List.getD, List.getElem?_eq_getElem (show A * W + i < ps.length by omega)]
  · rw [List.getElem?_eq_none (by simp; omega), List.getElem?_eq_none (by simp; omega)]
end Go.Proofs.Ytjefdcbljpkmlaa.G
