/- What the law FnExactGifPut needs, out of the texts Mk. -/
import Derived.Test.YtjefdcbljpkmlaaKFnExactGifPut16
import Derived.Test.YtjefdcbljpkmlaaKFnExactGifPut18
import Derived.Test.YtjefdcbljpkmlaaKFnExactGifPut19
section
set_option linter.unusedVariables false
namespace Go.Proofs.Ytjefdcbljpkmlaa.G
open Go
/-- Bytes all of them. -/
def byts (l : List Int) : Prop := ∀ x ∈ l, 0 ≤ x ∧ x ≤ 255
theorem byts_app {a b : List Int} (ha : byts a) (hb : byts b) : byts (a ++ b) := fun x hx => (List.mem_append.1 hx).elim (ha x) (hb x)
theorem byt_txt {l : List Int} (h : byts l) (i : Nat) : byt (txt l) i = l.getD i 0 := by
  unfold byt txt
  rw [strOfNums_data]
  by_cases hi : i < l.length
  · have hx := h (l[i]) (List.getElem_mem hi)
    simp only [List.getD_eq_getElem?_getD, List.getElem?_map, List.getElem?_eq_getElem hi, Option.map_some, Option.getD_some]
    simp only [UInt8.toNat_ofNat']
    omega
  · simp only [List.getD_eq_getElem?_getD, List.getElem?_map, List.getElem?_eq_none (show l.length ≤ i by omega), Option.map_none, Option.getD_none]
    rfl
end Go.Proofs.Ytjefdcbljpkmlaa.G
end
