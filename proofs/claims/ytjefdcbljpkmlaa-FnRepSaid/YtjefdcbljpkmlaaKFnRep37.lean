/- What the law FnRep needs, out of the texts Bh. -/
import Derived.Test.YtjefdcbljpkmlaaKFnRep21
section
set_option linter.unusedVariables false
set_option maxRecDepth 10000
namespace Go.Proofs.Ytjefdcbljpkmlaa.G
open Go
/-- A slice that may be empty anywhere. -/
def LZ (a : Option Addr) (n c : Nat) (q : Nat × GO) (zs : List Int) : Prop :=
  n = zs.length ∧ n ≤ c ∧ (zs = [] ∨ ∃ o, a = some ⟨q.1, o, none⟩ ∧ o + zs.length ≤ (cellsG q.2).length ∧ ((cellsG q.2).drop o).take zs.length = ints zs)
theorem LZ.at {a : Option Addr} {n c : Nat} {q : Nat × GO} {zs : List Int} (h : LZ a n c q zs) {k : Nat} (hk : k < zs.length) : ∃ o, a = some ⟨q.1, o, none⟩ ∧ (cellsG q.2)[o + k * 1]? = some (.int .i64 (zs.getD k 0)) := by
  obtain ⟨h1, h2, rfl | h3⟩ := h
  · simp at hk
  · exact LS.at (n := n) (c := c) ⟨h1, h2, .inr h3⟩ hk
end Go.Proofs.Ytjefdcbljpkmlaa.G
end
