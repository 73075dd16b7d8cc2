/- What the law FnExactLzwPut needs, out of the texts Bc. -/
import Derived.Test.YtjefdcbljpkmlaaKFnExactLzwPut24
section
set_option linter.unusedVariables false
set_option maxRecDepth 10000
namespace Go.Proofs.Ytjefdcbljpkmlaa.G
open Go
theorem LS.cap {b o n c : Nat} {q : Nat × GO} {zs : List Int} (h : LS (some ⟨b, o, none⟩) n c q zs) : n = zs.length ∧ zs.length ≤ c ∧ b = q.1 := by
  obtain ⟨h1, h2, ⟨h3, _⟩ | ⟨o', h3, _⟩⟩ := h
  · cases h3
  · cases h3
    exact ⟨h1, by omega, rfl⟩
end Go.Proofs.Ytjefdcbljpkmlaa.G
end
