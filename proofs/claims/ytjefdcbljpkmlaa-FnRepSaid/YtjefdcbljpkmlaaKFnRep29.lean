/- What the law FnRep needs, out of the texts Mi Mg. -/
import Derived.Test.YtjefdcbljpkmlaaKFnRep22
import Derived.Test.YtjefdcbljpkmlaaKFnRep23
import Derived.Test.YtjefdcbljpkmlaaKFnRep28
section
set_option linter.unusedVariables false
namespace Go.Proofs.Ytjefdcbljpkmlaa.G
open Go
theorem LS.row {b n c m : Nat} {t : TypeId} {zs : List Int} (hn : n = zs.length) (hc : n ≤ c) : LS (some ⟨b, 0, none⟩) n c (b, .row t (ints zs) m) zs := by
  subst hn
  exact ⟨rfl, hc, .inr ⟨0, rfl, by simp [cellsG, ints], by simp [cellsG]; rw [List.take_of_length_le (by simp [ints])]⟩⟩
end Go.Proofs.Ytjefdcbljpkmlaa.G
end

section
set_option linter.unusedVariables false
namespace Go.Proofs.Ytjefdcbljpkmlaa.G
open Go
theorem tT_eq (k d : Int) : (k = 4 ∧ d = 8 ∧ tT k d = 1) ∨ ((k = 2 ∨ k = 3) ∧ tT k d = 2) ∨ (k = 1 ∧ d = 8 ∧ tT k d = 3) ∨ (¬ (k = 4 ∧ d = 8) ∧ k ≠ 2 ∧ k ≠ 3 ∧ ¬ (k = 1 ∧ d = 8) ∧ tT k d = 0) := by
  unfold tT
  by_cases h1 : k = 4 ∧ d = 8
  · exact .inl ⟨h1.1, h1.2, if_pos h1⟩
  · by_cases h2 : k = 2 ∨ k = 3
    · exact .inr (.inl ⟨h2, by rw [if_neg h1, if_pos h2]⟩)
    · by_cases h3 : k = 1 ∧ d = 8
      · exact .inr (.inr (.inl ⟨h3.1, h3.2, by rw [if_neg h1, if_neg h2, if_pos h3]⟩))
      · exact .inr (.inr (.inr ⟨h1, fun h => h2 (.inl h), fun h => h2 (.inr h), h3, by rw [if_neg h1, if_neg h2, if_neg h3]⟩))
end Go.Proofs.Ytjefdcbljpkmlaa.G
end
