/- What the law FnExactLzwPut needs, out of the texts Mi. -/
import Derived.Test.YtjefdcbljpkmlaaKFnExactLzwPut11
import Derived.Test.YtjefdcbljpkmlaaKFnExactLzwPut14
import Derived.Test.YtjefdcbljpkmlaaKFnExactLzwPut18
section
set_option linter.unusedVariables false
namespace Go.Proofs.Ytjefdcbljpkmlaa.G
open Go
theorem LS.row {b n c m : Nat} {t : TypeId} {zs : List Int} (hn : n = zs.length) (hc : n ≤ c) : LS (some ⟨b, 0, none⟩) n c (b, .row t (ints zs) m) zs := by
  subst hn
  exact ⟨rfl, hc, .inr ⟨0, rfl, by simp [cellsG, ints], by simp [cellsG]; rw [List.take_of_length_le (by simp [ints])]⟩⟩
end Go.Proofs.Ytjefdcbljpkmlaa.G
end
