/- What the law FnExactLzwPut needs, out of the texts Bd. -/
import Derived.Test.YtjefdcbljpkmlaaKFnExactLzwPut25
import Derived.Test.YtjefdcbljpkmlaaKFnExactLzwPut26
section
set_option linter.unusedVariables false
set_option maxRecDepth 10000
namespace Go.Proofs.Ytjefdcbljpkmlaa.G
open Go
theorem OB.nil {b : Nat} : OB (.slice none 0 0) (b, .none) [] := .inl ⟨rfl, rfl, rfl⟩
theorem OB.sl {v : Value} {p : Nat × GO} {zs : List Int} (h : OB v p zs) : ∃ a c, v = .slice a zs.length c := by
  rcases h with ⟨rfl, hp, hz⟩ | ⟨b, len, cap, n, rfl, rfl, hl, hlc, hcn⟩
  · have : zs = [] := by simpa [bytesV] using hz
    subst this
    exact ⟨_, _, rfl⟩
  · have : len = zs.length := by simpa [bytesV] using hl.symm
    subst this
    exact ⟨_, _, rfl⟩
section
variable {ops os : List Oper} {H : Option (List Hint)} {K : Env → GL → Prop} {e : Env} {l : GL} {d1 d2 : Nat} {T T2 : TypeId} {pos pos2 : String} {af af2 : Array Edge}
end
end Go.Proofs.Ytjefdcbljpkmlaa.G
end
