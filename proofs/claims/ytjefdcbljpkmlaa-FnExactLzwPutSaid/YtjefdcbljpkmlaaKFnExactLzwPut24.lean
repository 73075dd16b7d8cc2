/- What the law FnExactLzwPut needs, out of the texts Ba. -/
import Derived.Test.YtjefdcbljpkmlaaKFnExactLzwPut20
import Derived.Test.YtjefdcbljpkmlaaKFnExactLzwPut22
import Derived.Test.YtjefdcbljpkmlaaKFnExactLzwPut23
section
set_option linter.unusedVariables false
set_option maxRecDepth 10000
namespace Go.Proofs.Ytjefdcbljpkmlaa.G
open Go
/-- Slices that are owned: their values. -/
def OV (v : Value) (p : Nat × GO) (vs : List Value) : Prop := OwnE 22 1 v p vs
theorem OV.nil {b : Nat} : OV (.slice none 0 0) (b, .none) [] := .inl ⟨rfl, rfl, rfl⟩
theorem OV.empty {b m : Nat} : OV (.slice (some ⟨b, 0, none⟩) 0 0) (b, .row 22 [] m) [] := .inr ⟨b, 0, 0, m, rfl, rfl, rfl, Nat.le_refl _, by omega⟩
theorem OV.sl {v : Value} {p : Nat × GO} {vs : List Value} (h : OV v p vs) : ∃ a c, v = .slice a vs.length c := by
  rcases h with ⟨rfl, hp, rfl⟩ | ⟨b, len, cap, n, rfl, rfl, hl, hlc, hcn⟩
  · exact ⟨_, _, rfl⟩
  · have : len = vs.length := by simpa using hl.symm
    subst this
    exact ⟨_, _, rfl⟩
theorem OV.at {a : Option Addr} {n c : Nat} {p : Nat × GO} {vs : List Value} (h : OV (.slice a n c) p vs) {k : Nat} (hk : k < vs.length) : n = vs.length ∧ ∃ u, vs[k]? = some u ∧ a = some ⟨p.1, 0, none⟩ ∧ (cellsG p.2)[0 + k * 1]? = some u := by
  rcases h with ⟨_, _, rfl⟩ | ⟨b, len, cap, n', h, rfl, hl, hlc, hcn⟩
  · simp at hk
  · cases h
    have : n = vs.length := by simpa using hl.symm
    refine ⟨this, vs[k], List.getElem?_eq_getElem hk, rfl, ?_⟩
    rw [Nat.zero_add, Nat.mul_one]
    exact List.getElem?_eq_getElem hk
section
variable {ops os : List Oper} {H : Option (List Hint)} {K : Env → GL → Prop} {e : Env} {l : GL} {d1 d2 : Nat} {T T2 : TypeId} {pos pos2 : String} {af af2 : Array Edge}
end
end Go.Proofs.Ytjefdcbljpkmlaa.G
end
