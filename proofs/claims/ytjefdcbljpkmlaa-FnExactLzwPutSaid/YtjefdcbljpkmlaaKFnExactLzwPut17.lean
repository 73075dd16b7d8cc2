/- What the law FnExactLzwPut needs, out of the texts Mf. -/
import Derived.Test.YtjefdcbljpkmlaaKFnExactLzwPut11
import Derived.Test.YtjefdcbljpkmlaaKFnExactLzwPut12
import Derived.Test.YtjefdcbljpkmlaaKFnExactLzwPut15
import Derived.Test.YtjefdcbljpkmlaaKFnExactLzwPut16
section
set_option linter.unusedVariables false
namespace Go.Proofs.Ytjefdcbljpkmlaa.G
open Go
theorem OI.empty {b m : Nat} : OI (.slice (some ⟨b, 0, none⟩) 0 0) (b, .row 3 [] m) [] := .inr ⟨b, 0, 0, m, rfl, rfl, rfl, Nat.le_refl _, by omega⟩
theorem put_ints {l : List Int} {i : Nat} {x : Int} (hi : i < l.length) : put (ints l) i [.int .i64 x] = ints (l.set i x) := by
  unfold put
  rw [List.set_eq_take_append_cons_drop, if_pos hi]
  simp [ints, List.map_take, List.map_drop]
/-- A number in a list that is owned is set anew. -/
theorem OI.set {a : Option Addr} {n c : Nat} {p : Nat × GO} {l : List Int} (h : OI (.slice a n c) p l) {i : Nat} (hi : i < l.length) : ∃ b m, a = some ⟨b, 0, none⟩ ∧ p = (b, .row 3 (ints l) m) ∧ l.length ≤ m ∧ ∀ x, OI (.slice a n c) (b, .row 3 (put (ints l) i [.int .i64 x]) m) (l.set i x) := by
  rcases h with ⟨h, _, hz⟩ | ⟨b, len, cap, m, h, rfl, hl, hlc, hcn⟩
  · have : l = [] := by simpa [ints] using hz
    subst this
    simp at hi
  · cases h
    have hl2 : l.length = n := by simpa [ints] using hl
    refine ⟨b, m, rfl, rfl, by omega, fun x => .inr ⟨b, n, c, m, rfl, ?_, ?_, hlc, hcn⟩⟩
    · rw [put_ints hi]
    · simpa [ints] using hl2
end Go.Proofs.Ytjefdcbljpkmlaa.G
end
