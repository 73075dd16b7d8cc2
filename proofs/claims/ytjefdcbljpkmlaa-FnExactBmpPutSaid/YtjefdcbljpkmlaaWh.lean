/- impl: RunGet. -/
import Derived.Test.YtjefdcbljpkmlaaMd
import Derived.Test.YtjefdcbljpkmlaaWa
set_option linter.unusedVariables false
set_option maxRecDepth 10000
namespace Go.Proofs.Ytjefdcbljpkmlaa.G
open Go
def RunOut (R : Option (List Int × Nat)) : OutT := fun v F' ns => F' = [] ∧ ((v = .tuple #[.slice none 0 0, .int .i64 0, .bool false] ∧ ns = [] ∧ R = none) ∨
  ∃ w p l a, v = .tuple #[w, .int .i64 ((a : Nat) : Int), .bool true] ∧ ns = [p] ∧ OI w p l ∧ R = some (l, a))
/-- What a round does: told numbers, each times times. -/
theorem runL_step {s : ByteArray} {z count m : Nat} {out : List Int} {a told times : Nat} (h1 : out.length < count) (h2 : a < s.size) (ht : (128 ≤ byt s a ∧ told = 1 ∧ times = (byt s a).toNat - 127) ∨ (byt s a < 128 ∧ told = (byt s a).toNat + 1 ∧ times = 1)) :
    runL s z count (m + 1) out a = if s.size < a + 1 + told * z ∨ count < out.length + told * times then none else runL s z count m (out ++ many s z (a + 1) times told) (a + 1 + told * z) := by
  rw [runL, if_neg (by omega), if_neg (by omega)]
  rcases ht with ⟨h3, rfl, rfl⟩ | ⟨h3, rfl, rfl⟩
  · rw [if_pos h3, many_one]
    simp only [Nat.one_mul]
  · rw [if_neg (by omega), many_each]
    simp only [Nat.mul_one]
end Go.Proofs.Ytjefdcbljpkmlaa.G
