/- spec: RunGet. -/
import Derived.Test.YtjefdcbljpkmlaaWk
set_option linter.unusedVariables false
set_option maxRecDepth 10000
namespace Go.Proofs.Ytjefdcbljpkmlaa.G
open Go
def RunOut2 (R : Option (List Int × Nat)) : OutT := fun v F' ns => F' = [] ∧ ∃ w p l a ok, v = .tuple #[w, .int .i64 ((a : Nat) : Int), .bool ok] ∧ ns = [p] ∧ OI w p l ∧ (ok = true → R = some (l, a)) ∧ (ok = false → R = none)
/-- One of a round's numbers. -/
def sNum (s : ByteArray) (z a : Nat) (same : Bool) (i : Nat) : Int := fld s (a + (if same then 0 else i * z)) z false z
theorem runL_step2 {s : ByteArray} {z count m : Nat} {out : List Int} {a B : Nat} (h1 : out.length < count) (h2 : a < s.size) (hB : byt s a = (B : Int)) (hB3 : B ≤ 255) :
    runL s z count (m + 1) out a = if s.size < a + 1 + (if decide (128 ≤ B) = true then z else (B % 128 + 1) * z) ∨ count < out.length + (B % 128 + 1) then none else runL s z count m (out ++ (List.range (B % 128 + 1)).map (sNum s z (a + 1) (decide (128 ≤ B)))) (a + 1 + (if decide (128 ≤ B) = true then z else (B % 128 + 1) * z)) := by
  rw [runL, if_neg (by omega), if_neg (by omega), hB]
  simp only [Int.toNat_natCast]
  by_cases h : 128 ≤ B
  · have e : B - 127 = B % 128 + 1 := by omega
    have e2 : (List.range (B % 128 + 1)).map (sNum s z (a + 1) true) = List.replicate (B % 128 + 1) (fld s (a + 1) z false z) := by
      rw [List.eq_replicate_iff]
      refine ⟨by simp, fun x hx => ?_⟩
      obtain ⟨i, _, rfl⟩ := List.mem_map.1 hx
      rfl
    rw [if_pos (by omega), decide_eq_true h, if_pos rfl, e, e2]
  · have e : B % 128 + 1 = B + 1 := by omega
    rw [if_neg (show ¬ (128 : Int) ≤ (B : Int) by omega), decide_eq_false h, e]
    simp only [Bool.false_eq_true, if_false]
    rfl
end Go.Proofs.Ytjefdcbljpkmlaa.G
