/- Bytes of a text, and numbers made of them. -/
import Derived.Laws.Strings
import Derived.Laws.Entries
set_option linter.unusedVariables false
namespace Go.Proofs.Ytjefdcbljpkmlaa.G
open Go
def byt (s : ByteArray) (i : Nat) : Int := ((s.data.toList.getD i 0).toNat : Int)
theorem byt_ge (s : ByteArray) (i : Nat) : 0 ≤ byt s i := by unfold byt; omega
theorem byt_le (s : ByteArray) (i : Nat) : byt s i ≤ 255 := by
  unfold byt
  have := (s.data.toList.getD i 0).toNat_lt
  omega
/-- So many bytes of a field of 'size' bytes at a place, read so far. -/
def fld (s : ByteArray) (p size : Nat) (big : Bool) : Nat → Int
  | 0 => 0
  | k + 1 => fld s p size big k * 256 + byt s (if big then p + k else p + size - 1 - k)
theorem fld_ge (s : ByteArray) (p size : Nat) (big : Bool) : ∀ k, 0 ≤ fld s p size big k
  | 0 => by simp [fld]
  | k + 1 => by
    have := fld_ge s p size big k
    have := byt_ge s (if big then p + k else p + size - 1 - k)
    simp only [fld]
    omega
def bnd : Nat → Int
  | 0 => 0
  | k + 1 => bnd k * 256 + 255
theorem fld_le (s : ByteArray) (p size : Nat) (big : Bool) : ∀ k, fld s p size big k ≤ bnd k
  | 0 => by simp [fld, bnd]
  | k + 1 => by
    have h1 := fld_le s p size big k
    have h2 := byt_le s (if big then p + k else p + size - 1 - k)
    simp only [fld, bnd]
    omega
theorem bnd_small {k : Nat} (hk : k ≤ 3) : bnd k ≤ 16777215 := by
  match k, hk with
  | 0, _ | 1, _ | 2, _ | 3, _ => simp [bnd]
theorem bnd_four {k : Nat} (hk : k ≤ 4) : bnd k ≤ 4294967295 := by
  match k, hk with
  | 0, _ | 1, _ | 2, _ | 3, _ | 4, _ => simp [bnd]
theorem fld_small (s : ByteArray) (p size : Nat) (big : Bool) {k : Nat} (hk : k ≤ 3) : fld s p size big k ≤ 16777215 := Int.le_trans (fld_le s p size big k) (bnd_small hk)
theorem fld_four (s : ByteArray) (p size : Nat) (big : Bool) {k : Nat} (hk : k ≤ 4) : fld s p size big k ≤ 4294967295 := Int.le_trans (fld_le s p size big k) (bnd_four hk)
def numGet (s : ByteArray) (a z : Int) (big : Bool) : Int × Bool := if 1 ≤ z ∧ z ≤ 4 ∧ (s.size : Int) ≤ 9000 ∧ 0 ≤ a ∧ a ≤ s.size - z then (fld s a.toNat z.toNat big z.toNat, true) else (0, false)
theorem ofInt_i64' (a : Nat) (ha : a < 9223372036854775808) : (BitVec.ofInt 64 (a : Int)).toNat = a := by
  rw [BitVec.ofInt_natCast, BitVec.toNat_ofNat]; exact Nat.mod_eq_of_lt (by omega)
theorem i64_or_nat (a b : Nat) (ha : a < 9223372036854775808) (hb : b < 9223372036854775808) : Go.bits .or .i64 (a : Int) (b : Int) = ((a ||| b : Nat) : Int) := by
  have hx : a ||| b < 2 ^ 63 := Nat.or_lt_two_pow (by omega) (by omega)
  show IntKind.i64.wrap ((BitVec.ofInt 64 (a : Int) ||| BitVec.ofInt 64 (b : Int)).toNat : Int) = _
  rw [BitVec.toNat_or, ofInt_i64' a ha, ofInt_i64' b hb]
  simp [IntKind.wrap, IntKind.signed, IntKind.bits]
  omega
theorem shl8 {x : Int} (h0 : 0 ≤ x) (h1 : x ≤ 16777215) : -9223372036854775808 ≤ x * 2 ^ Int.toNat 8 ∧ x * 2 ^ Int.toNat 8 ≤ 9223372036854775807 := by
  have : (2 : Int) ^ Int.toNat 8 = 256 := by decide
  rw [this]; omega
theorem or_shl {x b : Int} (h0 : 0 ≤ x) (h1 : x ≤ 16777215) (h2 : 0 ≤ b) (h3 : b ≤ 255) : bits .or .i64 (x * 2 ^ Int.toNat 8) b = x * 256 + b := by
  obtain ⟨a, rfl⟩ := Int.eq_ofNat_of_zero_le h0
  obtain ⟨c, rfl⟩ := Int.eq_ofNat_of_zero_le h2
  have e : ((a : Int) * 2 ^ Int.toNat 8) = ((a * 256 : Nat) : Int) := by
    have : (2 : Int) ^ Int.toNat 8 = 256 := by decide
    rw [this]; omega
  rw [e, i64_or_nat _ _ (by omega) (by omega)]
  have : a * 256 ||| c = a * 256 + c := by
    have := Nat.shiftLeft_add_eq_or_of_lt (a := a) (b := c) (i := 8) (by omega)
    rw [Nat.shiftLeft_eq] at this
    exact this.symm
  rw [this]
  omega
end Go.Proofs.Ytjefdcbljpkmlaa.G
