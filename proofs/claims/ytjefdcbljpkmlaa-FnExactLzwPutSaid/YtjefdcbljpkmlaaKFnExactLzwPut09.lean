/- What the law FnExactLzwPut needs, out of the texts Ma. -/
import Derived.Laws.Strings
import Derived.Laws.Entries
section
set_option linter.unusedVariables false
namespace Go.Proofs.Ytjefdcbljpkmlaa.G
open Go
def byt (s : ByteArray) (i : Nat) : Int := ((s.data.toList.getD i 0).toNat : Int)
theorem byt_ge (s : ByteArray) (i : Nat) : 0 ≤ byt s i := by unfold byt; omega
theorem byt_le (s : ByteArray) (i : Nat) : byt s i ≤ 255 := by
  unfold byt
  have := (s.data.toList.getD i 0).toNat_lt
  omega
/-- So many bytes of a field of 'size' bytes at a place, read so far. -/
def fld (s : ByteArray) (p size : Nat) (big : Bool) : Nat → Int
  | 0 => 0
  | k + 1 => fld s p size big k * 256 + byt s (if big then p + k else p + size - 1 - k)
theorem ofInt_i64' (a : Nat) (ha : a < 9223372036854775808) : (BitVec.ofInt 64 (a : Int)).toNat = a := by
  rw [BitVec.ofInt_natCast, BitVec.toNat_ofNat]; exact Nat.mod_eq_of_lt (by omega)
end Go.Proofs.Ytjefdcbljpkmlaa.G
end
