/- Small lemmas that the walks of this claim use beside the words. -/
import Derived.Test.YtgdbinifnhfcjaaWWords
import Derived.Test.YtgdbinifnhfcjaaWLast
import Derived.Test.YtgdbinifnhfcjaaWMore
namespace Go.Proofs.Ytgdbinifnhfcjaa.P
open Go.RowKit Go.Proofs.YtgdbinifnhfcjaaW.PrintWords Go.Proofs.YtgdbinifnhfcjaaW.PrintLast Go.Proofs.YtgdbinifnhfcjaaW.PrintMore
theorem R_mod {α : Type} {d : Kd α} {e : Nat} {w : World} {n : Nat} {a : Addr} {x y : Int} {B : Nat} {ok : Nat → Prop} {v : Value} {xs : List α} (h : d.R e (w.setCell a (.int .u8 x)) B ok v xs) (hxy : x = y) : d.R e ((w.drewN n).setCell a (.int .u8 y)) B ok v xs := by
  subst hxy
  rw [show (w.drewN n).setCell a (.int .u8 x) = (w.setCell a (.int .u8 x)).drewN n from rfl]
  exact Kd.R_drewN h n
theorem pow2_le {D m : Nat} (h : D ≤ m) : (2 : Int) ^ D ≤ 2 ^ m := by
  have := Nat.pow_le_pow_right (show 0 < 2 by omega) h
  exact_mod_cast this
theorem pow2_32 {D : Nat} (h : D ≤ 32) : (2 : Int) ^ D ≤ 4294967296 := by
  have e : (2 : Int) ^ 32 = 4294967296 := by decide
  rw [← e]
  exact pow2_le h
theorem pow2_1 (D : Nat) : (1 : Int) ≤ 2 ^ D := by
  have := @Nat.one_le_two_pow D
  exact_mod_cast this
theorem text_nil (s : ByteArray) : s.toList = ([] : List UInt8) ↔ s.size = 0 := by
  rw [ByteArray.toList_eq]
  constructor
  · intro h
    have := congrArg List.length h
    simpa using this
  · intro h
    apply List.eq_nil_of_length_eq_zero
    simpa using h
end Go.Proofs.Ytgdbinifnhfcjaa.P
