/- What pkRow and pkBits put, read back bit by bit. -/
import Derived.Test.YteikopjhekhchaaLibBits
import Derived.Test.YteikopjhekhchaaLibRow
namespace Go.Proofs.Yteikopjhekhchaa.Pure
open Go.RowKit Go.Proofs.Yteikopjhekhchaa.P Go.Proofs.Yteikopjhekhchaa.Lib Go.Proofs.YteikopjhekhchaaW.PrintWords Go.Proofs.YteikopjhekhchaaW.PrintLast

theorem row_at (D : Nat) (hD : D ≤ 32) : ∀ (l : List Int) (pos : Nat) (xs : List Int), Inv true xs pos → pos + 32 * l.length ≤ 1000000 →
    Inv true (pkRow D l xs (pos : Int)) (pos + D * l.length) ∧ (∀ p, p < pos → bitv true (pkRow D l xs (pos : Int)) p = bitv true xs p) ∧ (∀ n, n < l.length → ∀ i, i < D → ((bitv true (pkRow D l xs (pos : Int)) (pos + D * n + i) : Nat) : Int) = pkBit (l.getD n 0) D true i)
  | [], pos, xs, hI, _ => ⟨hI, fun _ _ => rfl, fun n hn => absurd hn (Nat.not_lt_zero n)⟩
  | x :: l, pos, xs, hI, hp => by
    have hp0 : pos + 32 + 32 * l.length ≤ 1000000 := by simp only [List.length_cons] at hp; omega
    have hp1 : pos + D ≤ 1000000 := by omega
    have hp2 : pos + D + 32 * l.length ≤ 1000000 := by omega
    obtain ⟨q1, q2, q3⟩ := put_bits x D true D 0 pos xs hI hp1
    obtain ⟨r1, r2, r3⟩ := row_at D hD l (pos + D) _ q1 hp2
    simp only [pkRow]
    rw [show ((pos + D : Nat) : Int) = (pos : Int) + (D : Int) from rfl] at r1 r2 r3
    refine ⟨by rw [List.length_cons, Nat.mul_succ, Nat.add_comm (D * l.length) D, ← Nat.add_assoc]; exact r1, fun p hq => ?_, fun n hn i hi => ?_⟩
    · rw [r2 p (Nat.lt_of_lt_of_le hq (Nat.le_add_right _ _)), q2 p hq]
    · cases n with
      | zero =>
        have e : pos + D * 0 + i = pos + i := by rw [Nat.mul_zero, Nat.add_zero]
        rw [e, r2 (pos + i) (Nat.add_lt_add_left hi pos), q3 i hi, Nat.zero_add]
        rfl
      | succ n =>
        have e : pos + D * (n + 1) + i = pos + D + D * n + i := by rw [Nat.mul_succ]; omega
        rw [e]
        exact r3 n (Nat.lt_of_succ_lt_succ hn) i hi
end Go.Proofs.Yteikopjhekhchaa.Pure
