-- Written by a program of this session (wip/myprint.py) through the print of the kit: not trusted, Lean checks it.
import Derived.Test.YteikopjhekhchaaF00
import Derived.Test.YteikopjhekhchaaF92
namespace Go.Proofs.Yteikopjhekhchaa.P
open Go.RowKit Go.Proofs.YteikopjhekhchaaW.PrintWords Go.Proofs.YteikopjhekhchaaW.PrintLast Go.Proofs.YteikopjhekhchaaW.PrintMore
attribute [local go_sem] max2_int min2_int max_two min_two max_three min_three max_four min_four   -- for this text's walks alone
set_option linter.unusedVariables false
set_option linter.unusedSimpArgs false

/-! ### impl_packer_put: function 72 -/
/-- Bit number k of a number, as it is packed. -/
def pkBit (value : Int) (size : Nat) (high : Bool) (k : Nat) : Int := value / 2 ^ (if high = true then size - 1 - k else k) % 2
/-- What n bits of a number make of the bytes. -/
def pkPut (value : Int) (size : Nat) (high : Bool) (k : Nat) (xs : List Int) (pos : Int) : Nat → List Int
  | 0 => xs
  | d + 1 => pkPut value size high (k + 1) (pkStep xs pos (pkBit value size high k) high) (pos + 1) d
theorem pkStep_length (xs : List Int) (pos b : Int) (high : Bool) : (pkStep xs pos b high).length = if pos % 8 = 0 then xs.length + 1 else xs.length := by
  unfold pkStep pkOr
  split <;> simp
theorem land1 (n : Int) : bits .and .i64 n 1 = n % 2 := by
  have h1 : (BitVec.ofInt 64 1).toNat = 2 ^ 1 - 1 := by decide
  have key : (BitVec.ofInt 64 n &&& BitVec.ofInt 64 1).toNat = (n % ((2 ^ 64 : Nat) : Int)).toNat % 2 ^ 1 := by
    rw [BitVec.toNat_and, BitVec.toNat_ofInt, h1, Nat.and_two_pow_sub_one_eq_mod]
  show IntKind.i64.wrap ((BitVec.ofInt 64 n &&& BitVec.ofInt 64 1).toNat : Nat) = n % 2
  rw [key, IntKind.wrap_i64]
  omega
theorem pk_len {ys : List Int} {p b : Int} {high : Bool} (h : (ys.length : Int) = (p + 7) / 8) (h0 : 0 ≤ p) : ((pkStep ys p b high).length : Int) = (p + 1 + 7) / 8 := by
  rw [pkStep_length]
  split <;> omega
theorem pkPut_len (value : Int) (size : Nat) (high : Bool) (d : Nat) : ∀ (k : Nat) (xs : List Int) (pos : Int), 0 ≤ pos → (xs.length : Int) = (pos + 7) / 8 → ((pkPut value size high k xs pos d).length : Int) = (pos + d + 7) / 8 := by
  induction d with
  | zero => intro k xs pos h0 h; simpa [pkPut] using h
  | succ d ih =>
    intro k xs pos h0 h
    simp only [pkPut]
    rw [ih (k + 1) _ (pos + 1) (by omega) (pk_len h h0)]
    omega
set_option maxHeartbeats 1000000 in
set_option maxRecDepth 100000 in
theorem impl_packer_put.calls (g : Nat) (xs : List Int) (pos value : Int) (size : Nat) (high : Bool) (w0 w : World) (hn : (xs.length : Int) = (pos + 7) / 8) (hs : size ≤ 64) (h0 : 0 ≤ pos) (h1 : pos ≤ 549755813888) (hv : 0 ≤ value) (hv2 : value ≤ 9223372036854775807)
    (hI : IsPk w0 w g xs pos high) (hB : Below w0.heap.size w0 w) :
    Calls Try.prog 72 #[.pointer (some ⟨g, 0, none⟩), .int .i64 value, .int .i64 size] w fun e w' => e = .returned (.tuple #[]) ∧ IsPk w0 w' g (pkPut value size high 0 xs pos size) (pos + size) high ∧ Below w0.heap.size w0 w' := by
  have HI := Aside0.mk hI
  have HB := Aside0.mk hB
  have HN := Aside0.mk hn
  clear hI hB hn
  obtain ⟨R, hR⟩ : ∃ R, pkPut value size high 0 xs pos size = R := ⟨_, rfl⟩
  have HR := Aside0.mk hR
  rw [hR]
  clear hR
  go_enter Try.func72, Try.ntmps72
  go_wp2
  go_loopw [8] (fun v8 wr => ∃ (k d : Nat) (ys : List Int), v8 = .int .i64 k ∧ Aside0 (k + d = size) ∧ Aside0 ((ys.length : Int) = (pos + k + 7) / 8) ∧ Aside0 (pkPut value size high k ys (pos + k) d = R) ∧ Aside0 (IsPk w0 wr g ys (pos + k) high) ∧ Aside0 (Below w0.heap.size w0 wr)) (fun i _ => size - (intOf i).toNat)
  case atStart => exact ⟨0, size, xs, rfl, ⟨by omega⟩, ⟨by have := HN.out; simpa using this⟩, ⟨by have := HR.out; simpa using this⟩, ⟨by have := HI.out; simpa using this⟩, HB⟩
  case round =>
    clear HI HB HN HR
    obtain ⟨k, d, ys, rfl, HD, HN, HR, HI, HB⟩ := hrel
    have hks : k ≤ size := by have := HD.out; omega
    cases d with
    | zero =>
      have hge : ¬ k < size := by have := HD.out; omega
      have HE := Aside0.mk (show k = size by have := HD.out; omega)
      go_wp2
      go_end0
      exact ⟨rfl, by have := HI.out; have e := HR.out; rw [← HE.out]; simp only [pkPut] at e; rw [← e]; exact this, HB.out⟩
    | succ d =>
      have hlt : k < size := by have := HD.out; omega
      have hc2 := HI.out
      obtain ⟨vv, hbk, hok, hgk⟩ := hc2
      have c2 := blk_cell hbk 2
      simp at c2
      clear hbk hok hgk
      have hnn : (pos + k) % 8 = 0 ∨ 0 < ys.length := by have := HN.out; omega
      have HNN := Aside0.mk hnn
      clear hnn
      have HLn := Aside0.mk (show ∀ (b : Int) (h : Bool), ((pkStep ys (pos + k) b h).length : Int) = (pos + k + 1 + 7) / 8 from fun b h => pk_len HN.out (by omega))
      have HL := Aside0.mk (show ys.length ≤ 1099511627776 by have := HN.out; omega)
      have HBit := Aside0.mk (show bits .and .i64 (value / 2 ^ (if high = true then size - 1 - k else k)) 1 = pkBit value size high k from land1 _)
      cases high
      all_goals
        have HBit := Aside0.mk HBit.out
        simp only [if_true, if_false, Bool.false_eq_true] at HBit
        go_wp2_with (go_at_call 92; refine (impl_packer_bit.calls g ys (pos + k) _ _ w0 _ HNN.out HL.out (by omega) (by omega) HI.out HB.out).mono ?_; rintro e w' ⟨rfl, hi, hb⟩; rw [HBit.out] at hi; have HI2 := Aside0.mk hi; have HB2 := Aside0.mk hb; clear hi hb)
        go_roundw
        case rel =>
          have e1 : pos + ((k + 1 : Nat) : Int) = pos + k + 1 := by omega
          rw [← e1] at HI2
          exact ⟨k + 1, d, _, by go_num, ⟨by have := HD.out; omega⟩, ⟨by rw [e1]; exact HLn.out _ _⟩, ⟨by rw [e1]; exact HR.out⟩, HI2, HB2⟩
        case measure => simp [intOf]; omega

end Go.Proofs.Yteikopjhekhchaa.P
