/- The reading side: what bit stands at a place of the packed bytes. -/
import Derived.Test.YteikopjhekhchaaLibPack
namespace Go.Proofs.Yteikopjhekhchaa.Pure
open Go.RowKit Go.Proofs.Yteikopjhekhchaa.P Go.Proofs.Yteikopjhekhchaa.Lib Go.Proofs.YteikopjhekhchaaW.PrintWords Go.Proofs.YteikopjhekhchaaW.PrintLast

theorem nat_keep_high : ∀ (p q : Fin 8) (b : Fin 2) (y : Fin 256), q.val < p.val → (y.val + b.val * 2 ^ (7 - p.val)) % 256 = y.val + b.val * 2 ^ (7 - p.val) → y.val % 2 ^ (8 - p.val) = 0 → (y.val + b.val * 2 ^ (7 - p.val)) / 2 ^ (7 - q.val) % 2 = y.val / 2 ^ (7 - q.val) % 2 := by decide +kernel
theorem nat_keep_low : ∀ (p q : Fin 8) (b : Fin 2) (y : Fin 256), q.val < p.val → y.val < 2 ^ p.val → (y.val + b.val * 2 ^ p.val) / 2 ^ q.val % 2 = y.val / 2 ^ q.val % 2 := by decide +kernel
theorem nat_new_high : ∀ (p : Fin 8) (b : Fin 2) (y : Fin 256), y.val % 2 ^ (8 - p.val) = 0 → (y.val + b.val * 2 ^ (7 - p.val)) / 2 ^ (7 - p.val) % 2 = b.val := by decide +kernel
theorem nat_new_low : ∀ (p : Fin 8) (b : Fin 2) (y : Fin 256), y.val < 2 ^ p.val → (y.val + b.val * 2 ^ p.val) / 2 ^ p.val % 2 = b.val := by decide +kernel
theorem byte_keep {high : Bool} {y p q b : Nat} (hy : y < 256) (hp : p < 8) (hq : q < p) (hb : b < 2) (h : good high y p) (h2 : y + b * 2 ^ (plc high p) < 256) : (y + b * 2 ^ (plc high p)) / 2 ^ (plc high q) % 2 = y / 2 ^ (plc high q) % 2 := by
  cases high with
  | true => exact nat_keep_high ⟨p, hp⟩ ⟨q, by omega⟩ ⟨b, hb⟩ ⟨y, hy⟩ hq (Nat.mod_eq_of_lt h2) h
  | false => exact nat_keep_low ⟨p, hp⟩ ⟨q, by omega⟩ ⟨b, hb⟩ ⟨y, hy⟩ hq h
theorem byte_new {high : Bool} {y p b : Nat} (hy : y < 256) (hp : p < 8) (hb : b < 2) (h : good high y p) : (y + b * 2 ^ (plc high p)) / 2 ^ (plc high p) % 2 = b := by
  cases high with
  | true => exact nat_new_high ⟨p, hp⟩ ⟨b, hb⟩ ⟨y, hy⟩ h
  | false => exact nat_new_low ⟨p, hp⟩ ⟨b, hb⟩ ⟨y, hy⟩ h
/-- Bit number p of the bytes. -/
def bitv (high : Bool) (xs : List Int) (p : Nat) : Nat := (xs.getD (p / 8) 0).toNat / 2 ^ (plc high (p % 8)) % 2
theorem step_form {high : Bool} {xs : List Int} {pos b : Nat} (h : Inv high xs pos) (hb : b < 2) (hp : pos ≤ 1000000) :
    ∃ y : Nat, y < 256 ∧ (grown xs pos).getD (pos / 8) 0 = (y : Int) ∧ good high y (pos % 8) ∧ y + b * 2 ^ (plc high (pos % 8)) < 256 ∧ pkStep xs (pos : Int) (b : Int) high = (grown xs pos).set (pos / 8) ((y + b * 2 ^ (plc high (pos % 8)) : Nat) : Int) := by
  obtain ⟨g1, g2, g3⟩ := grown_ok h
  have s := (bit_step h hb hp).1
  have hin : pos / 8 < (grown xs pos).length := by omega
  have hmem : (grown xs pos).getD (pos / 8) 0 ∈ grown xs pos := by
    rw [List.getD_eq_getElem?_getD, List.getElem?_eq_getElem hin]; exact List.getElem_mem hin
  obtain ⟨y, hy⟩ : ∃ y : Nat, (grown xs pos).getD (pos / 8) 0 = (y : Int) := ⟨((grown xs pos).getD (pos / 8) 0).toNat, by have := (g2 _ hmem).1; omega⟩
  have hy2 : y < 256 := by have := (g2 _ hmem).2; omega
  rw [hy] at g3
  have g3 : good high y (pos % 8) := g3
  have o2 := (byte_nat hy2 (Nat.mod_lt pos (Nat.succ_pos 7)) hb g3).2.1
  refine ⟨y, hy2, hy, g3, o2, ?_⟩
  have er : rd (grown xs pos) ((pos / 8 : Nat) : Int) = (y : Int) := by unfold rd; rw [Int.toNat_natCast]; exact hy
  have ec : (b : Int) * (2 : Int) ^ (plc high (pos % 8)) = ((b * 2 ^ (plc high (pos % 8)) : Nat) : Int) := by push_cast; rfl
  rw [s, er, ec]
  obtain ⟨c, hc⟩ : ∃ c, b * 2 ^ (plc high (pos % 8)) = c := ⟨_, rfl⟩
  rw [hc] at o2 ⊢
  clear hc ec s er g3 hmem hy
  have ew : wrap64 (c : Int) % 256 = (c : Int) := by rw [w64 (by omega) (by omega)]; omega
  have em : ((y : Int) + (c : Int)) % 256 = ((y + c : Nat) : Int) := by omega
  rw [ew, em]
theorem grown_get {xs : List Int} {pos p : Nat} (hl : xs.length = (pos + 7) / 8) (hp : p < pos) : (grown xs pos).getD (p / 8) 0 = xs.getD (p / 8) 0 := by
  unfold grown
  split
  · rw [List.getD_eq_getElem?_getD, List.getD_eq_getElem?_getD, List.getElem?_append_left (by omega)]
  · rfl
theorem bit_new {high : Bool} {xs : List Int} {pos b : Nat} (h : Inv high xs pos) (hb : b < 2) (hp : pos ≤ 1000000) : bitv high (pkStep xs (pos : Int) (b : Int) high) pos = b := by
  obtain ⟨y, y1, _, y3, _, y5⟩ := step_form h hb hp
  have hin : pos / 8 < (grown xs pos).length := by have := (grown_ok h).1; rw [this]; exact Nat.lt_succ_self _
  have hm8 : pos % 8 < 8 := Nat.mod_lt pos (Nat.succ_pos 7)
  unfold bitv
  rw [y5, List.getD_eq_getElem?_getD, List.getElem?_set_self hin, Option.getD_some, Int.toNat_natCast]
  exact byte_new y1 hm8 hb y3
theorem bit_keep {high : Bool} {xs : List Int} {pos b p : Nat} (h : Inv high xs pos) (hb : b < 2) (hp : pos ≤ 1000000) (hq : p < pos) : bitv high (pkStep xs (pos : Int) (b : Int) high) p = bitv high xs p := by
  have hin : pos / 8 < (grown xs pos).length := by have := (grown_ok h).1; rw [this]; exact Nat.lt_succ_self _
  have hm8 : pos % 8 < 8 := Nat.mod_lt pos (Nat.succ_pos 7)
  have hlt8 : p / 8 = pos / 8 → p % 8 < pos % 8 := by omega
  obtain ⟨y, y1, y2, y3, y4, y5⟩ := step_form h hb hp
  unfold bitv
  rw [y5, ← grown_get h.len hq]
  by_cases e : p / 8 = pos / 8
  · rw [e, y2, List.getD_eq_getElem?_getD, List.getElem?_set_self hin, Option.getD_some, Int.toNat_natCast, Int.toNat_natCast]
    exact byte_keep y1 hm8 (hlt8 e) hb y3 y4
  · rw [List.getD_eq_getElem?_getD, List.getElem?_set_ne (fun q => e q.symm), ← List.getD_eq_getElem?_getD]
theorem put_bits (v : Int) (size : Nat) (high : Bool) (d : Nat) : ∀ (k pos : Nat) (xs : List Int), Inv high xs pos → pos + d ≤ 1000000 →
    Inv high (pkPut v size high k xs (pos : Int) d) (pos + d) ∧ (∀ p, p < pos → bitv high (pkPut v size high k xs (pos : Int) d) p = bitv high xs p) ∧ (∀ i, i < d → ((bitv high (pkPut v size high k xs (pos : Int) d) (pos + i) : Nat) : Int) = pkBit v size high (k + i)) := by
  induction d with
  | zero => intro k pos xs hI hp; exact ⟨hI, fun p _ => rfl, fun i hi => absurd hi (Nat.not_lt_zero i)⟩
  | succ d ih =>
    intro k pos xs hI hp
    obtain ⟨b, hb, eb⟩ := pkBit_lt v size high k
    have hp1 : pos ≤ 1000000 := by omega
    have hp2 : pos + 1 + d ≤ 1000000 := by omega
    have hI2 := (bit_step hI hb hp1).2
    obtain ⟨r1, r2, r3⟩ := ih (k + 1) (pos + 1) _ hI2 hp2
    simp only [pkPut]
    rw [eb]
    rw [show ((pos + 1 : Nat) : Int) = (pos : Int) + 1 from rfl] at r1 r2 r3
    refine ⟨by rw [show pos + (d + 1) = pos + 1 + d by omega]; exact r1, fun p hq => ?_, fun i hi => ?_⟩
    · rw [r2 p (Nat.lt_succ_of_lt hq)]
      exact bit_keep hI hb hp1 hq
    · cases i with
      | zero =>
        rw [show pos + 0 = pos from rfl, show k + 0 = k from rfl, r2 pos (Nat.lt_succ_self pos), bit_new hI hb hp1, eb]
      | succ i =>
        have h := r3 i (Nat.lt_of_succ_lt_succ hi)
        rw [show pos + (i + 1) = pos + 1 + i by omega, show k + (i + 1) = k + 1 + i by omega]
        exact h
end Go.Proofs.Yteikopjhekhchaa.Pure
