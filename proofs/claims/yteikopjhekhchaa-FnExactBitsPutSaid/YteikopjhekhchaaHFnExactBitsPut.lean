/- laws.FnExactBitsPut: at every list and order the program's BitsPut returns what the reference's returns, and leaves the list as it was. -/
import Derived.Test.YteikopjhekhchaaWWords
import Derived.Test.YteikopjhekhchaaWMore
import Derived.Test.YteikopjhekhchaaF74
import Derived.Test.YteikopjhekhchaaF42
import Derived.Test.YteikopjhekhchaaGFnExactBitsPutF36
import Derived.Test.YteikopjhekhchaaF38
import Derived.Test.YteikopjhekhchaaF50
import Derived.Test.YteikopjhekhchaaF77
import Derived.Test.YteikopjhekhchaaGFnExactBitsPutF40
import Derived.Test.YteikopjhekhchaaF45
import Derived.Test.YteikopjhekhchaaGFnExactBitsPutF11
/- Small words for functions with a number of rounds: 'Ok g P': with enough rounds g answers some r of which P holds. -/
namespace Go.Proofs.Yteikopjhekhchaa.Lib
open Go.RowKit Go.Proofs.YteikopjhekhchaaW.PrintWords Go.Proofs.YteikopjhekhchaaW.PrintLast Go.Proofs.YteikopjhekhchaaW.PrintMore

def Ok {α : Type} (g : Nat → Option α) (P : α → Prop) : Prop := ∃ r, Ev g r ∧ P r
theorem Ok.bind {α β : Type} {g : Nat → Option α} {f : Nat → α → Option β} {P : α → Prop} {Q : β → Prop} (h : Ok g P) (k : ∀ a, P a → Ok (fun n => f n a) Q) : Ok (fun n => (g n).bind (f n)) Q := by
  obtain ⟨a, ha, pa⟩ := h
  obtain ⟨b, hb, qb⟩ := k a pa
  exact ⟨b, Ev.bind ha hb, qb⟩
theorem Ok.now {α : Type} {P : α → Prop} (r : α) (h : P r) : Ok (fun _ => some r) P := ⟨r, Ev.now r, h⟩
theorem Ok.step {α : Type} {g f : Nat → Option α} {P : α → Prop} (h : ∀ k, g (k + 1) = f k) (k : Ok f P) : Ok g P := by
  obtain ⟨r, hr, pr⟩ := k
  exact ⟨r, Ev.step h hr, pr⟩
theorem Ok.succ {α : Type} {g : Nat → Option α} {P : α → Prop} (k : Ok (fun n => g (n + 1)) P) : Ok g P := Ok.step (fun _ => rfl) k
theorem Ok.congr {α : Type} {g f : Nat → Option α} {P : α → Prop} (h : ∀ k, g k = f k) (k : Ok f P) : Ok g P := by
  obtain ⟨r, hr, pr⟩ := k
  exact ⟨r, Ev.congr h hr, pr⟩
theorem Ok.mono {α : Type} {g : Nat → Option α} {P Q : α → Prop} (h : Ok g P) (k : ∀ r, P r → Q r) : Ok g Q := by
  obtain ⟨r, hr, pr⟩ := h
  exact ⟨r, hr, k r pr⟩
theorem Ok.yes {α : Type} {g f : Nat → Option α} {c : Prop} [Decidable c] {P : α → Prop} (hc : c) (h : Ok g P) : Ok (fun n => if c then g n else f n) P := by
  simp only [if_pos hc]; exact h
theorem Ok.no {α : Type} {g f : Nat → Option α} {c : Prop} [Decidable c] {P : α → Prop} (hc : ¬ c) (h : Ok f P) : Ok (fun n => if c then g n else f n) P := by
  simp only [if_neg hc]; exact h
theorem Ok.ite {α : Type} {g f : Nat → Option α} {c : Prop} [Decidable c] {P : α → Prop} (h : c → Ok g P) (k : ¬ c → Ok f P) : Ok (fun n => if c then g n else f n) P := by
  by_cases hc : c
  · exact Ok.yes hc (h hc)
  · exact Ok.no hc (k hc)
theorem Ok.ev {α : Type} {g : Nat → Option α} {r : α} (h : Ok g (· = r)) : Ev g r := by
  obtain ⟨_, hr, rfl⟩ := h
  exact hr
theorem Ok.of_ev {α : Type} {g : Nat → Option α} {r : α} {P : α → Prop} (h : Ev g r) (hp : P r) : Ok g P := ⟨r, h, hp⟩
theorem Ok.rounds {α : Type} {g : Nat → Option α} {r : α} (h : Ok g (· = r)) : ∃ k, g k = some r := h.ev.rounds
theorem Ok.const {α : Type} {o : Option α} {P : α → Prop} {r : α} (h : o = some r) (hp : P r) : Ok (fun _ => o) P := by
  subst h; exact Ok.now r hp
theorem Ok.binds {α β : Type} {o : Option α} {f : Nat → α → Option β} {Q : β → Prop} {a : α} (h : o = some a) (k : Ok (fun n => f n a) Q) : Ok (fun n => o.bind (f n)) Q := by
  subst h; exact k

theorem w64 {x : Int} (h : -9223372036854775808 ≤ x) (h' : x ≤ 9223372036854775807) : wrap64 x = x := by unfold wrap64; omega
theorem tmod_nn {x n : Int} (h : 0 ≤ x) : Int.tmod x n = x % n := Int.tmod_eq_emod_of_nonneg h
theorem tdiv_nn {x n : Int} (h : 0 ≤ x) : Int.tdiv x n = x / n := Int.tdiv_eq_ediv_of_nonneg h
theorem rd_mem {b : List Int} {i : Int} (h0 : 0 ≤ i) (h1 : i < b.length) : rd b i ∈ b := by
  unfold rd
  have h : i.toNat < b.length := by omega
  rw [List.getD_eq_getElem?_getD, List.getElem?_eq_getElem h]
  exact List.getElem_mem h

/-! exclusive or of numbers that are not below 0 -/
theorem ofInt_i64 (a : Nat) (ha : a < 9223372036854775808) : (BitVec.ofInt 64 (a : Int)).toNat = a := by
  rw [BitVec.ofInt_natCast, BitVec.toNat_ofNat]; exact Nat.mod_eq_of_lt (by omega)
theorem i64_xor_nat (a b : Nat) (ha : a < 9223372036854775808) (hb : b < 9223372036854775808) : bits .xor .i64 (a : Int) (b : Int) = ((a ^^^ b : Nat) : Int) := by
  have hx : a ^^^ b < 2 ^ 63 := Nat.xor_lt_two_pow (by omega) (by omega)
  show IntKind.i64.wrap ((BitVec.ofInt 64 (a : Int) ^^^ BitVec.ofInt 64 (b : Int)).toNat : Int) = _
  rw [BitVec.toNat_xor, ofInt_i64 a ha, ofInt_i64 b hb, IntKind.wrap_i64]
  omega
theorem xor_nonneg {x y : Int} (hx : 0 ≤ x) (hx' : x ≤ 9223372036854775807) (hy : 0 ≤ y) (hy' : y ≤ 9223372036854775807) : 0 ≤ bits .xor .i64 x y ∧ bits .xor .i64 x y ≤ 9223372036854775807 := by
  obtain ⟨a, rfl⟩ := Int.eq_ofNat_of_zero_le hx
  obtain ⟨b, rfl⟩ := Int.eq_ofNat_of_zero_le hy
  rw [i64_xor_nat a b (by omega) (by omega)]
  have h : a ^^^ b < 2 ^ 63 := Nat.xor_lt_two_pow (by omega) (by omega)
  omega

/-! texts and lists of bytes -/
theorem size_empty : (⟨#[]⟩ : ByteArray).size = 0 := rfl
theorem text_nil (s : ByteArray) : s.toList = ([] : List UInt8) ↔ s.size = 0 := by
  rw [ByteArray.toList_eq]
  constructor
  · intro h
    have := congrArg List.length h
    simpa using this
  · intro h
    apply List.eq_nil_of_length_eq_zero
    simpa using h
theorem strOfNums_at (xs : List Int) (i : Nat) (h : i < xs.length) (h0 : 0 ≤ xs[i]) (h1 : xs[i] ≤ 255) : bt (strOfNums xs) (i : Int) = xs[i] := by
  unfold bt
  have hs : (i : Int).toNat < (strOfNums xs).size := by rw [strOfNums_size]; simpa using h
  rw [dif_pos hs]
  have e : (strOfNums xs)[(i : Int).toNat]'hs = UInt8.ofNat (xs[i]).toNat := by
    show (xs.map fun n => UInt8.ofNat n.toNat).toArray[(i : Int).toNat]'(by simpa using h) = _
    simp
  rw [e, UInt8.toNat_ofNat']
  omega
theorem strOfNums_self (s : ByteArray) : strOfNums ((List.range s.size).map fun (i : Nat) => bt s (i : Int)) = s := by
  apply ByteArray.ext
  unfold strOfNums
  apply Array.ext
  · simp
  · intro i h1 h2
    have hs : i < s.size := h2
    have e : bt s (i : Int) = ((s[i]'hs).toNat : Int) := by
      unfold bt
      have : (i : Int).toNat < s.size := by simpa using hs
      rw [dif_pos this]
      simp
    simp only [List.getElem_toArray, List.getElem_map, List.getElem_range, e]
    simp
    rfl
theorem bt_nat (s : ByteArray) (i : Nat) (h : i < s.size) : bt s (i : Int) = ((s[i]'h).toNat : Int) := by
  unfold bt
  have : (i : Int).toNat < s.size := by simpa using h
  rw [dif_pos this]
  simp
end Go.Proofs.Yteikopjhekhchaa.Lib
/- The packing of bits: the reference's l1Put tells what pkBits says. -/
namespace Go.Proofs.Yteikopjhekhchaa.Pure
open Go.RowKit Go.Proofs.Yteikopjhekhchaa.P Go.Proofs.Yteikopjhekhchaa.Lib Go.Proofs.YteikopjhekhchaaW.PrintWords Go.Proofs.YteikopjhekhchaaW.PrintLast

theorem pow_run (n : Nat) (hn : n ≤ 62) (d : Nat) : ∀ (i : Nat), n - i = d → i ≤ n → Ok (fun k => spec_l1Pow.l0 k (n : Int) ((2 : Int) ^ i) (i : Int)) (· = (2 : Int) ^ n) := by
  induction d with
  | zero =>
    intro i hd hi
    obtain rfl : i = n := by omega
    refine Ok.succ ?_
    simp only [spec_l1Pow.l0]
    exact Ok.no (by omega) (Ok.now _ rfl)
  | succ d ih =>
    intro i hd hi
    refine Ok.succ ?_
    simp only [spec_l1Pow.l0]
    refine Ok.yes (by omega) ?_
    have e1 : wrap64 ((2 : Int) ^ i * 2) = 2 ^ (i + 1) := by
      rw [← Int.pow_succ]
      have h1 := pow2_1 (i + 1)
      have h2 := pow2_le (show i + 1 ≤ 62 by omega)
      exact w64 (by omega) (by omega)
    have e2 : wrap64 ((i : Int) + 1) = ((i + 1 : Nat) : Int) := by unfold wrap64; omega
    rw [e1, e2]
    exact ih (i + 1) (by omega) (by omega)
theorem pow_ok (n : Nat) (hn : n ≤ 62) : Ok (fun k => spec_l1Pow.f k (n : Int)) (· = (2 : Int) ^ n) := by
  unfold spec_l1Pow.f
  exact pow_run n hn n 0 (by omega) (by omega)

def good (high : Bool) (y p : Nat) : Prop := if high = true then y % 2 ^ (8 - p) = 0 else y < 2 ^ p
instance (high : Bool) (y p : Nat) : Decidable (good high y p) := by unfold good; infer_instance
def plc (high : Bool) (p : Nat) : Nat := if high = true then 7 - p else p
theorem nat_high : ∀ (p : Fin 8) (b : Fin 2) (y : Fin 256), y.val % 2 ^ (8 - p.val) = 0 → y.val ||| b.val * 2 ^ (7 - p.val) = y.val + b.val * 2 ^ (7 - p.val) ∧ y.val + b.val * 2 ^ (7 - p.val) < 256 ∧ (y.val + b.val * 2 ^ (7 - p.val)) % 2 ^ (8 - (p.val + 1)) = 0 := by decide +kernel
theorem nat_low : ∀ (p : Fin 8) (b : Fin 2) (y : Fin 256), y.val < 2 ^ p.val → y.val ||| b.val * 2 ^ p.val = y.val + b.val * 2 ^ p.val ∧ y.val + b.val * 2 ^ p.val < 256 ∧ y.val + b.val * 2 ^ p.val < 2 ^ (p.val + 1) := by decide +kernel
theorem ofInt_u8 (a : Nat) (ha : a < 256) : (BitVec.ofInt 8 (a : Int)).toNat = a := by
  rw [BitVec.ofInt_natCast, BitVec.toNat_ofNat]; exact Nat.mod_eq_of_lt (by omega)
theorem u8_or_nat (a b : Nat) (ha : a < 256) (hb : b < 256) : bits .or .u8 (a : Int) (b : Int) = ((a ||| b : Nat) : Int) := by
  have hx : a ||| b < 2 ^ 8 := Nat.or_lt_two_pow (by omega) (by omega)
  show IntKind.u8.wrap ((BitVec.ofInt 8 (a : Int) ||| BitVec.ofInt 8 (b : Int)).toNat : Int) = _
  rw [BitVec.toNat_or, ofInt_u8 a ha, ofInt_u8 b hb, IntKind.wrap_u8]
  omega
theorem byte_nat {high : Bool} {y p b : Nat} (hy : y < 256) (hp : p < 8) (hb : b < 2) (h : good high y p) : (y ||| b * 2 ^ (plc high p)) = y + b * 2 ^ (plc high p) ∧ y + b * 2 ^ (plc high p) < 256 ∧ good high (y + b * 2 ^ (plc high p)) (p + 1) := by
  cases high with
  | true => exact nat_high ⟨p, hp⟩ ⟨b, hb⟩ ⟨y, hy⟩ h
  | false => exact nat_low ⟨p, hp⟩ ⟨b, hb⟩ ⟨y, hy⟩ h
theorem byte_or {high : Bool} {y p b : Nat} (hy : y < 256) (hp : p < 8) (hb : b < 2) (h : good high y p) : bits .or .u8 (y : Int) (wrap64 ((b : Int) * (2 : Int) ^ (plc high p)) % 256) = ((y + b * 2 ^ (plc high p) : Nat) : Int) ∧ y + b * 2 ^ (plc high p) < 256 ∧ good high (y + b * 2 ^ (plc high p)) (p + 1) := by
  obtain ⟨o1, o2, o3⟩ := byte_nat hy hp hb h
  refine ⟨?_, o2, o3⟩
  have ec : (b : Int) * (2 : Int) ^ (plc high p) = ((b * 2 ^ (plc high p) : Nat) : Int) := by push_cast; rfl
  rw [ec]
  clear ec
  obtain ⟨c, hc⟩ : ∃ c, b * 2 ^ (plc high p) = c := ⟨_, rfl⟩
  rw [hc] at o1 o2 ⊢
  clear hc o3
  have ew : wrap64 (c : Int) % 256 = (c : Int) := by
    rw [w64 (by omega) (by omega)] <;> omega
  rw [ew, u8_or_nat y c hy (by omega), o1]
structure Inv (high : Bool) (xs : List Int) (pos : Nat) : Prop where
  len : xs.length = (pos + 7) / 8
  byte : ∀ x ∈ xs, 0 ≤ x ∧ x ≤ 255
  last : pos % 8 ≠ 0 → good high (xs.getD (xs.length - 1) 0).toNat (pos % 8)
theorem Inv.nil (high : Bool) : Inv high [] 0 := ⟨rfl, by simp, by simp⟩

/-- The byte that takes the bit: a new one at the start of a byte. -/
def grown (xs : List Int) (pos : Nat) : List Int := if pos % 8 = 0 then xs ++ [0] else xs
theorem grown_ok {high : Bool} {xs : List Int} {pos : Nat} (h : Inv high xs pos) : (grown xs pos).length = pos / 8 + 1 ∧ (∀ x ∈ grown xs pos, 0 ≤ x ∧ x ≤ 255) ∧ good high ((grown xs pos).getD (pos / 8) 0).toNat (pos % 8) := by
  have hl := h.len
  unfold grown
  by_cases h0 : pos % 8 = 0
  · rw [if_pos h0]
    refine ⟨by rw [List.length_append, hl]; simp; omega, ?_, ?_⟩
    · intro x hx
      rcases List.mem_append.mp hx with hx | hx
      · exact h.byte x hx
      · simp at hx; omega
    · have e : pos / 8 = xs.length := by omega
      rw [e, h0]
      cases high <;> simp [good]
  · rw [if_neg h0]
    refine ⟨by omega, h.byte, ?_⟩
    have e : pos / 8 = xs.length - 1 := by omega
    rw [e]
    exact h.last h0
set_option maxHeartbeats 1000000 in
theorem bit_step {high : Bool} {xs : List Int} {pos b : Nat} (h : Inv high xs pos) (hb : b < 2) (hp : pos ≤ 1000000) :
    pkStep xs (pos : Int) (b : Int) high = (grown xs pos).set (pos / 8) ((rd (grown xs pos) ((pos / 8 : Nat) : Int) + wrap64 ((b : Int) * (2 : Int) ^ (plc high (pos % 8))) % 256) % 256) ∧ Inv high (pkStep xs (pos : Int) (b : Int) high) (pos + 1) := by
  obtain ⟨g1, g2, g3⟩ := grown_ok h
  obtain ⟨ys, hys⟩ : ∃ ys, grown xs pos = ys := ⟨_, rfl⟩
  rw [hys] at g1 g2 g3 ⊢
  have hin : pos / 8 < ys.length := by omega
  have hmem : ys.getD (pos / 8) 0 ∈ ys := by
    rw [List.getD_eq_getElem?_getD, List.getElem?_eq_getElem hin]; exact List.getElem_mem hin
  obtain ⟨y, hy⟩ : ∃ y : Nat, ys.getD (pos / 8) 0 = (y : Int) := ⟨(ys.getD (pos / 8) 0).toNat, by have := (g2 _ hmem).1; omega⟩
  have hy2 : y < 256 := by have := (g2 _ hmem).2; omega
  rw [hy] at g3
  have g3 : good high y (pos % 8) := g3
  obtain ⟨o1, o2, o3⟩ := byte_or hy2 (Nat.mod_lt pos (by omega)) hb g3
  obtain ⟨c, hc⟩ : ∃ c, b * 2 ^ (plc high (pos % 8)) = c := ⟨_, rfl⟩
  have ec : (b : Int) * (2 : Int) ^ (plc high (pos % 8)) = (c : Int) := by rw [← hc]; push_cast; rfl
  rw [hc] at o1 o2 o3
  rw [ec]
  clear ec hc
  have O1 := Aside0.mk o1
  clear o1
  have epl : (pkPlace (pos : Int) high).toNat = plc high (pos % 8) := by
    unfold pkPlace plc
    cases high <;> simp <;> omega
  have est : pkStep xs (pos : Int) (b : Int) high = ys.set (pos / 8) ((y + c : Nat) : Int) := by
    have e0 : pkStep xs (pos : Int) (b : Int) high = pkOr ys (pos : Int) (b : Int) high := by
      unfold pkStep
      rw [← hys]
      unfold grown
      by_cases h0 : pos % 8 = 0
      · rw [if_pos h0, if_pos (by omega)]
      · rw [if_neg h0, if_neg (by omega)]
    rw [e0]
    unfold pkOr
    have el : ys.length - 1 = pos / 8 := by omega
    rw [el, hy, epl, O1.out]
  clear O1 epl
  have erd : rd ys ((pos / 8 : Nat) : Int) = (y : Int) := by unfold rd; rw [Int.toNat_natCast]; exact hy
  have ew : wrap64 (c : Int) % 256 = (c : Int) := by
    rw [w64 (by omega) (by omega)] <;> omega
  have hEst := Aside0.mk est
  have hErd := Aside0.mk erd
  have hEw := Aside0.mk ew
  clear est erd ew
  refine ⟨?_, ?_⟩
  · have em : ((y : Int) + (c : Int)) % 256 = ((y + c : Nat) : Int) := by omega
    rw [hEst.out, hErd.out, hEw.out, em]
  · rw [hEst.out]
    refine ⟨by rw [List.length_set]; omega, ?_, ?_⟩
    · intro x hx
      rcases List.mem_or_eq_of_mem_set hx with hx | hx
      · exact g2 x hx
      · subst hx; clear hEst hErd hEw g3 o3; exact ⟨by omega, by omega⟩
    · intro h1
      have el : (ys.set (pos / 8) ((y + c : Nat) : Int)).length - 1 = pos / 8 := by rw [List.length_set]; omega
      rw [el]
      have eg : (ys.set (pos / 8) ((y + c : Nat) : Int)).getD (pos / 8) 0 = ((y + c : Nat) : Int) := by
        rw [List.getD_eq_getElem?_getD, List.getElem?_set_self hin, Option.getD_some]
      rw [eg, Int.toNat_natCast, show (pos + 1) % 8 = pos % 8 + 1 by omega]
      exact o3
theorem pkBit_lt (v : Int) (size : Nat) (high : Bool) (k : Nat) : ∃ b : Nat, b < 2 ∧ pkBit v size high k = (b : Int) := by
  refine ⟨(pkBit v size high k).toNat, ?_, ?_⟩ <;> (unfold pkBit; omega)
theorem tdiv8 {pos : Nat} (h : pos ≤ 1000000) : wrap64 (Int.tdiv (pos : Int) 8) = ((pos / 8 : Nat) : Int) := by
  rw [tdiv_nn (by omega)]; unfold wrap64; omega
theorem tmod8 (pos : Nat) : Int.tmod (pos : Int) 8 = ((pos % 8 : Nat) : Int) := by rw [tmod_nn (by omega)]; omega
theorem bit_text {v : Int} {e : Nat} (h0 : 0 ≤ v) (h1 : v ≤ 4294967296) : Int.tmod (wrap64 (Int.tdiv v ((2 : Int) ^ e))) 2 = v / 2 ^ e % 2 := by
  have hp := pow2_1 e
  have hd : 0 ≤ v / 2 ^ e := Int.ediv_nonneg h0 (by omega)
  have hd2 : v / 2 ^ e ≤ v := Int.ediv_le_self _ h0
  rw [tdiv_nn h0, w64 (by omega) (by omega), tmod_nn hd]
theorem seven (pos : Nat) : wrap64 (7 - ((pos % 8 : Nat) : Int)) = ((7 - pos % 8 : Nat) : Int) := by
  have h := Nat.mod_lt pos (show 0 < 8 by omega)
  obtain ⟨p, hp⟩ : ∃ p, pos % 8 = p := ⟨_, rfl⟩
  rw [hp] at h ⊢
  clear hp
  rw [w64 (by omega) (by omega)] <;> omega
theorem l1_step {P : ByteArray → Prop} {l : List S59} {high : Bool} {xs : List Int} {pos i j size : Nat} {v : Int} (hl : i < l.length) (he : rd_T59 l (i : Int) = ⟨v, size⟩) (hj : j < size) (hs : size ≤ 32) (_hll : l.length ≤ 1100000) (h0 : 0 ≤ v) (h1 : v ≤ 4294967296) (hp : pos ≤ 900000) (hI : Inv high xs pos)
    (k : Ok (fun n => spec_l1Put.l1 n l high (pkStep xs (pos : Int) (pkBit v size high j) high) ((pos : Int) + 1) (i : Int) ((j + 1 : Nat) : Int)) P) :
    Ok (fun n => spec_l1Put.l1 n l high xs (pos : Int) (i : Int) (j : Int)) P := by
  obtain ⟨b, hb, eb⟩ := pkBit_lt v size high j
  rw [eb] at k
  have EB := Aside0.mk eb
  clear eb
  have s1 := (bit_step hI hb (by omega)).1
  obtain ⟨g1, _, _⟩ := grown_ok hI
  have hxl : xs.length < 140737488355328 := by have := hI.len; omega
  have c1 : (0 : Int) ≤ (i : Int) := by omega
  have c2 : (i : Int) < (l.length : Int) := by omega
  have c3 : (j : Int) < (rd_T59 l (i : Int)).f1 := by rw [he]; show (j : Int) < (size : Int); omega
  have c4 : (0 : Int) ≤ ((pos / 8 : Nat) : Int) := by omega
  have ei : ((i : Nat) : Int).toNat = i := Int.toNat_natCast i
  have ep : ((pos / 8 : Nat) : Int).toNat = pos / 8 := Int.toNat_natCast _
  have e1 : wrap64 ((pos : Int) + 1) = (pos : Int) + 1 := by rw [w64 (by omega) (by omega)] <;> omega
  have e2 : wrap64 ((j : Int) + 1) = ((j + 1 : Nat) : Int) := by rw [w64 (by omega) (by omega)] <;> omega
  have e7 : wrap64 (7 - ((pos % 8 : Nat) : Int)) = ((7 - pos % 8 : Nat) : Int) := seven pos
  have hne : ∀ e : Nat, ¬ (2 : Int) ^ e = 0 := fun e => by have := pow2_1 e; omega
  have E1 := Aside0.mk e1
  have E2 := Aside0.mk e2
  have E7 := Aside0.mk e7
  have EP := Aside0.mk ep
  have S1 := Aside0.mk s1
  clear e1 e2 e7 ep ei s1
  refine Ok.succ ?_
  simp only [spec_l1Put.l1]
  refine Ok.yes c1 (Ok.yes c2 (Ok.yes c3 ?_))
  clear c3
  cases high with
  | true =>
    refine Ok.yes rfl ?_
    have ee : wrap64 (wrap64 ((rd_T59 l (i : Int)).f1 - 1) - (j : Int)) = ((size - 1 - j : Nat) : Int) := by
      rw [he]; show wrap64 (wrap64 ((size : Int) - 1) - (j : Int)) = _; rw [w64 (x := (size : Int) - 1) (by omega) (by omega), w64 (by omega) (by omega)] <;> omega
    rw [ee]
    refine Ok.succ ?_
    simp only [spec_l1Put.j2]
    refine Ok.yes c1 (Ok.yes c2 (Ok.bind (pow_ok (size - 1 - j) (by omega)) (fun a ha => ?_)))
    subst ha
    refine Ok.no (hne _) ?_
    have et : Int.tmod (wrap64 (Int.tdiv (rd_T59 l (i : Int)).f0 ((2 : Int) ^ (size - 1 - j)))) 2 = (b : Int) := by
      rw [he, ← EB.out]; exact bit_text h0 h1
    rw [et, tmod8, tdiv8 (by omega)]
    clear et EB
    by_cases hz : pos % 8 = 0
    · have eg : grown xs pos = xs ++ [0] := by unfold grown; rw [if_pos hz]
      have s1 := S1.out
      rw [eg] at s1 g1
      have c5 : ((pos / 8 : Nat) : Int) < ((xs ++ [0]).length : Int) := by omega
      have c6 : ((pos % 8 : Nat) : Int) = 0 := by omega
      refine Ok.yes c6 (Ok.yes hxl ?_)
      simp only [Option.bind_some]
      refine Ok.yes (by simp) (Ok.yes c4 (Ok.yes c5 ?_))
      rw [E7.out]
      refine Ok.bind (pow_ok (7 - pos % 8) (by omega)) (fun a ha => ?_)
      subst ha
      rw [E1.out, E2.out, EP.out]
      rw [show plc true (pos % 8) = 7 - pos % 8 from rfl] at s1
      rw [← s1]
      exact k
    · have eg : grown xs pos = xs := by unfold grown; rw [if_neg hz]
      have s1 := S1.out
      rw [eg] at s1 g1
      have c5 : ((pos / 8 : Nat) : Int) < ((xs).length : Int) := by omega
      have c6 : ¬ ((pos % 8 : Nat) : Int) = 0 := by omega
      refine Ok.no c6 (Ok.yes (by simp) (Ok.yes c4 (Ok.yes c5 ?_)))
      rw [E7.out]
      refine Ok.bind (pow_ok (7 - pos % 8) (by omega)) (fun a ha => ?_)
      subst ha
      rw [E1.out, E2.out, EP.out]
      rw [show plc true (pos % 8) = 7 - pos % 8 from rfl] at s1
      rw [← s1]
      exact k
  | false =>
    refine Ok.no Bool.false_ne_true ?_
    refine Ok.succ ?_
    simp only [spec_l1Put.j2]
    refine Ok.yes c1 (Ok.yes c2 (Ok.bind (pow_ok j (by omega)) (fun a ha => ?_)))
    subst ha
    refine Ok.no (hne _) ?_
    have et : Int.tmod (wrap64 (Int.tdiv (rd_T59 l (i : Int)).f0 ((2 : Int) ^ j))) 2 = (b : Int) := by
      rw [he, ← EB.out]; exact bit_text h0 h1
    rw [et, tmod8, tdiv8 (by omega)]
    clear et EB
    by_cases hz : pos % 8 = 0
    · have eg : grown xs pos = xs ++ [0] := by unfold grown; rw [if_pos hz]
      have s1 := S1.out
      rw [eg] at s1 g1
      have c5 : ((pos / 8 : Nat) : Int) < ((xs ++ [0]).length : Int) := by omega
      have c6 : ((pos % 8 : Nat) : Int) = 0 := by omega
      refine Ok.yes c6 (Ok.yes hxl ?_)
      simp only [Option.bind_some]
      refine Ok.no (by simp) (Ok.yes c4 (Ok.yes c5 ?_))
      refine Ok.bind (pow_ok (pos % 8) (by omega)) (fun a ha => ?_)
      subst ha
      rw [E1.out, E2.out, EP.out]
      rw [show plc false (pos % 8) = pos % 8 from rfl] at s1
      rw [← s1]
      exact k
    · have eg : grown xs pos = xs := by unfold grown; rw [if_neg hz]
      have s1 := S1.out
      rw [eg] at s1 g1
      have c5 : ((pos / 8 : Nat) : Int) < ((xs).length : Int) := by omega
      have c6 : ¬ ((pos % 8 : Nat) : Int) = 0 := by omega
      refine Ok.no c6 (Ok.no (by simp) (Ok.yes c4 (Ok.yes c5 ?_)))
      refine Ok.bind (pow_ok (pos % 8) (by omega)) (fun a ha => ?_)
      subst ha
      rw [E1.out, E2.out, EP.out]
      rw [show plc false (pos % 8) = pos % 8 from rfl] at s1
      rw [← s1]
      exact k
theorem l1_run {P : ByteArray → Prop} {l : List S59} {high : Bool} {i size : Nat} {v : Int} (hl : i < l.length) (he : rd_T59 l (i : Int) = ⟨v, size⟩) (hs : size ≤ 32) (hll : l.length ≤ 1100000) (h0 : 0 ≤ v) (h1 : v ≤ 4294967296) (d : Nat) : ∀ (j pos : Nat) (xs : List Int), j + d = size → pos ≤ 800000 + j → Inv high xs pos →
    Inv high (pkPut v size high j xs (pos : Int) d) (pos + d) ∧ (Ok (fun n => spec_l1Put.l0 n l high (pkPut v size high j xs (pos : Int) d) ((pos + d : Nat) : Int) ((i + 1 : Nat) : Int)) P → Ok (fun n => spec_l1Put.l1 n l high xs (pos : Int) (i : Int) (j : Int)) P) := by
  induction d with
  | zero =>
    intro j pos xs hd hp hI
    refine ⟨hI, fun k => ?_⟩
    refine Ok.succ ?_
    simp only [spec_l1Put.l1]
    refine Ok.yes (by omega) (Ok.yes (by omega) (Ok.no (by rw [he]; show ¬ (j : Int) < (size : Int); omega) ?_))
    rw [show wrap64 ((i : Int) + 1) = ((i + 1 : Nat) : Int) by rw [w64 (by omega) (by omega)] <;> omega]
    exact k
  | succ d ih =>
    intro j pos xs hd hp hI
    obtain ⟨b, hb, eb⟩ := pkBit_lt v size high j
    have hI2 : Inv high (pkStep xs (pos : Int) (pkBit v size high j) high) (pos + 1) := by rw [eb]; exact (bit_step hI hb (by omega)).2
    obtain ⟨r1, r2⟩ := ih (j + 1) (pos + 1) _ (by omega) (by omega) hI2
    have e1 : ((pos + 1 : Nat) : Int) = (pos : Int) + 1 := by omega
    rw [e1, show pos + 1 + d = pos + (d + 1) by omega] at r1 r2
    refine ⟨r1, fun k => ?_⟩
    exact l1_step hl he (by omega) hs hll h0 h1 (by omega) hI (r2 k)
def sizeOk (b : S59) : Prop := 0 ≤ b.f0 ∧ b.f0 ≤ 4294967296 ∧ 0 ≤ b.f1 ∧ b.f1 ≤ 32
theorem bitsSum_nonneg : ∀ l : List S59, (∀ b ∈ l, sizeOk b) → 0 ≤ bitsSum l
  | [], _ => by simp [bitsSum]
  | b :: l, h => by
    have h1 := bitsSum_nonneg l (fun x hx => h x (List.mem_cons_of_mem _ hx))
    have h2 := (h b List.mem_cons_self).2.2.1
    simp only [bitsSum]; omega
theorem l0_run (l : List S59) (high : Bool) (hll : l.length ≤ 1100000) (hok : ∀ b ∈ l, sizeOk b) (d : Nat) : ∀ (i pos : Nat) (xs : List Int), i + d = l.length → (pos : Int) + bitsSum (l.drop i) ≤ 800000 → Inv high xs pos →
    Ok (fun n => spec_l1Put.l0 n l high xs (pos : Int) (i : Int)) (· = strOfNums (pkBits high (l.drop i) xs (pos : Int))) := by
  induction d with
  | zero =>
    intro i pos xs hd _ _
    refine Ok.succ ?_
    simp only [spec_l1Put.l0]
    refine Ok.no (by omega) ?_
    rw [List.drop_eq_nil_of_le (by omega)]
    exact Ok.now _ rfl
  | succ d ih =>
    intro i pos xs hd hp hI
    have hi : i < l.length := by omega
    have hc : l.drop i = l[i] :: l.drop (i + 1) := List.drop_eq_getElem_cons hi
    rw [hc] at hp ⊢
    obtain ⟨b, hb⟩ : ∃ b, l[i] = b := ⟨_, rfl⟩
    obtain ⟨q1, q2, q3, q4⟩ := hok l[i] (List.getElem_mem hi)
    rw [hb] at hp q1 q2 q3 q4 ⊢
    obtain ⟨s, hs⟩ : ∃ s : Nat, b.f1 = (s : Int) := ⟨b.f1.toNat, by omega⟩
    have he : rd_T59 l (i : Int) = ⟨b.f0, (s : Int)⟩ := by
      rw [← hs]
      show l.getD (i : Int).toNat z59 = _
      rw [Int.toNat_natCast, List.getD_eq_getElem?_getD, List.getElem?_eq_getElem hi, hb]; rfl
    have hn := bitsSum_nonneg (l.drop (i + 1)) (fun x hx => hok x (List.mem_of_mem_drop hx))
    simp only [bitsSum, pkBits] at hp ⊢
    rw [hs] at hp q3 q4 ⊢
    rw [Int.toNat_natCast]
    refine Ok.succ ?_
    simp only [spec_l1Put.l0]
    refine Ok.yes (by omega) ?_
    obtain ⟨r1, r2⟩ := l1_run (P := (· = strOfNums (pkBits high (l.drop (i + 1)) (pkPut b.f0 s high 0 xs (pos : Int) s) ((pos : Int) + (s : Int))))) (high := high) hi he (by omega) hll q1 q2 s 0 pos xs (by omega) (by omega) hI
    refine r2 ?_
    have h2 := ih (i + 1) (pos + s) _ (by omega) (by push_cast; omega) r1
    rw [show ((pos + s : Nat) : Int) = (pos : Int) + (s : Int) by omega] at h2 ⊢
    exact h2
theorem l1Put_ok (l : List S59) (high : Bool) (hll : l.length ≤ 1100000) (hok : ∀ b ∈ l, sizeOk b) (hsum : bitsSum l ≤ 800000) : Ok (fun n => spec_l1Put.f n l high) (· = strOfNums (pkBits high l [] 0)) := by
  unfold spec_l1Put.f
  exact l0_run l high hll hok l.length 0 0 [] (by omega) (by simpa using hsum) (Inv.nil high)
end Go.Proofs.Yteikopjhekhchaa.Pure
/- The reading side: what bit stands at a place of the packed bytes. -/
namespace Go.Proofs.Yteikopjhekhchaa.Pure
open Go.RowKit Go.Proofs.Yteikopjhekhchaa.P Go.Proofs.Yteikopjhekhchaa.Lib Go.Proofs.YteikopjhekhchaaW.PrintWords Go.Proofs.YteikopjhekhchaaW.PrintLast

theorem nat_keep_high : ∀ (p q : Fin 8) (b : Fin 2) (y : Fin 256), q.val < p.val → (y.val + b.val * 2 ^ (7 - p.val)) % 256 = y.val + b.val * 2 ^ (7 - p.val) → y.val % 2 ^ (8 - p.val) = 0 → (y.val + b.val * 2 ^ (7 - p.val)) / 2 ^ (7 - q.val) % 2 = y.val / 2 ^ (7 - q.val) % 2 := by decide +kernel
theorem nat_keep_low : ∀ (p q : Fin 8) (b : Fin 2) (y : Fin 256), q.val < p.val → y.val < 2 ^ p.val → (y.val + b.val * 2 ^ p.val) / 2 ^ q.val % 2 = y.val / 2 ^ q.val % 2 := by decide +kernel
theorem nat_new_high : ∀ (p : Fin 8) (b : Fin 2) (y : Fin 256), y.val % 2 ^ (8 - p.val) = 0 → (y.val + b.val * 2 ^ (7 - p.val)) / 2 ^ (7 - p.val) % 2 = b.val := by decide +kernel
theorem nat_new_low : ∀ (p : Fin 8) (b : Fin 2) (y : Fin 256), y.val < 2 ^ p.val → (y.val + b.val * 2 ^ p.val) / 2 ^ p.val % 2 = b.val := by decide +kernel
theorem byte_keep {high : Bool} {y p q b : Nat} (hy : y < 256) (hp : p < 8) (hq : q < p) (hb : b < 2) (h : good high y p) (h2 : y + b * 2 ^ (plc high p) < 256) : (y + b * 2 ^ (plc high p)) / 2 ^ (plc high q) % 2 = y / 2 ^ (plc high q) % 2 := by
  cases high with
  | true => exact nat_keep_high ⟨p, hp⟩ ⟨q, by omega⟩ ⟨b, hb⟩ ⟨y, hy⟩ hq (Nat.mod_eq_of_lt h2) h
  | false => exact nat_keep_low ⟨p, hp⟩ ⟨q, by omega⟩ ⟨b, hb⟩ ⟨y, hy⟩ hq h
theorem byte_new {high : Bool} {y p b : Nat} (hy : y < 256) (hp : p < 8) (hb : b < 2) (h : good high y p) : (y + b * 2 ^ (plc high p)) / 2 ^ (plc high p) % 2 = b := by
  cases high with
  | true => exact nat_new_high ⟨p, hp⟩ ⟨b, hb⟩ ⟨y, hy⟩ h
  | false => exact nat_new_low ⟨p, hp⟩ ⟨b, hb⟩ ⟨y, hy⟩ h
/-- Bit number p of the bytes. -/
def bitv (high : Bool) (xs : List Int) (p : Nat) : Nat := (xs.getD (p / 8) 0).toNat / 2 ^ (plc high (p % 8)) % 2
theorem step_form {high : Bool} {xs : List Int} {pos b : Nat} (h : Inv high xs pos) (hb : b < 2) (hp : pos ≤ 1000000) :
    ∃ y : Nat, y < 256 ∧ (grown xs pos).getD (pos / 8) 0 = (y : Int) ∧ good high y (pos % 8) ∧ y + b * 2 ^ (plc high (pos % 8)) < 256 ∧ pkStep xs (pos : Int) (b : Int) high = (grown xs pos).set (pos / 8) ((y + b * 2 ^ (plc high (pos % 8)) : Nat) : Int) := by
  obtain ⟨g1, g2, g3⟩ := grown_ok h
  have s := (bit_step h hb hp).1
  have hin : pos / 8 < (grown xs pos).length := by omega
  have hmem : (grown xs pos).getD (pos / 8) 0 ∈ grown xs pos := by
    rw [List.getD_eq_getElem?_getD, List.getElem?_eq_getElem hin]; exact List.getElem_mem hin
  obtain ⟨y, hy⟩ : ∃ y : Nat, (grown xs pos).getD (pos / 8) 0 = (y : Int) := ⟨((grown xs pos).getD (pos / 8) 0).toNat, by have := (g2 _ hmem).1; omega⟩
  have hy2 : y < 256 := by have := (g2 _ hmem).2; omega
  rw [hy] at g3
  have g3 : good high y (pos % 8) := g3
  have o2 := (byte_nat hy2 (Nat.mod_lt pos (Nat.succ_pos 7)) hb g3).2.1
  refine ⟨y, hy2, hy, g3, o2, ?_⟩
  have er : rd (grown xs pos) ((pos / 8 : Nat) : Int) = (y : Int) := by unfold rd; rw [Int.toNat_natCast]; exact hy
  have ec : (b : Int) * (2 : Int) ^ (plc high (pos % 8)) = ((b * 2 ^ (plc high (pos % 8)) : Nat) : Int) := by push_cast; rfl
  rw [s, er, ec]
  obtain ⟨c, hc⟩ : ∃ c, b * 2 ^ (plc high (pos % 8)) = c := ⟨_, rfl⟩
  rw [hc] at o2 ⊢
  clear hc ec s er g3 hmem hy
  have ew : wrap64 (c : Int) % 256 = (c : Int) := by rw [w64 (by omega) (by omega)]; omega
  have em : ((y : Int) + (c : Int)) % 256 = ((y + c : Nat) : Int) := by omega
  rw [ew, em]
theorem grown_get {xs : List Int} {pos p : Nat} (hl : xs.length = (pos + 7) / 8) (hp : p < pos) : (grown xs pos).getD (p / 8) 0 = xs.getD (p / 8) 0 := by
  unfold grown
  split
  · rw [List.getD_eq_getElem?_getD, List.getD_eq_getElem?_getD, List.getElem?_append_left (by omega)]
  · rfl
theorem bit_new {high : Bool} {xs : List Int} {pos b : Nat} (h : Inv high xs pos) (hb : b < 2) (hp : pos ≤ 1000000) : bitv high (pkStep xs (pos : Int) (b : Int) high) pos = b := by
  obtain ⟨y, y1, _, y3, _, y5⟩ := step_form h hb hp
  have hin : pos / 8 < (grown xs pos).length := by have := (grown_ok h).1; rw [this]; exact Nat.lt_succ_self _
  have hm8 : pos % 8 < 8 := Nat.mod_lt pos (Nat.succ_pos 7)
  unfold bitv
  rw [y5, List.getD_eq_getElem?_getD, List.getElem?_set_self hin, Option.getD_some, Int.toNat_natCast]
  exact byte_new y1 hm8 hb y3
theorem bit_keep {high : Bool} {xs : List Int} {pos b p : Nat} (h : Inv high xs pos) (hb : b < 2) (hp : pos ≤ 1000000) (hq : p < pos) : bitv high (pkStep xs (pos : Int) (b : Int) high) p = bitv high xs p := by
  have hin : pos / 8 < (grown xs pos).length := by have := (grown_ok h).1; rw [this]; exact Nat.lt_succ_self _
  have hm8 : pos % 8 < 8 := Nat.mod_lt pos (Nat.succ_pos 7)
  have hlt8 : p / 8 = pos / 8 → p % 8 < pos % 8 := by omega
  obtain ⟨y, y1, y2, y3, y4, y5⟩ := step_form h hb hp
  unfold bitv
  rw [y5, ← grown_get h.len hq]
  by_cases e : p / 8 = pos / 8
  · rw [e, y2, List.getD_eq_getElem?_getD, List.getElem?_set_self hin, Option.getD_some, Int.toNat_natCast, Int.toNat_natCast]
    exact byte_keep y1 hm8 (hlt8 e) hb y3 y4
  · rw [List.getD_eq_getElem?_getD, List.getElem?_set_ne (fun q => e q.symm), ← List.getD_eq_getElem?_getD]
theorem put_bits (v : Int) (size : Nat) (high : Bool) (d : Nat) : ∀ (k pos : Nat) (xs : List Int), Inv high xs pos → pos + d ≤ 1000000 →
    Inv high (pkPut v size high k xs (pos : Int) d) (pos + d) ∧ (∀ p, p < pos → bitv high (pkPut v size high k xs (pos : Int) d) p = bitv high xs p) ∧ (∀ i, i < d → ((bitv high (pkPut v size high k xs (pos : Int) d) (pos + i) : Nat) : Int) = pkBit v size high (k + i)) := by
  induction d with
  | zero => intro k pos xs hI hp; exact ⟨hI, fun p _ => rfl, fun i hi => absurd hi (Nat.not_lt_zero i)⟩
  | succ d ih =>
    intro k pos xs hI hp
    obtain ⟨b, hb, eb⟩ := pkBit_lt v size high k
    have hp1 : pos ≤ 1000000 := by omega
    have hp2 : pos + 1 + d ≤ 1000000 := by omega
    have hI2 := (bit_step hI hb hp1).2
    obtain ⟨r1, r2, r3⟩ := ih (k + 1) (pos + 1) _ hI2 hp2
    simp only [pkPut]
    rw [eb]
    rw [show ((pos + 1 : Nat) : Int) = (pos : Int) + 1 from rfl] at r1 r2 r3
    refine ⟨by rw [show pos + (d + 1) = pos + 1 + d by omega]; exact r1, fun p hq => ?_, fun i hi => ?_⟩
    · rw [r2 p (Nat.lt_succ_of_lt hq)]
      exact bit_keep hI hb hp1 hq
    · cases i with
      | zero =>
        rw [show pos + 0 = pos from rfl, show k + 0 = k from rfl, r2 pos (Nat.lt_succ_self pos), bit_new hI hb hp1, eb]
      | succ i =>
        have h := r3 i (Nat.lt_of_succ_lt_succ hi)
        rw [show pos + (i + 1) = pos + 1 + i by omega, show k + (i + 1) = k + 1 + i by omega]
        exact h
end Go.Proofs.Yteikopjhekhchaa.Pure
/- The reference's RowPut tells what the program's RowPut tells. -/
namespace Go.Proofs.Yteikopjhekhchaa.Pure
open Go.RowKit Go.Proofs.Yteikopjhekhchaa.P Go.Proofs.Yteikopjhekhchaa.Lib Go.Proofs.YteikopjhekhchaaW.PrintWords Go.Proofs.YteikopjhekhchaaW.PrintLast

theorem pkPut_congr (v v' : Int) (s s' : Nat) (high : Bool) (d : Nat) : ∀ (k k' : Nat) (xs : List Int) (pos : Int), (∀ i, i < d → pkBit v s high (k + i) = pkBit v' s' high (k' + i)) → pkPut v s high k xs pos d = pkPut v' s' high k' xs pos d := by
  induction d with
  | zero => intro k k' xs pos _; rfl
  | succ d ih =>
    intro k k' xs pos h
    simp only [pkPut]
    have h0 := h 0 (by omega)
    rw [Nat.add_zero, Nat.add_zero] at h0
    rw [h0]
    refine ih (k + 1) (k' + 1) _ _ (fun i hi => ?_)
    have h1 := h (i + 1) (by omega)
    rw [show k + (i + 1) = k + 1 + i by omega, show k' + (i + 1) = k' + 1 + i by omega] at h1
    exact h1
theorem pkPut_add (v : Int) (s : Nat) (high : Bool) (b : Nat) (a : Nat) : ∀ (k : Nat) (xs : List Int) (pos : Int), pkPut v s high k xs pos (a + b) = pkPut v s high (k + a) (pkPut v s high k xs pos a) (pos + a) b := by
  induction a with
  | zero => intro k xs pos; simp [pkPut]
  | succ a ih =>
    intro k xs pos
    rw [show a + 1 + b = (a + b) + 1 by omega]
    simp only [pkPut]
    rw [ih]
    congr 1 <;> (push_cast; omega)
theorem two_halves (v : Int) (xs : List Int) (pos : Int) : pkPut v 32 true 0 xs pos 32 = pkPut (v % 65536) 16 true 0 (pkPut (v / 65536) 16 true 0 xs pos 16) (pos + 16) 16 := by
  rw [show (32 : Nat) = 16 + 16 from rfl, pkPut_add]
  rw [pkPut_congr v (v / 65536) (16 + 16) 16 true 16 0 0 xs pos, pkPut_congr v (v % 65536) (16 + 16) 16 true 16 (0 + 16) 0 _ _]
  · rfl
  · intro i hi
    unfold pkBit
    have h : i = 0 ∨ i = 1 ∨ i = 2 ∨ i = 3 ∨ i = 4 ∨ i = 5 ∨ i = 6 ∨ i = 7 ∨ i = 8 ∨ i = 9 ∨ i = 10 ∨ i = 11 ∨ i = 12 ∨ i = 13 ∨ i = 14 ∨ i = 15 := by omega
    rcases h with rfl | rfl | rfl | rfl | rfl | rfl | rfl | rfl | rfl | rfl | rfl | rfl | rfl | rfl | rfl | rfl <;> (simp only [if_true, Nat.reduceAdd, Nat.reduceSub, Int.reducePow]; omega)
  · intro i hi
    unfold pkBit
    have h : i = 0 ∨ i = 1 ∨ i = 2 ∨ i = 3 ∨ i = 4 ∨ i = 5 ∨ i = 6 ∨ i = 7 ∨ i = 8 ∨ i = 9 ∨ i = 10 ∨ i = 11 ∨ i = 12 ∨ i = 13 ∨ i = 14 ∨ i = 15 := by omega
    rcases h with rfl | rfl | rfl | rfl | rfl | rfl | rfl | rfl | rfl | rfl | rfl | rfl | rfl | rfl | rfl | rfl <;> (simp only [if_true, Nat.reduceAdd, Nat.reduceSub, Int.reducePow]; omega)
def rowBits (D : Nat) : List Int → List S59
  | [] => []
  | x :: l => if D > 24 then ⟨x / 65536, 16⟩ :: ⟨x % 65536, 16⟩ :: rowBits D l else ⟨x, (D : Int)⟩ :: rowBits D l
theorem row_bits (D : Nat) (hD : D ≤ 24 ∨ D = 32) : ∀ (l xs : List Int) (pos : Int), pkBits true (rowBits D l) xs pos = pkRow D l xs pos
  | [], xs, pos => rfl
  | x :: l, xs, pos => by
    rcases hD with h | rfl
    · simp only [rowBits]
      rw [if_neg (by omega)]
      simp only [pkBits, pkRow, Int.toNat_natCast]
      exact row_bits D (.inl h) l _ _
    · simp only [rowBits]
      rw [if_pos (by omega)]
      simp only [pkBits, pkRow]
      rw [row_bits 32 (.inr rfl) l _ _, two_halves]
      congr 1
      omega
theorem rowBits_len (D : Nat) : ∀ l : List Int, (rowBits D l).length ≤ 2 * l.length
  | [] => Nat.le_refl 0
  | x :: l => by
    have h := rowBits_len D l
    simp only [rowBits]
    split <;> (simp only [List.length_cons]; omega)
def rowGood (D : Nat) (x : Int) : Prop := 0 ≤ x ∧ x ≤ 2 ^ D - 1
theorem rowGood_le {D : Nat} {x : Int} (hD : D ≤ 24 ∨ D = 32) (h : rowGood D x) : 0 ≤ x ∧ x ≤ 4294967295 := by
  have h2 := pow2_32 (D := D) (by omega)
  unfold rowGood at h
  omega
theorem rowBits_ok (D : Nat) (hD : D ≤ 24 ∨ D = 32) : ∀ l : List Int, (∀ x ∈ l, rowGood D x) → (∀ b ∈ rowBits D l, sizeOk b) ∧ bitsSum (rowBits D l) ≤ 32 * l.length
  | [], _ => by simp [rowBits, bitsSum]
  | x :: l, h => by
    obtain ⟨h1, h2⟩ := rowBits_ok D hD l (fun y hy => h y (List.mem_cons_of_mem _ hy))
    have hx := rowGood_le hD (h x List.mem_cons_self)
    simp only [rowBits]
    by_cases hd : D > 24
    · rw [if_pos hd]
      refine ⟨?_, by simp only [bitsSum, List.length_cons]; push_cast; omega⟩
      intro b hb
      rcases List.mem_cons.mp hb with rfl | hb
      · exact ⟨by show 0 ≤ x / 65536; omega, by show x / 65536 ≤ 4294967296; omega, by show (0 : Int) ≤ 16; omega, by show (16 : Int) ≤ 32; omega⟩
      rcases List.mem_cons.mp hb with rfl | hb
      · exact ⟨by show 0 ≤ x % 65536; omega, by show x % 65536 ≤ 4294967296; omega, by show (0 : Int) ≤ 16; omega, by show (16 : Int) ≤ 32; omega⟩
      exact h1 b hb
    · rw [if_neg hd]
      refine ⟨?_, by simp only [bitsSum, List.length_cons]; push_cast; omega⟩
      intro b hb
      rcases List.mem_cons.mp hb with rfl | hb
      · exact ⟨hx.1, by show x ≤ 4294967296; omega, by show (0 : Int) ≤ (D : Int); omega, by show (D : Int) ≤ 32; omega⟩
      exact h1 b hb
theorem rd_drop {l : List Int} {i : Nat} (h : i < l.length) : l.drop i = rd l (i : Int) :: l.drop (i + 1) := by
  rw [List.drop_eq_getElem_cons h]
  unfold rd
  rw [Int.toNat_natCast, List.getD_eq_getElem?_getD, List.getElem?_eq_getElem h, Option.getD_some]
theorem l8_run (l : List Int) (D : Nat) (hD : D ≤ 24 ∨ D = 32) (hl : l.length ≤ 1000) (hg : ∀ x ∈ l, rowGood D x) (d : Nat) : ∀ (i : Nat) (acc : List S59), i + d = l.length → acc ++ rowBits D (l.drop i) = rowBits D l →
    Ok (fun n => spec_l8Row.l0 n l (D : Int) acc (i : Int)) (· = strOfNums (pkRow D l [] 0)) := by
  have hlen := rowBits_len D l
  induction d with
  | zero =>
    intro i acc hi ha
    rw [List.drop_eq_nil_of_le (by omega)] at ha
    simp only [rowBits, List.append_nil] at ha
    subst ha
    refine Ok.succ ?_
    simp only [spec_l8Row.l0]
    have c1 : ¬ (i : Int) < (l.length : Int) := by omega
    refine Ok.no c1 ?_
    obtain ⟨h1, h2⟩ := rowBits_ok D hD l hg
    have hp := l1Put_ok (rowBits D l) true (by omega) h1 (by omega)
    rw [row_bits D hD] at hp
    exact Ok.bind hp (fun a ha => Ok.now a ha)
  | succ d ih =>
    intro i acc hi ha
    have hlt : i < l.length := by omega
    have hal : acc.length ≤ 2000 := by
      have := congrArg List.length ha
      rw [List.length_append] at this
      omega
    rw [rd_drop hlt] at ha
    have hx : rowGood D (rd l (i : Int)) := hg _ (rd_mem (by omega) (by omega))
    obtain ⟨x, hxx⟩ : ∃ x, rd l (i : Int) = x := ⟨_, rfl⟩
    rw [hxx] at ha hx
    have hx2 := rowGood_le hD hx
    have e1 : wrap64 ((i : Int) + 1) = ((i + 1 : Nat) : Int) := by rw [w64 (by omega) (by omega)] <;> omega
    have c1 : (i : Int) < (l.length : Int) := by omega
    have c2 : (0 : Int) ≤ (i : Int) := by omega
    have e2 : wrap64 (Int.tdiv x 65536) = x / 65536 := by rw [tdiv_nn hx2.1, w64 (by omega) (by omega)]
    have e3 : Int.tmod x 65536 = x % 65536 := tmod_nn hx2.1
    simp only [rowBits] at ha
    refine Ok.succ ?_
    simp only [spec_l8Row.l0]
    refine Ok.yes c1 ?_
    rw [hxx, e1, e2, e3]
    by_cases hd : D > 24
    · rw [if_pos hd] at ha
      have c3 : (D : Int) > 24 := by omega
      have c4 : acc.length + [(⟨x / 65536, 16⟩ : S59), (⟨x % 65536, 16⟩ : S59)].length < 8796093022208 := by simp only [List.length_cons, List.length_nil]; omega
      refine Ok.yes c3 (Ok.yes c2 ?_)
      simp only [Option.bind_some]
      refine Ok.yes c4 ?_
      exact ih (i + 1) _ (by omega) (by rw [← ha]; simp)
    · rw [if_neg hd] at ha
      have c3 : ¬ (D : Int) > 24 := by omega
      have c4 : acc.length < 8796093022208 := by omega
      refine Ok.no c3 (Ok.yes c2 (Ok.yes c4 ?_))
      exact ih (i + 1) _ (by omega) (by rw [← ha]; simp)
theorem bad_good {D : Nat} {x : Int} : impl_outside.bad (2 ^ D - 1) x = false ↔ rowGood D x := by
  unfold impl_outside.bad rowGood
  simp
theorem bits_dec (a : Int) : spec_l8Bits.f a = some (decide (rowD a)) := by
  unfold spec_l8Bits.f rowD
  by_cases h1 : a = 1 <;> by_cases h2 : a = 2 <;> by_cases h3 : a = 4 <;> by_cases h4 : a = 8 <;> by_cases h5 : a = 24 <;> by_cases h6 : a = 32 <;> simp [h1, h2, h3, h4, h5, h6]
theorem scan_run (l : List Int) (D : Nat) (hD : D ≤ 24 ∨ D = 32) (hl : l.length ≤ 1000) (d : Nat) : ∀ (i : Nat), i + d = l.length → (l.any (impl_outside.bad (2 ^ D - 1)) = true → (l.drop i).any (impl_outside.bad (2 ^ D - 1)) = true) →
    Ok (fun n => spec_RowPut.l0 n l (D : Int) (i : Int)) (· = if l.any (impl_outside.bad (2 ^ D - 1)) = true then ⟨#[]⟩ else strOfNums (pkRow D l [] 0)) := by
  induction d with
  | zero =>
    intro i hi h
    rw [List.drop_eq_nil_of_le (by omega)] at h
    have hn : ¬ l.any (impl_outside.bad (2 ^ D - 1)) = true := fun q => by simpa using h q
    rw [if_neg hn]
    have hg : ∀ x ∈ l, rowGood D x := by
      intro x hx
      rw [← bad_good]
      cases hb : impl_outside.bad (2 ^ D - 1) x with
      | false => rfl
      | true => exact absurd (List.any_eq_true.2 ⟨x, hx, hb⟩) hn
    refine Ok.succ ?_
    simp only [spec_RowPut.l0]
    have c1 : ¬ (i : Int) < (l.length : Int) := by omega
    refine Ok.no c1 ?_
    have h8 := l8_run l D hD hl hg l.length 0 [] (by omega) (by simp)
    unfold spec_l8Row.f
    exact Ok.bind h8 (fun a ha => Ok.now a ha)
  | succ d ih =>
    intro i hi h
    have hlt : i < l.length := by omega
    rw [rd_drop hlt] at h
    have hm : rd l (i : Int) ∈ l := rd_mem (by omega) (by omega)
    obtain ⟨x, hxx⟩ : ∃ x, rd l (i : Int) = x := ⟨_, rfl⟩
    rw [hxx] at h hm
    have e1 : wrap64 ((i : Int) + 1) = ((i + 1 : Nat) : Int) := by rw [w64 (by omega) (by omega)] <;> omega
    have c1 : (i : Int) < (l.length : Int) := by omega
    have c2 : (0 : Int) ≤ (i : Int) := by omega
    have p1 := pow2_1 D
    have p2 := pow2_32 (D := D) (by omega)
    have e2 : wrap64 ((2 : Int) ^ D - 1) = 2 ^ D - 1 := w64 (by omega) (by omega)
    have e3 : spec_l1In.f x 0 ((2 : Int) ^ D - 1) = some (!impl_outside.bad (2 ^ D - 1) x) := by
      unfold spec_l1In.f impl_outside.bad
      by_cases hx : x ≥ 0
      · have hx' : 0 ≤ x := hx
        rw [if_pos hx]; simp [hx']
      · have hx' : ¬ 0 ≤ x := hx
        rw [if_neg hx]; simp [hx']
    refine Ok.succ ?_
    simp only [spec_RowPut.l0]
    refine Ok.yes c1 (Ok.yes c2 (Ok.bind (pow_ok D (by omega)) (fun a ha => ?_)))
    subst ha
    rw [hxx, e1, e2, e3]
    simp only [Option.bind_some]
    cases hb : impl_outside.bad (2 ^ D - 1) x with
    | true =>
      rw [if_pos (List.any_eq_true.2 ⟨x, hm, hb⟩)]
      refine Ok.no (by simp) ?_
      exact Ok.now _ rfl
    | false =>
      refine Ok.yes (by simp) ?_
      refine ih (i + 1) (by omega) (fun q => ?_)
      have := h q
      rw [List.any_cons, hb, Bool.false_or] at this
      exact this
/-- The reference's RowPut tells what the program's tells. -/
theorem rowPut_ok (l : List Int) (a : Int) : ∃ r, impl_RowPut.f l a = some r ∧ Ok (fun n => spec_RowPut.f n l a) (· = r) := by
  unfold impl_RowPut.f spec_RowPut.f
  simp only [bits_dec, Option.bind_some]
  by_cases hd : rowD a
  · rw [if_pos hd]
    have c1 : decide (rowD a) = true := decide_eq_true hd
    obtain ⟨D, rfl⟩ : ∃ D : Nat, a = (D : Int) := ⟨a.toNat, by unfold rowD at hd; omega⟩
    have hD : D ≤ 24 ∨ D = 32 := by unfold rowD at hd; omega
    rw [Int.toNat_natCast]
    by_cases hl : l.length ≤ 1000
    · rw [if_pos hl]
      have c2 : ¬ decide ((l.length : Int) > 1000) = true := by simp; omega
      refine ⟨if l.any (impl_outside.bad (2 ^ D - 1)) = true then ⟨#[]⟩ else strOfNums (pkRow D l [] 0), by split <;> rfl, Ok.yes c1 ?_⟩
      refine Ok.succ ?_
      simp only [spec_RowPut.j0]
      refine Ok.no c2 ?_
      exact scan_run l D hD hl l.length 0 (by omega) (fun q => by simpa using q)
    · rw [if_neg hl]
      refine ⟨_, rfl, Ok.yes c1 ?_⟩
      have c2 : decide ((l.length : Int) > 1000) = true := by simp; omega
      refine Ok.succ ?_
      simp only [spec_RowPut.j0]
      exact Ok.yes c2 (Ok.now _ rfl)
  · rw [if_neg hd]
    refine ⟨_, rfl, Ok.no (by simpa using hd) ?_⟩
    refine Ok.succ ?_
    simp only [spec_RowPut.j0]
    exact Ok.yes (by simp) (Ok.now _ rfl)
end Go.Proofs.Yteikopjhekhchaa.Pure
/- What pkRow and pkBits put, read back bit by bit. -/
namespace Go.Proofs.Yteikopjhekhchaa.Pure
open Go.RowKit Go.Proofs.Yteikopjhekhchaa.P Go.Proofs.Yteikopjhekhchaa.Lib Go.Proofs.YteikopjhekhchaaW.PrintWords Go.Proofs.YteikopjhekhchaaW.PrintLast

theorem row_at (D : Nat) (hD : D ≤ 32) : ∀ (l : List Int) (pos : Nat) (xs : List Int), Inv true xs pos → pos + 32 * l.length ≤ 1000000 →
    Inv true (pkRow D l xs (pos : Int)) (pos + D * l.length) ∧ (∀ p, p < pos → bitv true (pkRow D l xs (pos : Int)) p = bitv true xs p) ∧ (∀ n, n < l.length → ∀ i, i < D → ((bitv true (pkRow D l xs (pos : Int)) (pos + D * n + i) : Nat) : Int) = pkBit (l.getD n 0) D true i)
  | [], pos, xs, hI, _ => ⟨hI, fun _ _ => rfl, fun n hn => absurd hn (Nat.not_lt_zero n)⟩
  | x :: l, pos, xs, hI, hp => by
    have hp0 : pos + 32 + 32 * l.length ≤ 1000000 := by simp only [List.length_cons] at hp; omega
    have hp1 : pos + D ≤ 1000000 := by omega
    have hp2 : pos + D + 32 * l.length ≤ 1000000 := by omega
    obtain ⟨q1, q2, q3⟩ := put_bits x D true D 0 pos xs hI hp1
    obtain ⟨r1, r2, r3⟩ := row_at D hD l (pos + D) _ q1 hp2
    simp only [pkRow]
    rw [show ((pos + D : Nat) : Int) = (pos : Int) + (D : Int) from rfl] at r1 r2 r3
    refine ⟨by rw [List.length_cons, Nat.mul_succ, Nat.add_comm (D * l.length) D, ← Nat.add_assoc]; exact r1, fun p hq => ?_, fun n hn i hi => ?_⟩
    · rw [r2 p (Nat.lt_of_lt_of_le hq (Nat.le_add_right _ _)), q2 p hq]
    · cases n with
      | zero =>
        have e : pos + D * 0 + i = pos + i := by rw [Nat.mul_zero, Nat.add_zero]
        rw [e, r2 (pos + i) (Nat.add_lt_add_left hi pos), q3 i hi, Nat.zero_add]
        rfl
      | succ n =>
        have e : pos + D * (n + 1) + i = pos + D + D * n + i := by rw [Nat.mul_succ]; omega
        rw [e]
        exact r3 n (Nat.lt_of_succ_lt_succ hn) i hi
end Go.Proofs.Yteikopjhekhchaa.Pure
/- Reading bits: the program's bitAt, and the loops of RowGet and BitsGet over a text of which the bits are known. -/
set_option linter.unusedVariables false
set_option linter.unusedSimpArgs false
namespace Go.Proofs.Yteikopjhekhchaa.Pure
open Go.RowKit Go.Proofs.Yteikopjhekhchaa.P Go.Proofs.Yteikopjhekhchaa.Lib Go.Proofs.YteikopjhekhchaaW.PrintWords Go.Proofs.YteikopjhekhchaaW.PrintLast Go.Proofs.YteikopjhekhchaaW.PrintMore

/-- Bit number p of a text. -/
def bitT (high : Bool) (s : ByteArray) (p : Nat) : Nat := (bt s ((p / 8 : Nat) : Int)).toNat / 2 ^ (plc high (p % 8)) % 2
theorem bitT_lt (high : Bool) (s : ByteArray) (p : Nat) : bitT high s p < 2 := Nat.mod_lt _ (Nat.succ_pos 1)
theorem shr_nat (a e : Nat) (he : e ≤ 63) : shr .i64 (a : Int) (e : Int) = ((a / 2 ^ e : Nat) : Int) := by
  unfold shr
  rw [Int.toNat_natCast]
  show (a : Int) / 2 ^ min e 64 = _
  rw [Nat.min_eq_left (show e ≤ 64 by omega), Int.natCast_ediv]
  push_cast
  rfl
theorem bitAt_ok (high : Bool) (s : ByteArray) (p : Nat) (h : p < 8 * s.size) (hp : p ≤ 1000000) : impl_bitAt.f s (p : Int) high = some ((bitT high s p : Nat) : Int) := by
  have c1 : (0 : Int) ≤ ((p / 8 : Nat) : Int) := by omega
  have c2 : ((p / 8 : Nat) : Int) < (s.size : Int) := by omega
  have hm := Nat.mod_lt p (show 0 < 8 by omega)
  have hb := bt_range s ((p / 8 : Nat) : Int)
  obtain ⟨a, ha⟩ := Int.eq_ofNat_of_zero_le hb.1
  have ew : wrap64 (a : Int) = (a : Int) := w64 (by omega) (by omega)
  unfold impl_bitAt.f
  rw [tdiv8 hp, tmod8, seven]
  unfold bitT
  rw [ha, ew, Int.toNat_natCast]
  have ha2 : a < 256 := by omega
  clear ew ha hb
  cases high with
  | true =>
    have c3 : (0 : Int) ≤ ((7 - p % 8 : Nat) : Int) := by omega
    have c4 : 7 - p % 8 ≤ 63 := by omega
    rw [if_pos rfl, if_pos c1, if_pos c2, if_pos c3, shr_nat a _ c4, land1]
    rfl
  | false =>
    have c3 : (0 : Int) ≤ ((p % 8 : Nat) : Int) := by omega
    have c4 : p % 8 ≤ 63 := by omega
    rw [if_neg Bool.false_ne_true, if_pos c1, if_pos c2, if_pos c3, shr_nat a _ c4, land1]
    rfl
theorem bitT_nums (high : Bool) (xs : List Int) (hx : ∀ x ∈ xs, 0 ≤ x ∧ x ≤ 255) (p : Nat) (h : p / 8 < xs.length) : bitT high (strOfNums xs) p = bitv high xs p := by
  have hm := hx _ (List.getElem_mem h)
  unfold bitT bitv
  rw [strOfNums_at xs (p / 8) h hm.1 hm.2, List.getD_eq_getElem?_getD, List.getElem?_eq_getElem h, Option.getD_some]
theorem fold_high (v : Int) (D b : Nat) (hb : b < D) : 2 * (v / 2 ^ (D - b)) + pkBit v D true b = v / 2 ^ (D - (b + 1)) := by
  obtain ⟨e, rfl⟩ : ∃ e, D = b + 1 + e := ⟨D - b - 1, by omega⟩
  rw [show b + 1 + e - b = e + 1 by omega, show b + 1 + e - (b + 1) = e by omega]
  unfold pkBit
  rw [if_pos rfl, show b + 1 + e - 1 - b = e by omega]
  have hp := pow2_1 e
  rw [Int.pow_succ, ← Int.ediv_ediv_of_nonneg (show (0 : Int) ≤ 2 ^ e by omega)]
  clear hp
  generalize v / 2 ^ e = x
  omega
theorem get_l1 {P : List Int × Bool → Prop} (s : ByteArray) (D i cnt : Nat) (v : Int) (out : List Int) (hD : D ≤ 32) (h0 : 0 ≤ v) (hv : v ≤ 4294967295) (hsz : D * i + D ≤ 8 * s.size) (hi : i ≤ 1000) (hc : out.length ≤ 100000)
    (hb : ∀ j, j < D → ((bitT true s (D * i + j) : Nat) : Int) = pkBit v D true j)
    (k : Ok (fun n => impl_RowGet.l0 n s (D : Int) (out ++ [v]) (cnt : Int) ((i + 1 : Nat) : Int)) P) (d : Nat) :
    ∀ b, b + d = D → Ok (fun n => impl_RowGet.l1 n s (D : Int) out (i : Int) (v / 2 ^ (D - b)) (cnt : Int) (i : Int) (D : Int) (b : Int)) P := by
  have hq : D * i ≤ 32 * 1000 := Nat.mul_le_mul hD hi
  have em : (i : Int) * (D : Int) = ((D * i : Nat) : Int) := by push_cast; rw [Int.mul_comm]
  obtain ⟨q, eq⟩ : ∃ q, D * i = q := ⟨_, rfl⟩
  rw [eq] at hq em hsz hb
  clear eq
  have EM := Aside0.mk em
  clear em
  induction d with
  | zero =>
    intro b hbd
    obtain rfl : b = D := by omega
    have c1 : ¬ (b : Int) < (b : Int) := by omega
    have c2 : out.length < 17592186044416 := by omega
    have e1 : wrap64 ((i : Int) + 1) = ((i + 1 : Nat) : Int) := by rw [w64 (by omega) (by omega)] <;> omega
    refine Ok.succ ?_
    simp only [impl_RowGet.l1]
    refine Ok.no c1 (Ok.yes c2 ?_)
    rw [Nat.sub_self, Int.pow_zero, Int.ediv_one, e1]
    exact k
  | succ d ih =>
    intro b hbd
    have hbD : b < D := by omega
    have c1 : (b : Int) < (D : Int) := by omega
    have hpb : q + b < 8 * s.size := by omega
    have hpb2 : q + b ≤ 1000000 := by omega
    have e2 : wrap64 (((q : Nat) : Int) + (b : Int)) = ((q + b : Nat) : Int) := by rw [w64 (by omega) (by omega)] <;> omega
    have e1 : wrap64 ((q : Nat) : Int) = ((q : Nat) : Int) := by rw [w64 (by omega) (by omega)]
    have e3 : wrap64 ((b : Int) + 1) = ((b + 1 : Nat) : Int) := by rw [w64 (by omega) (by omega)] <;> omega
    have hn0 : 0 ≤ v / 2 ^ (D - b) := Int.ediv_nonneg h0 (by have := pow2_1 (D - b); omega)
    have hn1 : v / 2 ^ (D - b) ≤ v := Int.ediv_le_self _ h0
    have hf := fold_high v D b hbD
    have hB := hb b hbD
    have hB3 : 0 ≤ pkBit v D true b ∧ pkBit v D true b ≤ 1 := by
      rw [← hB]
      have hB2 := bitT_lt true s (q + b)
      clear hf hB hb ih
      omega
    refine Ok.succ ?_
    simp only [impl_RowGet.l1]
    refine Ok.yes c1 ?_
    rw [EM.out, e1, e2, e3]
    refine Ok.binds (bitAt_ok true s (q + b) hpb hpb2) ?_
    rw [hB]
    have ih2 := ih (b + 1) (by omega)
    rw [← hf] at ih2
    clear ih hf hb
    generalize v / 2 ^ (D - b) = n at hn0 hn1 ih2 ⊢
    clear hB
    generalize pkBit v D true b = B at hB3 ih2 ⊢
    have e4 : wrap64 (2 * n) = 2 * n := w64 (by omega) (by omega)
    have e5 : wrap64 (2 * n + B) = 2 * n + B := w64 (by omega) (by omega)
    rw [e4, e5]
    exact ih2
theorem get_l0 (s : ByteArray) (D : Nat) (l : List Int) (hD : D ≤ 32) (hl : l.length ≤ 1000) (hg : ∀ x ∈ l, 0 ≤ x ∧ x ≤ 4294967295 ∧ x < 2 ^ D) (hsz : D * l.length ≤ 8 * s.size)
    (hb : ∀ n, n < l.length → ∀ j, j < D → ((bitT true s (D * n + j) : Nat) : Int) = pkBit (l.getD n 0) D true j) (d : Nat) :
    ∀ i, i + d = l.length → Ok (fun n => impl_RowGet.l0 n s (D : Int) (l.take i) (l.length : Int) (i : Int)) (· = (l, true)) := by
  induction d with
  | zero =>
    intro i hi
    have c1 : ¬ (i : Int) < (l.length : Int) := by omega
    refine Ok.succ ?_
    simp only [impl_RowGet.l0]
    refine Ok.no c1 (Ok.now _ ?_)
    rw [List.take_of_length_le (by omega)]
  | succ d ih =>
    intro i hi
    have hlt : i < l.length := by omega
    have c1 : (i : Int) < (l.length : Int) := by omega
    have hg1 := hg _ (List.getElem_mem hlt)
    have eg : l.getD i 0 = l[i] := by rw [List.getD_eq_getElem?_getD, List.getElem?_eq_getElem hlt, Option.getD_some]
    have hb1 := hb i hlt
    rw [eg] at hb1
    have hz : D * i + D ≤ D * l.length := by rw [← Nat.mul_succ]; exact Nat.mul_le_mul_left _ hlt
    have ih2 := ih (i + 1) (by omega)
    have et : l.take (i + 1) = l.take i ++ [l[i]] := by rw [List.take_add_one, List.getElem?_eq_getElem hlt]; rfl
    rw [et] at ih2
    have htl : (l.take i).length ≤ 100000 := by rw [List.length_take]; omega
    have e0 : l[i] / 2 ^ (D - 0) = 0 := by rw [Nat.sub_zero]; exact Int.ediv_eq_zero_of_lt hg1.1 hg1.2.2
    have h1 := get_l1 s D i l.length l[i] (l.take i) hD hg1.1 hg1.2.1 (by omega) (by omega) htl hb1 ih2 D 0 (by omega)
    rw [e0] at h1
    refine Ok.succ ?_
    simp only [impl_RowGet.l0]
    exact Ok.yes c1 h1
theorem rowGet_ok (l : List Int) (D : Nat) (hd : rowD (D : Int)) (hl : l.length ≤ 1000) (hg : ∀ x ∈ l, rowGood D x) :
    Ok (fun n => impl_RowGet.f n (strOfNums (pkRow D l [] 0)) (D : Int) (l.length : Int)) (· = (l, true)) ∧ ((strOfNums (pkRow D l [] 0)).size : Int) = wrap64 (Int.tdiv (wrap64 (wrap64 ((l.length : Int) * (D : Int)) + 7)) 8) := by
  have hD : D ≤ 24 ∨ D = 32 := by unfold rowD at hd; omega
  have hD32 : D ≤ 32 := by omega
  obtain ⟨r1, _, r3⟩ := row_at D hD32 l 0 [] (Inv.nil true) (by omega)
  simp only [Nat.zero_add] at r1 r3
  rw [show ((0 : Nat) : Int) = 0 from rfl] at r1 r3
  have hlen := r1.len
  have hq : D * l.length ≤ 32 * 1000 := Nat.mul_le_mul hD32 hl
  have em : (l.length : Int) * (D : Int) = ((D * l.length : Nat) : Int) := by push_cast; rw [Int.mul_comm]
  have hs : (strOfNums (pkRow D l [] 0)).size = (D * l.length + 7) / 8 := by rw [strOfNums_size, hlen]
  have hbits : ∀ n, n < l.length → ∀ j, j < D → ((bitT true (strOfNums (pkRow D l [] 0)) (D * n + j) : Nat) : Int) = pkBit (l.getD n 0) D true j := by
    intro n hn j hj
    have hz : D * n + D ≤ D * l.length := by rw [← Nat.mul_succ]; exact Nat.mul_le_mul_left _ hn
    rw [bitT_nums true _ r1.byte _ (by rw [hlen]; omega)]
    exact r3 n hn j hj
  have hg2 : ∀ x ∈ l, 0 ≤ x ∧ x ≤ 4294967295 ∧ x < 2 ^ D := fun x hx => by
    have h1 := rowGood_le hD (hg x hx)
    have h2 := hg x hx
    unfold rowGood at h2
    exact ⟨h1.1, h1.2, by omega⟩
  have h0 := get_l0 (strOfNums (pkRow D l [] 0)) D l hD32 hl hg2 (by rw [hs]; omega) hbits l.length 0 (by omega)
  rw [List.take_zero] at h0
  have esz : ((strOfNums (pkRow D l [] 0)).size : Int) = wrap64 (Int.tdiv (wrap64 (wrap64 ((l.length : Int) * (D : Int)) + 7)) 8) := by
    rw [em, hs]
    generalize D * l.length = q at hq
    have e1 : wrap64 (q : Int) = (q : Int) := w64 (by omega) (by omega)
    have e2 : wrap64 ((q : Int) + 7) = ((q + 7 : Nat) : Int) := by rw [w64 (by omega) (by omega)] <;> omega
    rw [e1, e2, tdiv8 (by omega)]
  refine ⟨?_, esz⟩
  have c1 : decide (rowD (D : Int)) = true := decide_eq_true hd
  have c2 : (l.length : Int) ≥ 0 := by omega
  have c3 : decide ((l.length : Int) ≤ 1000) = true := decide_eq_true (by omega)
  unfold impl_RowGet.f
  refine Ok.binds (rowDepth_eq _) (Ok.yes c1 ?_)
  unfold impl_in.f
  rw [if_pos c2, c3]
  refine Ok.binds rfl (Ok.yes rfl ?_)
  refine Ok.succ ?_
  simp only [impl_RowGet.j0]
  refine Ok.no ?_ h0
  rw [← esz]
  simp
end Go.Proofs.Yteikopjhekhchaa.Pure
/- The reference's BitsPut tells what the program's tells; what BitsPut put BitsGet reads. -/
set_option linter.unusedVariables false
set_option linter.unusedSimpArgs false
namespace Go.Proofs.Yteikopjhekhchaa.Pure
open Go.RowKit Go.Proofs.Yteikopjhekhchaa.P Go.Proofs.Yteikopjhekhchaa.Lib Go.Proofs.YteikopjhekhchaaW.PrintWords Go.Proofs.YteikopjhekhchaaW.PrintLast Go.Proofs.YteikopjhekhchaaW.PrintMore

theorem sin_eq0 (x a1 : Int) : spec_l1In.f x 0 a1 = some (decide (0 ≤ x) && decide (x ≤ a1)) := by
  unfold spec_l1In.f
  by_cases h : x ≥ 0
  · have h' : 0 ≤ x := h
    rw [if_pos h]; simp [h']
  · have h' : ¬ 0 ≤ x := h
    rw [if_neg h]; simp [h']
theorem l1Ok_ok (b : S59) : Ok (fun k => spec_l1Ok.f k b.f0 b.f1) (· = bitOk b) := by
  unfold spec_l1Ok.f bitOk bitIn
  rw [sin_eq0]
  refine Ok.binds rfl ?_
  by_cases h0 : 0 ≤ b.f1
  · by_cases h1 : b.f1 ≤ 24
    · rw [decide_eq_true h0, decide_eq_true h1]
      refine Ok.yes rfl ?_
      obtain ⟨n, hn⟩ := Int.eq_ofNat_of_zero_le h0
      rw [hn, Int.toNat_natCast]
      refine (pow_ok n (by omega)).bind fun x hx => ?_
      subst hx
      have p1 := pow2_1 n
      have p2 := pow2_le (show n ≤ 62 by omega)
      have e : wrap64 ((2 : Int) ^ n - 1) = 2 ^ n - 1 := w64 (by omega) (by omega)
      rw [e, sin_eq0]
      exact Ok.now _ rfl
    · rw [decide_eq_false h1]
      exact Ok.no (by simp) (Ok.now _ (by simp))
  · rw [decide_eq_false h0]
    exact Ok.no (by simp) (Ok.now _ (by simp))
theorem bitOk_size {b : S59} (h : bitOk b = true) : sizeOk b ∧ b.f1 ≤ 24 ∧ b.f0 < 2 ^ b.f1.toNat := by
  unfold bitOk bitIn at h
  simp only [Bool.and_eq_true, decide_eq_true_eq] at h
  obtain ⟨⟨h1, h2⟩, h3, h4⟩ := h
  have hp := pow2_32 (D := b.f1.toNat) (by omega)
  unfold sizeOk
  exact ⟨⟨h3, by omega, h1, by omega⟩, h2, by omega⟩
theorem all_mem {l : List S59} (h : l.all bitOk = true) : ∀ b ∈ l, bitOk b = true := List.all_eq_true.1 h
theorem bscan (l : List S59) (high : Bool) (hl : l.length ≤ 1100000) (d : Nat) : ∀ (i : Nat) (s : Int), i + d = l.length → 0 ≤ s → s ≤ 72000 → (l.all bitOk = (l.drop i).all bitOk) → bitsSum l = s + bitsSum (l.drop i) →
    Ok (fun n => spec_BitsPut.l0 n l high s (i : Int)) (· = if l.all bitOk = true then (if bitsSum l > 72000 then ⟨#[]⟩ else strOfNums (pkBits high l [] 0)) else ⟨#[]⟩) := by
  induction d with
  | zero =>
    intro i s hi h0 h1 ha hs
    rw [List.drop_eq_nil_of_le (by omega)] at ha hs
    simp only [List.all_nil, bitsSum, Int.add_zero] at ha hs
    have c1 : ¬ (i : Int) < (l.length : Int) := by omega
    have c2 : ¬ bitsSum l > 72000 := by omega
    rw [if_pos ha, if_neg c2]
    refine Ok.succ ?_
    simp only [spec_BitsPut.l0]
    refine Ok.no c1 ?_
    exact (l1Put_ok l high hl (fun b hb => (bitOk_size (all_mem ha b hb)).1) (by omega)).bind fun x hx => Ok.now _ hx
  | succ d ih =>
    intro i s hi h0 h1 ha hs
    have hlt : i < l.length := by omega
    have c1 : (i : Int) < (l.length : Int) := by omega
    have c2 : (0 : Int) ≤ (i : Int) := by omega
    have e1 : wrap64 ((i : Int) + 1) = ((i + 1 : Nat) : Int) := by rw [w64 (by omega) (by omega)] <;> omega
    have hc : l.drop i = l[i] :: l.drop (i + 1) := List.drop_eq_getElem_cons hlt
    have he : rd_T59 l (i : Int) = l[i] := by
      show l.getD (i : Int).toNat z59 = _
      rw [Int.toNat_natCast, List.getD_eq_getElem?_getD, List.getElem?_eq_getElem hlt]; rfl
    rw [hc] at ha hs
    obtain ⟨b, hb⟩ : ∃ b, l[i] = b := ⟨_, rfl⟩
    rw [hb] at ha hs he
    simp only [List.all_cons, bitsSum] at ha hs
    refine Ok.succ ?_
    simp only [spec_BitsPut.l0]
    refine Ok.yes c1 (Ok.yes c2 ?_)
    rw [he, e1]
    refine (l1Ok_ok b).bind fun x hx => ?_
    subst hx
    cases hok : bitOk b with
    | false =>
      rw [hok, Bool.false_and] at ha
      rw [if_neg (by rw [ha]; exact Bool.false_ne_true)]
      exact Ok.no Bool.false_ne_true (Ok.now _ rfl)
    | true =>
      have hz := (bitOk_size hok)
      have hz1 := hz.1.2.2.1
      have hz2 := hz.2.1
      clear hz
      rw [hok, Bool.true_and] at ha
      have e2 : wrap64 (s + b.f1) = s + b.f1 := w64 (by omega) (by omega)
      refine Ok.yes rfl ?_
      rw [e2]
      refine Ok.ite (fun h => Ok.now _ ?_) (fun h => ?_)
      · by_cases hall : l.all bitOk = true
        · have hn := bitsSum_nonneg (l.drop (i + 1)) (fun x hx => (bitOk_size (all_mem hall x (List.mem_of_mem_drop hx))).1)
          rw [if_pos hall, if_pos (by omega)]
        · rw [if_neg hall]
      · exact ih (i + 1) (s + b.f1) (by omega) (by omega) (by omega) ha (by omega)
theorem bitsPut_ok (l : List S59) (high : Bool) (hl : l.length ≤ 1100000) : ∃ r, impl_BitsPut.f l high = some r ∧ Ok (fun n => spec_BitsPut.f n l high) (· = r) := by
  unfold impl_BitsPut.f spec_BitsPut.f
  rw [if_pos (by omega)]
  refine ⟨if l.all bitOk = true then (if bitsSum l > 72000 then ⟨#[]⟩ else strOfNums (pkBits high l [] 0)) else ⟨#[]⟩, ?_, ?_⟩
  · split
    · split <;> rfl
    · rfl
  · exact bscan l high hl l.length 0 0 (by omega) (by omega) (by omega) (by rw [List.drop_zero]) (by rw [List.drop_zero]; omega)

/-! ### where each number stands -/
def natSum : List S59 → Nat
  | [] => 0
  | b :: l => b.f1.toNat + natSum l
theorem natSum_eq : ∀ l : List S59, (∀ b ∈ l, sizeOk b) → (natSum l : Int) = bitsSum l
  | [], _ => rfl
  | b :: l, h => by
    have h1 := natSum_eq l (fun x hx => h x (List.mem_cons_of_mem _ hx))
    have h2 := (h b List.mem_cons_self).2.2.1
    simp only [natSum, bitsSum]; omega
theorem natSum_take (l : List S59) : ∀ n, (h : n < l.length) → natSum (l.take (n + 1)) = natSum (l.take n) + l[n].f1.toNat := by
  induction l with
  | nil => intro n h; exact absurd h (Nat.not_lt_zero n)
  | cons b l ih =>
    intro n h
    cases n with
    | zero => simp [natSum]
    | succ n =>
      have h1 := ih n (by simpa using h)
      simp only [List.take_succ_cons, natSum, List.getElem_cons_succ]
      rw [h1]
      omega
theorem natSum_take_le (l : List S59) : ∀ n, natSum (l.take n) ≤ natSum l := by
  induction l with
  | nil => intro n; simp [natSum]
  | cons b l ih =>
    intro n
    cases n with
    | zero => simp [natSum]
    | succ n =>
      have h1 := ih n
      simp only [List.take_succ_cons, natSum]
      omega
theorem bits_at (high : Bool) : ∀ (l : List S59) (pos : Nat) (xs : List Int), (∀ b ∈ l, sizeOk b) → Inv high xs pos → pos + natSum l ≤ 1000000 →
    Inv high (pkBits high l xs (pos : Int)) (pos + natSum l) ∧ (∀ p, p < pos → bitv high (pkBits high l xs (pos : Int)) p = bitv high xs p) ∧ (∀ n (hn : n < l.length), ∀ i, i < l[n].f1.toNat → ((bitv high (pkBits high l xs (pos : Int)) (pos + natSum (l.take n) + i) : Nat) : Int) = pkBit l[n].f0 l[n].f1.toNat high i)
  | [], pos, xs, _, hI, _ => ⟨hI, fun _ _ => rfl, fun n hn => absurd hn (Nat.not_lt_zero n)⟩
  | b :: l, pos, xs, hok, hI, hp => by
    simp only [natSum] at hp
    have hb0 := (hok b List.mem_cons_self).2.2.1
    obtain ⟨s, hs⟩ : ∃ s : Nat, b.f1 = (s : Int) := ⟨b.f1.toNat, by omega⟩
    have hs2 : b.f1.toNat = s := by rw [hs]; exact Int.toNat_natCast s
    rw [hs2] at hp
    have hp1 : pos + s ≤ 1000000 := by omega
    have hp2 : pos + s + natSum l ≤ 1000000 := by omega
    obtain ⟨q1, q2, q3⟩ := put_bits b.f0 s high s 0 pos xs hI hp1
    obtain ⟨r1, r2, r3⟩ := bits_at high l (pos + s) _ (fun x hx => hok x (List.mem_cons_of_mem _ hx)) q1 hp2
    simp only [pkBits, natSum]
    rw [hs2, hs]
    rw [show ((pos + s : Nat) : Int) = (pos : Int) + (s : Int) from rfl] at r1 r2 r3
    refine ⟨by rw [← Nat.add_assoc]; exact r1, fun p hq => ?_, fun n hn i hi => ?_⟩
    · rw [r2 p (Nat.lt_of_lt_of_le hq (Nat.le_add_right _ _)), q2 p hq]
    · cases n with
      | zero =>
        simp only [List.getElem_cons_zero] at hi ⊢
        rw [hs2] at hi ⊢
        have e : pos + natSum ((b :: l).take 0) + i = pos + i := by simp [natSum]
        rw [e, r2 (pos + i) (Nat.add_lt_add_left hi pos), q3 i hi, Nat.zero_add]
      | succ n =>
        have e : pos + natSum ((b :: l).take (n + 1)) + i = pos + s + natSum (l.take n) + i := by simp only [List.take_succ_cons, natSum]; rw [hs2]; omega
        rw [e]
        exact r3 n (Nat.lt_of_succ_lt_succ hn) i hi

/-! ### BitsGet -/
theorem ior_nat (a b : Nat) (ha : a < 9223372036854775808) (hb : b < 9223372036854775808) : Go.bits .or .i64 (a : Int) (b : Int) = ((a ||| b : Nat) : Int) := by
  have hx : a ||| b < 2 ^ 63 := Nat.or_lt_two_pow (by omega) (by omega)
  show IntKind.i64.wrap ((BitVec.ofInt 64 (a : Int) ||| BitVec.ofInt 64 (b : Int)).toNat : Int) = _
  rw [BitVec.toNat_or, ofInt_i64 a ha, ofInt_i64 b hb, IntKind.wrap_i64]
  omega
theorem fold_low (m j : Nat) (hj : j < 40) : Go.bits .or .i64 ((m % 2 ^ j : Nat) : Int) (shl .i64 (((m / 2 ^ j % 2 : Nat)) : Int) (j : Int)) = ((m % 2 ^ (j + 1) : Nat) : Int) := by
  have hlt : m % 2 ^ j < 2 ^ j := Nat.mod_lt _ (Nat.two_pow_pos j)
  have hle : 2 ^ j ≤ 2 ^ 40 := Nat.pow_le_pow_right (by omega) (by omega)
  have he : (2 : Nat) ^ 40 = 1099511627776 := by decide
  rw [he] at hle
  obtain ⟨b, hb⟩ : ∃ b, m / 2 ^ j % 2 = b := ⟨_, rfl⟩
  have hb2 : b < 2 := by rw [← hb]; exact Nat.mod_lt _ (Nat.succ_pos 1)
  have hor := Nat.two_pow_add_eq_or_of_lt hlt b
  have hmod : m % 2 ^ (j + 1) = m % 2 ^ j + 2 ^ j * (m / 2 ^ j % 2) := Nat.mod_pow_succ
  rw [hb] at hmod ⊢
  have hprod : 2 ^ j * b ≤ 1099511627776 := by
    have : 2 ^ j * b ≤ 1099511627776 * 1 := Nat.mul_le_mul hle (by omega)
    omega
  have hsh : shl .i64 ((b : Nat) : Int) (j : Int) = ((2 ^ j * b : Nat) : Int) := by
    unfold shl
    rw [Int.toNat_natCast]
    show IntKind.i64.wrap ((b : Int) * 2 ^ min j 64) = _
    rw [Nat.min_eq_left (show j ≤ 64 by omega)]
    have ec : (b : Int) * (2 : Int) ^ j = ((2 ^ j * b : Nat) : Int) := by push_cast; rw [Int.mul_comm]
    rw [ec]
    generalize 2 ^ j * b = c at hprod
    rw [IntKind.wrap_i64]
    omega
  rw [hsh, hmod]
  rw [← Nat.add_comm, Nat.add_comm] at hor
  generalize 2 ^ j * b = c at hprod hor ⊢
  generalize m % 2 ^ j = a at hlt hor ⊢
  have ha : a < 1099511627776 := by omega
  rw [ior_nat a c (by omega) (by omega), Nat.or_comm, ← hor]
  exact congrArg _ (Nat.add_comm c a)
def part (high : Bool) (m size j : Nat) : Nat := if high = true then m / 2 ^ (size - j) else m % 2 ^ j
theorem bget_l0 (s : ByteArray) (at_ size m : Nat) (high : Bool) (hs : size ≤ 24) (hm : m < 2 ^ size) (hsz : at_ + size ≤ 8 * s.size) (ha : at_ ≤ 100000)
    (hb : ∀ j, j < size → ((bitT high s (at_ + j) : Nat) : Int) = pkBit (m : Int) size high j) (d : Nat) :
    ∀ j, j + d = size → Ok (fun n => impl_BitsGet.l0 n s (at_ : Int) high ((part high m size j : Nat) : Int) (size : Int) (j : Int)) (· = ((m : Int), true)) := by
  have hm24 : m < 2 ^ 24 := Nat.lt_of_lt_of_le hm (Nat.pow_le_pow_right (by omega) hs)
  have he : (2 : Nat) ^ 24 = 16777216 := by decide
  rw [he] at hm24
  induction d with
  | zero =>
    intro j hj
    obtain rfl : j = size := by omega
    have c1 : ¬ (j : Int) < (j : Int) := by omega
    refine Ok.succ ?_
    simp only [impl_BitsGet.l0]
    refine Ok.no c1 (Ok.now _ ?_)
    have e : part high m j j = m := by
      unfold part
      cases high with
      | true => rw [if_pos rfl, Nat.sub_self, Nat.pow_zero, Nat.div_one]
      | false => rw [if_neg Bool.false_ne_true, Nat.mod_eq_of_lt hm]
    rw [e]
  | succ d ih =>
    intro j hj
    have hj2 : j < size := by omega
    have c1 : (j : Int) < (size : Int) := by omega
    have c2 : (0 : Int) ≤ (j : Int) := by omega
    have e1 : wrap64 ((at_ : Int) + (j : Int)) = ((at_ + j : Nat) : Int) := by rw [w64 (by clear hm hb ih; omega) (by clear hm hb ih; omega)] <;> omega
    have e2 : wrap64 ((j : Int) + 1) = ((j + 1 : Nat) : Int) := by rw [w64 (by clear hm hb ih; omega) (by clear hm hb ih; omega)] <;> omega
    have hp1 : at_ + j < 8 * s.size := by omega
    have hp2 : at_ + j ≤ 1000000 := by omega
    have hB := hb j hj2
    have ih2 := ih (j + 1) (by omega)
    clear ih hb
    refine Ok.succ ?_
    simp only [impl_BitsGet.l0]
    refine Ok.yes c1 ?_
    rw [e1, e2]
    refine Ok.binds (bitAt_ok high s (at_ + j) hp1 hp2) ?_
    rw [hB]
    cases high with
    | true =>
      refine Ok.yes rfl ?_
      have hf := fold_high (m : Int) size j hj2
      have en : ((part true m size j : Nat) : Int) = (m : Int) / 2 ^ (size - j) := by unfold part; rw [if_pos rfl]; push_cast; rfl
      have en2 : ((part true m size (j + 1) : Nat) : Int) = (m : Int) / 2 ^ (size - (j + 1)) := by unfold part; rw [if_pos rfl]; push_cast; rfl
      rw [en2, ← hf] at ih2
      rw [en]
      have hn0 : 0 ≤ (m : Int) / 2 ^ (size - j) := Int.ediv_nonneg (by omega) (by have := pow2_1 (size - j); omega)
      have hn1 : (m : Int) / 2 ^ (size - j) ≤ m := Int.ediv_le_self _ (by omega)
      have hB3 : 0 ≤ pkBit (m : Int) size true j ∧ pkBit (m : Int) size true j ≤ 1 := by
        rw [← hB]
        have hB2 := bitT_lt true s (at_ + j)
        clear hf hB ih2 en en2 hm
        omega
      clear hf hB en en2 hm
      generalize (m : Int) / 2 ^ (size - j) = n at hn0 hn1 ih2 ⊢
      generalize pkBit (m : Int) size true j = B at hB3 ih2 ⊢
      have e4 : wrap64 (2 * n) = 2 * n := w64 (by omega) (by omega)
      have e5 : wrap64 (2 * n + B) = 2 * n + B := w64 (by omega) (by omega)
      rw [e4, e5]
      exact ih2
    | false =>
      refine Ok.no Bool.false_ne_true (Ok.yes c2 ?_)
      have hf := fold_low m j (by omega)
      have en : part false m size j = m % 2 ^ j := by unfold part; rw [if_neg Bool.false_ne_true]
      have en2 : part false m size (j + 1) = m % 2 ^ (j + 1) := by unfold part; rw [if_neg Bool.false_ne_true]
      have eb : pkBit (m : Int) size false j = ((m / 2 ^ j % 2 : Nat) : Int) := by unfold pkBit; rw [if_neg Bool.false_ne_true]; push_cast; rfl
      rw [en2] at ih2
      rw [en, eb, hf]
      exact ih2
theorem bitsGet_ok (s : ByteArray) (at_ size m : Nat) (high : Bool) (hs : size ≤ 24) (hm : m < 2 ^ size) (hsz : at_ + size ≤ 8 * s.size) (hss : s.size ≤ 9000)
    (hb : ∀ j, j < size → ((bitT high s (at_ + j) : Nat) : Int) = pkBit (m : Int) size high j) :
    Ok (fun n => impl_BitsGet.f n s (at_ : Int) (size : Int) high) (· = ((m : Int), true)) := by
  have h0 := bget_l0 s at_ size m high hs hm hsz (by clear hm hb; omega) hb size 0 (by omega)
  have e0 : part high m size 0 = 0 := by
    unfold part
    cases high with
    | true => rw [if_pos rfl, Nat.sub_zero, Nat.div_eq_of_lt hm]
    | false => rw [if_neg Bool.false_ne_true, Nat.pow_zero, Nat.mod_one]
  rw [e0] at h0
  clear hm hb e0
  have c1 : (0 : Int) ≤ (size : Int) := by omega
  have c2 : (size : Int) ≤ 24 := by omega
  have c3 : ¬ (s.size : Int) > 9000 := by omega
  have c4 : (0 : Int) ≤ (at_ : Int) := by omega
  have e1 : wrap64 (8 * (s.size : Int)) = 8 * (s.size : Int) := w64 (by omega) (by omega)
  have e2 : wrap64 (8 * (s.size : Int) - (size : Int)) = 8 * (s.size : Int) - (size : Int) := w64 (by omega) (by omega)
  have c5 : (at_ : Int) ≤ 8 * (s.size : Int) - (size : Int) := by omega
  unfold impl_BitsGet.f
  rw [in_eq0, in_eq0, decide_eq_true c1, decide_eq_true c2]
  refine Ok.binds rfl (Ok.yes rfl (Ok.no c3 ?_))
  rw [e1, e2, decide_eq_true c4, decide_eq_true c5]
  refine Ok.binds rfl (Ok.succ ?_)
  simp only [impl_BitsGet.j0]
  exact Ok.no (by simp) h0
end Go.Proofs.Yteikopjhekhchaa.Pure
/- laws.FnExactBitsPut: at every list and order the program's BitsPut returns what the reference's returns, and leaves the list as it was. -/
set_option linter.unusedVariables false
set_option linter.unusedSimpArgs false
namespace Go.Proofs.Yteikopjhekhchaa.Pure
open Go.RowKit Go.Proofs.Yteikopjhekhchaa.P Go.Proofs.Yteikopjhekhchaa.Lib Go.Proofs.YteikopjhekhchaaW.PrintWords Go.Proofs.YteikopjhekhchaaW.PrintLast Go.Proofs.YteikopjhekhchaaW.PrintMore

def asBit (b : S92) : S59 := ⟨b.f0, b.f1⟩
theorem tobit_run (l : List S92) (hl : l.length ≤ 1048576) (d : Nat) : ∀ (i : Nat), i + d = l.length → Ok (fun n => laws_toBitS.l0 n l ((l.take i).map asBit ++ List.replicate d z59) (i : Int)) (· = l.map asBit) := by
  induction d with
  | zero =>
    intro i hi
    refine Ok.succ ?_
    simp only [laws_toBitS.l0]
    have c1 : ¬ (i : Int) < (l.length : Int) := by omega
    refine Ok.no c1 ?_
    rw [List.take_of_length_le (by omega)]
    exact Ok.now _ (by simp)
  | succ d ih =>
    intro i hi
    have hlt : i < l.length := by omega
    have c1 : (i : Int) < (l.length : Int) := by omega
    have c2 : (0 : Int) ≤ (i : Int) := by omega
    have hlen : ((l.take i).map asBit ++ List.replicate (d + 1) z59).length = l.length := by simp; omega
    have c3 : (i : Int) < (((l.take i).map asBit ++ List.replicate (d + 1) z59).length : Int) := by rw [hlen]; exact c1
    have e1 : wrap64 ((i : Int) + 1) = ((i + 1 : Nat) : Int) := by rw [w64 (by omega) (by omega)] <;> omega
    refine Ok.succ ?_
    simp only [laws_toBitS.l0]
    refine Ok.yes c1 (Ok.yes c2 ?_)
    have hr : rd_T92 l (i : Int) = l[i] := by
      show l.getD (i : Int).toNat z92 = _
      rw [Int.toNat_natCast, List.getD_eq_getElem?_getD, List.getElem?_eq_getElem hlt, Option.getD_some]
    rw [hr]
    unfold laws_toBit.f
    refine Ok.binds rfl (Ok.yes c3 ?_)
    rw [e1, Int.toNat_natCast]
    have e2 : ((l.take i).map asBit ++ List.replicate (d + 1) z59).set i (⟨l[i].f0, l[i].f1⟩ : S59) = (l.take (i + 1)).map asBit ++ List.replicate d z59 := by
      have ht : ((l.take i).map asBit).length = i := by rw [List.length_map, List.length_take]; omega
      rw [List.set_append, if_neg (by omega), ht, Nat.sub_self, List.replicate_succ, List.set_cons_zero, List.take_add_one, List.getElem?_eq_getElem hlt, Option.toList_some, List.map_append, List.append_assoc]
      rfl
    rw [e2]
    exact ih (i + 1) (by omega)
theorem tobit_ok (l : List S92) (hl : l.length ≤ 1048576) : Ok (fun n => laws_toBitS.f n l) (· = l.map asBit) := by
  unfold laws_toBitS.f
  have c1 : (0 : Int) ≤ (l.length : Int) := by omega
  have c2 : ((l.length : Int)).toNat ≤ 17592186044416 := by omega
  refine Ok.yes c1 (Ok.yes c2 ?_)
  have h := tobit_run l hl l.length 0 (by omega)
  rw [List.take_zero, List.map_nil, List.nil_append] at h
  rw [Int.toNat_natCast]
  exact h
theorem eqbit_run (l : List S59) (hl : l.length ≤ 1048576) (d : Nat) : ∀ (i : Nat), i + d = l.length → Ok (fun n => laws_eqBitS.l0 n l l (i : Int)) (· = true) := by
  induction d with
  | zero =>
    intro i hi
    refine Ok.succ ?_
    simp only [laws_eqBitS.l0]
    have c1 : ¬ (i : Int) < (l.length : Int) := by omega
    exact Ok.no c1 (Ok.now _ rfl)
  | succ d ih =>
    intro i hi
    have c1 : (i : Int) < (l.length : Int) := by omega
    have c2 : (0 : Int) ≤ (i : Int) := by omega
    have e1 : wrap64 ((i : Int) + 1) = ((i + 1 : Nat) : Int) := by rw [w64 (by omega) (by omega)] <;> omega
    have he : ∀ x y : Int, laws_eqBit.f x y x y = some true := fun x y => by unfold laws_eqBit.f; rw [if_pos rfl, if_pos rfl]
    refine Ok.succ ?_
    simp only [laws_eqBitS.l0]
    refine Ok.yes c1 (Ok.yes c2 (Ok.yes c1 (Ok.binds (he _ _) (Ok.yes rfl ?_))))
    rw [e1]
    exact ih (i + 1) (by omega)
theorem eqbit_ok (l : List S59) (hl : l.length ≤ 1048576) : Ok (fun n => laws_eqBitS.f n l l) (· = true) := by
  unfold laws_eqBitS.f
  exact Ok.yes rfl (eqbit_run l hl l.length 0 (by omega))
/-- No condition but that the list is one that a machine can hold. -/
theorem FnExactBitsPut (l : List S92) (high : Bool) (hl : l.length ≤ 9223372036854775807) : ∃ k, laws_FnExactBitsPut.f k l high = some true := by
  apply Ok.rounds
  unfold laws_FnExactBitsPut.f
  have e1 : wrap64 (1048576 - (l.length : Int)) = 1048576 - (l.length : Int) := w64 (by omega) (by omega)
  have hsz : laws_szBitS.f l 1048576 = some (if 1048576 - (l.length : Int) < 0 then -1 else 1048576 - (l.length : Int)) := by
    unfold laws_szBitS.f
    rw [e1]
    split <;> rfl
  refine Ok.binds hsz ?_
  by_cases hbig : 1048576 - (l.length : Int) < 0
  · rw [if_pos hbig]
    exact Ok.yes (by omega) (Ok.now _ rfl)
  · rw [if_neg hbig]
    refine Ok.no hbig ?_
    have hl2 : l.length ≤ 1048576 := by omega
    obtain ⟨r, hr, hs⟩ := bitsPut_ok (l.map asBit) high (by rw [List.length_map]; omega)
    refine (tobit_ok l hl2).bind fun x hx => ?_
    subst hx
    refine hs.bind fun y hy => ?_
    subst hy
    refine (tobit_ok l hl2).bind fun x hx => ?_
    subst hx
    refine Ok.binds hr (Ok.yes rfl ?_)
    refine (tobit_ok l hl2).bind fun x hx => ?_
    subst hx
    refine (eqbit_ok _ (by rw [List.length_map]; exact hl2)).bind fun x hx => ?_
    subst hx
    exact Ok.yes rfl (Ok.now _ rfl)
end Go.Proofs.Yteikopjhekhchaa.Pure
