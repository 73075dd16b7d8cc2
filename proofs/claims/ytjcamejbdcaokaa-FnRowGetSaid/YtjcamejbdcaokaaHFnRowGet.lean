/- laws.FnRowGet: of every drawn text, depth and count the program's RowGet reads what the reference's reads; what it reads are as many points as asked for, each of which RowPut packs and RowGet reads again. No condition. -/
import Derived.Test.YtjcamejbdcaokaaWWords
import Derived.Test.YtjcamejbdcaokaaWMore
import Derived.Test.YtjcamejbdcaokaaF107
import Derived.Test.YtjcamejbdcaokaaGFnRowGetF63
import Derived.Test.YtjcamejbdcaokaaGFnRowGetF115
import Derived.Test.YtjcamejbdcaokaaGFnRowGetF47
import Derived.Test.YtjcamejbdcaokaaGFnRowGetF45
import Derived.Test.YtjcamejbdcaokaaF117
import Derived.Test.YtjcamejbdcaokaaGFnRowGetF10
import Derived.OpenShut
/- Small words for functions with a number of rounds: 'Ok g P': with enough rounds g answers some r of which P holds. -/
namespace Go.Proofs.Ytjcamejbdcaokaa.Lib
open Go.RowKit Go.Proofs.YtjcamejbdcaokaaW.PrintWords Go.Proofs.YtjcamejbdcaokaaW.PrintLast Go.Proofs.YtjcamejbdcaokaaW.PrintMore

def Ok {α : Type} (g : Nat → Option α) (P : α → Prop) : Prop := ∃ r, Ev g r ∧ P r
theorem Ok.bind {α β : Type} {g : Nat → Option α} {f : Nat → α → Option β} {P : α → Prop} {Q : β → Prop} (h : Ok g P) (k : ∀ a, P a → Ok (fun n => f n a) Q) : Ok (fun n => (g n).bind (f n)) Q := by
  obtain ⟨a, ha, pa⟩ := h
  obtain ⟨b, hb, qb⟩ := k a pa
  exact ⟨b, Ev.bind ha hb, qb⟩
theorem Ok.now {α : Type} {P : α → Prop} (r : α) (h : P r) : Ok (fun _ => some r) P := ⟨r, Ev.now r, h⟩
theorem Ok.step {α : Type} {g f : Nat → Option α} {P : α → Prop} (h : ∀ k, g (k + 1) = f k) (k : Ok f P) : Ok g P := by
  obtain ⟨r, hr, pr⟩ := k
  exact ⟨r, Ev.step h hr, pr⟩
theorem Ok.succ {α : Type} {g : Nat → Option α} {P : α → Prop} (k : Ok (fun n => g (n + 1)) P) : Ok g P := Ok.step (fun _ => rfl) k
theorem Ok.congr {α : Type} {g f : Nat → Option α} {P : α → Prop} (h : ∀ k, g k = f k) (k : Ok f P) : Ok g P := by
  obtain ⟨r, hr, pr⟩ := k
  exact ⟨r, Ev.congr h hr, pr⟩
theorem Ok.mono {α : Type} {g : Nat → Option α} {P Q : α → Prop} (h : Ok g P) (k : ∀ r, P r → Q r) : Ok g Q := by
  obtain ⟨r, hr, pr⟩ := h
  exact ⟨r, hr, k r pr⟩
theorem Ok.yes {α : Type} {g f : Nat → Option α} {c : Prop} [Decidable c] {P : α → Prop} (hc : c) (h : Ok g P) : Ok (fun n => if c then g n else f n) P := by
  simp only [if_pos hc]; exact h
theorem Ok.no {α : Type} {g f : Nat → Option α} {c : Prop} [Decidable c] {P : α → Prop} (hc : ¬ c) (h : Ok f P) : Ok (fun n => if c then g n else f n) P := by
  simp only [if_neg hc]; exact h
theorem Ok.ite {α : Type} {g f : Nat → Option α} {c : Prop} [Decidable c] {P : α → Prop} (h : c → Ok g P) (k : ¬ c → Ok f P) : Ok (fun n => if c then g n else f n) P := by
  by_cases hc : c
  · exact Ok.yes hc (h hc)
  · exact Ok.no hc (k hc)
theorem Ok.ev {α : Type} {g : Nat → Option α} {r : α} (h : Ok g (· = r)) : Ev g r := by
  obtain ⟨_, hr, rfl⟩ := h
  exact hr
theorem Ok.of_ev {α : Type} {g : Nat → Option α} {r : α} {P : α → Prop} (h : Ev g r) (hp : P r) : Ok g P := ⟨r, h, hp⟩
theorem Ok.rounds {α : Type} {g : Nat → Option α} {r : α} (h : Ok g (· = r)) : ∃ k, g k = some r := h.ev.rounds
theorem Ok.const {α : Type} {o : Option α} {P : α → Prop} {r : α} (h : o = some r) (hp : P r) : Ok (fun _ => o) P := by
  subst h; exact Ok.now r hp
theorem Ok.binds {α β : Type} {o : Option α} {f : Nat → α → Option β} {Q : β → Prop} {a : α} (h : o = some a) (k : Ok (fun n => f n a) Q) : Ok (fun n => o.bind (f n)) Q := by
  subst h; exact k

theorem w64 {x : Int} (h : -9223372036854775808 ≤ x) (h' : x ≤ 9223372036854775807) : wrap64 x = x := by unfold wrap64; omega
theorem tmod_nn {x n : Int} (h : 0 ≤ x) : Int.tmod x n = x % n := Int.tmod_eq_emod_of_nonneg h
theorem tdiv_nn {x n : Int} (h : 0 ≤ x) : Int.tdiv x n = x / n := Int.tdiv_eq_ediv_of_nonneg h
theorem rd_mem {b : List Int} {i : Int} (h0 : 0 ≤ i) (h1 : i < b.length) : rd b i ∈ b := by
  unfold rd
  have h : i.toNat < b.length := by omega
  rw [List.getD_eq_getElem?_getD, List.getElem?_eq_getElem h]
  exact List.getElem_mem h

/-! exclusive or of numbers that are not below 0 -/
theorem ofInt_i64 (a : Nat) (ha : a < 9223372036854775808) : (BitVec.ofInt 64 (a : Int)).toNat = a := by
  rw [BitVec.ofInt_natCast, BitVec.toNat_ofNat]; exact Nat.mod_eq_of_lt (by omega)
theorem i64_xor_nat (a b : Nat) (ha : a < 9223372036854775808) (hb : b < 9223372036854775808) : bits .xor .i64 (a : Int) (b : Int) = ((a ^^^ b : Nat) : Int) := by
  have hx : a ^^^ b < 2 ^ 63 := Nat.xor_lt_two_pow (by omega) (by omega)
  show IntKind.i64.wrap ((BitVec.ofInt 64 (a : Int) ^^^ BitVec.ofInt 64 (b : Int)).toNat : Int) = _
  rw [BitVec.toNat_xor, ofInt_i64 a ha, ofInt_i64 b hb, IntKind.wrap_i64]
  omega
theorem xor_nonneg {x y : Int} (hx : 0 ≤ x) (hx' : x ≤ 9223372036854775807) (hy : 0 ≤ y) (hy' : y ≤ 9223372036854775807) : 0 ≤ bits .xor .i64 x y ∧ bits .xor .i64 x y ≤ 9223372036854775807 := by
  obtain ⟨a, rfl⟩ := Int.eq_ofNat_of_zero_le hx
  obtain ⟨b, rfl⟩ := Int.eq_ofNat_of_zero_le hy
  rw [i64_xor_nat a b (by omega) (by omega)]
  have h : a ^^^ b < 2 ^ 63 := Nat.xor_lt_two_pow (by omega) (by omega)
  omega

/-! texts and lists of bytes -/
theorem size_empty : (⟨#[]⟩ : ByteArray).size = 0 := rfl
theorem text_nil (s : ByteArray) : s.toList = ([] : List UInt8) ↔ s.size = 0 := by
  rw [ByteArray.toList_eq]
  constructor
  · intro h
    have := congrArg List.length h
    simpa using this
  · intro h
    apply List.eq_nil_of_length_eq_zero
    simpa using h
theorem strOfNums_at (xs : List Int) (i : Nat) (h : i < xs.length) (h0 : 0 ≤ xs[i]) (h1 : xs[i] ≤ 255) : bt (strOfNums xs) (i : Int) = xs[i] := by
  unfold bt
  have hs : (i : Int).toNat < (strOfNums xs).size := by rw [strOfNums_size]; simpa using h
  rw [dif_pos hs]
  have e : (strOfNums xs)[(i : Int).toNat]'hs = UInt8.ofNat (xs[i]).toNat := by
    show (xs.map fun n => UInt8.ofNat n.toNat).toArray[(i : Int).toNat]'(by simpa using h) = _
    simp
  rw [e, UInt8.toNat_ofNat']
  omega
theorem strOfNums_self (s : ByteArray) : strOfNums ((List.range s.size).map fun (i : Nat) => bt s (i : Int)) = s := by
  apply ByteArray.ext
  unfold strOfNums
  apply Array.ext
  · simp
  · intro i h1 h2
    have hs : i < s.size := h2
    have e : bt s (i : Int) = ((s[i]'hs).toNat : Int) := by
      unfold bt
      have : (i : Int).toNat < s.size := by simpa using hs
      rw [dif_pos this]
      simp
    simp only [List.getElem_toArray, List.getElem_map, List.getElem_range, e]
    simp
    rfl
theorem bt_nat (s : ByteArray) (i : Nat) (h : i < s.size) : bt s (i : Int) = ((s[i]'h).toNat : Int) := by
  unfold bt
  have : (i : Int).toNat < s.size := by simpa using h
  rw [dif_pos this]
  simp
end Go.Proofs.Ytjcamejbdcaokaa.Lib
/- The packing of bits: the reference's l1Put tells what pkBits says. -/
namespace Go.Proofs.Ytjcamejbdcaokaa.Pure
open Go.RowKit Go.Proofs.Ytjcamejbdcaokaa.P Go.Proofs.Ytjcamejbdcaokaa.Lib Go.Proofs.YtjcamejbdcaokaaW.PrintWords Go.Proofs.YtjcamejbdcaokaaW.PrintLast

theorem pow_run (n : Nat) (hn : n ≤ 62) (d : Nat) : ∀ (i : Nat), n - i = d → i ≤ n → Ok (fun k => spec_l1Pow.l0 k (n : Int) ((2 : Int) ^ i) (i : Int)) (· = (2 : Int) ^ n) := by
  induction d with
  | zero =>
    intro i hd hi
    obtain rfl : i = n := by omega
    refine Ok.succ ?_
    simp only [spec_l1Pow.l0]
    exact Ok.no (by omega) (Ok.now _ rfl)
  | succ d ih =>
    intro i hd hi
    refine Ok.succ ?_
    simp only [spec_l1Pow.l0]
    refine Ok.yes (by omega) ?_
    have e1 : wrap64 ((2 : Int) ^ i * 2) = 2 ^ (i + 1) := by
      rw [← Int.pow_succ]
      have h1 := pow2_1 (i + 1)
      have h2 := pow2_le (show i + 1 ≤ 62 by omega)
      exact w64 (by omega) (by omega)
    have e2 : wrap64 ((i : Int) + 1) = ((i + 1 : Nat) : Int) := by unfold wrap64; omega
    rw [e1, e2]
    exact ih (i + 1) (by omega) (by omega)
theorem pow_ok (n : Nat) (hn : n ≤ 62) : Ok (fun k => spec_l1Pow.f k (n : Int)) (· = (2 : Int) ^ n) := by
  unfold spec_l1Pow.f
  exact pow_run n hn n 0 (by omega) (by omega)

def good (high : Bool) (y p : Nat) : Prop := if high = true then y % 2 ^ (8 - p) = 0 else y < 2 ^ p
instance (high : Bool) (y p : Nat) : Decidable (good high y p) := by unfold good; infer_instance
def plc (high : Bool) (p : Nat) : Nat := if high = true then 7 - p else p
theorem nat_high : ∀ (p : Fin 8) (b : Fin 2) (y : Fin 256), y.val % 2 ^ (8 - p.val) = 0 → y.val ||| b.val * 2 ^ (7 - p.val) = y.val + b.val * 2 ^ (7 - p.val) ∧ y.val + b.val * 2 ^ (7 - p.val) < 256 ∧ (y.val + b.val * 2 ^ (7 - p.val)) % 2 ^ (8 - (p.val + 1)) = 0 := by decide +kernel
theorem nat_low : ∀ (p : Fin 8) (b : Fin 2) (y : Fin 256), y.val < 2 ^ p.val → y.val ||| b.val * 2 ^ p.val = y.val + b.val * 2 ^ p.val ∧ y.val + b.val * 2 ^ p.val < 256 ∧ y.val + b.val * 2 ^ p.val < 2 ^ (p.val + 1) := by decide +kernel
theorem ofInt_u8 (a : Nat) (ha : a < 256) : (BitVec.ofInt 8 (a : Int)).toNat = a := by
  rw [BitVec.ofInt_natCast, BitVec.toNat_ofNat]; exact Nat.mod_eq_of_lt (by omega)
theorem u8_or_nat (a b : Nat) (ha : a < 256) (hb : b < 256) : bits .or .u8 (a : Int) (b : Int) = ((a ||| b : Nat) : Int) := by
  have hx : a ||| b < 2 ^ 8 := Nat.or_lt_two_pow (by omega) (by omega)
  show IntKind.u8.wrap ((BitVec.ofInt 8 (a : Int) ||| BitVec.ofInt 8 (b : Int)).toNat : Int) = _
  rw [BitVec.toNat_or, ofInt_u8 a ha, ofInt_u8 b hb, IntKind.wrap_u8]
  omega
theorem byte_nat {high : Bool} {y p b : Nat} (hy : y < 256) (hp : p < 8) (hb : b < 2) (h : good high y p) : (y ||| b * 2 ^ (plc high p)) = y + b * 2 ^ (plc high p) ∧ y + b * 2 ^ (plc high p) < 256 ∧ good high (y + b * 2 ^ (plc high p)) (p + 1) := by
  cases high with
  | true => exact nat_high ⟨p, hp⟩ ⟨b, hb⟩ ⟨y, hy⟩ h
  | false => exact nat_low ⟨p, hp⟩ ⟨b, hb⟩ ⟨y, hy⟩ h
theorem byte_or {high : Bool} {y p b : Nat} (hy : y < 256) (hp : p < 8) (hb : b < 2) (h : good high y p) : bits .or .u8 (y : Int) (wrap64 ((b : Int) * (2 : Int) ^ (plc high p)) % 256) = ((y + b * 2 ^ (plc high p) : Nat) : Int) ∧ y + b * 2 ^ (plc high p) < 256 ∧ good high (y + b * 2 ^ (plc high p)) (p + 1) := by
  obtain ⟨o1, o2, o3⟩ := byte_nat hy hp hb h
  refine ⟨?_, o2, o3⟩
  have ec : (b : Int) * (2 : Int) ^ (plc high p) = ((b * 2 ^ (plc high p) : Nat) : Int) := by push_cast; rfl
  rw [ec]
  clear ec
  obtain ⟨c, hc⟩ : ∃ c, b * 2 ^ (plc high p) = c := ⟨_, rfl⟩
  rw [hc] at o1 o2 ⊢
  clear hc o3
  have ew : wrap64 (c : Int) % 256 = (c : Int) := by
    rw [w64 (by omega) (by omega)] <;> omega
  rw [ew, u8_or_nat y c hy (by omega), o1]
structure Inv (high : Bool) (xs : List Int) (pos : Nat) : Prop where
  len : xs.length = (pos + 7) / 8
  byte : ∀ x ∈ xs, 0 ≤ x ∧ x ≤ 255
  last : pos % 8 ≠ 0 → good high (xs.getD (xs.length - 1) 0).toNat (pos % 8)
theorem Inv.nil (high : Bool) : Inv high [] 0 := ⟨rfl, by simp, by simp⟩

/-- The byte that takes the bit: a new one at the start of a byte. -/
def grown (xs : List Int) (pos : Nat) : List Int := if pos % 8 = 0 then xs ++ [0] else xs
theorem grown_ok {high : Bool} {xs : List Int} {pos : Nat} (h : Inv high xs pos) : (grown xs pos).length = pos / 8 + 1 ∧ (∀ x ∈ grown xs pos, 0 ≤ x ∧ x ≤ 255) ∧ good high ((grown xs pos).getD (pos / 8) 0).toNat (pos % 8) := by
  have hl := h.len
  unfold grown
  by_cases h0 : pos % 8 = 0
  · rw [if_pos h0]
    refine ⟨by rw [List.length_append, hl]; simp; omega, ?_, ?_⟩
    · intro x hx
      rcases List.mem_append.mp hx with hx | hx
      · exact h.byte x hx
      · simp at hx; omega
    · have e : pos / 8 = xs.length := by omega
      rw [e, h0]
      cases high <;> simp [good]
  · rw [if_neg h0]
    refine ⟨by omega, h.byte, ?_⟩
    have e : pos / 8 = xs.length - 1 := by omega
    rw [e]
    exact h.last h0
set_option maxHeartbeats 1000000 in
theorem bit_step {high : Bool} {xs : List Int} {pos b : Nat} (h : Inv high xs pos) (hb : b < 2) (hp : pos ≤ 1000000) :
    pkStep xs (pos : Int) (b : Int) high = (grown xs pos).set (pos / 8) ((rd (grown xs pos) ((pos / 8 : Nat) : Int) + wrap64 ((b : Int) * (2 : Int) ^ (plc high (pos % 8))) % 256) % 256) ∧ Inv high (pkStep xs (pos : Int) (b : Int) high) (pos + 1) := by
  obtain ⟨g1, g2, g3⟩ := grown_ok h
  obtain ⟨ys, hys⟩ : ∃ ys, grown xs pos = ys := ⟨_, rfl⟩
  rw [hys] at g1 g2 g3 ⊢
  have hin : pos / 8 < ys.length := by omega
  have hmem : ys.getD (pos / 8) 0 ∈ ys := by
    rw [List.getD_eq_getElem?_getD, List.getElem?_eq_getElem hin]; exact List.getElem_mem hin
  obtain ⟨y, hy⟩ : ∃ y : Nat, ys.getD (pos / 8) 0 = (y : Int) := ⟨(ys.getD (pos / 8) 0).toNat, by have := (g2 _ hmem).1; omega⟩
  have hy2 : y < 256 := by have := (g2 _ hmem).2; omega
  rw [hy] at g3
  have g3 : good high y (pos % 8) := g3
  obtain ⟨o1, o2, o3⟩ := byte_or hy2 (Nat.mod_lt pos (by omega)) hb g3
  obtain ⟨c, hc⟩ : ∃ c, b * 2 ^ (plc high (pos % 8)) = c := ⟨_, rfl⟩
  have ec : (b : Int) * (2 : Int) ^ (plc high (pos % 8)) = (c : Int) := by rw [← hc]; push_cast; rfl
  rw [hc] at o1 o2 o3
  rw [ec]
  clear ec hc
  have O1 := Aside0.mk o1
  clear o1
  have epl : (pkPlace (pos : Int) high).toNat = plc high (pos % 8) := by
    unfold pkPlace plc
    cases high <;> simp <;> omega
  have est : pkStep xs (pos : Int) (b : Int) high = ys.set (pos / 8) ((y + c : Nat) : Int) := by
    have e0 : pkStep xs (pos : Int) (b : Int) high = pkOr ys (pos : Int) (b : Int) high := by
      unfold pkStep
      rw [← hys]
      unfold grown
      by_cases h0 : pos % 8 = 0
      · rw [if_pos h0, if_pos (by omega)]
      · rw [if_neg h0, if_neg (by omega)]
    rw [e0]
    unfold pkOr
    have el : ys.length - 1 = pos / 8 := by omega
    rw [el, hy, epl, O1.out]
  clear O1 epl
  have erd : rd ys ((pos / 8 : Nat) : Int) = (y : Int) := by unfold rd; rw [Int.toNat_natCast]; exact hy
  have ew : wrap64 (c : Int) % 256 = (c : Int) := by
    rw [w64 (by omega) (by omega)] <;> omega
  have hEst := Aside0.mk est
  have hErd := Aside0.mk erd
  have hEw := Aside0.mk ew
  clear est erd ew
  refine ⟨?_, ?_⟩
  · have em : ((y : Int) + (c : Int)) % 256 = ((y + c : Nat) : Int) := by omega
    rw [hEst.out, hErd.out, hEw.out, em]
  · rw [hEst.out]
    refine ⟨by rw [List.length_set]; omega, ?_, ?_⟩
    · intro x hx
      rcases List.mem_or_eq_of_mem_set hx with hx | hx
      · exact g2 x hx
      · subst hx; clear hEst hErd hEw g3 o3; exact ⟨by omega, by omega⟩
    · intro h1
      have el : (ys.set (pos / 8) ((y + c : Nat) : Int)).length - 1 = pos / 8 := by rw [List.length_set]; omega
      rw [el]
      have eg : (ys.set (pos / 8) ((y + c : Nat) : Int)).getD (pos / 8) 0 = ((y + c : Nat) : Int) := by
        rw [List.getD_eq_getElem?_getD, List.getElem?_set_self hin, Option.getD_some]
      rw [eg, Int.toNat_natCast, show (pos + 1) % 8 = pos % 8 + 1 by omega]
      exact o3
theorem pkBit_lt (v : Int) (size : Nat) (high : Bool) (k : Nat) : ∃ b : Nat, b < 2 ∧ pkBit v size high k = (b : Int) := by
  refine ⟨(pkBit v size high k).toNat, ?_, ?_⟩ <;> (unfold pkBit; omega)
theorem tdiv8 {pos : Nat} (h : pos ≤ 1000000) : wrap64 (Int.tdiv (pos : Int) 8) = ((pos / 8 : Nat) : Int) := by
  rw [tdiv_nn (by omega)]; unfold wrap64; omega
theorem tmod8 (pos : Nat) : Int.tmod (pos : Int) 8 = ((pos % 8 : Nat) : Int) := by rw [tmod_nn (by omega)]; omega
theorem bit_text {v : Int} {e : Nat} (h0 : 0 ≤ v) (h1 : v ≤ 4294967296) : Int.tmod (wrap64 (Int.tdiv v ((2 : Int) ^ e))) 2 = v / 2 ^ e % 2 := by
  have hp := pow2_1 e
  have hd : 0 ≤ v / 2 ^ e := Int.ediv_nonneg h0 (by omega)
  have hd2 : v / 2 ^ e ≤ v := Int.ediv_le_self _ h0
  rw [tdiv_nn h0, w64 (by omega) (by omega), tmod_nn hd]
theorem seven (pos : Nat) : wrap64 (7 - ((pos % 8 : Nat) : Int)) = ((7 - pos % 8 : Nat) : Int) := by
  have h := Nat.mod_lt pos (show 0 < 8 by omega)
  obtain ⟨p, hp⟩ : ∃ p, pos % 8 = p := ⟨_, rfl⟩
  rw [hp] at h ⊢
  clear hp
  rw [w64 (by omega) (by omega)] <;> omega
theorem l1_step {P : ByteArray → Prop} {l : List S113} {high : Bool} {xs : List Int} {pos i j size : Nat} {v : Int} (hl : i < l.length) (he : rd_T113 l (i : Int) = ⟨v, size⟩) (hj : j < size) (hs : size ≤ 32) (_hll : l.length ≤ 1000000) (h0 : 0 ≤ v) (h1 : v ≤ 4294967296) (hp : pos ≤ 900000) (hI : Inv high xs pos)
    (k : Ok (fun n => spec_l1Put.l1 n l high (pkStep xs (pos : Int) (pkBit v size high j) high) ((pos : Int) + 1) (i : Int) ((j + 1 : Nat) : Int)) P) :
    Ok (fun n => spec_l1Put.l1 n l high xs (pos : Int) (i : Int) (j : Int)) P := by
  obtain ⟨b, hb, eb⟩ := pkBit_lt v size high j
  rw [eb] at k
  have EB := Aside0.mk eb
  clear eb
  have s1 := (bit_step hI hb (by omega)).1
  obtain ⟨g1, _, _⟩ := grown_ok hI
  have hxl : xs.length < 140737488355328 := by have := hI.len; omega
  have c1 : (0 : Int) ≤ (i : Int) := by omega
  have c2 : (i : Int) < (l.length : Int) := by omega
  have c3 : (j : Int) < (rd_T113 l (i : Int)).f1 := by rw [he]; show (j : Int) < (size : Int); omega
  have c4 : (0 : Int) ≤ ((pos / 8 : Nat) : Int) := by omega
  have ei : ((i : Nat) : Int).toNat = i := Int.toNat_natCast i
  have ep : ((pos / 8 : Nat) : Int).toNat = pos / 8 := Int.toNat_natCast _
  have e1 : wrap64 ((pos : Int) + 1) = (pos : Int) + 1 := by rw [w64 (by omega) (by omega)] <;> omega
  have e2 : wrap64 ((j : Int) + 1) = ((j + 1 : Nat) : Int) := by rw [w64 (by omega) (by omega)] <;> omega
  have e7 : wrap64 (7 - ((pos % 8 : Nat) : Int)) = ((7 - pos % 8 : Nat) : Int) := seven pos
  have hne : ∀ e : Nat, ¬ (2 : Int) ^ e = 0 := fun e => by have := pow2_1 e; omega
  have E1 := Aside0.mk e1
  have E2 := Aside0.mk e2
  have E7 := Aside0.mk e7
  have EP := Aside0.mk ep
  have S1 := Aside0.mk s1
  clear e1 e2 e7 ep ei s1
  refine Ok.succ ?_
  simp only [spec_l1Put.l1]
  refine Ok.yes c1 (Ok.yes c2 (Ok.yes c3 ?_))
  clear c3
  cases high with
  | true =>
    refine Ok.yes rfl ?_
    have ee : wrap64 (wrap64 ((rd_T113 l (i : Int)).f1 - 1) - (j : Int)) = ((size - 1 - j : Nat) : Int) := by
      rw [he]; show wrap64 (wrap64 ((size : Int) - 1) - (j : Int)) = _; rw [w64 (x := (size : Int) - 1) (by omega) (by omega), w64 (by omega) (by omega)] <;> omega
    rw [ee]
    refine Ok.succ ?_
    simp only [spec_l1Put.j2]
    refine Ok.yes c1 (Ok.yes c2 (Ok.bind (pow_ok (size - 1 - j) (by omega)) (fun a ha => ?_)))
    subst ha
    refine Ok.no (hne _) ?_
    have et : Int.tmod (wrap64 (Int.tdiv (rd_T113 l (i : Int)).f0 ((2 : Int) ^ (size - 1 - j)))) 2 = (b : Int) := by
      rw [he, ← EB.out]; exact bit_text h0 h1
    rw [et, tmod8, tdiv8 (by omega)]
    clear et EB
    by_cases hz : pos % 8 = 0
    · have eg : grown xs pos = xs ++ [0] := by unfold grown; rw [if_pos hz]
      have s1 := S1.out
      rw [eg] at s1 g1
      have c5 : ((pos / 8 : Nat) : Int) < ((xs ++ [0]).length : Int) := by omega
      have c6 : ((pos % 8 : Nat) : Int) = 0 := by omega
      refine Ok.yes c6 (Ok.yes hxl ?_)
      simp only [Option.bind_some]
      refine Ok.yes (by simp) (Ok.yes c4 (Ok.yes c5 ?_))
      rw [E7.out]
      refine Ok.bind (pow_ok (7 - pos % 8) (by omega)) (fun a ha => ?_)
      subst ha
      rw [E1.out, E2.out, EP.out]
      rw [show plc true (pos % 8) = 7 - pos % 8 from rfl] at s1
      rw [← s1]
      exact k
    · have eg : grown xs pos = xs := by unfold grown; rw [if_neg hz]
      have s1 := S1.out
      rw [eg] at s1 g1
      have c5 : ((pos / 8 : Nat) : Int) < ((xs).length : Int) := by omega
      have c6 : ¬ ((pos % 8 : Nat) : Int) = 0 := by omega
      refine Ok.no c6 (Ok.yes (by simp) (Ok.yes c4 (Ok.yes c5 ?_)))
      rw [E7.out]
      refine Ok.bind (pow_ok (7 - pos % 8) (by omega)) (fun a ha => ?_)
      subst ha
      rw [E1.out, E2.out, EP.out]
      rw [show plc true (pos % 8) = 7 - pos % 8 from rfl] at s1
      rw [← s1]
      exact k
  | false =>
    refine Ok.no Bool.false_ne_true ?_
    refine Ok.succ ?_
    simp only [spec_l1Put.j2]
    refine Ok.yes c1 (Ok.yes c2 (Ok.bind (pow_ok j (by omega)) (fun a ha => ?_)))
    subst ha
    refine Ok.no (hne _) ?_
    have et : Int.tmod (wrap64 (Int.tdiv (rd_T113 l (i : Int)).f0 ((2 : Int) ^ j))) 2 = (b : Int) := by
      rw [he, ← EB.out]; exact bit_text h0 h1
    rw [et, tmod8, tdiv8 (by omega)]
    clear et EB
    by_cases hz : pos % 8 = 0
    · have eg : grown xs pos = xs ++ [0] := by unfold grown; rw [if_pos hz]
      have s1 := S1.out
      rw [eg] at s1 g1
      have c5 : ((pos / 8 : Nat) : Int) < ((xs ++ [0]).length : Int) := by omega
      have c6 : ((pos % 8 : Nat) : Int) = 0 := by omega
      refine Ok.yes c6 (Ok.yes hxl ?_)
      simp only [Option.bind_some]
      refine Ok.no (by simp) (Ok.yes c4 (Ok.yes c5 ?_))
      refine Ok.bind (pow_ok (pos % 8) (by omega)) (fun a ha => ?_)
      subst ha
      rw [E1.out, E2.out, EP.out]
      rw [show plc false (pos % 8) = pos % 8 from rfl] at s1
      rw [← s1]
      exact k
    · have eg : grown xs pos = xs := by unfold grown; rw [if_neg hz]
      have s1 := S1.out
      rw [eg] at s1 g1
      have c5 : ((pos / 8 : Nat) : Int) < ((xs).length : Int) := by omega
      have c6 : ¬ ((pos % 8 : Nat) : Int) = 0 := by omega
      refine Ok.no c6 (Ok.no (by simp) (Ok.yes c4 (Ok.yes c5 ?_)))
      refine Ok.bind (pow_ok (pos % 8) (by omega)) (fun a ha => ?_)
      subst ha
      rw [E1.out, E2.out, EP.out]
      rw [show plc false (pos % 8) = pos % 8 from rfl] at s1
      rw [← s1]
      exact k
theorem l1_run {P : ByteArray → Prop} {l : List S113} {high : Bool} {i size : Nat} {v : Int} (hl : i < l.length) (he : rd_T113 l (i : Int) = ⟨v, size⟩) (hs : size ≤ 32) (hll : l.length ≤ 1000000) (h0 : 0 ≤ v) (h1 : v ≤ 4294967296) (d : Nat) : ∀ (j pos : Nat) (xs : List Int), j + d = size → pos ≤ 800000 + j → Inv high xs pos →
    Inv high (pkPut v size high j xs (pos : Int) d) (pos + d) ∧ (Ok (fun n => spec_l1Put.l0 n l high (pkPut v size high j xs (pos : Int) d) ((pos + d : Nat) : Int) ((i + 1 : Nat) : Int)) P → Ok (fun n => spec_l1Put.l1 n l high xs (pos : Int) (i : Int) (j : Int)) P) := by
  induction d with
  | zero =>
    intro j pos xs hd hp hI
    refine ⟨hI, fun k => ?_⟩
    refine Ok.succ ?_
    simp only [spec_l1Put.l1]
    refine Ok.yes (by omega) (Ok.yes (by omega) (Ok.no (by rw [he]; show ¬ (j : Int) < (size : Int); omega) ?_))
    rw [show wrap64 ((i : Int) + 1) = ((i + 1 : Nat) : Int) by rw [w64 (by omega) (by omega)] <;> omega]
    exact k
  | succ d ih =>
    intro j pos xs hd hp hI
    obtain ⟨b, hb, eb⟩ := pkBit_lt v size high j
    have hI2 : Inv high (pkStep xs (pos : Int) (pkBit v size high j) high) (pos + 1) := by rw [eb]; exact (bit_step hI hb (by omega)).2
    obtain ⟨r1, r2⟩ := ih (j + 1) (pos + 1) _ (by omega) (by omega) hI2
    have e1 : ((pos + 1 : Nat) : Int) = (pos : Int) + 1 := by omega
    rw [e1, show pos + 1 + d = pos + (d + 1) by omega] at r1 r2
    refine ⟨r1, fun k => ?_⟩
    exact l1_step hl he (by omega) hs hll h0 h1 (by omega) hI (r2 k)
def sizeOk (b : S113) : Prop := 0 ≤ b.f0 ∧ b.f0 ≤ 4294967296 ∧ 0 ≤ b.f1 ∧ b.f1 ≤ 32
theorem bitsSum_nonneg : ∀ l : List S113, (∀ b ∈ l, sizeOk b) → 0 ≤ bitsSum l
  | [], _ => by simp [bitsSum]
  | b :: l, h => by
    have h1 := bitsSum_nonneg l (fun x hx => h x (List.mem_cons_of_mem _ hx))
    have h2 := (h b List.mem_cons_self).2.2.1
    simp only [bitsSum]; omega
theorem l0_run (l : List S113) (high : Bool) (hll : l.length ≤ 1000000) (hok : ∀ b ∈ l, sizeOk b) (d : Nat) : ∀ (i pos : Nat) (xs : List Int), i + d = l.length → (pos : Int) + bitsSum (l.drop i) ≤ 800000 → Inv high xs pos →
    Ok (fun n => spec_l1Put.l0 n l high xs (pos : Int) (i : Int)) (· = strOfNums (pkBits high (l.drop i) xs (pos : Int))) := by
  induction d with
  | zero =>
    intro i pos xs hd _ _
    refine Ok.succ ?_
    simp only [spec_l1Put.l0]
    refine Ok.no (by omega) ?_
    rw [List.drop_eq_nil_of_le (by omega)]
    exact Ok.now _ rfl
  | succ d ih =>
    intro i pos xs hd hp hI
    have hi : i < l.length := by omega
    have hc : l.drop i = l[i] :: l.drop (i + 1) := List.drop_eq_getElem_cons hi
    rw [hc] at hp ⊢
    obtain ⟨b, hb⟩ : ∃ b, l[i] = b := ⟨_, rfl⟩
    obtain ⟨q1, q2, q3, q4⟩ := hok l[i] (List.getElem_mem hi)
    rw [hb] at hp q1 q2 q3 q4 ⊢
    obtain ⟨s, hs⟩ : ∃ s : Nat, b.f1 = (s : Int) := ⟨b.f1.toNat, by omega⟩
    have he : rd_T113 l (i : Int) = ⟨b.f0, (s : Int)⟩ := by
      rw [← hs]
      show l.getD (i : Int).toNat z113 = _
      rw [Int.toNat_natCast, List.getD_eq_getElem?_getD, List.getElem?_eq_getElem hi, hb]; rfl
    have hn := bitsSum_nonneg (l.drop (i + 1)) (fun x hx => hok x (List.mem_of_mem_drop hx))
    simp only [bitsSum, pkBits] at hp ⊢
    rw [hs] at hp q3 q4 ⊢
    rw [Int.toNat_natCast]
    refine Ok.succ ?_
    simp only [spec_l1Put.l0]
    refine Ok.yes (by omega) ?_
    obtain ⟨r1, r2⟩ := l1_run (P := (· = strOfNums (pkBits high (l.drop (i + 1)) (pkPut b.f0 s high 0 xs (pos : Int) s) ((pos : Int) + (s : Int))))) (high := high) hi he (by omega) hll q1 q2 s 0 pos xs (by omega) (by omega) hI
    refine r2 ?_
    have h2 := ih (i + 1) (pos + s) _ (by omega) (by push_cast; omega) r1
    rw [show ((pos + s : Nat) : Int) = (pos : Int) + (s : Int) by omega] at h2 ⊢
    exact h2
theorem l1Put_ok (l : List S113) (high : Bool) (hll : l.length ≤ 1000000) (hok : ∀ b ∈ l, sizeOk b) (hsum : bitsSum l ≤ 800000) : Ok (fun n => spec_l1Put.f n l high) (· = strOfNums (pkBits high l [] 0)) := by
  unfold spec_l1Put.f
  exact l0_run l high hll hok l.length 0 0 [] (by omega) (by simpa using hsum) (Inv.nil high)
end Go.Proofs.Ytjcamejbdcaokaa.Pure
/- The reading side: what bit stands at a place of the packed bytes. -/
namespace Go.Proofs.Ytjcamejbdcaokaa.Pure
open Go.RowKit Go.Proofs.Ytjcamejbdcaokaa.P Go.Proofs.Ytjcamejbdcaokaa.Lib Go.Proofs.YtjcamejbdcaokaaW.PrintWords Go.Proofs.YtjcamejbdcaokaaW.PrintLast

theorem nat_keep_high : ∀ (p q : Fin 8) (b : Fin 2) (y : Fin 256), q.val < p.val → (y.val + b.val * 2 ^ (7 - p.val)) % 256 = y.val + b.val * 2 ^ (7 - p.val) → y.val % 2 ^ (8 - p.val) = 0 → (y.val + b.val * 2 ^ (7 - p.val)) / 2 ^ (7 - q.val) % 2 = y.val / 2 ^ (7 - q.val) % 2 := by decide +kernel
theorem nat_keep_low : ∀ (p q : Fin 8) (b : Fin 2) (y : Fin 256), q.val < p.val → y.val < 2 ^ p.val → (y.val + b.val * 2 ^ p.val) / 2 ^ q.val % 2 = y.val / 2 ^ q.val % 2 := by decide +kernel
theorem nat_new_high : ∀ (p : Fin 8) (b : Fin 2) (y : Fin 256), y.val % 2 ^ (8 - p.val) = 0 → (y.val + b.val * 2 ^ (7 - p.val)) / 2 ^ (7 - p.val) % 2 = b.val := by decide +kernel
theorem nat_new_low : ∀ (p : Fin 8) (b : Fin 2) (y : Fin 256), y.val < 2 ^ p.val → (y.val + b.val * 2 ^ p.val) / 2 ^ p.val % 2 = b.val := by decide +kernel
theorem byte_keep {high : Bool} {y p q b : Nat} (hy : y < 256) (hp : p < 8) (hq : q < p) (hb : b < 2) (h : good high y p) (h2 : y + b * 2 ^ (plc high p) < 256) : (y + b * 2 ^ (plc high p)) / 2 ^ (plc high q) % 2 = y / 2 ^ (plc high q) % 2 := by
  cases high with
  | true => exact nat_keep_high ⟨p, hp⟩ ⟨q, by omega⟩ ⟨b, hb⟩ ⟨y, hy⟩ hq (Nat.mod_eq_of_lt h2) h
  | false => exact nat_keep_low ⟨p, hp⟩ ⟨q, by omega⟩ ⟨b, hb⟩ ⟨y, hy⟩ hq h
theorem byte_new {high : Bool} {y p b : Nat} (hy : y < 256) (hp : p < 8) (hb : b < 2) (h : good high y p) : (y + b * 2 ^ (plc high p)) / 2 ^ (plc high p) % 2 = b := by
  cases high with
  | true => exact nat_new_high ⟨p, hp⟩ ⟨b, hb⟩ ⟨y, hy⟩ h
  | false => exact nat_new_low ⟨p, hp⟩ ⟨b, hb⟩ ⟨y, hy⟩ h
/-- Bit number p of the bytes. -/
def bitv (high : Bool) (xs : List Int) (p : Nat) : Nat := (xs.getD (p / 8) 0).toNat / 2 ^ (plc high (p % 8)) % 2
theorem step_form {high : Bool} {xs : List Int} {pos b : Nat} (h : Inv high xs pos) (hb : b < 2) (hp : pos ≤ 1000000) :
    ∃ y : Nat, y < 256 ∧ (grown xs pos).getD (pos / 8) 0 = (y : Int) ∧ good high y (pos % 8) ∧ y + b * 2 ^ (plc high (pos % 8)) < 256 ∧ pkStep xs (pos : Int) (b : Int) high = (grown xs pos).set (pos / 8) ((y + b * 2 ^ (plc high (pos % 8)) : Nat) : Int) := by
  obtain ⟨g1, g2, g3⟩ := grown_ok h
  have s := (bit_step h hb hp).1
  have hin : pos / 8 < (grown xs pos).length := by omega
  have hmem : (grown xs pos).getD (pos / 8) 0 ∈ grown xs pos := by
    rw [List.getD_eq_getElem?_getD, List.getElem?_eq_getElem hin]; exact List.getElem_mem hin
  obtain ⟨y, hy⟩ : ∃ y : Nat, (grown xs pos).getD (pos / 8) 0 = (y : Int) := ⟨((grown xs pos).getD (pos / 8) 0).toNat, by have := (g2 _ hmem).1; omega⟩
  have hy2 : y < 256 := by have := (g2 _ hmem).2; omega
  rw [hy] at g3
  have g3 : good high y (pos % 8) := g3
  have o2 := (byte_nat hy2 (Nat.mod_lt pos (Nat.succ_pos 7)) hb g3).2.1
  refine ⟨y, hy2, hy, g3, o2, ?_⟩
  have er : rd (grown xs pos) ((pos / 8 : Nat) : Int) = (y : Int) := by unfold rd; rw [Int.toNat_natCast]; exact hy
  have ec : (b : Int) * (2 : Int) ^ (plc high (pos % 8)) = ((b * 2 ^ (plc high (pos % 8)) : Nat) : Int) := by push_cast; rfl
  rw [s, er, ec]
  obtain ⟨c, hc⟩ : ∃ c, b * 2 ^ (plc high (pos % 8)) = c := ⟨_, rfl⟩
  rw [hc] at o2 ⊢
  clear hc ec s er g3 hmem hy
  have ew : wrap64 (c : Int) % 256 = (c : Int) := by rw [w64 (by omega) (by omega)]; omega
  have em : ((y : Int) + (c : Int)) % 256 = ((y + c : Nat) : Int) := by omega
  rw [ew, em]
theorem grown_get {xs : List Int} {pos p : Nat} (hl : xs.length = (pos + 7) / 8) (hp : p < pos) : (grown xs pos).getD (p / 8) 0 = xs.getD (p / 8) 0 := by
  unfold grown
  split
  · rw [List.getD_eq_getElem?_getD, List.getD_eq_getElem?_getD, List.getElem?_append_left (by omega)]
  · rfl
theorem bit_new {high : Bool} {xs : List Int} {pos b : Nat} (h : Inv high xs pos) (hb : b < 2) (hp : pos ≤ 1000000) : bitv high (pkStep xs (pos : Int) (b : Int) high) pos = b := by
  obtain ⟨y, y1, _, y3, _, y5⟩ := step_form h hb hp
  have hin : pos / 8 < (grown xs pos).length := by have := (grown_ok h).1; rw [this]; exact Nat.lt_succ_self _
  have hm8 : pos % 8 < 8 := Nat.mod_lt pos (Nat.succ_pos 7)
  unfold bitv
  rw [y5, List.getD_eq_getElem?_getD, List.getElem?_set_self hin, Option.getD_some, Int.toNat_natCast]
  exact byte_new y1 hm8 hb y3
theorem bit_keep {high : Bool} {xs : List Int} {pos b p : Nat} (h : Inv high xs pos) (hb : b < 2) (hp : pos ≤ 1000000) (hq : p < pos) : bitv high (pkStep xs (pos : Int) (b : Int) high) p = bitv high xs p := by
  have hin : pos / 8 < (grown xs pos).length := by have := (grown_ok h).1; rw [this]; exact Nat.lt_succ_self _
  have hm8 : pos % 8 < 8 := Nat.mod_lt pos (Nat.succ_pos 7)
  have hlt8 : p / 8 = pos / 8 → p % 8 < pos % 8 := by omega
  obtain ⟨y, y1, y2, y3, y4, y5⟩ := step_form h hb hp
  unfold bitv
  rw [y5, ← grown_get h.len hq]
  by_cases e : p / 8 = pos / 8
  · rw [e, y2, List.getD_eq_getElem?_getD, List.getElem?_set_self hin, Option.getD_some, Int.toNat_natCast, Int.toNat_natCast]
    exact byte_keep y1 hm8 (hlt8 e) hb y3 y4
  · rw [List.getD_eq_getElem?_getD, List.getElem?_set_ne (fun q => e q.symm), ← List.getD_eq_getElem?_getD]
theorem put_bits (v : Int) (size : Nat) (high : Bool) (d : Nat) : ∀ (k pos : Nat) (xs : List Int), Inv high xs pos → pos + d ≤ 1000000 →
    Inv high (pkPut v size high k xs (pos : Int) d) (pos + d) ∧ (∀ p, p < pos → bitv high (pkPut v size high k xs (pos : Int) d) p = bitv high xs p) ∧ (∀ i, i < d → ((bitv high (pkPut v size high k xs (pos : Int) d) (pos + i) : Nat) : Int) = pkBit v size high (k + i)) := by
  induction d with
  | zero => intro k pos xs hI hp; exact ⟨hI, fun p _ => rfl, fun i hi => absurd hi (Nat.not_lt_zero i)⟩
  | succ d ih =>
    intro k pos xs hI hp
    obtain ⟨b, hb, eb⟩ := pkBit_lt v size high k
    have hp1 : pos ≤ 1000000 := by omega
    have hp2 : pos + 1 + d ≤ 1000000 := by omega
    have hI2 := (bit_step hI hb hp1).2
    obtain ⟨r1, r2, r3⟩ := ih (k + 1) (pos + 1) _ hI2 hp2
    simp only [pkPut]
    rw [eb]
    rw [show ((pos + 1 : Nat) : Int) = (pos : Int) + 1 from rfl] at r1 r2 r3
    refine ⟨by rw [show pos + (d + 1) = pos + 1 + d by omega]; exact r1, fun p hq => ?_, fun i hi => ?_⟩
    · rw [r2 p (Nat.lt_succ_of_lt hq)]
      exact bit_keep hI hb hp1 hq
    · cases i with
      | zero =>
        rw [show pos + 0 = pos from rfl, show k + 0 = k from rfl, r2 pos (Nat.lt_succ_self pos), bit_new hI hb hp1, eb]
      | succ i =>
        have h := r3 i (Nat.lt_of_succ_lt_succ hi)
        rw [show pos + (i + 1) = pos + 1 + i by omega, show k + (i + 1) = k + 1 + i by omega]
        exact h
end Go.Proofs.Ytjcamejbdcaokaa.Pure
/- The reference's RowPut tells what the program's RowPut tells. -/
namespace Go.Proofs.Ytjcamejbdcaokaa.Pure
open Go.RowKit Go.Proofs.Ytjcamejbdcaokaa.P Go.Proofs.Ytjcamejbdcaokaa.Lib Go.Proofs.YtjcamejbdcaokaaW.PrintWords Go.Proofs.YtjcamejbdcaokaaW.PrintLast

theorem pkPut_congr (v v' : Int) (s s' : Nat) (high : Bool) (d : Nat) : ∀ (k k' : Nat) (xs : List Int) (pos : Int), (∀ i, i < d → pkBit v s high (k + i) = pkBit v' s' high (k' + i)) → pkPut v s high k xs pos d = pkPut v' s' high k' xs pos d := by
  induction d with
  | zero => intro k k' xs pos _; rfl
  | succ d ih =>
    intro k k' xs pos h
    simp only [pkPut]
    have h0 := h 0 (by omega)
    rw [Nat.add_zero, Nat.add_zero] at h0
    rw [h0]
    refine ih (k + 1) (k' + 1) _ _ (fun i hi => ?_)
    have h1 := h (i + 1) (by omega)
    rw [show k + (i + 1) = k + 1 + i by omega, show k' + (i + 1) = k' + 1 + i by omega] at h1
    exact h1
theorem pkPut_add (v : Int) (s : Nat) (high : Bool) (b : Nat) (a : Nat) : ∀ (k : Nat) (xs : List Int) (pos : Int), pkPut v s high k xs pos (a + b) = pkPut v s high (k + a) (pkPut v s high k xs pos a) (pos + a) b := by
  induction a with
  | zero => intro k xs pos; simp [pkPut]
  | succ a ih =>
    intro k xs pos
    rw [show a + 1 + b = (a + b) + 1 by omega]
    simp only [pkPut]
    rw [ih]
    congr 1 <;> (push_cast; omega)
theorem two_halves (v : Int) (xs : List Int) (pos : Int) : pkPut v 32 true 0 xs pos 32 = pkPut (v % 65536) 16 true 0 (pkPut (v / 65536) 16 true 0 xs pos 16) (pos + 16) 16 := by
  rw [show (32 : Nat) = 16 + 16 from rfl, pkPut_add]
  rw [pkPut_congr v (v / 65536) (16 + 16) 16 true 16 0 0 xs pos, pkPut_congr v (v % 65536) (16 + 16) 16 true 16 (0 + 16) 0 _ _]
  · rfl
  · intro i hi
    unfold pkBit
    have h : i = 0 ∨ i = 1 ∨ i = 2 ∨ i = 3 ∨ i = 4 ∨ i = 5 ∨ i = 6 ∨ i = 7 ∨ i = 8 ∨ i = 9 ∨ i = 10 ∨ i = 11 ∨ i = 12 ∨ i = 13 ∨ i = 14 ∨ i = 15 := by omega
    rcases h with rfl | rfl | rfl | rfl | rfl | rfl | rfl | rfl | rfl | rfl | rfl | rfl | rfl | rfl | rfl | rfl <;> (simp only [if_true, Nat.reduceAdd, Nat.reduceSub, Int.reducePow]; omega)
  · intro i hi
    unfold pkBit
    have h : i = 0 ∨ i = 1 ∨ i = 2 ∨ i = 3 ∨ i = 4 ∨ i = 5 ∨ i = 6 ∨ i = 7 ∨ i = 8 ∨ i = 9 ∨ i = 10 ∨ i = 11 ∨ i = 12 ∨ i = 13 ∨ i = 14 ∨ i = 15 := by omega
    rcases h with rfl | rfl | rfl | rfl | rfl | rfl | rfl | rfl | rfl | rfl | rfl | rfl | rfl | rfl | rfl | rfl <;> (simp only [if_true, Nat.reduceAdd, Nat.reduceSub, Int.reducePow]; omega)
def rowBits (D : Nat) : List Int → List S113
  | [] => []
  | x :: l => if D > 24 then ⟨x / 65536, 16⟩ :: ⟨x % 65536, 16⟩ :: rowBits D l else ⟨x, (D : Int)⟩ :: rowBits D l
theorem row_bits (D : Nat) (hD : D ≤ 24 ∨ D = 32) : ∀ (l xs : List Int) (pos : Int), pkBits true (rowBits D l) xs pos = pkRow D l xs pos
  | [], xs, pos => rfl
  | x :: l, xs, pos => by
    rcases hD with h | rfl
    · simp only [rowBits]
      rw [if_neg (by omega)]
      simp only [pkBits, pkRow, Int.toNat_natCast]
      exact row_bits D (.inl h) l _ _
    · simp only [rowBits]
      rw [if_pos (by omega)]
      simp only [pkBits, pkRow]
      rw [row_bits 32 (.inr rfl) l _ _, two_halves]
      congr 1
      omega
theorem rowBits_len (D : Nat) : ∀ l : List Int, (rowBits D l).length ≤ 2 * l.length
  | [] => Nat.le_refl 0
  | x :: l => by
    have h := rowBits_len D l
    simp only [rowBits]
    split <;> (simp only [List.length_cons]; omega)
def rowGood (D : Nat) (x : Int) : Prop := 0 ≤ x ∧ x ≤ 2 ^ D - 1
theorem rowGood_le {D : Nat} {x : Int} (hD : D ≤ 24 ∨ D = 32) (h : rowGood D x) : 0 ≤ x ∧ x ≤ 4294967295 := by
  have h2 := pow2_32 (D := D) (by omega)
  unfold rowGood at h
  omega
theorem rowBits_ok (D : Nat) (hD : D ≤ 24 ∨ D = 32) : ∀ l : List Int, (∀ x ∈ l, rowGood D x) → (∀ b ∈ rowBits D l, sizeOk b) ∧ bitsSum (rowBits D l) ≤ 32 * l.length
  | [], _ => by simp [rowBits, bitsSum]
  | x :: l, h => by
    obtain ⟨h1, h2⟩ := rowBits_ok D hD l (fun y hy => h y (List.mem_cons_of_mem _ hy))
    have hx := rowGood_le hD (h x List.mem_cons_self)
    simp only [rowBits]
    by_cases hd : D > 24
    · rw [if_pos hd]
      refine ⟨?_, by simp only [bitsSum, List.length_cons]; push_cast; omega⟩
      intro b hb
      rcases List.mem_cons.mp hb with rfl | hb
      · exact ⟨by show 0 ≤ x / 65536; omega, by show x / 65536 ≤ 4294967296; omega, by show (0 : Int) ≤ 16; omega, by show (16 : Int) ≤ 32; omega⟩
      rcases List.mem_cons.mp hb with rfl | hb
      · exact ⟨by show 0 ≤ x % 65536; omega, by show x % 65536 ≤ 4294967296; omega, by show (0 : Int) ≤ 16; omega, by show (16 : Int) ≤ 32; omega⟩
      exact h1 b hb
    · rw [if_neg hd]
      refine ⟨?_, by simp only [bitsSum, List.length_cons]; push_cast; omega⟩
      intro b hb
      rcases List.mem_cons.mp hb with rfl | hb
      · exact ⟨hx.1, by show x ≤ 4294967296; omega, by show (0 : Int) ≤ (D : Int); omega, by show (D : Int) ≤ 32; omega⟩
      exact h1 b hb
theorem rd_drop {l : List Int} {i : Nat} (h : i < l.length) : l.drop i = rd l (i : Int) :: l.drop (i + 1) := by
  rw [List.drop_eq_getElem_cons h]
  unfold rd
  rw [Int.toNat_natCast, List.getD_eq_getElem?_getD, List.getElem?_eq_getElem h, Option.getD_some]
theorem l8_run (l : List Int) (D : Nat) (hD : D ≤ 24 ∨ D = 32) (hl : l.length ≤ 1000) (hg : ∀ x ∈ l, rowGood D x) (d : Nat) : ∀ (i : Nat) (acc : List S113), i + d = l.length → acc ++ rowBits D (l.drop i) = rowBits D l →
    Ok (fun n => spec_l8Row.l0 n l (D : Int) acc (i : Int)) (· = strOfNums (pkRow D l [] 0)) := by
  have hlen := rowBits_len D l
  induction d with
  | zero =>
    intro i acc hi ha
    rw [List.drop_eq_nil_of_le (by omega)] at ha
    simp only [rowBits, List.append_nil] at ha
    subst ha
    refine Ok.succ ?_
    simp only [spec_l8Row.l0]
    have c1 : ¬ (i : Int) < (l.length : Int) := by omega
    refine Ok.no c1 ?_
    obtain ⟨h1, h2⟩ := rowBits_ok D hD l hg
    have hp := l1Put_ok (rowBits D l) true (by omega) h1 (by omega)
    rw [row_bits D hD] at hp
    exact Ok.bind hp (fun a ha => Ok.now a ha)
  | succ d ih =>
    intro i acc hi ha
    have hlt : i < l.length := by omega
    have hal : acc.length ≤ 2000 := by
      have := congrArg List.length ha
      rw [List.length_append] at this
      omega
    rw [rd_drop hlt] at ha
    have hx : rowGood D (rd l (i : Int)) := hg _ (rd_mem (by omega) (by omega))
    obtain ⟨x, hxx⟩ : ∃ x, rd l (i : Int) = x := ⟨_, rfl⟩
    rw [hxx] at ha hx
    have hx2 := rowGood_le hD hx
    have e1 : wrap64 ((i : Int) + 1) = ((i + 1 : Nat) : Int) := by rw [w64 (by omega) (by omega)] <;> omega
    have c1 : (i : Int) < (l.length : Int) := by omega
    have c2 : (0 : Int) ≤ (i : Int) := by omega
    have e2 : wrap64 (Int.tdiv x 65536) = x / 65536 := by rw [tdiv_nn hx2.1, w64 (by omega) (by omega)]
    have e3 : Int.tmod x 65536 = x % 65536 := tmod_nn hx2.1
    simp only [rowBits] at ha
    refine Ok.succ ?_
    simp only [spec_l8Row.l0]
    refine Ok.yes c1 ?_
    rw [hxx, e1, e2, e3]
    by_cases hd : D > 24
    · rw [if_pos hd] at ha
      have c3 : (D : Int) > 24 := by omega
      have c4 : acc.length + [(⟨x / 65536, 16⟩ : S113), (⟨x % 65536, 16⟩ : S113)].length < 8796093022208 := by simp only [List.length_cons, List.length_nil]; omega
      refine Ok.yes c3 (Ok.yes c2 ?_)
      simp only [Option.bind_some]
      refine Ok.yes c4 ?_
      exact ih (i + 1) _ (by omega) (by rw [← ha]; simp)
    · rw [if_neg hd] at ha
      have c3 : ¬ (D : Int) > 24 := by omega
      have c4 : acc.length < 8796093022208 := by omega
      refine Ok.no c3 (Ok.yes c2 (Ok.yes c4 ?_))
      exact ih (i + 1) _ (by omega) (by rw [← ha]; simp)
theorem bad_good {D : Nat} {x : Int} : impl_outside.bad (2 ^ D - 1) x = false ↔ rowGood D x := by
  unfold impl_outside.bad rowGood
  simp
theorem bits_dec (a : Int) : spec_l8Bits.f a = some (decide (rowD a)) := by
  unfold spec_l8Bits.f rowD
  by_cases h1 : a = 1 <;> by_cases h2 : a = 2 <;> by_cases h3 : a = 4 <;> by_cases h4 : a = 8 <;> by_cases h5 : a = 24 <;> by_cases h6 : a = 32 <;> simp [h1, h2, h3, h4, h5, h6]
theorem scan_run (l : List Int) (D : Nat) (hD : D ≤ 24 ∨ D = 32) (hl : l.length ≤ 1000) (d : Nat) : ∀ (i : Nat), i + d = l.length → (l.any (impl_outside.bad (2 ^ D - 1)) = true → (l.drop i).any (impl_outside.bad (2 ^ D - 1)) = true) →
    Ok (fun n => spec_RowPut.l0 n l (D : Int) (i : Int)) (· = if l.any (impl_outside.bad (2 ^ D - 1)) = true then ⟨#[]⟩ else strOfNums (pkRow D l [] 0)) := by
  induction d with
  | zero =>
    intro i hi h
    rw [List.drop_eq_nil_of_le (by omega)] at h
    have hn : ¬ l.any (impl_outside.bad (2 ^ D - 1)) = true := fun q => by simpa using h q
    rw [if_neg hn]
    have hg : ∀ x ∈ l, rowGood D x := by
      intro x hx
      rw [← bad_good]
      cases hb : impl_outside.bad (2 ^ D - 1) x with
      | false => rfl
      | true => exact absurd (List.any_eq_true.2 ⟨x, hx, hb⟩) hn
    refine Ok.succ ?_
    simp only [spec_RowPut.l0]
    have c1 : ¬ (i : Int) < (l.length : Int) := by omega
    refine Ok.no c1 ?_
    have h8 := l8_run l D hD hl hg l.length 0 [] (by omega) (by simp)
    unfold spec_l8Row.f
    exact Ok.bind h8 (fun a ha => Ok.now a ha)
  | succ d ih =>
    intro i hi h
    have hlt : i < l.length := by omega
    rw [rd_drop hlt] at h
    have hm : rd l (i : Int) ∈ l := rd_mem (by omega) (by omega)
    obtain ⟨x, hxx⟩ : ∃ x, rd l (i : Int) = x := ⟨_, rfl⟩
    rw [hxx] at h hm
    have e1 : wrap64 ((i : Int) + 1) = ((i + 1 : Nat) : Int) := by rw [w64 (by omega) (by omega)] <;> omega
    have c1 : (i : Int) < (l.length : Int) := by omega
    have c2 : (0 : Int) ≤ (i : Int) := by omega
    have p1 := pow2_1 D
    have p2 := pow2_32 (D := D) (by omega)
    have e2 : wrap64 ((2 : Int) ^ D - 1) = 2 ^ D - 1 := w64 (by omega) (by omega)
    have e3 : spec_l1In.f x 0 ((2 : Int) ^ D - 1) = some (!impl_outside.bad (2 ^ D - 1) x) := by
      unfold spec_l1In.f impl_outside.bad
      by_cases hx : x ≥ 0
      · have hx' : 0 ≤ x := hx
        rw [if_pos hx]; simp [hx']
      · have hx' : ¬ 0 ≤ x := hx
        rw [if_neg hx]; simp [hx']
    refine Ok.succ ?_
    simp only [spec_RowPut.l0]
    refine Ok.yes c1 (Ok.yes c2 (Ok.bind (pow_ok D (by omega)) (fun a ha => ?_)))
    subst ha
    rw [hxx, e1, e2, e3]
    simp only [Option.bind_some]
    cases hb : impl_outside.bad (2 ^ D - 1) x with
    | true =>
      rw [if_pos (List.any_eq_true.2 ⟨x, hm, hb⟩)]
      refine Ok.no (by simp) ?_
      exact Ok.now _ rfl
    | false =>
      refine Ok.yes (by simp) ?_
      refine ih (i + 1) (by omega) (fun q => ?_)
      have := h q
      rw [List.any_cons, hb, Bool.false_or] at this
      exact this
/-- The reference's RowPut tells what the program's tells. -/
theorem rowPut_ok (l : List Int) (a : Int) : ∃ r, impl_RowPut.f l a = some r ∧ Ok (fun n => spec_RowPut.f n l a) (· = r) := by
  unfold impl_RowPut.f spec_RowPut.f
  simp only [bits_dec, Option.bind_some]
  by_cases hd : rowD a
  · rw [if_pos hd]
    have c1 : decide (rowD a) = true := decide_eq_true hd
    obtain ⟨D, rfl⟩ : ∃ D : Nat, a = (D : Int) := ⟨a.toNat, by unfold rowD at hd; omega⟩
    have hD : D ≤ 24 ∨ D = 32 := by unfold rowD at hd; omega
    rw [Int.toNat_natCast]
    by_cases hl : l.length ≤ 1000
    · rw [if_pos hl]
      have c2 : ¬ decide ((l.length : Int) > 1000) = true := by simp; omega
      refine ⟨if l.any (impl_outside.bad (2 ^ D - 1)) = true then ⟨#[]⟩ else strOfNums (pkRow D l [] 0), by split <;> rfl, Ok.yes c1 ?_⟩
      refine Ok.succ ?_
      simp only [spec_RowPut.j0]
      refine Ok.no c2 ?_
      exact scan_run l D hD hl l.length 0 (by omega) (fun q => by simpa using q)
    · rw [if_neg hl]
      refine ⟨_, rfl, Ok.yes c1 ?_⟩
      have c2 : decide ((l.length : Int) > 1000) = true := by simp; omega
      refine Ok.succ ?_
      simp only [spec_RowPut.j0]
      exact Ok.yes c2 (Ok.now _ rfl)
  · rw [if_neg hd]
    refine ⟨_, rfl, Ok.no (by simpa using hd) ?_⟩
    refine Ok.succ ?_
    simp only [spec_RowPut.j0]
    exact Ok.yes (by simp) (Ok.now _ rfl)
end Go.Proofs.Ytjcamejbdcaokaa.Pure
/- What pkRow and pkBits put, read back bit by bit. -/
namespace Go.Proofs.Ytjcamejbdcaokaa.Pure
open Go.RowKit Go.Proofs.Ytjcamejbdcaokaa.P Go.Proofs.Ytjcamejbdcaokaa.Lib Go.Proofs.YtjcamejbdcaokaaW.PrintWords Go.Proofs.YtjcamejbdcaokaaW.PrintLast

theorem row_at (D : Nat) (hD : D ≤ 32) : ∀ (l : List Int) (pos : Nat) (xs : List Int), Inv true xs pos → pos + 32 * l.length ≤ 1000000 →
    Inv true (pkRow D l xs (pos : Int)) (pos + D * l.length) ∧ (∀ p, p < pos → bitv true (pkRow D l xs (pos : Int)) p = bitv true xs p) ∧ (∀ n, n < l.length → ∀ i, i < D → ((bitv true (pkRow D l xs (pos : Int)) (pos + D * n + i) : Nat) : Int) = pkBit (l.getD n 0) D true i)
  | [], pos, xs, hI, _ => ⟨hI, fun _ _ => rfl, fun n hn => absurd hn (Nat.not_lt_zero n)⟩
  | x :: l, pos, xs, hI, hp => by
    have hp0 : pos + 32 + 32 * l.length ≤ 1000000 := by simp only [List.length_cons] at hp; omega
    have hp1 : pos + D ≤ 1000000 := by omega
    have hp2 : pos + D + 32 * l.length ≤ 1000000 := by omega
    obtain ⟨q1, q2, q3⟩ := put_bits x D true D 0 pos xs hI hp1
    obtain ⟨r1, r2, r3⟩ := row_at D hD l (pos + D) _ q1 hp2
    simp only [pkRow]
    rw [show ((pos + D : Nat) : Int) = (pos : Int) + (D : Int) from rfl] at r1 r2 r3
    refine ⟨by rw [List.length_cons, Nat.mul_succ, Nat.add_comm (D * l.length) D, ← Nat.add_assoc]; exact r1, fun p hq => ?_, fun n hn i hi => ?_⟩
    · rw [r2 p (Nat.lt_of_lt_of_le hq (Nat.le_add_right _ _)), q2 p hq]
    · cases n with
      | zero =>
        have e : pos + D * 0 + i = pos + i := by rw [Nat.mul_zero, Nat.add_zero]
        rw [e, r2 (pos + i) (Nat.add_lt_add_left hi pos), q3 i hi, Nat.zero_add]
        rfl
      | succ n =>
        have e : pos + D * (n + 1) + i = pos + D + D * n + i := by rw [Nat.mul_succ]; omega
        rw [e]
        exact r3 n (Nat.lt_of_succ_lt_succ hn) i hi
end Go.Proofs.Ytjcamejbdcaokaa.Pure
/- Reading bits: the program's bitAt, and the loops of RowGet and BitsGet over a text of which the bits are known. -/
set_option linter.unusedVariables false
set_option linter.unusedSimpArgs false
namespace Go.Proofs.Ytjcamejbdcaokaa.Pure
open Go.RowKit Go.Proofs.Ytjcamejbdcaokaa.P Go.Proofs.Ytjcamejbdcaokaa.Lib Go.Proofs.YtjcamejbdcaokaaW.PrintWords Go.Proofs.YtjcamejbdcaokaaW.PrintLast Go.Proofs.YtjcamejbdcaokaaW.PrintMore

/-- Bit number p of a text. -/
def bitT (high : Bool) (s : ByteArray) (p : Nat) : Nat := (bt s ((p / 8 : Nat) : Int)).toNat / 2 ^ (plc high (p % 8)) % 2
theorem bitT_lt (high : Bool) (s : ByteArray) (p : Nat) : bitT high s p < 2 := Nat.mod_lt _ (Nat.succ_pos 1)
theorem shr_nat (a e : Nat) (he : e ≤ 63) : shr .i64 (a : Int) (e : Int) = ((a / 2 ^ e : Nat) : Int) := by
  unfold shr
  rw [Int.toNat_natCast]
  show (a : Int) / 2 ^ min e 64 = _
  rw [Nat.min_eq_left (show e ≤ 64 by omega), Int.natCast_ediv]
  push_cast
  rfl
theorem bitAt_ok (high : Bool) (s : ByteArray) (p : Nat) (h : p < 8 * s.size) (hp : p ≤ 1000000) : impl_bitAt.f s (p : Int) high = some ((bitT high s p : Nat) : Int) := by
  have c1 : (0 : Int) ≤ ((p / 8 : Nat) : Int) := by omega
  have c2 : ((p / 8 : Nat) : Int) < (s.size : Int) := by omega
  have hm := Nat.mod_lt p (show 0 < 8 by omega)
  have hb := bt_range s ((p / 8 : Nat) : Int)
  obtain ⟨a, ha⟩ := Int.eq_ofNat_of_zero_le hb.1
  have ew : wrap64 (a : Int) = (a : Int) := w64 (by omega) (by omega)
  unfold impl_bitAt.f
  rw [tdiv8 hp, tmod8, seven]
  unfold bitT
  rw [ha, ew, Int.toNat_natCast]
  have ha2 : a < 256 := by omega
  clear ew ha hb
  cases high with
  | true =>
    have c3 : (0 : Int) ≤ ((7 - p % 8 : Nat) : Int) := by omega
    have c4 : 7 - p % 8 ≤ 63 := by omega
    rw [if_pos rfl, if_pos c1, if_pos c2, if_pos c3, shr_nat a _ c4, land1]
    rfl
  | false =>
    have c3 : (0 : Int) ≤ ((p % 8 : Nat) : Int) := by omega
    have c4 : p % 8 ≤ 63 := by omega
    rw [if_neg Bool.false_ne_true, if_pos c1, if_pos c2, if_pos c3, shr_nat a _ c4, land1]
    rfl
theorem bitT_nums (high : Bool) (xs : List Int) (hx : ∀ x ∈ xs, 0 ≤ x ∧ x ≤ 255) (p : Nat) (h : p / 8 < xs.length) : bitT high (strOfNums xs) p = bitv high xs p := by
  have hm := hx _ (List.getElem_mem h)
  unfold bitT bitv
  rw [strOfNums_at xs (p / 8) h hm.1 hm.2, List.getD_eq_getElem?_getD, List.getElem?_eq_getElem h, Option.getD_some]
theorem fold_high (v : Int) (D b : Nat) (hb : b < D) : 2 * (v / 2 ^ (D - b)) + pkBit v D true b = v / 2 ^ (D - (b + 1)) := by
  obtain ⟨e, rfl⟩ : ∃ e, D = b + 1 + e := ⟨D - b - 1, by omega⟩
  rw [show b + 1 + e - b = e + 1 by omega, show b + 1 + e - (b + 1) = e by omega]
  unfold pkBit
  rw [if_pos rfl, show b + 1 + e - 1 - b = e by omega]
  have hp := pow2_1 e
  rw [Int.pow_succ, ← Int.ediv_ediv_of_nonneg (show (0 : Int) ≤ 2 ^ e by omega)]
  clear hp
  generalize v / 2 ^ e = x
  omega
theorem get_l1 {P : List Int × Bool → Prop} (s : ByteArray) (D i cnt : Nat) (v : Int) (out : List Int) (hD : D ≤ 32) (h0 : 0 ≤ v) (hv : v ≤ 4294967295) (hsz : D * i + D ≤ 8 * s.size) (hi : i ≤ 1000) (hc : out.length ≤ 100000)
    (hb : ∀ j, j < D → ((bitT true s (D * i + j) : Nat) : Int) = pkBit v D true j)
    (k : Ok (fun n => impl_RowGet.l0 n s (D : Int) (out ++ [v]) (cnt : Int) ((i + 1 : Nat) : Int)) P) (d : Nat) :
    ∀ b, b + d = D → Ok (fun n => impl_RowGet.l1 n s (D : Int) out (i : Int) (v / 2 ^ (D - b)) (cnt : Int) (i : Int) (D : Int) (b : Int)) P := by
  have hq : D * i ≤ 32 * 1000 := Nat.mul_le_mul hD hi
  have em : (i : Int) * (D : Int) = ((D * i : Nat) : Int) := by push_cast; rw [Int.mul_comm]
  obtain ⟨q, eq⟩ : ∃ q, D * i = q := ⟨_, rfl⟩
  rw [eq] at hq em hsz hb
  clear eq
  have EM := Aside0.mk em
  clear em
  induction d with
  | zero =>
    intro b hbd
    obtain rfl : b = D := by omega
    have c1 : ¬ (b : Int) < (b : Int) := by omega
    have c2 : out.length < 17592186044416 := by omega
    have e1 : wrap64 ((i : Int) + 1) = ((i + 1 : Nat) : Int) := by rw [w64 (by omega) (by omega)] <;> omega
    refine Ok.succ ?_
    simp only [impl_RowGet.l1]
    refine Ok.no c1 (Ok.yes c2 ?_)
    rw [Nat.sub_self, Int.pow_zero, Int.ediv_one, e1]
    exact k
  | succ d ih =>
    intro b hbd
    have hbD : b < D := by omega
    have c1 : (b : Int) < (D : Int) := by omega
    have hpb : q + b < 8 * s.size := by omega
    have hpb2 : q + b ≤ 1000000 := by omega
    have e2 : wrap64 (((q : Nat) : Int) + (b : Int)) = ((q + b : Nat) : Int) := by rw [w64 (by omega) (by omega)] <;> omega
    have e1 : wrap64 ((q : Nat) : Int) = ((q : Nat) : Int) := by rw [w64 (by omega) (by omega)]
    have e3 : wrap64 ((b : Int) + 1) = ((b + 1 : Nat) : Int) := by rw [w64 (by omega) (by omega)] <;> omega
    have hn0 : 0 ≤ v / 2 ^ (D - b) := Int.ediv_nonneg h0 (by have := pow2_1 (D - b); omega)
    have hn1 : v / 2 ^ (D - b) ≤ v := Int.ediv_le_self _ h0
    have hf := fold_high v D b hbD
    have hB := hb b hbD
    have hB3 : 0 ≤ pkBit v D true b ∧ pkBit v D true b ≤ 1 := by
      rw [← hB]
      have hB2 := bitT_lt true s (q + b)
      clear hf hB hb ih
      omega
    refine Ok.succ ?_
    simp only [impl_RowGet.l1]
    refine Ok.yes c1 ?_
    rw [EM.out, e1, e2, e3]
    refine Ok.binds (bitAt_ok true s (q + b) hpb hpb2) ?_
    rw [hB]
    have ih2 := ih (b + 1) (by omega)
    rw [← hf] at ih2
    clear ih hf hb
    generalize v / 2 ^ (D - b) = n at hn0 hn1 ih2 ⊢
    clear hB
    generalize pkBit v D true b = B at hB3 ih2 ⊢
    have e4 : wrap64 (2 * n) = 2 * n := w64 (by omega) (by omega)
    have e5 : wrap64 (2 * n + B) = 2 * n + B := w64 (by omega) (by omega)
    rw [e4, e5]
    exact ih2
theorem get_l0 (s : ByteArray) (D : Nat) (l : List Int) (hD : D ≤ 32) (hl : l.length ≤ 1000) (hg : ∀ x ∈ l, 0 ≤ x ∧ x ≤ 4294967295 ∧ x < 2 ^ D) (hsz : D * l.length ≤ 8 * s.size)
    (hb : ∀ n, n < l.length → ∀ j, j < D → ((bitT true s (D * n + j) : Nat) : Int) = pkBit (l.getD n 0) D true j) (d : Nat) :
    ∀ i, i + d = l.length → Ok (fun n => impl_RowGet.l0 n s (D : Int) (l.take i) (l.length : Int) (i : Int)) (· = (l, true)) := by
  induction d with
  | zero =>
    intro i hi
    have c1 : ¬ (i : Int) < (l.length : Int) := by omega
    refine Ok.succ ?_
    simp only [impl_RowGet.l0]
    refine Ok.no c1 (Ok.now _ ?_)
    rw [List.take_of_length_le (by omega)]
  | succ d ih =>
    intro i hi
    have hlt : i < l.length := by omega
    have c1 : (i : Int) < (l.length : Int) := by omega
    have hg1 := hg _ (List.getElem_mem hlt)
    have eg : l.getD i 0 = l[i] := by rw [List.getD_eq_getElem?_getD, List.getElem?_eq_getElem hlt, Option.getD_some]
    have hb1 := hb i hlt
    rw [eg] at hb1
    have hz : D * i + D ≤ D * l.length := by rw [← Nat.mul_succ]; exact Nat.mul_le_mul_left _ hlt
    have ih2 := ih (i + 1) (by omega)
    have et : l.take (i + 1) = l.take i ++ [l[i]] := by rw [List.take_add_one, List.getElem?_eq_getElem hlt]; rfl
    rw [et] at ih2
    have htl : (l.take i).length ≤ 100000 := by rw [List.length_take]; omega
    have e0 : l[i] / 2 ^ (D - 0) = 0 := by rw [Nat.sub_zero]; exact Int.ediv_eq_zero_of_lt hg1.1 hg1.2.2
    have h1 := get_l1 s D i l.length l[i] (l.take i) hD hg1.1 hg1.2.1 (by omega) (by omega) htl hb1 ih2 D 0 (by omega)
    rw [e0] at h1
    refine Ok.succ ?_
    simp only [impl_RowGet.l0]
    exact Ok.yes c1 h1
theorem rowGet_ok (l : List Int) (D : Nat) (hd : rowD (D : Int)) (hl : l.length ≤ 1000) (hg : ∀ x ∈ l, rowGood D x) :
    Ok (fun n => impl_RowGet.f n (strOfNums (pkRow D l [] 0)) (D : Int) (l.length : Int)) (· = (l, true)) ∧ ((strOfNums (pkRow D l [] 0)).size : Int) = wrap64 (Int.tdiv (wrap64 (wrap64 ((l.length : Int) * (D : Int)) + 7)) 8) := by
  have hD : D ≤ 24 ∨ D = 32 := by unfold rowD at hd; omega
  have hD32 : D ≤ 32 := by omega
  obtain ⟨r1, _, r3⟩ := row_at D hD32 l 0 [] (Inv.nil true) (by omega)
  simp only [Nat.zero_add] at r1 r3
  rw [show ((0 : Nat) : Int) = 0 from rfl] at r1 r3
  have hlen := r1.len
  have hq : D * l.length ≤ 32 * 1000 := Nat.mul_le_mul hD32 hl
  have em : (l.length : Int) * (D : Int) = ((D * l.length : Nat) : Int) := by push_cast; rw [Int.mul_comm]
  have hs : (strOfNums (pkRow D l [] 0)).size = (D * l.length + 7) / 8 := by rw [strOfNums_size, hlen]
  have hbits : ∀ n, n < l.length → ∀ j, j < D → ((bitT true (strOfNums (pkRow D l [] 0)) (D * n + j) : Nat) : Int) = pkBit (l.getD n 0) D true j := by
    intro n hn j hj
    have hz : D * n + D ≤ D * l.length := by rw [← Nat.mul_succ]; exact Nat.mul_le_mul_left _ hn
    rw [bitT_nums true _ r1.byte _ (by rw [hlen]; omega)]
    exact r3 n hn j hj
  have hg2 : ∀ x ∈ l, 0 ≤ x ∧ x ≤ 4294967295 ∧ x < 2 ^ D := fun x hx => by
    have h1 := rowGood_le hD (hg x hx)
    have h2 := hg x hx
    unfold rowGood at h2
    exact ⟨h1.1, h1.2, by omega⟩
  have h0 := get_l0 (strOfNums (pkRow D l [] 0)) D l hD32 hl hg2 (by rw [hs]; omega) hbits l.length 0 (by omega)
  rw [List.take_zero] at h0
  have esz : ((strOfNums (pkRow D l [] 0)).size : Int) = wrap64 (Int.tdiv (wrap64 (wrap64 ((l.length : Int) * (D : Int)) + 7)) 8) := by
    rw [em, hs]
    generalize D * l.length = q at hq
    have e1 : wrap64 (q : Int) = (q : Int) := w64 (by omega) (by omega)
    have e2 : wrap64 ((q : Int) + 7) = ((q + 7 : Nat) : Int) := by rw [w64 (by omega) (by omega)] <;> omega
    rw [e1, e2, tdiv8 (by omega)]
  refine ⟨?_, esz⟩
  have c1 : decide (rowD (D : Int)) = true := decide_eq_true hd
  have c2 : (l.length : Int) ≥ 0 := by omega
  have c3 : decide ((l.length : Int) ≤ 1000) = true := decide_eq_true (by omega)
  unfold impl_RowGet.f
  refine Ok.binds (rowDepth_eq _) (Ok.yes c1 ?_)
  unfold impl_in.f
  rw [if_pos c2, c3]
  refine Ok.binds rfl (Ok.yes rfl ?_)
  refine Ok.succ ?_
  simp only [impl_RowGet.j0]
  refine Ok.no ?_ h0
  rw [← esz]
  simp
end Go.Proofs.Ytjcamejbdcaokaa.Pure
/- laws.FnRowGet: of every drawn text, depth and count the program's RowGet reads what the reference's reads; what it reads are as many points as asked for, each of which RowPut packs and RowGet reads again. No condition. -/
set_option linter.unusedVariables false
set_option linter.unusedSimpArgs false
namespace Go.Proofs.Ytjcamejbdcaokaa.Pure
open Go.RowKit Go.Proofs.Ytjcamejbdcaokaa.P Go.Proofs.YtjcamejbdcaokaaW.PrintWords Go.Proofs.YtjcamejbdcaokaaW.PrintLast Go.Proofs.YtjcamejbdcaokaaW.PrintMore
/-! ### what is drawn: pick, of, l1Many, l14Text -/
open Go.Proofs.Ytjcamejbdcaokaa.Lib
theorem pick_ok (b : List Int) (hb : ∀ x ∈ b, 0 ≤ x ∧ x ≤ 255) (p n : Int) (hp : 0 ≤ p) (hp' : p ≤ 1099511627776) (hn : n ≤ 9223372036854775807) :
    Ok (fun k => spec_l1Rd_pick.f k b p n) (fun r => 0 ≤ r.1 ∧ (1 ≤ n → r.1 < n) ∧ (n < 1 → r.1 = 0) ∧ r.2 = p + 1) := by
  have e1 : wrap64 (p + 1) = p + 1 := w64 (by omega) (by omega)
  unfold spec_l1Rd_pick.f
  by_cases h1 : n < 1
  · refine Ok.yes h1 (Ok.succ ?_)
    simp only [spec_l1Rd_pick.j0, e1, if_true]
    exact Ok.now _ ⟨by simp, fun h => by omega, fun _ => rfl, rfl⟩
  refine Ok.no h1 (Ok.succ ?_)
  simp only [spec_l1Rd_pick.j0, e1]
  by_cases h2 : (b.length : Int) = 0
  · have hbq : ((b.length : Int) == 0) = true := beq_iff_eq.2 h2
    exact Ok.yes hbq (Ok.now _ ⟨by omega, fun _ => by show (0 : Int) < n; omega, fun h => absurd h h1, rfl⟩)
  have hbq : ¬ ((b.length : Int) == 0) = true := by simpa using h2
  have e2 : wrap64 (p + 1 - 1) = p := by rw [w64 (by omega) (by omega)]; omega
  simp only [e2]
  refine Ok.no hbq ?_
  have hn0 : ¬ n = 0 := by omega
  refine Ok.ite (fun h3 => Ok.yes hp (Ok.no hn0 ?_)) (fun h3 => Ok.no h2 ?_)
  · have hm := hb _ (rd_mem hp h3)
    have e3 : wrap64 (rd b p) = rd b p := w64 (by omega) (by omega)
    rw [e3, tmod_nn hm.1]
    exact Ok.now _ ⟨Int.emod_nonneg _ hn0, fun _ => Int.emod_lt_of_pos _ (by omega), fun h => absurd h h1, rfl⟩
  · have hl : 0 < (b.length : Int) := by omega
    rw [tmod_nn hp]
    have a0 : 0 ≤ p % (b.length : Int) := Int.emod_nonneg _ h2
    have a1 : p % (b.length : Int) < (b.length : Int) := Int.emod_lt_of_pos _ hl
    have e4 : wrap64 (p * 7) = p * 7 := w64 (by omega) (by omega)
    have e5 : wrap64 (p * 7 + 3) = p * 7 + 3 := w64 (by omega) (by omega)
    simp only [e4, e5]
    rw [tmod_nn (show 0 ≤ p * 7 + 3 by omega)]
    have b0 : 0 ≤ (p * 7 + 3) % (b.length : Int) := Int.emod_nonneg _ h2
    have b1 : (p * 7 + 3) % (b.length : Int) < (b.length : Int) := Int.emod_lt_of_pos _ hl
    refine Ok.yes a0 (Ok.yes a1 (Ok.yes b0 (Ok.yes b1 (Ok.no hn0 ?_))))
    have c0 := hb _ (rd_mem a0 a1)
    have c1 := hb _ (rd_mem b0 b1)
    generalize rd b (p % (b.length : Int)) = x at c0 ⊢
    generalize rd b ((p * 7 + 3) % (b.length : Int)) = y at c1 ⊢
    rw [tdiv_nn hp]
    have d0 : 0 ≤ p / (b.length : Int) := Int.ediv_nonneg hp (by omega)
    have d1 : p / (b.length : Int) ≤ p := Int.ediv_le_self _ hp
    generalize p / (b.length : Int) = q at d0 d1 ⊢
    have f1 : wrap64 x = x := w64 (by omega) (by omega)
    have f2 : wrap64 y = y := w64 (by omega) (by omega)
    have f3 : wrap64 q = q := w64 (by omega) (by omega)
    have f4 : wrap64 (x * 131) = x * 131 := w64 (by omega) (by omega)
    have f5 : wrap64 (y * 1117) = y * 1117 := w64 (by omega) (by omega)
    have f6 : wrap64 (p * 29) = p * 29 := w64 (by omega) (by omega)
    have f7 : wrap64 (q * 53) = q * 53 := w64 (by omega) (by omega)
    simp only [f1, f2, f3, f4, f5, f6, f7]
    have f8 : wrap64 (x * 131 + y * 1117) = x * 131 + y * 1117 := w64 (by omega) (by omega)
    simp only [f8]
    have f9 : wrap64 (x * 131 + y * 1117 + p * 29) = x * 131 + y * 1117 + p * 29 := w64 (by omega) (by omega)
    simp only [f9]
    have f10 : wrap64 (x * 131 + y * 1117 + p * 29 + q * 53) = x * 131 + y * 1117 + p * 29 + q * 53 := w64 (by omega) (by omega)
    simp only [f10]
    have g0 : 0 ≤ x * 131 + y * 1117 + p * 29 + q * 53 := by omega
    have g1 : x * 131 + y * 1117 + p * 29 + q * 53 ≤ 9223372036854775807 := by omega
    generalize x * 131 + y * 1117 + p * 29 + q * 53 = z at g0 g1 ⊢
    rw [tdiv_nn g0]
    have f11 : wrap64 (z / 64) = z / 64 := w64 (by omega) (by omega)
    rw [f11]
    have hx := xor_nonneg g0 g1 (show 0 ≤ z / 64 by omega) (by omega)
    rw [tmod_nn hx.1]
    exact Ok.now _ ⟨Int.emod_nonneg _ hn0, fun _ => Int.emod_lt_of_pos _ (by omega), fun h => absurd h h1, rfl⟩

theorem pick_at (b : List Int) (hb : ∀ x ∈ b, 0 ≤ x ∧ x ≤ 255) (p n : Int) (hp : 0 ≤ p ∧ p ≤ 1099511627776) (hn : 1 ≤ n ∧ n ≤ 9223372036854775807) :
    Ok (fun k => spec_l1Rd_pick.f k b p n) (fun r => (0 ≤ r.1 ∧ r.1 < n) ∧ r.2 = p + 1) :=
  (pick_ok b hb p n hp.1 hp.2 hn.2).mono fun _ h => ⟨⟨h.1, h.2.1 hn.1⟩, h.2.2.2⟩
theorem open_ok (l : List Int) : Ok (fun _ => spec_l1Open.f l) (fun r => r.1 = l.take 2000 ∧ r.2 = 0) := by
  unfold spec_l1Open.f
  refine Ok.ite (fun h => Ok.yes (by omega) (Ok.now _ ⟨rfl, rfl⟩)) (fun h => Ok.now _ ⟨?_, rfl⟩)
  rw [List.take_of_length_le (by omega)]
theorem byte_wf {l : List Int} (h : ∀ x ∈ l, (Lit.int .u8 x).wf = true) : ∀ x ∈ l, 0 ≤ x ∧ x ≤ 255 := fun x hx => bounds_u8 (h x hx)
theorem byte_take {l : List Int} (h : ∀ x ∈ l, 0 ≤ x ∧ x ≤ 255) (n : Nat) : ∀ x ∈ l.take n, 0 ≤ x ∧ x ≤ 255 := fun x hx => h x (List.mem_of_mem_take hx)

theorem of_ok (b : List Int) (hb : ∀ x ∈ b, 0 ≤ x ∧ x ≤ 255) (p : Int) (l : List ByteArray) (hp : 0 ≤ p ∧ p ≤ 1099511627776) (hl : 1 ≤ l.length ∧ l.length ≤ 1000) (m : Nat) (hm : ∀ s ∈ l, s.size ≤ m) :
    Ok (fun k => spec_l1Rd_of.f k b p l) (fun r => r.1.size ≤ m ∧ r.2 = p + 1) := by
  unfold spec_l1Rd_of.f
  refine (pick_at b hb p l.length hp (by omega)).bind fun a ha => ?_
  obtain ⟨v, q⟩ := a
  obtain ⟨⟨h0, h1⟩, rfl⟩ := ha
  refine Ok.yes h0 (Ok.yes h1 (Ok.now _ ⟨?_, rfl⟩))
  apply hm
  have hv : v.toNat < l.length := by simp only at h0 h1; omega
  show rdOf ByteArray.empty l v ∈ l
  unfold rdOf
  rw [List.getD_eq_getElem?_getD, List.getElem?_eq_getElem hv]
  exact List.getElem_mem hv

theorem many_l (s : ByteArray) (n : Int) (hs : s.size ≤ 65536) (hn : n ≤ 65536) (d : Nat) : ∀ (o : ByteArray) (i : Int), 0 ≤ i → n - i ≤ d → (o.size : Int) ≤ 65536 * i →
    Ok (fun k => spec_l1Many.l0 k s n o i) (fun r => r.size ≤ o.size + s.size * d) := by
  induction d with
  | zero =>
    intro o i h0 hd ho
    have h : ¬ i < n := by omega
    refine Ok.succ ?_
    simp only [spec_l1Many.l0]
    exact Ok.no h (Ok.now _ (by omega))
  | succ d ih =>
    intro o i h0 hd ho
    refine Ok.succ ?_
    simp only [spec_l1Many.l0]
    refine Ok.ite (fun h => ?_) (fun h => Ok.now _ (by omega))
    have c : o.size + s.size ≤ 9223372036854775807 := by omega
    have e : wrap64 (i + 1) = i + 1 := w64 (by omega) (by omega)
    rw [e]
    refine Ok.yes c ((ih (o ++ s) (i + 1) (by omega) (by omega) (by rw [ByteArray.size_append]; omega)).mono fun r hr => ?_)
    rw [ByteArray.size_append] at hr
    rw [Nat.mul_succ]
    omega
theorem many_ok (s : ByteArray) (n : Int) (hs : s.size ≤ 65536) (hn : n ≤ 65536) : Ok (fun k => spec_l1Many.f k s n) (fun r => r.size ≤ s.size * n.toNat) := by
  unfold spec_l1Many.f
  refine (many_l s n hs hn n.toNat (⟨#[]⟩ : ByteArray) 0 (by omega) (by omega) (by rw [size_empty]; omega)).mono fun r hr => ?_
  have : (⟨#[]⟩ : ByteArray).size = 0 := rfl
  omega

/-- The inner loop of l14Text, by what follows it. -/
theorem text_l1 (b : List Int) (hb : ∀ x ∈ b, 0 ≤ x ∧ x ≤ 255) (P : ByteArray × Int → Prop) (n : Int) (m : Nat) : ∀ (s : ByteArray) (p : Int), 0 ≤ p → p + m ≤ 1099511627776 → s.size + m ≤ 65536 →
    (∀ (s' : ByteArray) (p' : Int), s'.size ≤ s.size + m → p ≤ p' → p' ≤ p + m → Ok (fun k => spec_l14Text.l0 k s' (wrap64 (n - 1)) b p') P) →
    Ok (fun k => spec_l14Text.l1 k s n (m : Int) b p) P := by
  induction m with
  | zero =>
    intro s p h0 hp hs K
    have h : ¬ ((0 : Nat) : Int) > 0 := by omega
    refine Ok.succ ?_
    simp only [spec_l14Text.l1]
    exact Ok.no h (K s p (by omega) (by omega) (by omega))
  | succ m ih =>
    intro s p h0 hp hs K
    have h : ((m + 1 : Nat) : Int) > 0 := by omega
    refine Ok.succ ?_
    simp only [spec_l14Text.l1]
    refine Ok.yes h ?_
    refine (pick_at b hb p 256 ⟨h0, by omega⟩ ⟨by omega, by omega⟩).bind fun a ha => ?_
    obtain ⟨v, q⟩ := a
    obtain ⟨_, rfl⟩ := ha
    refine Ok.binds rfl ?_
    have hz : (strOfNums [(v, p + 1).1 % 256]).size = 1 := by rw [strOfNums_size]; rfl
    have c : s.size + (strOfNums [(v, p + 1).1 % 256]).size ≤ 9223372036854775807 := by omega
    have e : wrap64 (((m + 1 : Nat) : Int) - 1) = (m : Int) := by rw [w64 (by omega) (by omega)]; omega
    refine Ok.yes c ?_
    rw [e]
    refine ih _ _ (by omega) (by omega) (by rw [ByteArray.size_append]; omega) fun s' p' h1 h2 h3 => ?_
    rw [ByteArray.size_append] at h1
    exact K s' p' (by omega) (by omega) (by omega)

theorem text_l0 (b : List Int) (hb : ∀ x ∈ b, 0 ≤ x ∧ x ≤ 255) (d : Nat) : ∀ (s : ByteArray) (p : Int), d ≤ 100 → 0 ≤ p → p + 20 * d ≤ 1099511627776 → s.size + 40 * d ≤ 65536 →
    Ok (fun k => spec_l14Text.l0 k s (d : Int) b p) (fun r => r.1.size ≤ s.size + 40 * d ∧ p ≤ r.2 ∧ r.2 ≤ p + 20 * d) := by
  induction d with
  | zero =>
    intro s p hd h0 hp hs
    have h : ¬ ((0 : Nat) : Int) > 0 := by omega
    refine Ok.succ ?_
    simp only [spec_l14Text.l0]
    exact Ok.no h (Ok.now _ ⟨by simp, by simp, by simp⟩)
  | succ d ih =>
    intro s p hd h0 hp hs
    have h : ((d + 1 : Nat) : Int) > 0 := by omega
    have e : wrap64 (((d + 1 : Nat) : Int) - 1) = (d : Int) := by rw [w64 (by omega) (by omega)]; omega
    have go : ∀ (t : ByteArray) (q : Int), t.size ≤ 40 → p ≤ q → q ≤ p + 20 → Ok (fun k => spec_l14Text.l0 k (s ++ t) (d : Int) b q) (fun r => r.1.size ≤ s.size + 40 * (d + 1) ∧ p ≤ r.2 ∧ r.2 ≤ p + 20 * ((d + 1 : Nat) : Int)) := by
      intro t q ht h1 h2
      refine (ih (s ++ t) q (by omega) (by omega) (by omega) (by rw [ByteArray.size_append]; omega)).mono fun r hr => ?_
      rw [ByteArray.size_append] at hr
      exact ⟨by omega, by omega, by omega⟩
    refine Ok.succ ?_
    simp only [spec_l14Text.l0]
    refine Ok.yes h ?_
    refine (pick_at b hb p 5 ⟨h0, by omega⟩ ⟨by omega, by omega⟩).bind fun a ha => ?_
    obtain ⟨v, q⟩ := a
    obtain ⟨hv, rfl⟩ := ha
    rw [e]
    refine Ok.ite (fun h1 => ?_) (fun h1 => Ok.ite (fun h2 => ?_) (fun h2 => Ok.ite (fun h3 => ?_) (fun h3 => ?_)))
    · refine (of_ok b hb (p + 1) _ ⟨by omega, by omega⟩ ⟨by decide, by decide⟩ 1 (by decide)).bind fun a ha => ?_
      obtain ⟨t, q⟩ := a
      obtain ⟨ht, rfl⟩ := ha
      refine (pick_at b hb (p + 1 + 1) 40 ⟨by omega, by omega⟩ ⟨by omega, by omega⟩).bind fun a ha => ?_
      obtain ⟨v2, q⟩ := a
      obtain ⟨hv2, rfl⟩ := ha
      refine (many_ok t v2 (by simp only at ht; omega) (by simp only at hv2; omega)).bind fun u hu => ?_
      simp only at ht hv2
      have hu' : u.size ≤ 40 := by
        have : t.size * v2.toNat ≤ 1 * v2.toNat := Nat.mul_le_mul_right _ ht
        omega
      exact Ok.yes (by omega) (go u _ hu' (by omega) (by omega))
    · exact Ok.yes (by omega) (go _ _ (by decide) (by omega) (by omega))
    · refine (pick_at b hb (p + 1) 12 ⟨by omega, by omega⟩ ⟨by omega, by omega⟩).bind fun a ha => ?_
      obtain ⟨v2, q⟩ := a
      obtain ⟨hv2, rfl⟩ := ha
      simp only at hv2
      obtain ⟨m, hm⟩ := Int.eq_ofNat_of_zero_le hv2.1
      subst hm
      refine text_l1 b hb _ ((d + 1 : Nat) : Int) m s (p + 1 + 1) (by omega) (by omega) (by omega) fun s' p' g1 g2 g3 => ?_
      rw [e]
      refine (ih s' p' (by omega) (by omega) (by omega) (by omega)).mono fun r hr => ⟨by omega, by omega, by omega⟩
    · refine (of_ok b hb (p + 1) _ ⟨by omega, by omega⟩ ⟨by decide, by decide⟩ 10 (by decide)).bind fun a ha => ?_
      obtain ⟨t, q⟩ := a
      obtain ⟨ht, rfl⟩ := ha
      simp only at ht
      exact Ok.yes (by simp only; omega) (go t _ (by omega) (by omega) (by omega))

theorem text_ok (b : List Int) (hb : ∀ x ∈ b, 0 ≤ x ∧ x ≤ 255) (p : Int) (hp : 0 ≤ p ∧ p ≤ 1000000000) :
    Ok (fun k => spec_l14Text.f k b p) (fun r => r.1.size ≤ 9001 ∧ p ≤ r.2 ∧ r.2 ≤ p + 200) := by
  unfold spec_l14Text.f
  refine (pick_at b hb p 150 ⟨by omega, by omega⟩ ⟨by omega, by omega⟩).bind fun a ha => ?_
  obtain ⟨v, q⟩ := a
  obtain ⟨hv, rfl⟩ := ha
  refine Ok.ite (fun h1 => ?_) (fun h1 => ?_)
  · refine (pick_at b hb (p + 1) 2 ⟨by omega, by omega⟩ ⟨by omega, by omega⟩).bind fun a ha => ?_
    obtain ⟨v2, q⟩ := a
    obtain ⟨hv2, rfl⟩ := ha
    simp only at hv2
    have e : wrap64 (9000 + v2) = 9000 + v2 := w64 (by omega) (by omega)
    simp only [e]
    refine (many_ok (⟨#[116]⟩ : ByteArray) (9000 + v2) (by decide) (by omega)).bind fun u hu => ?_
    have h1 : (⟨#[116]⟩ : ByteArray).size = 1 := rfl
    rw [h1] at hu
    exact Ok.now _ ⟨by simp only; omega, by simp only; omega, by simp only; omega⟩
  · refine (pick_at b hb (p + 1) 7 ⟨by omega, by omega⟩ ⟨by omega, by omega⟩).bind fun a ha => ?_
    obtain ⟨v2, q⟩ := a
    obtain ⟨hv2, rfl⟩ := ha
    simp only at hv2
    obtain ⟨m, hm⟩ := Int.eq_ofNat_of_zero_le hv2.1
    subst hm
    refine (text_l0 b hb m (⟨#[]⟩ : ByteArray) (p + 1 + 1) (by omega) (by omega) (by omega) (by rw [size_empty]; omega)).mono fun r hr => ?_
    have h1 : (⟨#[]⟩ : ByteArray).size = 0 := rfl
    exact ⟨by omega, by omega, by omega⟩

theorem drawRow_l0 (b : List Int) (hb : ∀ x ∈ b, 0 ≤ x ∧ x ≤ 255) (D : Nat) (hD : D ≤ 62) (d : Nat) : ∀ (o : List Int) (p : Int), d ≤ 100 → 0 ≤ p → p ≤ 1000000 - 2 * d → o.length + d ≤ 200 →
    Ok (fun k => spec_l14Row.l0 k (D : Int) o (d : Int) b p) (fun r => r.1.length ≤ o.length + d ∧ p ≤ r.2 ∧ r.2 ≤ p + 2 * d) := by
  induction d with
  | zero =>
    intro o p hd hp hp2 ho
    have c1 : ¬ ((0 : Nat) : Int) > 0 := by omega
    refine Ok.succ ?_
    simp only [spec_l14Row.l0]
    exact Ok.no c1 (Ok.now _ ⟨by simp, by simp, by simp⟩)
  | succ d ih =>
    intro o p hd hp hp2 ho
    have c1 : ((d + 1 : Nat) : Int) > 0 := by omega
    have e : wrap64 (((d + 1 : Nat) : Int) - 1) = (d : Int) := by rw [w64 (by omega) (by omega)]; omega
    refine Ok.succ ?_
    simp only [spec_l14Row.l0]
    refine Ok.yes c1 ?_
    refine (pick_at b hb p 256 ⟨hp, by omega⟩ ⟨by omega, by omega⟩).bind fun x hx => ?_
    obtain ⟨v1, q1⟩ := x
    obtain ⟨_, rfl⟩ := hx
    refine (pick_at b hb (p + 1) 65536 ⟨by omega, by omega⟩ ⟨by omega, by omega⟩).bind fun x hx => ?_
    obtain ⟨v2, q1⟩ := x
    obtain ⟨_, rfl⟩ := hx
    refine (pow_ok D hD).bind fun x hx => ?_
    subst hx
    have hp1 := pow2_1 D
    have c2 : ¬ (2 : Int) ^ D = 0 := by omega
    have c3 : o.length < 17592186044416 := by omega
    refine Ok.no c2 (Ok.yes c3 ?_)
    rw [e]
    have h1 : ∀ z : Int, (o ++ [z]).length = o.length + 1 := fun z => by simp
    refine (ih _ (p + 1 + 1) (by omega) (by omega) (by omega) (by rw [h1]; omega)).mono fun r hr => ?_
    rw [h1] at hr
    exact ⟨by omega, by omega, by omega⟩
theorem rd6 {v : Int} (h : 0 ≤ v ∧ v < 6) : ∃ D : Nat, D ≤ 32 ∧ rd [1, 2, 4, 8, 24, 32] v = (D : Int) := by
  have hv : v = 0 ∨ v = 1 ∨ v = 2 ∨ v = 3 ∨ v = 4 ∨ v = 5 := by omega
  rcases hv with rfl | rfl | rfl | rfl | rfl | rfl
  · exact ⟨1, by decide, rfl⟩
  · exact ⟨2, by decide, rfl⟩
  · exact ⟨4, by decide, rfl⟩
  · exact ⟨8, by decide, rfl⟩
  · exact ⟨24, by decide, rfl⟩
  · exact ⟨32, by decide, rfl⟩
theorem drawRowPut_ok (l : List Int) (hl : ∀ x ∈ l, 0 ≤ x ∧ x ≤ 255) : Ok (fun k => spec_DrawRowPut.f k l) (fun r => r.1.length ≤ 100) := by
  unfold spec_DrawRowPut.f
  refine (open_ok l).bind fun a ha => ?_
  obtain ⟨b, p⟩ := a
  obtain ⟨e1, e2⟩ := ha
  simp only at e1 e2
  subst e2
  have hb : ∀ x ∈ b, 0 ≤ x ∧ x ≤ 255 := by subst e1; exact byte_take hl 2000
  clear e1
  refine Ok.binds rfl ?_
  refine (pick_at b hb 0 6 ⟨by omega, by omega⟩ ⟨by omega, by omega⟩).bind fun x hx => ?_
  obtain ⟨v1, q1⟩ := x
  obtain ⟨hv, rfl⟩ := hx
  simp only at hv ⊢
  obtain ⟨D, hD, eD⟩ := rd6 hv
  have c1 : v1 < (([1, 2, 4, 8, 24, 32] : List Int).length : Int) := hv.2
  refine Ok.yes hv.1 (Ok.yes c1 ?_)
  rw [eD]
  have hrow : Ok (fun k => spec_l14Row.f k b (0 + 1) (D : Int)) (fun r => r.1.length ≤ 12 ∧ 0 ≤ r.2 ∧ r.2 ≤ 100) := by
    unfold spec_l14Row.f
    refine (pick_at b hb (0 + 1) 12 ⟨by omega, by omega⟩ ⟨by omega, by omega⟩).bind fun x hx => ?_
    obtain ⟨v2, q1⟩ := x
    obtain ⟨hv2, rfl⟩ := hx
    simp only at hv2 ⊢
    obtain ⟨m, rfl⟩ := Int.eq_ofNat_of_zero_le hv2.1
    refine (drawRow_l0 b hb D (by omega) m [] (0 + 1 + 1) (by omega) (by omega) (by omega) (by simp only [List.length_nil]; omega)).mono fun r hr => ?_
    simp only [List.length_nil] at hr
    exact ⟨by omega, by omega, by omega⟩
  refine hrow.bind fun x hx => ?_
  obtain ⟨o, q⟩ := x
  simp only at hx ⊢
  refine (pick_at b hb q 16 ⟨by omega, by omega⟩ ⟨by omega, by omega⟩).bind fun x hx3 => ?_
  obtain ⟨v3, q3⟩ := x
  obtain ⟨hv3, rfl⟩ := hx3
  simp only at hv3 ⊢
  refine Ok.ite (fun h1 => ?_) (fun h1 => Ok.ite (fun h2 => ?_) (fun h2 => Ok.now _ (by show o.length ≤ 100; omega)))
  · refine Ok.binds rfl ?_
    refine (pick_at b hb (q + 1) 3 ⟨by omega, by omega⟩ ⟨by omega, by omega⟩).bind fun x hx4 => ?_
    obtain ⟨v4, q4⟩ := x
    obtain ⟨hv4, rfl⟩ := hx4
    exact Ok.yes hv4.1 (Ok.yes hv4.2 (Ok.now _ (by show o.length ≤ 100; omega)))
  · refine (pow_ok D (by omega)).bind fun x hx => ?_
    refine Ok.binds rfl ?_
    refine (pick_at b hb (q + 1) 2 ⟨by omega, by omega⟩ ⟨by omega, by omega⟩).bind fun x hx4 => ?_
    obtain ⟨v4, q4⟩ := x
    obtain ⟨hv4, rfl⟩ := hx4
    refine Ok.yes hv4.1 (Ok.yes hv4.2 (Ok.yes (by omega) (Ok.now _ ?_)))
    show (o ++ [_]).length ≤ 100
    rw [List.length_append]
    simp only [List.length_cons, List.length_nil]
    omega
theorem wi_run (l : List Int) (hl : l.length ≤ 1048576) (d : Nat) : ∀ (i : Nat), i + d = l.length → Ok (fun n => laws_wiInts.l0 n l l (i : Int)) (· = true) := by
  induction d with
  | zero =>
    intro i hi
    refine Ok.succ ?_
    simp only [laws_wiInts.l0]
    have c1 : ¬ (i : Int) < (l.length : Int) := by omega
    exact Ok.no c1 (Ok.now _ rfl)
  | succ d ih =>
    intro i hi
    have c1 : (i : Int) < (l.length : Int) := by omega
    have c2 : (0 : Int) ≤ (i : Int) := by omega
    have e1 : wrap64 ((i : Int) + 1) = ((i + 1 : Nat) : Int) := by rw [w64 (by omega) (by omega)] <;> omega
    refine Ok.succ ?_
    simp only [laws_wiInts.l0]
    refine Ok.yes c1 (Ok.yes c2 (Ok.yes c1 (Ok.yes (by simp) ?_)))
    rw [e1]
    exact ih (i + 1) (by omega)
theorem wi_ok (l : List Int) (hl : l.length ≤ 1048576) : Ok (fun n => laws_wiInts.f n l l) (· = true) := by
  unfold laws_wiInts.f
  exact Ok.yes rfl (wi_run l hl l.length 0 (by omega))

/-! ### the number that bits say -/
def hv (s : ByteArray) (q : Nat) : Nat → Nat
  | 0 => 0
  | b + 1 => 2 * hv s q b + bitT true s (q + b)
theorem hv_lt (s : ByteArray) (q : Nat) : ∀ b, hv s q b < 2 ^ b
  | 0 => by simp [hv]
  | b + 1 => by
    have h1 := hv_lt s q b
    have h2 := bitT_lt true s (q + b)
    simp only [hv]
    rw [Nat.pow_succ]
    omega
theorem hv_div (s : ByteArray) (q a : Nat) : ∀ b, hv s q (a + b) / 2 ^ b = hv s q a
  | 0 => by simp
  | b + 1 => by
    have h1 := hv_div s q a b
    have h2 := bitT_lt true s (q + (a + b))
    have e : hv s q (a + (b + 1)) = 2 * hv s q (a + b) + bitT true s (q + (a + b)) := rfl
    rw [e, Nat.pow_succ', ← Nat.div_div_eq_div_mul]
    have e2 : (2 * hv s q (a + b) + bitT true s (q + (a + b))) / 2 = hv s q (a + b) := by clear h1 e; omega
    rw [e2, h1]
theorem hv_add (s : ByteArray) (q a : Nat) : ∀ b, hv s q (a + b) = hv s q a * 2 ^ b + hv s (q + a) b
  | 0 => by simp [hv]
  | b + 1 => by
    have h1 := hv_add s q a b
    have e : hv s q (a + (b + 1)) = 2 * hv s q (a + b) + bitT true s (q + (a + b)) := rfl
    have e2 : hv s (q + a) (b + 1) = 2 * hv s (q + a) b + bitT true s (q + a + b) := rfl
    rw [e, e2, h1, Nat.pow_succ, Nat.add_assoc q a b, Nat.mul_add, ← Nat.mul_assoc, Nat.mul_comm 2 (hv s q a), Nat.mul_assoc (hv s q a) 2, Nat.mul_comm 2 (2 ^ b), Nat.add_assoc]
theorem hv_bit (s : ByteArray) (q D j : Nat) (hj : j < D) : ((bitT true s (q + j) : Nat) : Int) = pkBit ((hv s q D : Nat) : Int) D true j := by
  unfold pkBit
  rw [if_pos rfl]
  obtain ⟨e, rfl⟩ : ∃ e, D = (j + 1) + e := ⟨D - (j + 1), by omega⟩
  rw [show j + 1 + e - 1 - j = e by omega]
  have h := hv_div s q (j + 1) e
  have h3 : ((hv s q (j + 1 + e) : Nat) : Int) / 2 ^ e % 2 = ((hv s q (j + 1 + e) / 2 ^ e % 2 : Nat) : Int) := by push_cast; rfl
  rw [h3, h]
  have h2 := bitT_lt true s (q + j)
  have e : hv s q (j + 1) = 2 * hv s q j + bitT true s (q + j) := rfl
  rw [e]
  clear h h3 e
  omega
def vals (s : ByteArray) (D n : Nat) : List Int := (List.range n).map fun i => ((hv s (D * i) D : Nat) : Int)
theorem vals_len (s : ByteArray) (D n : Nat) : (vals s D n).length = n := by unfold vals; simp
theorem vals_succ (s : ByteArray) (D n : Nat) : vals s D (n + 1) = vals s D n ++ [((hv s (D * n) D : Nat) : Int)] := by unfold vals; rw [List.range_succ, List.map_append]; rfl
theorem vals_at (s : ByteArray) (D n i : Nat) (h : i < n) : (vals s D n).getD i 0 = ((hv s (D * i) D : Nat) : Int) := by
  unfold vals
  rw [List.getD_eq_getElem?_getD, List.getElem?_map, List.getElem?_range h]
  rfl
theorem hv_int (s : ByteArray) (q D : Nat) (hD : D ≤ 32) : 0 ≤ ((hv s q D : Nat) : Int) ∧ ((hv s q D : Nat) : Int) ≤ 4294967295 ∧ ((hv s q D : Nat) : Int) < 2 ^ D := by
  have h1 := hv_lt s q D
  have e : (2 : Int) ^ D = ((2 ^ D : Nat) : Int) := by push_cast; rfl
  have h2 := pow2_32 (D := D) hD
  rw [e] at h2 ⊢
  generalize 2 ^ D = z at h1 h2 ⊢
  omega
theorem vals_good (s : ByteArray) (D n : Nat) (hD : D ≤ 32) : ∀ x ∈ vals s D n, 0 ≤ x ∧ x ≤ 4294967295 ∧ x < 2 ^ D := by
  intro x hx
  unfold vals at hx
  obtain ⟨i, _, rfl⟩ := List.mem_map.1 hx
  exact hv_int s (D * i) D hD
/-! ### the reference reads -/
theorem sl1Bit_ok (s : ByteArray) (p : Nat) (h : p < 8 * s.size) (hp : p ≤ 1000000) : Ok (fun k => spec_l1Bit.f k s (p : Int) true) (· = ((bitT true s p : Nat) : Int)) := by
  have c1 : (0 : Int) ≤ ((p / 8 : Nat) : Int) := by omega
  have c2 : ((p / 8 : Nat) : Int) < (s.size : Int) := by omega
  have hm := Nat.mod_lt p (show 0 < 8 by omega)
  have hb := bt_range s ((p / 8 : Nat) : Int)
  obtain ⟨a, ha⟩ := Int.eq_ofNat_of_zero_le hb.1
  have ew : wrap64 (a : Int) = (a : Int) := w64 (by omega) (by omega)
  unfold spec_l1Bit.f
  rw [tdiv8 hp, tmod8, seven]
  refine Ok.yes rfl (Ok.yes c1 (Ok.yes c2 ?_))
  refine (pow_ok (7 - p % 8) (by omega)).bind fun x hx => ?_
  subst hx
  have p1 := pow2_1 (7 - p % 8)
  have c3 : ¬ (2 : Int) ^ (7 - p % 8) = 0 := by omega
  refine Ok.no c3 (Ok.now _ ?_)
  rw [ha, ew, bit_text (by omega) (by omega)]
  unfold bitT
  rw [ha, Int.toNat_natCast]
  show (a : Int) / 2 ^ (7 - p % 8) % 2 = ((a / 2 ^ (7 - p % 8) % 2 : Nat) : Int)
  push_cast
  rfl
theorem sl1Get_l (s : ByteArray) (q n : Nat) (hn : n ≤ 32) (hq : q + n ≤ 8 * s.size) (hq2 : q ≤ 900000) (d : Nat) : ∀ i, i + d = n → Ok (fun k => spec_l1Get.l0 k s (q : Int) (n : Int) true ((hv s q i : Nat) : Int) (i : Int)) (· = ((hv s q n : Nat) : Int)) := by
  induction d with
  | zero =>
    intro i hi
    obtain rfl : i = n := by omega
    refine Ok.succ ?_
    simp only [spec_l1Get.l0]
    exact Ok.no (by omega) (Ok.now _ rfl)
  | succ d ih =>
    intro i hi
    have c1 : (i : Int) < (n : Int) := by omega
    have e1 : wrap64 ((q : Int) + (i : Int)) = ((q + i : Nat) : Int) := by rw [w64 (by omega) (by omega)] <;> omega
    have e2 : wrap64 ((i : Int) + 1) = ((i + 1 : Nat) : Int) := by rw [w64 (by omega) (by omega)] <;> omega
    refine Ok.succ ?_
    simp only [spec_l1Get.l0]
    refine Ok.yes c1 (Ok.yes (by simp) ?_)
    rw [e1, e2]
    refine (sl1Bit_ok s (q + i) (by omega) (by omega)).bind fun x hx => ?_
    subst hx
    have h1 := hv_int s q i (by omega)
    have h2 := bitT_lt true s (q + i)
    have ih2 := ih (i + 1) (by omega)
    have e : hv s q (i + 1) = 2 * hv s q i + bitT true s (q + i) := rfl
    rw [e] at ih2
    have h3 := h1.2.1
    clear h1 ih e
    generalize hv s q i = x at h3 ih2 ⊢
    generalize bitT true s (q + i) = y at h2 ih2 ⊢
    have e4 : wrap64 (2 * (x : Int)) = 2 * (x : Int) := w64 (by omega) (by omega)
    have e5 : wrap64 (2 * (x : Int) + (y : Int)) = ((2 * x + y : Nat) : Int) := by rw [w64 (by omega) (by omega)]; omega
    rw [e4, e5]
    exact ih2
theorem sl1Get_ok (s : ByteArray) (q n : Nat) (hn : n ≤ 32) (hq : q + n ≤ 8 * s.size) (hq2 : q ≤ 900000) : Ok (fun k => spec_l1Get.f k s (q : Int) (n : Int) true) (· = ((hv s q n : Nat) : Int)) := by
  unfold spec_l1Get.f
  exact sl1Get_l s q n hn hq hq2 n 0 (by omega)
theorem sl8Points_l (s : ByteArray) (D n : Nat) (hD : D ≤ 24 ∨ D = 32) (hn : n ≤ 1000) (hsz : D * n ≤ 8 * s.size) (d : Nat) : ∀ i, i + d = n → Ok (fun k => spec_l8Points.l0 k s (D : Int) (n : Int) (vals s D i) (i : Int)) (· = vals s D n) := by
  induction d with
  | zero =>
    intro i hi
    obtain rfl : i = n := by omega
    refine Ok.succ ?_
    simp only [spec_l8Points.l0]
    exact Ok.no (by omega) (Ok.now _ rfl)
  | succ d ih =>
    intro i hi
    have c1 : (i : Int) < (n : Int) := by omega
    have e2 : wrap64 ((i : Int) + 1) = ((i + 1 : Nat) : Int) := by rw [w64 (by omega) (by omega)] <;> omega
    have hz : D * i + D ≤ D * n := by rw [← Nat.mul_succ]; exact Nat.mul_le_mul_left _ (by omega)
    have hA : D * i + D ≤ 8 * s.size := Nat.le_trans hz hsz
    have hq : D * i ≤ 32 * 1000 := Nat.mul_le_mul (by omega) (by omega)
    have hq2 : D * i ≤ 900000 := Nat.le_trans hq (by decide)
    have em : (i : Int) * (D : Int) = ((D * i : Nat) : Int) := by push_cast; rw [Int.mul_comm]
    have hlen := vals_len s D i
    have c3 : (vals s D i).length < 17592186044416 := by rw [hlen]; omega
    have ih2 := ih (i + 1) (by omega)
    rw [vals_succ] at ih2
    clear ih hlen
    have e1 : wrap64 (((D * i : Nat) : Int)) = ((D * i : Nat) : Int) := by
      generalize D * i = q at hq
      rw [w64 (by omega) (by omega)]
    refine Ok.succ ?_
    simp only [spec_l8Points.l0]
    refine Ok.yes c1 ?_
    rw [em, e1, e2]
    clear em e1 e2 hz hsz hq
    rcases hD with hD | rfl
    · have c2 : ¬ (D : Int) > 24 := by clear hA hq2; omega
      refine Ok.no c2 ?_
      refine (sl1Get_ok s (D * i) D (by clear hA hq2; omega) hA hq2).bind fun x hx => ?_
      subst hx
      exact Ok.yes c3 ih2
    · have c2 : ((32 : Nat) : Int) > 24 := by omega
      refine Ok.yes c2 ?_
      refine (sl1Get_ok s (32 * i) 16 (by omega) (by omega) (by omega)).bind fun x hx => ?_
      subst hx
      have e3 : wrap64 (((32 * i : Nat) : Int) + 16) = ((32 * i + 16 : Nat) : Int) := by rw [w64 (by omega) (by omega)] <;> omega
      rw [e3]
      refine (sl1Get_ok s (32 * i + 16) 16 (by omega) (by omega) (by omega)).bind fun x hx => ?_
      subst hx
      refine Ok.yes c3 ?_
      have hadd := hv_add s (32 * i) 16 16
      have h1 := hv_lt s (32 * i) 16
      have h2 := hv_lt s (32 * i + 16) 16
      rw [show (16 : Nat) + 16 = 32 from rfl, show (2 : Nat) ^ 16 = 65536 from rfl] at hadd
      rw [show (2 : Nat) ^ 16 = 65536 from rfl] at h1 h2
      rw [hadd] at ih2
      clear hadd hA hq2 e3
      generalize hv s (32 * i) 16 = x at h1 ih2 ⊢
      generalize hv s (32 * i + 16) 16 = y at h2 ih2 ⊢
      have e4 : wrap64 ((x : Int) * 65536) = (x : Int) * 65536 := w64 (by omega) (by omega)
      have e5 : wrap64 ((x : Int) * 65536 + (y : Int)) = ((x * 65536 + y : Nat) : Int) := by rw [w64 (by omega) (by omega)]; omega
      rw [e4, e5]
      exact ih2
theorem sin_eq (x a1 : Int) : spec_l1In.f x 0 a1 = some (decide (0 ≤ x) && decide (x ≤ a1)) := by
  unfold spec_l1In.f
  by_cases h : x ≥ 0
  · have h' : 0 ≤ x := h
    rw [if_pos h]; simp [h']
  · have h' : ¬ 0 ≤ x := h
    rw [if_neg h]; simp [h']
/-- May points be read? -/
def rgOk (s : ByteArray) (a c : Int) : Prop := rowD a ∧ 0 ≤ c ∧ c ≤ 1000 ∧ (s.size : Int) = wrap64 (Int.tdiv (wrap64 (wrap64 (c * a) + 7)) 8)
instance (s : ByteArray) (a c : Int) : Decidable (rgOk s a c) := by unfold rgOk; infer_instance
def rgVal (s : ByteArray) (a c : Int) : List Int × Bool := if rgOk s a c then (vals s a.toNat c.toNat, true) else ([], false)
theorem rg_size {s : ByteArray} {D n : Nat} (hD : D ≤ 32) (hn : n ≤ 1000) (h : (s.size : Int) = wrap64 (Int.tdiv (wrap64 (wrap64 ((n : Int) * (D : Int)) + 7)) 8)) : D * n ≤ 8 * s.size := by
  have hq : D * n ≤ 32 * 1000 := Nat.mul_le_mul hD hn
  have em : (n : Int) * (D : Int) = ((D * n : Nat) : Int) := by push_cast; rw [Int.mul_comm]
  rw [em] at h
  generalize D * n = q at hq h ⊢
  have e1 : wrap64 (q : Int) = (q : Int) := w64 (by omega) (by omega)
  have e2 : wrap64 ((q : Int) + 7) = ((q + 7 : Nat) : Int) := by rw [w64 (by omega) (by omega)] <;> omega
  rw [e1, e2, tdiv8 (by omega)] at h
  omega
theorem iget_ok (s : ByteArray) (a c : Int) : Ok (fun n => impl_RowGet.f n s a c) (· = rgVal s a c) := by
  have bad : ¬ rgOk s a c → Ok (fun n => impl_RowGet.j0 n s a c true) (· = rgVal s a c) := fun h => by
    refine Ok.succ ?_
    simp only [impl_RowGet.j0]
    refine Ok.yes (by simp) (Ok.now _ ?_)
    unfold rgVal
    rw [if_neg h]
  unfold impl_RowGet.f
  refine Ok.binds (rowDepth_eq a) ?_
  by_cases hd : rowD a
  · refine Ok.yes (decide_eq_true hd) ?_
    rw [in_eq0]
    refine Ok.binds rfl ?_
    by_cases h0 : 0 ≤ c
    · by_cases h1 : c ≤ 1000
      · rw [decide_eq_true h0, decide_eq_true h1]
        refine Ok.yes rfl ?_
        by_cases hs : (s.size : Int) = wrap64 (Int.tdiv (wrap64 (wrap64 (c * a) + 7)) 8)
        · have hok : rgOk s a c := ⟨hd, h0, h1, hs⟩
          obtain ⟨D, rfl⟩ : ∃ D : Nat, a = (D : Int) := ⟨a.toNat, by unfold rowD at hd; omega⟩
          obtain ⟨n, rfl⟩ := Int.eq_ofNat_of_zero_le h0
          have hD : D ≤ 32 := by unfold rowD at hd; omega
          have hlen := vals_len s D n
          have hsz := rg_size hD (by omega) hs
          have h := get_l0 s D (vals s D n) hD (by rw [hlen]; omega) (vals_good s D n hD) (by rw [hlen]; exact hsz) (fun i hi j hj => by
            rw [hlen] at hi
            rw [vals_at s D n i hi]
            exact hv_bit s (D * i) D j hj) n 0 (by rw [hlen]; omega)
          rw [List.take_zero, hlen] at h
          refine Ok.succ ?_
          simp only [impl_RowGet.j0]
          refine Ok.no (by rw [← hs]; simp) ?_
          unfold rgVal
          rw [if_pos hok, Int.toNat_natCast, Int.toNat_natCast]
          exact h
        · have e : ((s.size : Int) != wrap64 (Int.tdiv (wrap64 (wrap64 (c * a) + 7)) 8)) = true := by simpa using hs
          rw [e]
          exact bad fun h => hs h.2.2.2
      · rw [decide_eq_false h1]
        exact Ok.no (by simp) (bad fun h => h1 h.2.2.1)
    · rw [decide_eq_false h0]
      exact Ok.no (by simp) (bad fun h => h0 h.2.1)
  · exact Ok.no (by rw [decide_eq_false hd]; exact Bool.false_ne_true) (bad fun h => hd h.1)
theorem sget_ok (s : ByteArray) (a c : Int) : Ok (fun n => spec_RowGet.f n s a c) (· = rgVal s a c) := by
  have bad : ¬ rgOk s a c → rgVal s a c = ([], false) := fun h => by unfold rgVal; rw [if_neg h]
  unfold spec_RowGet.f
  rw [bits_dec]
  refine Ok.binds rfl ?_
  by_cases hd : rowD a
  · refine Ok.yes (decide_eq_true hd) ?_
    rw [sin_eq]
    refine Ok.binds rfl ?_
    by_cases h0 : 0 ≤ c
    · by_cases h1 : c ≤ 1000
      · rw [decide_eq_true h0, decide_eq_true h1]
        refine Ok.yes rfl ?_
        unfold spec_l8Bytes.f
        refine Ok.binds rfl ?_
        refine Ok.ite (fun hs => ?_) (fun hs => Ok.now _ (bad fun h => hs h.2.2.2).symm)
        have hok : rgOk s a c := ⟨hd, h0, h1, hs⟩
        obtain ⟨D, rfl⟩ : ∃ D : Nat, a = (D : Int) := ⟨a.toNat, by unfold rowD at hd; omega⟩
        obtain ⟨n, rfl⟩ := Int.eq_ofNat_of_zero_le h0
        have hD : D ≤ 24 ∨ D = 32 := by unfold rowD at hd; omega
        have hsz := rg_size (by omega) (by omega) hs
        have h := sl8Points_l s D n hD (by omega) hsz n 0 (by omega)
        unfold rgVal
        rw [if_pos hok, Int.toNat_natCast, Int.toNat_natCast]
        refine Ok.bind (P := (· = vals s D n)) ?_ fun x hx => ?_
        · unfold spec_l8Points.f
          exact h
        · subst hx
          exact Ok.now _ rfl
      · rw [decide_eq_false h1]
        exact Ok.no (by simp) (Ok.now _ (bad fun h => h1 h.2.2.1).symm)
    · rw [decide_eq_false h0]
      exact Ok.no (by simp) (Ok.now _ (bad fun h => h0 h.2.1).symm)
  · exact Ok.no (by rw [decide_eq_false hd]; exact Bool.false_ne_true) (Ok.now _ (bad fun h => hd h.1).symm)
theorem wiPow_l (n : Nat) (hn : n ≤ 32) (d : Nat) : ∀ (i : Nat), n - i = d → i ≤ n → Ok (fun k => laws_wiPow.l0 k (n : Int) ((2 : Int) ^ i) (i : Int)) (· = (2 : Int) ^ n) := by
  induction d with
  | zero =>
    intro i hd hi
    obtain rfl : i = n := by omega
    refine Ok.succ ?_
    simp only [laws_wiPow.l0]
    exact Ok.no (by omega) (Ok.now _ rfl)
  | succ d ih =>
    intro i hd hi
    refine Ok.succ ?_
    simp only [laws_wiPow.l0]
    refine Ok.yes (by omega) (Ok.yes (by omega) ?_)
    have e1 : wrap64 ((2 : Int) ^ i * 2) = 2 ^ (i + 1) := by
      rw [← Int.pow_succ]
      have h1 := pow2_1 (i + 1)
      have h2 := pow2_le (show i + 1 ≤ 62 by omega)
      exact w64 (by omega) (by omega)
    have e2 : wrap64 ((i : Int) + 1) = ((i + 1 : Nat) : Int) := by unfold wrap64; omega
    rw [e1, e2]
    exact ih (i + 1) (by omega) (by omega)
theorem wiPow_ok (n : Nat) (hn : n ≤ 32) : Ok (fun k => laws_wiPow.f k (n : Int)) (· = (2 : Int) ^ n) := by
  unfold laws_wiPow.f
  exact wiPow_l n hn n 0 (by omega) (by omega)
theorem each_run (l : List Int) (D : Nat) (hd : rowD (D : Int)) (hl : l.length ≤ 1000) (hg : ∀ x ∈ l, rowGood D x) (d : Nat) : ∀ i : Nat, i + d = l.length → Ok (fun k => laws_FnRowGet.l0 k (D : Int) (l.length : Int) l (i : Int)) (· = true) := by
  have hD : D ≤ 32 := by unfold rowD at hd; omega
  induction d with
  | zero =>
    intro i hi
    have c1 : ¬ (i : Int) < (l.length : Int) := by omega
    refine Ok.succ ?_
    simp only [laws_FnRowGet.l0]
    exact Ok.no c1 (Ok.now _ (by simp))
  | succ d ih =>
    intro i hi
    have hlt : i < l.length := by omega
    have c1 : (i : Int) < (l.length : Int) := by omega
    have c2 : (0 : Int) ≤ (i : Int) := by omega
    have e1 : wrap64 ((i : Int) + 1) = ((i + 1 : Nat) : Int) := by rw [w64 (by omega) (by omega)] <;> omega
    have c3 : (i : Int) ≤ ((i + 1 : Nat) : Int) := by omega
    have c4 : ((i + 1 : Nat) : Int) ≤ (l.length : Int) := by omega
    have er : rd l (i : Int) = l[i] := by unfold rd; rw [Int.toNat_natCast, List.getD_eq_getElem?_getD, List.getElem?_eq_getElem hlt, Option.getD_some]
    have ecut : (l.take (i + 1)).drop i = [l[i]] := by
      rw [List.take_add_one, List.getElem?_eq_getElem hlt, List.drop_append]
      have hl1 : (l.take i).length = i := by rw [List.length_take]; omega
      rw [hl1, Nat.sub_self, List.drop_of_length_le (by rw [hl1]; exact Nat.le_refl _)]
      rfl
    have hgx := hg _ (List.getElem_mem hlt)
    obtain ⟨x, hx⟩ : ∃ x, l[i] = x := ⟨_, rfl⟩
    rw [hx] at er ecut hgx
    refine Ok.succ ?_
    simp only [laws_FnRowGet.l0]
    refine Ok.yes c1 (Ok.yes c2 ?_)
    rw [e1, Int.toNat_natCast, Int.toNat_natCast, er, ecut]
    refine Ok.yes c3 (Ok.yes c4 ?_)
    have hput : impl_RowPut.f [x] (D : Int) = some (strOfNums (pkRow D [x] [] 0)) := by
      unfold impl_RowPut.f
      rw [if_pos hd, if_pos (by simp), Int.toNat_natCast, if_neg]
      intro h
      rw [List.any_cons, List.any_nil, Bool.or_false, bad_good.2 hgx] at h
      exact Bool.false_ne_true h
    have hget := (rowGet_ok [x] D hd (by simp) (fun y hy => by rw [List.mem_singleton.1 hy]; exact hgx)).1
    refine Ok.binds hput ?_
    refine Ok.bind hget fun z hz => ?_
    subst hz
    refine (wiPow_ok D hD).bind fun z hz => ?_
    subst hz
    have p1 := pow2_1 D
    have p2 := pow2_32 (D := D) hD
    have e3 : wrap64 ((2 : Int) ^ D - 1) = 2 ^ D - 1 := w64 (by omega) (by omega)
    rw [e3]
    have hin : laws_wiIn.f x 0 ((2 : Int) ^ D - 1) = some true := by
      unfold laws_wiIn.f
      rw [if_pos hgx.1, decide_eq_true hgx.2]
    refine Ok.binds hin (Ok.yes rfl (Ok.yes rfl (Ok.yes (by simp) (Ok.yes rfl ?_))))
    exact ih (i + 1) (by omega)
theorem rd5 {v : Int} (h : 0 ≤ v ∧ v < 5) : -1 ≤ rd [0, 0, 0, 1, (-1)] v ∧ rd [0, 0, 0, 1, (-1)] v ≤ 1 := by
  have hv : v = 0 ∨ v = 1 ∨ v = 2 ∨ v = 3 ∨ v = 4 := by omega
  rcases hv with rfl | rfl | rfl | rfl | rfl <;> decide
theorem drawRowGet_ok (l : List Int) (hl : ∀ x ∈ l, 0 ≤ x ∧ x ≤ 255) : Ok (fun k => spec_DrawRowGet.f k l) (fun _ => True) := by
  unfold spec_DrawRowGet.f
  refine (open_ok l).bind fun a ha => ?_
  obtain ⟨b, p⟩ := a
  obtain ⟨e1, e2⟩ := ha
  simp only at e1 e2
  subst e2
  have hb : ∀ x ∈ b, 0 ≤ x ∧ x ≤ 255 := by subst e1; exact byte_take hl 2000
  clear e1
  refine (drawRowPut_ok l hl).bind fun x hx => ?_
  obtain ⟨row, dep⟩ := x
  simp only at hx ⊢
  obtain ⟨r, _, hs⟩ := rowPut_ok row dep
  refine hs.bind fun t ht => ?_
  refine (pick_at b hb 0 5 ⟨by omega, by omega⟩ ⟨by omega, by omega⟩).bind fun x hx => ?_
  obtain ⟨v1, q1⟩ := x
  obtain ⟨hv, rfl⟩ := hx
  refine Ok.ite (fun h1 => ?_) (fun h1 => ?_)
  · refine (text_ok b hb (0 + 1) ⟨by omega, by omega⟩).bind fun x hx => ?_
    obtain ⟨t2, q2⟩ := x
    simp only at hx ⊢
    refine Ok.binds rfl ?_
    refine (pick_at b hb q2 5 ⟨by omega, by omega⟩ ⟨by omega, by omega⟩).bind fun x hx => ?_
    exact Ok.yes hx.1.1 (Ok.yes hx.1.2 (Ok.now _ trivial))
  · refine Ok.binds rfl ?_
    refine (pick_at b hb (0 + 1) 5 ⟨by omega, by omega⟩ ⟨by omega, by omega⟩).bind fun x hx => ?_
    exact Ok.yes hx.1.1 (Ok.yes hx.1.2 (Ok.now _ trivial))
theorem FnRowGet : laws_FnRowGet.Pure := by
  intro l0 h1 h2 hw
  have hl := byte_wf hw
  unfold laws_FnRowGet.f
  apply Ok.rounds
  refine Ok.ite (fun h => Ok.now _ rfl) (fun h => ?_)
  refine (drawRowGet_ok l0 hl).bind fun a _ => ?_
  obtain ⟨s, a, c⟩ := a
  simp only
  refine (iget_ok s a c).bind fun x hx => ?_
  refine (sget_ok s a c).bind fun y hy => ?_
  rw [← hx] at hy
  subst hy
  have hlen : y.1.length ≤ 1000 := by
    rw [hx]
    unfold rgVal
    split
    · rename_i hok
      rw [vals_len]
      have := hok.2.2.1
      omega
    · simp
  refine (wi_ok y.1 (by omega)).bind fun z hz => ?_
  subst hz
  refine Ok.yes rfl (Ok.no (by simp) (Ok.succ ?_))
  simp only [laws_FnRowGet.j0]
  by_cases hok : rgOk s a c
  · have hy2 : y = (vals s a.toNat c.toNat, true) := by rw [hx]; unfold rgVal; rw [if_pos hok]
    subst hy2
    refine Ok.no (by simp) ?_
    obtain ⟨hd, h0, h3, hs⟩ := hok
    obtain ⟨D, rfl⟩ : ∃ D : Nat, a = (D : Int) := ⟨a.toNat, by unfold rowD at hd; omega⟩
    obtain ⟨n, rfl⟩ := Int.eq_ofNat_of_zero_le h0
    have hD : D ≤ 32 := by unfold rowD at hd; omega
    have hlv := vals_len s D n
    have h := each_run (vals s D n) D hd (by rw [hlv]; omega) (fun x hx => by
      have g := vals_good s D n hD x hx
      unfold rowGood
      exact ⟨g.1, by omega⟩) n 0 (by rw [hlv]; omega)
    rw [hlv] at h
    exact h
  · have hy2 : y = ([], false) := by rw [hx]; unfold rgVal; rw [if_neg hok]
    subst hy2
    refine Ok.yes (by simp) ?_
    refine (wi_ok [] (by simp)).bind fun z hz => ?_
    subst hz
    exact Ok.yes rfl (Ok.now _ (by simp))
end Go.Proofs.Ytjcamejbdcaokaa.Pure
