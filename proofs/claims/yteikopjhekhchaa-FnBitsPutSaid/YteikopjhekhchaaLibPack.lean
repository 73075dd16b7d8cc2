/- The packing of bits: the reference's l1Put tells what pkBits says. -/
import Derived.Test.YteikopjhekhchaaF74
import Derived.Test.YteikopjhekhchaaF42
import Derived.Test.YteikopjhekhchaaLibOk
namespace Go.Proofs.Yteikopjhekhchaa.Pure
open Go.RowKit Go.Proofs.Yteikopjhekhchaa.P Go.Proofs.Yteikopjhekhchaa.Lib Go.Proofs.YteikopjhekhchaaW.PrintWords Go.Proofs.YteikopjhekhchaaW.PrintLast

theorem pow_run (n : Nat) (hn : n ≤ 62) (d : Nat) : ∀ (i : Nat), n - i = d → i ≤ n → Ok (fun k => spec_l1Pow.l0 k (n : Int) ((2 : Int) ^ i) (i : Int)) (· = (2 : Int) ^ n) := by
  induction d with
  | zero =>
    intro i hd hi
    obtain rfl : i = n := by omega
    refine Ok.succ ?_
    simp only [spec_l1Pow.l0]
    exact Ok.no (by omega) (Ok.now _ rfl)
  | succ d ih =>
    intro i hd hi
    refine Ok.succ ?_
    simp only [spec_l1Pow.l0]
    refine Ok.yes (by omega) ?_
    have e1 : wrap64 ((2 : Int) ^ i * 2) = 2 ^ (i + 1) := by
      rw [← Int.pow_succ]
      have h1 := pow2_1 (i + 1)
      have h2 := pow2_le (show i + 1 ≤ 62 by omega)
      exact w64 (by omega) (by omega)
    have e2 : wrap64 ((i : Int) + 1) = ((i + 1 : Nat) : Int) := by unfold wrap64; omega
    rw [e1, e2]
    exact ih (i + 1) (by omega) (by omega)
theorem pow_ok (n : Nat) (hn : n ≤ 62) : Ok (fun k => spec_l1Pow.f k (n : Int)) (· = (2 : Int) ^ n) := by
  unfold spec_l1Pow.f
  exact pow_run n hn n 0 (by omega) (by omega)

def good (high : Bool) (y p : Nat) : Prop := if high = true then y % 2 ^ (8 - p) = 0 else y < 2 ^ p
instance (high : Bool) (y p : Nat) : Decidable (good high y p) := by unfold good; infer_instance
def plc (high : Bool) (p : Nat) : Nat := if high = true then 7 - p else p
theorem nat_high : ∀ (p : Fin 8) (b : Fin 2) (y : Fin 256), y.val % 2 ^ (8 - p.val) = 0 → y.val ||| b.val * 2 ^ (7 - p.val) = y.val + b.val * 2 ^ (7 - p.val) ∧ y.val + b.val * 2 ^ (7 - p.val) < 256 ∧ (y.val + b.val * 2 ^ (7 - p.val)) % 2 ^ (8 - (p.val + 1)) = 0 := by decide +kernel
theorem nat_low : ∀ (p : Fin 8) (b : Fin 2) (y : Fin 256), y.val < 2 ^ p.val → y.val ||| b.val * 2 ^ p.val = y.val + b.val * 2 ^ p.val ∧ y.val + b.val * 2 ^ p.val < 256 ∧ y.val + b.val * 2 ^ p.val < 2 ^ (p.val + 1) := by decide +kernel
theorem ofInt_u8 (a : Nat) (ha : a < 256) : (BitVec.ofInt 8 (a : Int)).toNat = a := by
  rw [BitVec.ofInt_natCast, BitVec.toNat_ofNat]; exact Nat.mod_eq_of_lt (by omega)
theorem u8_or_nat (a b : Nat) (ha : a < 256) (hb : b < 256) : bits .or .u8 (a : Int) (b : Int) = ((a ||| b : Nat) : Int) := by
  have hx : a ||| b < 2 ^ 8 := Nat.or_lt_two_pow (by omega) (by omega)
  show IntKind.u8.wrap ((BitVec.ofInt 8 (a : Int) ||| BitVec.ofInt 8 (b : Int)).toNat : Int) = _
  rw [BitVec.toNat_or, ofInt_u8 a ha, ofInt_u8 b hb, IntKind.wrap_u8]
  omega
theorem byte_nat {high : Bool} {y p b : Nat} (hy : y < 256) (hp : p < 8) (hb : b < 2) (h : good high y p) : (y ||| b * 2 ^ (plc high p)) = y + b * 2 ^ (plc high p) ∧ y + b * 2 ^ (plc high p) < 256 ∧ good high (y + b * 2 ^ (plc high p)) (p + 1) := by
  cases high with
  | true => exact nat_high ⟨p, hp⟩ ⟨b, hb⟩ ⟨y, hy⟩ h
  | false => exact nat_low ⟨p, hp⟩ ⟨b, hb⟩ ⟨y, hy⟩ h
theorem byte_or {high : Bool} {y p b : Nat} (hy : y < 256) (hp : p < 8) (hb : b < 2) (h : good high y p) : bits .or .u8 (y : Int) (wrap64 ((b : Int) * (2 : Int) ^ (plc high p)) % 256) = ((y + b * 2 ^ (plc high p) : Nat) : Int) ∧ y + b * 2 ^ (plc high p) < 256 ∧ good high (y + b * 2 ^ (plc high p)) (p + 1) := by
  obtain ⟨o1, o2, o3⟩ := byte_nat hy hp hb h
  refine ⟨?_, o2, o3⟩
  have ec : (b : Int) * (2 : Int) ^ (plc high p) = ((b * 2 ^ (plc high p) : Nat) : Int) := by push_cast; rfl
  rw [ec]
  clear ec
  obtain ⟨c, hc⟩ : ∃ c, b * 2 ^ (plc high p) = c := ⟨_, rfl⟩
  rw [hc] at o1 o2 ⊢
  clear hc o3
  have ew : wrap64 (c : Int) % 256 = (c : Int) := by
    rw [w64 (by omega) (by omega)] <;> omega
  rw [ew, u8_or_nat y c hy (by omega), o1]
structure Inv (high : Bool) (xs : List Int) (pos : Nat) : Prop where
  len : xs.length = (pos + 7) / 8
  byte : ∀ x ∈ xs, 0 ≤ x ∧ x ≤ 255
  last : pos % 8 ≠ 0 → good high (xs.getD (xs.length - 1) 0).toNat (pos % 8)
theorem Inv.nil (high : Bool) : Inv high [] 0 := ⟨rfl, by simp, by simp⟩

/-- The byte that takes the bit: a new one at the start of a byte. -/
def grown (xs : List Int) (pos : Nat) : List Int := if pos % 8 = 0 then xs ++ [0] else xs
theorem grown_ok {high : Bool} {xs : List Int} {pos : Nat} (h : Inv high xs pos) : (grown xs pos).length = pos / 8 + 1 ∧ (∀ x ∈ grown xs pos, 0 ≤ x ∧ x ≤ 255) ∧ good high ((grown xs pos).getD (pos / 8) 0).toNat (pos % 8) := by
  have hl := h.len
  unfold grown
  by_cases h0 : pos % 8 = 0
  · rw [if_pos h0]
    refine ⟨by rw [List.length_append, hl]; simp; omega, ?_, ?_⟩
    · intro x hx
      rcases List.mem_append.mp hx with hx | hx
      · exact h.byte x hx
      · simp at hx; omega
    · have e : pos / 8 = xs.length := by omega
      rw [e, h0]
      cases high <;> simp [good]
  · rw [if_neg h0]
    refine ⟨by omega, h.byte, ?_⟩
    have e : pos / 8 = xs.length - 1 := by omega
    rw [e]
    exact h.last h0
set_option maxHeartbeats 1000000 in
theorem bit_step {high : Bool} {xs : List Int} {pos b : Nat} (h : Inv high xs pos) (hb : b < 2) (hp : pos ≤ 1000000) :
    pkStep xs (pos : Int) (b : Int) high = (grown xs pos).set (pos / 8) ((rd (grown xs pos) ((pos / 8 : Nat) : Int) + wrap64 ((b : Int) * (2 : Int) ^ (plc high (pos % 8))) % 256) % 256) ∧ Inv high (pkStep xs (pos : Int) (b : Int) high) (pos + 1) := by
  obtain ⟨g1, g2, g3⟩ := grown_ok h
  obtain ⟨ys, hys⟩ : ∃ ys, grown xs pos = ys := ⟨_, rfl⟩
  rw [hys] at g1 g2 g3 ⊢
  have hin : pos / 8 < ys.length := by omega
  have hmem : ys.getD (pos / 8) 0 ∈ ys := by
    rw [List.getD_eq_getElem?_getD, List.getElem?_eq_getElem hin]; exact List.getElem_mem hin
  obtain ⟨y, hy⟩ : ∃ y : Nat, ys.getD (pos / 8) 0 = (y : Int) := ⟨(ys.getD (pos / 8) 0).toNat, by have := (g2 _ hmem).1; omega⟩
  have hy2 : y < 256 := by have := (g2 _ hmem).2; omega
  rw [hy] at g3
  have g3 : good high y (pos % 8) := g3
  obtain ⟨o1, o2, o3⟩ := byte_or hy2 (Nat.mod_lt pos (by omega)) hb g3
  obtain ⟨c, hc⟩ : ∃ c, b * 2 ^ (plc high (pos % 8)) = c := ⟨_, rfl⟩
  have ec : (b : Int) * (2 : Int) ^ (plc high (pos % 8)) = (c : Int) := by rw [← hc]; push_cast; rfl
  rw [hc] at o1 o2 o3
  rw [ec]
  clear ec hc
  have O1 := Aside0.mk o1
  clear o1
  have epl : (pkPlace (pos : Int) high).toNat = plc high (pos % 8) := by
    unfold pkPlace plc
    cases high <;> simp <;> omega
  have est : pkStep xs (pos : Int) (b : Int) high = ys.set (pos / 8) ((y + c : Nat) : Int) := by
    have e0 : pkStep xs (pos : Int) (b : Int) high = pkOr ys (pos : Int) (b : Int) high := by
      unfold pkStep
      rw [← hys]
      unfold grown
      by_cases h0 : pos % 8 = 0
      · rw [if_pos h0, if_pos (by omega)]
      · rw [if_neg h0, if_neg (by omega)]
    rw [e0]
    unfold pkOr
    have el : ys.length - 1 = pos / 8 := by omega
    rw [el, hy, epl, O1.out]
  clear O1 epl
  have erd : rd ys ((pos / 8 : Nat) : Int) = (y : Int) := by unfold rd; rw [Int.toNat_natCast]; exact hy
  have ew : wrap64 (c : Int) % 256 = (c : Int) := by
    rw [w64 (by omega) (by omega)] <;> omega
  have hEst := Aside0.mk est
  have hErd := Aside0.mk erd
  have hEw := Aside0.mk ew
  clear est erd ew
  refine ⟨?_, ?_⟩
  · have em : ((y : Int) + (c : Int)) % 256 = ((y + c : Nat) : Int) := by omega
    rw [hEst.out, hErd.out, hEw.out, em]
  · rw [hEst.out]
    refine ⟨by rw [List.length_set]; omega, ?_, ?_⟩
    · intro x hx
      rcases List.mem_or_eq_of_mem_set hx with hx | hx
      · exact g2 x hx
      · subst hx; clear hEst hErd hEw g3 o3; exact ⟨by omega, by omega⟩
    · intro h1
      have el : (ys.set (pos / 8) ((y + c : Nat) : Int)).length - 1 = pos / 8 := by rw [List.length_set]; omega
      rw [el]
      have eg : (ys.set (pos / 8) ((y + c : Nat) : Int)).getD (pos / 8) 0 = ((y + c : Nat) : Int) := by
        rw [List.getD_eq_getElem?_getD, List.getElem?_set_self hin, Option.getD_some]
      rw [eg, Int.toNat_natCast, show (pos + 1) % 8 = pos % 8 + 1 by omega]
      exact o3
theorem pkBit_lt (v : Int) (size : Nat) (high : Bool) (k : Nat) : ∃ b : Nat, b < 2 ∧ pkBit v size high k = (b : Int) := by
  refine ⟨(pkBit v size high k).toNat, ?_, ?_⟩ <;> (unfold pkBit; omega)
theorem tdiv8 {pos : Nat} (h : pos ≤ 1000000) : wrap64 (Int.tdiv (pos : Int) 8) = ((pos / 8 : Nat) : Int) := by
  rw [tdiv_nn (by omega)]; unfold wrap64; omega
theorem tmod8 (pos : Nat) : Int.tmod (pos : Int) 8 = ((pos % 8 : Nat) : Int) := by rw [tmod_nn (by omega)]; omega
theorem bit_text {v : Int} {e : Nat} (h0 : 0 ≤ v) (h1 : v ≤ 4294967296) : Int.tmod (wrap64 (Int.tdiv v ((2 : Int) ^ e))) 2 = v / 2 ^ e % 2 := by
  have hp := pow2_1 e
  have hd : 0 ≤ v / 2 ^ e := Int.ediv_nonneg h0 (by omega)
  have hd2 : v / 2 ^ e ≤ v := Int.ediv_le_self _ h0
  rw [tdiv_nn h0, w64 (by omega) (by omega), tmod_nn hd]
theorem seven (pos : Nat) : wrap64 (7 - ((pos % 8 : Nat) : Int)) = ((7 - pos % 8 : Nat) : Int) := by
  have h := Nat.mod_lt pos (show 0 < 8 by omega)
  obtain ⟨p, hp⟩ : ∃ p, pos % 8 = p := ⟨_, rfl⟩
  rw [hp] at h ⊢
  clear hp
  rw [w64 (by omega) (by omega)] <;> omega
theorem l1_step {P : ByteArray → Prop} {l : List S59} {high : Bool} {xs : List Int} {pos i j size : Nat} {v : Int} (hl : i < l.length) (he : rd_T59 l (i : Int) = ⟨v, size⟩) (hj : j < size) (hs : size ≤ 32) (_hll : l.length ≤ 1000000) (h0 : 0 ≤ v) (h1 : v ≤ 4294967296) (hp : pos ≤ 900000) (hI : Inv high xs pos)
    (k : Ok (fun n => spec_l1Put.l1 n l high (pkStep xs (pos : Int) (pkBit v size high j) high) ((pos : Int) + 1) (i : Int) ((j + 1 : Nat) : Int)) P) :
    Ok (fun n => spec_l1Put.l1 n l high xs (pos : Int) (i : Int) (j : Int)) P := by
  obtain ⟨b, hb, eb⟩ := pkBit_lt v size high j
  rw [eb] at k
  have EB := Aside0.mk eb
  clear eb
  have s1 := (bit_step hI hb (by omega)).1
  obtain ⟨g1, _, _⟩ := grown_ok hI
  have hxl : xs.length < 140737488355328 := by have := hI.len; omega
  have c1 : (0 : Int) ≤ (i : Int) := by omega
  have c2 : (i : Int) < (l.length : Int) := by omega
  have c3 : (j : Int) < (rd_T59 l (i : Int)).f1 := by rw [he]; show (j : Int) < (size : Int); omega
  have c4 : (0 : Int) ≤ ((pos / 8 : Nat) : Int) := by omega
  have ei : ((i : Nat) : Int).toNat = i := Int.toNat_natCast i
  have ep : ((pos / 8 : Nat) : Int).toNat = pos / 8 := Int.toNat_natCast _
  have e1 : wrap64 ((pos : Int) + 1) = (pos : Int) + 1 := by rw [w64 (by omega) (by omega)] <;> omega
  have e2 : wrap64 ((j : Int) + 1) = ((j + 1 : Nat) : Int) := by rw [w64 (by omega) (by omega)] <;> omega
  have e7 : wrap64 (7 - ((pos % 8 : Nat) : Int)) = ((7 - pos % 8 : Nat) : Int) := seven pos
  have hne : ∀ e : Nat, ¬ (2 : Int) ^ e = 0 := fun e => by have := pow2_1 e; omega
  have E1 := Aside0.mk e1
  have E2 := Aside0.mk e2
  have E7 := Aside0.mk e7
  have EP := Aside0.mk ep
  have S1 := Aside0.mk s1
  clear e1 e2 e7 ep ei s1
  refine Ok.succ ?_
  simp only [spec_l1Put.l1]
  refine Ok.yes c1 (Ok.yes c2 (Ok.yes c3 ?_))
  clear c3
  cases high with
  | true =>
    refine Ok.yes rfl ?_
    have ee : wrap64 (wrap64 ((rd_T59 l (i : Int)).f1 - 1) - (j : Int)) = ((size - 1 - j : Nat) : Int) := by
      rw [he]; show wrap64 (wrap64 ((size : Int) - 1) - (j : Int)) = _; rw [w64 (x := (size : Int) - 1) (by omega) (by omega), w64 (by omega) (by omega)] <;> omega
    rw [ee]
    refine Ok.succ ?_
    simp only [spec_l1Put.j2]
    refine Ok.yes c1 (Ok.yes c2 (Ok.bind (pow_ok (size - 1 - j) (by omega)) (fun a ha => ?_)))
    subst ha
    refine Ok.no (hne _) ?_
    have et : Int.tmod (wrap64 (Int.tdiv (rd_T59 l (i : Int)).f0 ((2 : Int) ^ (size - 1 - j)))) 2 = (b : Int) := by
      rw [he, ← EB.out]; exact bit_text h0 h1
    rw [et, tmod8, tdiv8 (by omega)]
    clear et EB
    by_cases hz : pos % 8 = 0
    · have eg : grown xs pos = xs ++ [0] := by unfold grown; rw [if_pos hz]
      have s1 := S1.out
      rw [eg] at s1 g1
      have c5 : ((pos / 8 : Nat) : Int) < ((xs ++ [0]).length : Int) := by omega
      have c6 : ((pos % 8 : Nat) : Int) = 0 := by omega
      refine Ok.yes c6 (Ok.yes hxl ?_)
      simp only [Option.bind_some]
      refine Ok.yes (by simp) (Ok.yes c4 (Ok.yes c5 ?_))
      rw [E7.out]
      refine Ok.bind (pow_ok (7 - pos % 8) (by omega)) (fun a ha => ?_)
      subst ha
      rw [E1.out, E2.out, EP.out]
      rw [show plc true (pos % 8) = 7 - pos % 8 from rfl] at s1
      rw [← s1]
      exact k
    · have eg : grown xs pos = xs := by unfold grown; rw [if_neg hz]
      have s1 := S1.out
      rw [eg] at s1 g1
      have c5 : ((pos / 8 : Nat) : Int) < ((xs).length : Int) := by omega
      have c6 : ¬ ((pos % 8 : Nat) : Int) = 0 := by omega
      refine Ok.no c6 (Ok.yes (by simp) (Ok.yes c4 (Ok.yes c5 ?_)))
      rw [E7.out]
      refine Ok.bind (pow_ok (7 - pos % 8) (by omega)) (fun a ha => ?_)
      subst ha
      rw [E1.out, E2.out, EP.out]
      rw [show plc true (pos % 8) = 7 - pos % 8 from rfl] at s1
      rw [← s1]
      exact k
  | false =>
    refine Ok.no Bool.false_ne_true ?_
    refine Ok.succ ?_
    simp only [spec_l1Put.j2]
    refine Ok.yes c1 (Ok.yes c2 (Ok.bind (pow_ok j (by omega)) (fun a ha => ?_)))
    subst ha
    refine Ok.no (hne _) ?_
    have et : Int.tmod (wrap64 (Int.tdiv (rd_T59 l (i : Int)).f0 ((2 : Int) ^ j))) 2 = (b : Int) := by
      rw [he, ← EB.out]; exact bit_text h0 h1
    rw [et, tmod8, tdiv8 (by omega)]
    clear et EB
    by_cases hz : pos % 8 = 0
    · have eg : grown xs pos = xs ++ [0] := by unfold grown; rw [if_pos hz]
      have s1 := S1.out
      rw [eg] at s1 g1
      have c5 : ((pos / 8 : Nat) : Int) < ((xs ++ [0]).length : Int) := by omega
      have c6 : ((pos % 8 : Nat) : Int) = 0 := by omega
      refine Ok.yes c6 (Ok.yes hxl ?_)
      simp only [Option.bind_some]
      refine Ok.no (by simp) (Ok.yes c4 (Ok.yes c5 ?_))
      refine Ok.bind (pow_ok (pos % 8) (by omega)) (fun a ha => ?_)
      subst ha
      rw [E1.out, E2.out, EP.out]
      rw [show plc false (pos % 8) = pos % 8 from rfl] at s1
      rw [← s1]
      exact k
    · have eg : grown xs pos = xs := by unfold grown; rw [if_neg hz]
      have s1 := S1.out
      rw [eg] at s1 g1
      have c5 : ((pos / 8 : Nat) : Int) < ((xs).length : Int) := by omega
      have c6 : ¬ ((pos % 8 : Nat) : Int) = 0 := by omega
      refine Ok.no c6 (Ok.no (by simp) (Ok.yes c4 (Ok.yes c5 ?_)))
      refine Ok.bind (pow_ok (pos % 8) (by omega)) (fun a ha => ?_)
      subst ha
      rw [E1.out, E2.out, EP.out]
      rw [show plc false (pos % 8) = pos % 8 from rfl] at s1
      rw [← s1]
      exact k
theorem l1_run {P : ByteArray → Prop} {l : List S59} {high : Bool} {i size : Nat} {v : Int} (hl : i < l.length) (he : rd_T59 l (i : Int) = ⟨v, size⟩) (hs : size ≤ 32) (hll : l.length ≤ 1000000) (h0 : 0 ≤ v) (h1 : v ≤ 4294967296) (d : Nat) : ∀ (j pos : Nat) (xs : List Int), j + d = size → pos ≤ 800000 + j → Inv high xs pos →
    Inv high (pkPut v size high j xs (pos : Int) d) (pos + d) ∧ (Ok (fun n => spec_l1Put.l0 n l high (pkPut v size high j xs (pos : Int) d) ((pos + d : Nat) : Int) ((i + 1 : Nat) : Int)) P → Ok (fun n => spec_l1Put.l1 n l high xs (pos : Int) (i : Int) (j : Int)) P) := by
  induction d with
  | zero =>
    intro j pos xs hd hp hI
    refine ⟨hI, fun k => ?_⟩
    refine Ok.succ ?_
    simp only [spec_l1Put.l1]
    refine Ok.yes (by omega) (Ok.yes (by omega) (Ok.no (by rw [he]; show ¬ (j : Int) < (size : Int); omega) ?_))
    rw [show wrap64 ((i : Int) + 1) = ((i + 1 : Nat) : Int) by rw [w64 (by omega) (by omega)] <;> omega]
    exact k
  | succ d ih =>
    intro j pos xs hd hp hI
    obtain ⟨b, hb, eb⟩ := pkBit_lt v size high j
    have hI2 : Inv high (pkStep xs (pos : Int) (pkBit v size high j) high) (pos + 1) := by rw [eb]; exact (bit_step hI hb (by omega)).2
    obtain ⟨r1, r2⟩ := ih (j + 1) (pos + 1) _ (by omega) (by omega) hI2
    have e1 : ((pos + 1 : Nat) : Int) = (pos : Int) + 1 := by omega
    rw [e1, show pos + 1 + d = pos + (d + 1) by omega] at r1 r2
    refine ⟨r1, fun k => ?_⟩
    exact l1_step hl he (by omega) hs hll h0 h1 (by omega) hI (r2 k)
def sizeOk (b : S59) : Prop := 0 ≤ b.f0 ∧ b.f0 ≤ 4294967296 ∧ 0 ≤ b.f1 ∧ b.f1 ≤ 32
theorem bitsSum_nonneg : ∀ l : List S59, (∀ b ∈ l, sizeOk b) → 0 ≤ bitsSum l
  | [], _ => by simp [bitsSum]
  | b :: l, h => by
    have h1 := bitsSum_nonneg l (fun x hx => h x (List.mem_cons_of_mem _ hx))
    have h2 := (h b List.mem_cons_self).2.2.1
    simp only [bitsSum]; omega
theorem l0_run (l : List S59) (high : Bool) (hll : l.length ≤ 1000000) (hok : ∀ b ∈ l, sizeOk b) (d : Nat) : ∀ (i pos : Nat) (xs : List Int), i + d = l.length → (pos : Int) + bitsSum (l.drop i) ≤ 800000 → Inv high xs pos →
    Ok (fun n => spec_l1Put.l0 n l high xs (pos : Int) (i : Int)) (· = strOfNums (pkBits high (l.drop i) xs (pos : Int))) := by
  induction d with
  | zero =>
    intro i pos xs hd _ _
    refine Ok.succ ?_
    simp only [spec_l1Put.l0]
    refine Ok.no (by omega) ?_
    rw [List.drop_eq_nil_of_le (by omega)]
    exact Ok.now _ rfl
  | succ d ih =>
    intro i pos xs hd hp hI
    have hi : i < l.length := by omega
    have hc : l.drop i = l[i] :: l.drop (i + 1) := List.drop_eq_getElem_cons hi
    rw [hc] at hp ⊢
    obtain ⟨b, hb⟩ : ∃ b, l[i] = b := ⟨_, rfl⟩
    obtain ⟨q1, q2, q3, q4⟩ := hok l[i] (List.getElem_mem hi)
    rw [hb] at hp q1 q2 q3 q4 ⊢
    obtain ⟨s, hs⟩ : ∃ s : Nat, b.f1 = (s : Int) := ⟨b.f1.toNat, by omega⟩
    have he : rd_T59 l (i : Int) = ⟨b.f0, (s : Int)⟩ := by
      rw [← hs]
      show l.getD (i : Int).toNat z59 = _
      rw [Int.toNat_natCast, List.getD_eq_getElem?_getD, List.getElem?_eq_getElem hi, hb]; rfl
    have hn := bitsSum_nonneg (l.drop (i + 1)) (fun x hx => hok x (List.mem_of_mem_drop hx))
    simp only [bitsSum, pkBits] at hp ⊢
    rw [hs] at hp q3 q4 ⊢
    rw [Int.toNat_natCast]
    refine Ok.succ ?_
    simp only [spec_l1Put.l0]
    refine Ok.yes (by omega) ?_
    obtain ⟨r1, r2⟩ := l1_run (P := (· = strOfNums (pkBits high (l.drop (i + 1)) (pkPut b.f0 s high 0 xs (pos : Int) s) ((pos : Int) + (s : Int))))) (high := high) hi he (by omega) hll q1 q2 s 0 pos xs (by omega) (by omega) hI
    refine r2 ?_
    have h2 := ih (i + 1) (pos + s) _ (by omega) (by push_cast; omega) r1
    rw [show ((pos + s : Nat) : Int) = (pos : Int) + (s : Int) by omega] at h2 ⊢
    exact h2
theorem l1Put_ok (l : List S59) (high : Bool) (hll : l.length ≤ 1000000) (hok : ∀ b ∈ l, sizeOk b) (hsum : bitsSum l ≤ 800000) : Ok (fun n => spec_l1Put.f n l high) (· = strOfNums (pkBits high l [] 0)) := by
  unfold spec_l1Put.f
  exact l0_run l high hll hok l.length 0 0 [] (by omega) (by simpa using hsum) (Inv.nil high)
end Go.Proofs.Yteikopjhekhchaa.Pure
