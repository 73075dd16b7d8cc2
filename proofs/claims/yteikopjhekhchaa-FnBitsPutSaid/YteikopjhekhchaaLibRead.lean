/- Reading bits: the program's bitAt, and the loops of RowGet and BitsGet over a text of which the bits are known. -/
import Derived.Test.YteikopjhekhchaaLibRowGet
import Derived.Test.YteikopjhekhchaaF50
import Derived.Test.YteikopjhekhchaaF77
set_option linter.unusedVariables false
set_option linter.unusedSimpArgs false
namespace Go.Proofs.Yteikopjhekhchaa.Pure
open Go.RowKit Go.Proofs.Yteikopjhekhchaa.P Go.Proofs.Yteikopjhekhchaa.Lib Go.Proofs.YteikopjhekhchaaW.PrintWords Go.Proofs.YteikopjhekhchaaW.PrintLast Go.Proofs.YteikopjhekhchaaW.PrintMore

/-- Bit number p of a text. -/
def bitT (high : Bool) (s : ByteArray) (p : Nat) : Nat := (bt s ((p / 8 : Nat) : Int)).toNat / 2 ^ (plc high (p % 8)) % 2
theorem bitT_lt (high : Bool) (s : ByteArray) (p : Nat) : bitT high s p < 2 := Nat.mod_lt _ (Nat.succ_pos 1)
theorem shr_nat (a e : Nat) (he : e ≤ 63) : shr .i64 (a : Int) (e : Int) = ((a / 2 ^ e : Nat) : Int) := by
  unfold shr
  rw [Int.toNat_natCast]
  show (a : Int) / 2 ^ min e 64 = _
  rw [Nat.min_eq_left (show e ≤ 64 by omega), Int.natCast_ediv]
  push_cast
  rfl
theorem bitAt_ok (high : Bool) (s : ByteArray) (p : Nat) (h : p < 8 * s.size) (hp : p ≤ 1000000) : impl_bitAt.f s (p : Int) high = some ((bitT high s p : Nat) : Int) := by
  have c1 : (0 : Int) ≤ ((p / 8 : Nat) : Int) := by omega
  have c2 : ((p / 8 : Nat) : Int) < (s.size : Int) := by omega
  have hm := Nat.mod_lt p (show 0 < 8 by omega)
  have hb := bt_range s ((p / 8 : Nat) : Int)
  obtain ⟨a, ha⟩ := Int.eq_ofNat_of_zero_le hb.1
  have ew : wrap64 (a : Int) = (a : Int) := w64 (by omega) (by omega)
  unfold impl_bitAt.f
  rw [tdiv8 hp, tmod8, seven]
  unfold bitT
  rw [ha, ew, Int.toNat_natCast]
  have ha2 : a < 256 := by omega
  clear ew ha hb
  cases high with
  | true =>
    have c3 : (0 : Int) ≤ ((7 - p % 8 : Nat) : Int) := by omega
    have c4 : 7 - p % 8 ≤ 63 := by omega
    rw [if_pos rfl, if_pos c1, if_pos c2, if_pos c3, shr_nat a _ c4, land1]
    rfl
  | false =>
    have c3 : (0 : Int) ≤ ((p % 8 : Nat) : Int) := by omega
    have c4 : p % 8 ≤ 63 := by omega
    rw [if_neg Bool.false_ne_true, if_pos c1, if_pos c2, if_pos c3, shr_nat a _ c4, land1]
    rfl
theorem bitT_nums (high : Bool) (xs : List Int) (hx : ∀ x ∈ xs, 0 ≤ x ∧ x ≤ 255) (p : Nat) (h : p / 8 < xs.length) : bitT high (strOfNums xs) p = bitv high xs p := by
  have hm := hx _ (List.getElem_mem h)
  unfold bitT bitv
  rw [strOfNums_at xs (p / 8) h hm.1 hm.2, List.getD_eq_getElem?_getD, List.getElem?_eq_getElem h, Option.getD_some]
theorem fold_high (v : Int) (D b : Nat) (hb : b < D) : 2 * (v / 2 ^ (D - b)) + pkBit v D true b = v / 2 ^ (D - (b + 1)) := by
  obtain ⟨e, rfl⟩ : ∃ e, D = b + 1 + e := ⟨D - b - 1, by omega⟩
  rw [show b + 1 + e - b = e + 1 by omega, show b + 1 + e - (b + 1) = e by omega]
  unfold pkBit
  rw [if_pos rfl, show b + 1 + e - 1 - b = e by omega]
  have hp := pow2_1 e
  rw [Int.pow_succ, ← Int.ediv_ediv_of_nonneg (show (0 : Int) ≤ 2 ^ e by omega)]
  clear hp
  generalize v / 2 ^ e = x
  omega
theorem get_l1 {P : List Int × Bool → Prop} (s : ByteArray) (D i cnt : Nat) (v : Int) (out : List Int) (hD : D ≤ 32) (h0 : 0 ≤ v) (hv : v ≤ 4294967295) (hsz : D * i + D ≤ 8 * s.size) (hi : i ≤ 1000) (hc : out.length ≤ 100000)
    (hb : ∀ j, j < D → ((bitT true s (D * i + j) : Nat) : Int) = pkBit v D true j)
    (k : Ok (fun n => impl_RowGet.l0 n s (D : Int) (out ++ [v]) (cnt : Int) ((i + 1 : Nat) : Int)) P) (d : Nat) :
    ∀ b, b + d = D → Ok (fun n => impl_RowGet.l1 n s (D : Int) out (i : Int) (v / 2 ^ (D - b)) (cnt : Int) (i : Int) (D : Int) (b : Int)) P := by
  have hq : D * i ≤ 32 * 1000 := Nat.mul_le_mul hD hi
  have em : (i : Int) * (D : Int) = ((D * i : Nat) : Int) := by push_cast; rw [Int.mul_comm]
  obtain ⟨q, eq⟩ : ∃ q, D * i = q := ⟨_, rfl⟩
  rw [eq] at hq em hsz hb
  clear eq
  have EM := Aside0.mk em
  clear em
  induction d with
  | zero =>
    intro b hbd
    obtain rfl : b = D := by omega
    have c1 : ¬ (b : Int) < (b : Int) := by omega
    have c2 : out.length < 17592186044416 := by omega
    have e1 : wrap64 ((i : Int) + 1) = ((i + 1 : Nat) : Int) := by rw [w64 (by omega) (by omega)] <;> omega
    refine Ok.succ ?_
    simp only [impl_RowGet.l1]
    refine Ok.no c1 (Ok.yes c2 ?_)
    rw [Nat.sub_self, Int.pow_zero, Int.ediv_one, e1]
    exact k
  | succ d ih =>
    intro b hbd
    have hbD : b < D := by omega
    have c1 : (b : Int) < (D : Int) := by omega
    have hpb : q + b < 8 * s.size := by omega
    have hpb2 : q + b ≤ 1000000 := by omega
    have e2 : wrap64 (((q : Nat) : Int) + (b : Int)) = ((q + b : Nat) : Int) := by rw [w64 (by omega) (by omega)] <;> omega
    have e1 : wrap64 ((q : Nat) : Int) = ((q : Nat) : Int) := by rw [w64 (by omega) (by omega)]
    have e3 : wrap64 ((b : Int) + 1) = ((b + 1 : Nat) : Int) := by rw [w64 (by omega) (by omega)] <;> omega
    have hn0 : 0 ≤ v / 2 ^ (D - b) := Int.ediv_nonneg h0 (by have := pow2_1 (D - b); omega)
    have hn1 : v / 2 ^ (D - b) ≤ v := Int.ediv_le_self _ h0
    have hf := fold_high v D b hbD
    have hB := hb b hbD
    have hB3 : 0 ≤ pkBit v D true b ∧ pkBit v D true b ≤ 1 := by
      rw [← hB]
      have hB2 := bitT_lt true s (q + b)
      clear hf hB hb ih
      omega
    refine Ok.succ ?_
    simp only [impl_RowGet.l1]
    refine Ok.yes c1 ?_
    rw [EM.out, e1, e2, e3]
    refine Ok.binds (bitAt_ok true s (q + b) hpb hpb2) ?_
    rw [hB]
    have ih2 := ih (b + 1) (by omega)
    rw [← hf] at ih2
    clear ih hf hb
    generalize v / 2 ^ (D - b) = n at hn0 hn1 ih2 ⊢
    clear hB
    generalize pkBit v D true b = B at hB3 ih2 ⊢
    have e4 : wrap64 (2 * n) = 2 * n := w64 (by omega) (by omega)
    have e5 : wrap64 (2 * n + B) = 2 * n + B := w64 (by omega) (by omega)
    rw [e4, e5]
    exact ih2
theorem get_l0 (s : ByteArray) (D : Nat) (l : List Int) (hD : D ≤ 32) (hl : l.length ≤ 1000) (hg : ∀ x ∈ l, 0 ≤ x ∧ x ≤ 4294967295 ∧ x < 2 ^ D) (hsz : D * l.length ≤ 8 * s.size)
    (hb : ∀ n, n < l.length → ∀ j, j < D → ((bitT true s (D * n + j) : Nat) : Int) = pkBit (l.getD n 0) D true j) (d : Nat) :
    ∀ i, i + d = l.length → Ok (fun n => impl_RowGet.l0 n s (D : Int) (l.take i) (l.length : Int) (i : Int)) (· = (l, true)) := by
  induction d with
  | zero =>
    intro i hi
    have c1 : ¬ (i : Int) < (l.length : Int) := by omega
    refine Ok.succ ?_
    simp only [impl_RowGet.l0]
    refine Ok.no c1 (Ok.now _ ?_)
    rw [List.take_of_length_le (by omega)]
  | succ d ih =>
    intro i hi
    have hlt : i < l.length := by omega
    have c1 : (i : Int) < (l.length : Int) := by omega
    have hg1 := hg _ (List.getElem_mem hlt)
    have eg : l.getD i 0 = l[i] := by rw [List.getD_eq_getElem?_getD, List.getElem?_eq_getElem hlt, Option.getD_some]
    have hb1 := hb i hlt
    rw [eg] at hb1
    have hz : D * i + D ≤ D * l.length := by rw [← Nat.mul_succ]; exact Nat.mul_le_mul_left _ hlt
    have ih2 := ih (i + 1) (by omega)
    have et : l.take (i + 1) = l.take i ++ [l[i]] := by rw [List.take_add_one, List.getElem?_eq_getElem hlt]; rfl
    rw [et] at ih2
    have htl : (l.take i).length ≤ 100000 := by rw [List.length_take]; omega
    have e0 : l[i] / 2 ^ (D - 0) = 0 := by rw [Nat.sub_zero]; exact Int.ediv_eq_zero_of_lt hg1.1 hg1.2.2
    have h1 := get_l1 s D i l.length l[i] (l.take i) hD hg1.1 hg1.2.1 (by omega) (by omega) htl hb1 ih2 D 0 (by omega)
    rw [e0] at h1
    refine Ok.succ ?_
    simp only [impl_RowGet.l0]
    exact Ok.yes c1 h1
theorem rowGet_ok (l : List Int) (D : Nat) (hd : rowD (D : Int)) (hl : l.length ≤ 1000) (hg : ∀ x ∈ l, rowGood D x) :
    Ok (fun n => impl_RowGet.f n (strOfNums (pkRow D l [] 0)) (D : Int) (l.length : Int)) (· = (l, true)) ∧ ((strOfNums (pkRow D l [] 0)).size : Int) = wrap64 (Int.tdiv (wrap64 (wrap64 ((l.length : Int) * (D : Int)) + 7)) 8) := by
  have hD : D ≤ 24 ∨ D = 32 := by unfold rowD at hd; omega
  have hD32 : D ≤ 32 := by omega
  obtain ⟨r1, _, r3⟩ := row_at D hD32 l 0 [] (Inv.nil true) (by omega)
  simp only [Nat.zero_add] at r1 r3
  rw [show ((0 : Nat) : Int) = 0 from rfl] at r1 r3
  have hlen := r1.len
  have hq : D * l.length ≤ 32 * 1000 := Nat.mul_le_mul hD32 hl
  have em : (l.length : Int) * (D : Int) = ((D * l.length : Nat) : Int) := by push_cast; rw [Int.mul_comm]
  have hs : (strOfNums (pkRow D l [] 0)).size = (D * l.length + 7) / 8 := by rw [strOfNums_size, hlen]
  have hbits : ∀ n, n < l.length → ∀ j, j < D → ((bitT true (strOfNums (pkRow D l [] 0)) (D * n + j) : Nat) : Int) = pkBit (l.getD n 0) D true j := by
    intro n hn j hj
    have hz : D * n + D ≤ D * l.length := by rw [← Nat.mul_succ]; exact Nat.mul_le_mul_left _ hn
    rw [bitT_nums true _ r1.byte _ (by rw [hlen]; omega)]
    exact r3 n hn j hj
  have hg2 : ∀ x ∈ l, 0 ≤ x ∧ x ≤ 4294967295 ∧ x < 2 ^ D := fun x hx => by
    have h1 := rowGood_le hD (hg x hx)
    have h2 := hg x hx
    unfold rowGood at h2
    exact ⟨h1.1, h1.2, by omega⟩
  have h0 := get_l0 (strOfNums (pkRow D l [] 0)) D l hD32 hl hg2 (by rw [hs]; omega) hbits l.length 0 (by omega)
  rw [List.take_zero] at h0
  have esz : ((strOfNums (pkRow D l [] 0)).size : Int) = wrap64 (Int.tdiv (wrap64 (wrap64 ((l.length : Int) * (D : Int)) + 7)) 8) := by
    rw [em, hs]
    generalize D * l.length = q at hq
    have e1 : wrap64 (q : Int) = (q : Int) := w64 (by omega) (by omega)
    have e2 : wrap64 ((q : Int) + 7) = ((q + 7 : Nat) : Int) := by rw [w64 (by omega) (by omega)] <;> omega
    rw [e1, e2, tdiv8 (by omega)]
  refine ⟨?_, esz⟩
  have c1 : decide (rowD (D : Int)) = true := decide_eq_true hd
  have c2 : (l.length : Int) ≥ 0 := by omega
  have c3 : decide ((l.length : Int) ≤ 1000) = true := decide_eq_true (by omega)
  unfold impl_RowGet.f
  refine Ok.binds (rowDepth_eq _) (Ok.yes c1 ?_)
  unfold impl_in.f
  rw [if_pos c2, c3]
  refine Ok.binds rfl (Ok.yes rfl ?_)
  refine Ok.succ ?_
  simp only [impl_RowGet.j0]
  refine Ok.no ?_ h0
  rw [← esz]
  simp
end Go.Proofs.Yteikopjhekhchaa.Pure
