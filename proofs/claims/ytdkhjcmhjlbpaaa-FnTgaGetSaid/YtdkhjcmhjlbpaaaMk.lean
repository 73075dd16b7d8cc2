/- What is read of what was written: numbers, runs. -/
import Derived.Test.YtdkhjcmhjlbpaaaMi
import Derived.Test.YtdkhjcmhjlbpaaaMg
set_option linter.unusedVariables false
namespace Go.Proofs.Ytdkhjcmhjlbpaaa.G
open Go
/-- Bytes all of them. -/
def byts (l : List Int) : Prop := ∀ x ∈ l, 0 ≤ x ∧ x ≤ 255
theorem byts_app {a b : List Int} (ha : byts a) (hb : byts b) : byts (a ++ b) := fun x hx => (List.mem_append.1 hx).elim (ha x) (hb x)
theorem byts_le (n z : Nat) : byts (le n z) := fun x hx => by
  obtain ⟨i, _, rfl⟩ := List.mem_map.1 hx
  omega
theorem byts_les (z : Nat) (l : List Int) : byts (les z l) := fun x hx => by
  obtain ⟨n, _, hx⟩ := List.mem_flatMap.1 hx
  exact byts_le _ _ x hx
theorem byt_txt {l : List Int} (h : byts l) (i : Nat) : byt (txt l) i = l.getD i 0 := by
  unfold byt txt
  rw [strOfNums_data]
  by_cases hi : i < l.length
  · have hx := h (l[i]) (List.getElem_mem hi)
    simp only [List.getD_eq_getElem?_getD, List.getElem?_map, List.getElem?_eq_getElem hi, Option.map_some, Option.getD_some]
    simp only [UInt8.toNat_ofNat']
    omega
  · simp only [List.getD_eq_getElem?_getD, List.getElem?_map, List.getElem?_eq_none (show l.length ≤ i by omega), Option.map_none, Option.getD_none]
    rfl
theorem getD_app_right {a b : List Int} {i : Nat} : (a ++ b).getD (a.length + i) 0 = b.getD i 0 := by
  rw [List.getD_eq_getElem?_getD, List.getElem?_append_right (by omega), List.getD_eq_getElem?_getD]
  congr 2
  omega
theorem getD_app_left {a b : List Int} {i : Nat} (h : i < a.length) : (a ++ b).getD i 0 = a.getD i 0 := by
  rw [List.getD_eq_getElem?_getD, List.getElem?_append_left h, List.getD_eq_getElem?_getD]
theorem fld_of {s : ByteArray} {p z n : Nat} (hz : 1 ≤ z ∧ z ≤ 4) (hn : n < 256 ^ z) (hb : ∀ i, i < z → byt s (p + i) = ((n / 256 ^ i % 256 : Nat) : Int)) : fld s p z false z = (n : Int) := by
  have h4 : z = 1 ∨ z = 2 ∨ z = 3 ∨ z = 4 := by omega
  have e0 : (256 : Nat) ^ 0 = 1 := rfl
  have e1 : (256 : Nat) ^ 1 = 256 := rfl
  have e2 : (256 : Nat) ^ 2 = 65536 := rfl
  have e3 : (256 : Nat) ^ 3 = 16777216 := rfl
  have e4 : (256 : Nat) ^ 4 = 4294967296 := rfl
  rcases h4 with rfl | rfl | rfl | rfl
  · have b0 := hb 0 (by omega)
    rw [e0] at b0
    rw [e1] at hn
    simp only [fld]
    show 0 * 256 + byt s (p + 0) = _
    rw [b0]
    omega
  · have b0 := hb 0 (by omega)
    have b1 := hb 1 (by omega)
    rw [e0] at b0
    rw [e1] at b1
    rw [e2] at hn
    simp only [fld]
    show (0 * 256 + byt s (p + 1)) * 256 + byt s (p + 0) = _
    rw [b0, b1]
    omega
  · have b0 := hb 0 (by omega)
    have b1 := hb 1 (by omega)
    have b2 := hb 2 (by omega)
    rw [e0] at b0
    rw [e1] at b1
    rw [e2] at b2
    rw [e3] at hn
    simp only [fld]
    show ((0 * 256 + byt s (p + 2)) * 256 + byt s (p + 1)) * 256 + byt s (p + 0) = _
    rw [b0, b1, b2]
    omega
  · have b0 := hb 0 (by omega)
    have b1 := hb 1 (by omega)
    have b2 := hb 2 (by omega)
    have b3 := hb 3 (by omega)
    rw [e0] at b0
    rw [e1] at b1
    rw [e2] at b2
    rw [e3] at b3
    rw [e4] at hn
    simp only [fld]
    show (((0 * 256 + byt s (p + 3)) * 256 + byt s (p + 2)) * 256 + byt s (p + 1)) * 256 + byt s (p + 0) = _
    rw [b0, b1, b2, b3]
    omega
/-- A number that stands somewhere in a text. -/
theorem fld_at {A B : List Int} {z n : Nat} (hA : byts A) (hB : byts B) (hz : 1 ≤ z ∧ z ≤ 4) (hn : n < 256 ^ z) : fld (txt (A ++ le n z ++ B)) A.length z false z = (n : Int) := by
  refine fld_of hz hn fun i hi => ?_
  rw [byt_txt (byts_app (byts_app hA (byts_le n z)) hB), List.append_assoc, getD_app_right, getD_app_left (by rw [le_len]; exact hi), le_at n hi]
theorem les_cons (z : Nat) (x : Int) (l : List Int) : les z (x :: l) = le x.toNat z ++ les z l := by simp [les]
/-- Numbers that stand somewhere in a text. -/
theorem nums_at {z : Nat} (hz : 1 ≤ z ∧ z ≤ 4) : ∀ (l A B : List Int), byts A → byts B → fits z l → nums (txt (A ++ les z l ++ B)) z A.length l.length = l
  | [], A, B, _, _, _ => rfl
  | x :: l, A, B, hA, hB, hf => by
    have hx := hf x (by simp)
    have ih := nums_at hz l (A ++ le x.toNat z) B (byts_app hA (byts_le _ _)) hB (fun y hy => hf y (by simp [hy]))
    have e : A ++ les z (x :: l) ++ B = A ++ le x.toNat z ++ les z l ++ B := by rw [les_cons]; simp
    have e2 : A ++ les z (x :: l) ++ B = A ++ le x.toNat z ++ (les z l ++ B) := by rw [les_cons]; simp
    have hxn : x.toNat < 256 ^ z := by omega
    have h0 := fld_at hA (byts_app (byts_les z l) hB) hz hxn
    rw [← e2] at h0
    rw [← e, List.length_append, le_len] at ih
    unfold nums at ih ⊢
    rw [List.length_cons, List.range_succ_eq_map, List.map_cons, List.map_map]
    congr 1
    · rw [Nat.zero_mul, Nat.add_zero, h0]
      omega
    · refine Eq.trans (List.map_congr_left fun i _ => ?_) ih
      show fld _ (A.length + (i + 1) * z) z false z = fld _ (A.length + z + i * z) z false z
      congr 1
      rw [Nat.succ_mul]
      omega
theorem nums_one (s : ByteArray) (z p : Nat) : nums s z p 1 = [fld s p z false z] := by
  show [fld s (p + 0 * z) z false z] = _
  rw [Nat.zero_mul, Nat.add_zero]
theorem eqF_same {l : List Int} {a most : Nat} : ∀ (f n : Nat), (∀ j, j < n → l.getD (a + j) 0 = l.getD a 0) → ∀ j, j < eqF l a most f n → l.getD (a + j) 0 = l.getD a 0
  | 0, n, h => h
  | f + 1, n, h => by
    simp only [eqF]
    split
    · rename_i g
      refine eqF_same f (n + 1) fun j hj => ?_
      rcases Nat.lt_succ_iff_lt_or_eq.1 hj with h1 | rfl
      · exact h j h1
      · exact g.2.2
    · exact h
theorem sm_same {l : List Int} {a j : Nat} (h : j < sm l a) : l.getD (a + j) 0 = l.getD a 0 := eqF_same _ 1 (fun j hj => by rw [show j = 0 by omega]; rfl) j h
theorem seg_same {l : List Int} {a n : Nat} (h : a + n ≤ l.length) (hs : ∀ j, j < n → l.getD (a + j) 0 = l.getD a 0) : seg l a n = List.replicate n (l.getD a 0) := by
  refine List.ext_getElem (by rw [seg_len h, List.length_replicate]) fun i h1 h2 => ?_
  rw [List.length_replicate] at h2
  have h3 := hs i h2
  rw [List.getD_eq_getElem?_getD, List.getElem?_eq_getElem (show a + i < l.length by omega), Option.getD_some] at h3
  simp only [seg, List.getElem_take, List.getElem_drop, List.getElem_replicate]
  exact h3
theorem take_seg {l : List Int} {a n : Nat} (h : a + n ≤ l.length) : l.take a ++ seg l a n = l.take (a + n) := by
  unfold seg
  rw [List.take_add]
theorem packF_pre {l : List Int} {z : Nat} : ∀ (f a : Nat) (out : List Int), ∃ r, packF l z f a out = out ++ r
  | 0, a, out => ⟨[], by simp [packF]⟩
  | f + 1, a, out => by
    by_cases h : a < l.length
    · rw [packF_step h]
      obtain ⟨r, hr⟩ := packF_pre f (a + pkN l a) (out ++ [((pkH l a : Nat) : Int)] ++ les z (seg l a (pkK l a)))
      exact ⟨[((pkH l a : Nat) : Int)] ++ les z (seg l a (pkK l a)) ++ r, by rw [hr]; simp⟩
    · rw [packF_stop h]
      exact ⟨[], by simp⟩
end Go.Proofs.Ytdkhjcmhjlbpaaa.G
