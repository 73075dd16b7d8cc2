/- What the law FnExactGifPut needs, out of the texts Ws Mi Zb Wt. -/
import Derived.Test.YtjefdcbljpkmlaaKFnExactGifPut13
import Derived.Test.YtjefdcbljpkmlaaKFnExactGifPut15
section
set_option linter.unusedVariables false
set_option maxRecDepth 10000
namespace Go.Proofs.Ytjefdcbljpkmlaa.G
open Go
/-- Numbers that fit into so many bytes. -/
def fits (z : Nat) (cs : List Int) : Prop := ∀ x ∈ cs, 0 ≤ x ∧ x < ((256 ^ z : Nat) : Int)
theorem fits_at {z : Nat} {cs : List Int} (h : fits z cs) {i : Nat} (g : i < cs.length) : 0 ≤ cs.getD i 0 ∧ cs.getD i 0 < ((256 ^ z : Nat) : Int) := h _ (by rw [List.getD_eq_getElem?_getD, List.getElem?_eq_getElem g]; exact List.getElem_mem g)
end Go.Proofs.Ytjefdcbljpkmlaa.G
end

section
set_option linter.unusedVariables false
namespace Go.Proofs.Ytjefdcbljpkmlaa.G
open Go
def seg (l : List Int) (a n : Nat) : List Int := (l.drop a).take n
theorem seg_len {l : List Int} {a n : Nat} (h : a + n ≤ l.length) : (seg l a n).length = n := by simp [seg]; omega
theorem seg_mem {l : List Int} {a n : Nat} {x : Int} (h : x ∈ seg l a n) : x ∈ l := List.mem_of_mem_drop (List.mem_of_mem_take h)
theorem LS.row {b n c m : Nat} {t : TypeId} {zs : List Int} (hn : n = zs.length) (hc : n ≤ c) : LS (some ⟨b, 0, none⟩) n c (b, .row t (ints zs) m) zs := by
  subst hn
  exact ⟨rfl, hc, .inr ⟨0, rfl, by simp [cellsG, ints], by simp [cellsG]; rw [List.take_of_length_le (by simp [ints])]⟩⟩
end Go.Proofs.Ytjefdcbljpkmlaa.G
end

section
set_option linter.unusedVariables false
set_option linter.unusedSimpArgs false
namespace Go.Proofs.Ytjefdcbljpkmlaa.G
open Go
/-- A byte of bits, from a place on. -/
def byB (wide : Bool) (bs : List Nat) (j : Nat) : Nat :=
  if wide then bs.getD j 0 * 128 + bs.getD (j + 1) 0 * 64 + bs.getD (j + 2) 0 * 32 + bs.getD (j + 3) 0 * 16 + bs.getD (j + 4) 0 * 8 + bs.getD (j + 5) 0 * 4 + bs.getD (j + 6) 0 * 2 + bs.getD (j + 7) 0
  else bs.getD j 0 + bs.getD (j + 1) 0 * 2 + bs.getD (j + 2) 0 * 4 + bs.getD (j + 3) 0 * 8 + bs.getD (j + 4) 0 * 16 + bs.getD (j + 5) 0 * 32 + bs.getD (j + 6) 0 * 64 + bs.getD (j + 7) 0 * 128
def packN (n : Nat) : Nat := (n + 7) / 8
/-- All bytes of bits. -/
def packB (wide : Bool) (bs : List Nat) : List Int := (List.range (packN bs.length)).map fun j => ((byB wide bs (8 * j) : Nat) : Int)
theorem packB_len (wide : Bool) (bs : List Nat) : (packB wide bs).length = packN bs.length := by simp [packB]
def bin (bs : List Nat) : Prop := ∀ x ∈ bs, x ≤ 1
theorem bin_at {bs : List Nat} (h : bin bs) (i : Nat) : bs.getD i 0 ≤ 1 := by
  rw [List.getD_eq_getElem?_getD]
  cases hi : bs[i]? with
  | none => simp
  | some x => exact h x (List.mem_of_getElem? hi)
theorem byB_le {wide : Bool} {bs : List Nat} (h : bin bs) (j : Nat) : byB wide bs j ≤ 255 := by
  have h0 := bin_at h j
  have h1 := bin_at h (j + 1)
  have h2 := bin_at h (j + 2)
  have h3 := bin_at h (j + 3)
  have h4 := bin_at h (j + 4)
  have h5 := bin_at h (j + 5)
  have h6 := bin_at h (j + 6)
  have h7 := bin_at h (j + 7)
  unfold byB
  split <;> omega
/-- Where a bit stands in its byte. -/
def plc (wide : Bool) (i : Nat) : Nat := if wide then 7 - i else i
theorem getD_snoc (bs : List Nat) (b i : Nat) : (bs ++ [b]).getD i 0 = if i = bs.length then b else bs.getD i 0 := by
  rw [List.getD_eq_getElem?_getD, List.getD_eq_getElem?_getD]
  rcases Nat.lt_trichotomy i bs.length with h | h | h
  · rw [List.getElem?_append_left h, if_neg (by omega)]
  · subst h
    simp
  · rw [if_neg (by omega), List.getElem?_eq_none (by simp; omega), List.getElem?_eq_none (by omega)]
theorem getD_far {bs : List Nat} {i : Nat} (h : bs.length ≤ i) : bs.getD i 0 = 0 := by
  rw [List.getD_eq_getElem?_getD, List.getElem?_eq_none h]
  rfl
theorem byB_snoc_ne {wide : Bool} {bs : List Nat} {b j : Nat} (h : 8 * j + 7 < bs.length ∨ bs.length < 8 * j) : byB wide (bs ++ [b]) (8 * j) = byB wide bs (8 * j) := by
  unfold byB
  simp only [getD_snoc]
  rw [if_neg (show ¬ 8 * j = bs.length by omega), if_neg (show ¬ 8 * j + 1 = bs.length by omega), if_neg (show ¬ 8 * j + 2 = bs.length by omega), if_neg (show ¬ 8 * j + 3 = bs.length by omega), if_neg (show ¬ 8 * j + 4 = bs.length by omega), if_neg (show ¬ 8 * j + 5 = bs.length by omega), if_neg (show ¬ 8 * j + 6 = bs.length by omega), if_neg (show ¬ 8 * j + 7 = bs.length by omega)]
theorem byB_snoc {wide : Bool} {bs : List Nat} {b : Nat} : byB wide (bs ++ [b]) (8 * (bs.length / 8)) = byB wide bs (8 * (bs.length / 8)) + b * 2 ^ plc wide (bs.length % 8) := by
  obtain ⟨q, r, hq, hr, hl⟩ : ∃ q r, q = bs.length / 8 ∧ r = bs.length % 8 ∧ bs.length = 8 * q + r := ⟨_, _, rfl, rfl, by omega⟩
  have hr8 : r < 8 := by omega
  rw [← hq, ← hr]
  have hz : ∀ i, r ≤ i → bs.getD (8 * q + i) 0 = 0 := fun i hi => getD_far (by omega)
  have hs : ∀ i, (bs ++ [b]).getD (8 * q + i) 0 = if i = r then b else bs.getD (8 * q + i) 0 := fun i => by
    rw [getD_snoc]
    by_cases h : i = r
    · rw [if_pos h, if_pos (by omega)]
    · rw [if_neg h, if_neg (by omega)]
  have s0 := hs 0
  have h0 := hz 0
  have h1 := hz 1
  have h2 := hz 2
  have h3 := hz 3
  have h4 := hz 4
  have h5 := hz 5
  have h6 := hz 6
  have h7 := hz 7
  simp only [Nat.add_zero] at h0 s0
  unfold byB plc
  rw [s0, hs 1, hs 2, hs 3, hs 4, hs 5, hs 6, hs 7]
  clear hz hs s0
  generalize bs.getD (8 * q) 0 = x0 at *
  generalize bs.getD (8 * q + 1) 0 = x1 at *
  generalize bs.getD (8 * q + 2) 0 = x2 at *
  generalize bs.getD (8 * q + 3) 0 = x3 at *
  generalize bs.getD (8 * q + 4) 0 = x4 at *
  generalize bs.getD (8 * q + 5) 0 = x5 at *
  generalize bs.getD (8 * q + 6) 0 = x6 at *
  generalize bs.getD (8 * q + 7) 0 = x7 at *
  clear hq hr hl
  have hc : r = 0 ∨ r = 1 ∨ r = 2 ∨ r = 3 ∨ r = 4 ∨ r = 5 ∨ r = 6 ∨ r = 7 := by omega
  rcases hc with rfl | rfl | rfl | rfl | rfl | rfl | rfl | rfl <;> cases wide <;> simp <;> omega
/-- One bit more. -/
theorem packB_snoc {wide : Bool} {bs : List Nat} {b : Nat} :
    packB wide (bs ++ [b]) = ((if bs.length % 8 = 0 then packB wide bs ++ [0] else packB wide bs).set (bs.length / 8) ((byB wide bs (8 * (bs.length / 8)) + b * 2 ^ plc wide (bs.length % 8) : Nat) : Int)) := by
  apply List.ext_getElem?
  intro i
  have hL : (packB wide (bs ++ [b])).length = packN (bs.length + 1) := by rw [packB_len]; simp
  have hM : (if bs.length % 8 = 0 then packB wide bs ++ [(0 : Int)] else packB wide bs).length = packN (bs.length + 1) := by
    split
    · rw [List.length_append, packB_len]; simp [packN]; omega
    · rw [packB_len]; simp only [packN]; omega
  by_cases hi : i < packN (bs.length + 1)
  · have e1 : (packB wide (bs ++ [b]))[i]? = some ((byB wide (bs ++ [b]) (8 * i) : Nat) : Int) := by
      unfold packB
      rw [List.getElem?_map, List.getElem?_range (by simp; exact hi)]
      rfl
    rw [e1, List.getElem?_set, hM]
    by_cases he : bs.length / 8 = i
    · subst he
      rw [if_pos rfl, if_pos hi, byB_snoc]
    · rw [if_neg he]
      simp only [packN] at hi
      have hlt : i < packN bs.length := by simp only [packN]; omega
      have e2 : (packB wide bs)[i]? = some ((byB wide bs (8 * i) : Nat) : Int) := by
        unfold packB
        rw [List.getElem?_map, List.getElem?_range hlt]
        rfl
      rw [byB_snoc_ne (by simp only [packN] at hlt; omega)]
      split
      · rw [List.getElem?_append_left (by rw [packB_len]; exact hlt), e2]
      · rw [e2]
  · rw [List.getElem?_eq_none (by rw [hL]; omega), List.getElem?_eq_none (by rw [List.length_set, hM]; omega)]
/-- The last byte as it stands. -/
theorem packB_last {wide : Bool} {bs : List Nat} : (if bs.length % 8 = 0 then packB wide bs ++ [(0 : Int)] else packB wide bs).getD (bs.length / 8) 0 = ((byB wide bs (8 * (bs.length / 8)) : Nat) : Int) := by
  rw [List.getD_eq_getElem?_getD]
  split
  · rename_i h
    have hz : byB wide bs (8 * (bs.length / 8)) = 0 := by
      unfold byB
      simp only [getD_far (bs := bs) (show bs.length ≤ 8 * (bs.length / 8) by omega), getD_far (bs := bs) (show bs.length ≤ 8 * (bs.length / 8) + 1 by omega), getD_far (bs := bs) (show bs.length ≤ 8 * (bs.length / 8) + 2 by omega), getD_far (bs := bs) (show bs.length ≤ 8 * (bs.length / 8) + 3 by omega), getD_far (bs := bs) (show bs.length ≤ 8 * (bs.length / 8) + 4 by omega), getD_far (bs := bs) (show bs.length ≤ 8 * (bs.length / 8) + 5 by omega), getD_far (bs := bs) (show bs.length ≤ 8 * (bs.length / 8) + 6 by omega), getD_far (bs := bs) (show bs.length ≤ 8 * (bs.length / 8) + 7 by omega)]
      simp
    have hl : (packB wide bs).length = bs.length / 8 := by rw [packB_len, packN]; omega
    rw [hz, List.getElem?_append_right (by omega), hl]
    simp
  · rename_i h
    have : bs.length / 8 < packN bs.length := by rw [packN]; omega
    unfold packB
    rw [List.getElem?_map, List.getElem?_range this]
    rfl
theorem packB_ln {wide : Bool} {bs : List Nat} : (if bs.length % 8 = 0 then packB wide bs ++ [(0 : Int)] else packB wide bs).length = bs.length / 8 + 1 := by
  split
  · rw [List.length_append, packB_len]; simp [packN]; omega
  · rw [packB_len]; simp only [packN]; omega
/-- The byte before a bit comes to it is free there. -/
theorem byB_free {wide : Bool} {bs : List Nat} (h : bin bs) : byB wide bs (8 * (bs.length / 8)) / 2 ^ plc wide (bs.length % 8) % 2 = 0 ∧ byB wide bs (8 * (bs.length / 8)) + 2 ^ plc wide (bs.length % 8) ≤ 255 := by
  obtain ⟨q, r, hq, hr, hl⟩ : ∃ q r, q = bs.length / 8 ∧ r = bs.length % 8 ∧ bs.length = 8 * q + r := ⟨_, _, rfl, rfl, by omega⟩
  have hr8 : r < 8 := by omega
  rw [← hq, ← hr]
  have hz : ∀ i, r ≤ i → bs.getD (8 * q + i) 0 = 0 := fun i hi => getD_far (by omega)
  have hb : ∀ i, bs.getD (8 * q + i) 0 ≤ 1 := fun i => bin_at h _
  have h0 := hz 0
  have h1 := hz 1
  have h2 := hz 2
  have h3 := hz 3
  have h4 := hz 4
  have h5 := hz 5
  have h6 := hz 6
  have h7 := hz 7
  have b0 := hb 0
  have b1 := hb 1
  have b2 := hb 2
  have b3 := hb 3
  have b4 := hb 4
  have b5 := hb 5
  have b6 := hb 6
  have b7 := hb 7
  simp only [Nat.add_zero] at h0 b0
  unfold byB plc
  clear hz hb
  generalize bs.getD (8 * q) 0 = x0 at *
  generalize bs.getD (8 * q + 1) 0 = x1 at *
  generalize bs.getD (8 * q + 2) 0 = x2 at *
  generalize bs.getD (8 * q + 3) 0 = x3 at *
  generalize bs.getD (8 * q + 4) 0 = x4 at *
  generalize bs.getD (8 * q + 5) 0 = x5 at *
  generalize bs.getD (8 * q + 6) 0 = x6 at *
  generalize bs.getD (8 * q + 7) 0 = x7 at *
  clear hq hr hl h
  have hc : r = 0 ∨ r = 1 ∨ r = 2 ∨ r = 3 ∨ r = 4 ∨ r = 5 ∨ r = 6 ∨ r = 7 := by omega
  rcases hc with rfl | rfl | rfl | rfl | rfl | rfl | rfl | rfl <;> cases wide <;> simp <;> omega
theorem or_free : ∀ x, x < 256 → ∀ p, p < 8 → x / 2 ^ p % 2 = 0 → x ||| 2 ^ p = x + 2 ^ p := by decide +kernel
/-- The bits of a number, in order. -/
def vbit (wide : Bool) (v z k : Nat) : Nat := v / 2 ^ (if wide then z - 1 - k else k) % 2
def vbits (wide : Bool) (v z n : Nat) : List Nat := (List.range n).map (vbit wide v z)
theorem vbits_succ (wide : Bool) (v z n : Nat) : vbits wide v z (n + 1) = vbits wide v z n ++ [vbit wide v z n] := by simp [vbits, List.range_succ]
theorem vbits_len (wide : Bool) (v z n : Nat) : (vbits wide v z n).length = n := by simp [vbits]
theorem vbits_bin (wide : Bool) (v z n : Nat) : bin (vbits wide v z n) := by
  intro x hx
  obtain ⟨k, _, rfl⟩ := List.mem_map.1 hx
  unfold vbit
  omega
theorem bin_app {a b : List Nat} (ha : bin a) (hb : bin b) : bin (a ++ b) := fun x hx => (List.mem_append.1 hx).elim (ha x) (hb x)
/-- The bits of numbers, each of its size. -/
def lbits (wide : Bool) (l : List (Nat × Nat)) : List Nat := l.flatMap fun x => vbits wide x.1 x.2 x.2
theorem lbits_snoc (wide : Bool) (l : List (Nat × Nat)) (x : Nat × Nat) : lbits wide (l ++ [x]) = lbits wide l ++ vbits wide x.1 x.2 x.2 := by simp [lbits]
theorem lbits_bin (wide : Bool) (l : List (Nat × Nat)) : bin (lbits wide l) := by
  intro x hx
  obtain ⟨y, _, hy⟩ := List.mem_flatMap.1 hx
  exact vbits_bin _ _ _ _ x hy
def sumZ (l : List (Nat × Nat)) : Nat := (l.map (·.2)).sum
theorem sumZ_snoc (l : List (Nat × Nat)) (x : Nat × Nat) : sumZ (l ++ [x]) = sumZ l + x.2 := by simp [sumZ]
theorem lbits_len (wide : Bool) : ∀ l : List (Nat × Nat), (lbits wide l).length = sumZ l
  | [] => rfl
  | x :: l => by
    have := lbits_len wide l
    simp only [lbits, sumZ, List.flatMap_cons, List.length_append, vbits_len, List.map_cons, List.sum_cons] at this ⊢
    omega
end Go.Proofs.Ytjefdcbljpkmlaa.G
end

section
set_option linter.unusedVariables false
set_option maxRecDepth 10000
namespace Go.Proofs.Ytjefdcbljpkmlaa.G
open Go
theorem LS.part {a1 : Option Addr} {n1 c1 : Nat} {q1 : Nat × GO} {l : List Int} (h : LS a1 n1 c1 q1 l) {a n : Nat} (hn : a + n ≤ l.length) (hn1 : 1 ≤ n) : ∃ o, a1 = some ⟨q1.1, o, none⟩ ∧ LS (some ⟨q1.1, o + a * 1, none⟩) n (c1 - a) q1 (seg l a n) := by
  obtain ⟨h1, h2, ⟨rfl, h3⟩ | ⟨o, rfl, h4, h5⟩⟩ := h
  · omega
  · refine ⟨o, rfl, by simp [seg]; omega, by omega, .inr ⟨o + a * 1, rfl, by simp [seg]; omega, ?_⟩⟩
    have e : (seg l a n).length = n := by simp [seg]; omega
    rw [e]
    have : ((cellsG q1.2).drop (o + a * 1)).take n = ((((cellsG q1.2).drop o).take l.length).drop a).take n := by
      rw [List.drop_take, List.drop_drop, List.take_take, Nat.mul_one]
      congr 1
      omega
    rw [this, h5]
    simp [seg, ints, List.map_take, List.map_drop]
end Go.Proofs.Ytjefdcbljpkmlaa.G
end
