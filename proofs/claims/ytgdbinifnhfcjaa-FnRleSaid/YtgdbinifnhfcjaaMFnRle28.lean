/- Texts of one law put together (wip/merge2.py). -/
import Derived.Test.YtgdbinifnhfcjaaMFnRle27
import Derived.Test.YtgdbinifnhfcjaaMFnRle6
import Derived.Test.YtgdbinifnhfcjaaWWords
/- What RlePut wrote, RleGet reads back. -/
set_option linter.unusedVariables false
set_option linter.unusedSimpArgs false
namespace Go.Proofs.Ytgdbinifnhfcjaa.Pure
open Go.RowKit Go.Proofs.Ytgdbinifnhfcjaa.P Go.Proofs.Ytgdbinifnhfcjaa.Lib Go.Proofs.YtgdbinifnhfcjaaW.PrintWords Go.Proofs.YtgdbinifnhfcjaaW.PrintLast Go.Proofs.YtgdbinifnhfcjaaW.PrintMore
/-- From p on the text is l, to its end. -/
def tail (s : ByteArray) (p : Nat) (l : List Int) : Prop := p + l.length = s.size ∧ ∀ k (h : k < l.length), (bN s (p + k) : Int) = l[k]
theorem tail_two {s : ByteArray} {p : Nat} {a b : Int} {l : List Int} (h : tail s p (a :: b :: l)) : p + 2 ≤ s.size ∧ (bN s p : Int) = a ∧ (bN s (p + 1) : Int) = b ∧ tail s (p + 2) l := by
  obtain ⟨h1, h2⟩ := h
  simp only [List.length_cons] at h1
  refine ⟨by omega, h2 0 (by simp), h2 1 (by simp), by omega, fun k hk => ?_⟩
  have := h2 (k + 2) (by simp only [List.length_cons]; omega)
  rw [show p + (k + 2) = p + 2 + k by omega] at this
  exact this
/-- A row of which x numbers are written. -/
def part (row : List Int) (x : Nat) : List Int := row.take x ++ List.replicate (row.length - x) 0
theorem part_length (row : List Int) (x : Nat) (h : x ≤ row.length) : (part row x).length = row.length := by
  unfold part
  rw [List.length_append, List.length_take, List.length_replicate]
  omega
theorem part_set (row : List Int) (x : Nat) (h : x < row.length) : (part row x).set x row[x] = part row (x + 1) := by
  unfold part
  have hl : (row.take x).length = x := by rw [List.length_take]; omega
  rw [List.set_append_right _ _ (by omega), hl, Nat.sub_self, show row.length - x = (row.length - (x + 1)) + 1 by omega, List.replicate_succ, List.set_cons_zero, List.take_succ_eq_append_getElem h, List.append_assoc]
  rfl
theorem part_all (row : List Int) : part row row.length = row := by
  unfold part
  simp
theorem part_none (row : List Int) : part row 0 = List.replicate row.length 0 := by
  unfold part
  simp
theorem rd_get (row : List Int) (x : Nat) (h : x < row.length) : rd row (x : Int) = row[x] := by
  unfold rd
  rw [Int.toNat_natCast, List.getD_eq_getElem?_getD, List.getElem?_eq_getElem h, Option.getD_some]
theorem getD_mid (A B : List (List Int)) (c : List Int) : (A ++ c :: B).getD A.length [] = c := by
  rw [List.getD_eq_getElem?_getD, List.getElem?_append_right (by omega), Nat.sub_self]
  rfl
theorem can_mid (A B : List (List Int)) (row : List Int) (x : Nat) (h : x < row.length) : canPut (A ++ part row x :: B) x A.length = true := by
  unfold canPut
  rw [getD_mid, part_length row x (by omega), decide_eq_true (by rw [List.length_append, List.length_cons]; omega), decide_eq_true h]
  rfl
theorem put_mid (A B : List (List Int)) (row : List Int) (x : Nat) (h : x < row.length) : putR (A ++ part row x :: B) x A.length row[x] = A ++ part row (x + 1) :: B := by
  unfold putR
  rw [getD_mid, part_set row x h, set_here]
theorem putL_mid (A B : List (List Int)) (row : List Int) (v : Int) (n : Nat) : ∀ x, x + n ≤ row.length → (∀ k, k < n → rd row ((x + k : Nat) : Int) = v) → putL (List.replicate n v) (A ++ part row x :: B) x A.length = some (A ++ part row (x + n) :: B, x + n) := by
  induction n with
  | zero => intro x h1 h2; rfl
  | succ n ih =>
    intro x h1 h2
    have h : x < row.length := by omega
    have e : v = row[x] := by rw [← rd_get row x h]; exact (h2 0 (by omega)).symm
    rw [List.replicate_succ]
    simp only [putL]
    rw [if_pos (can_mid A B row x h)]
    rw [show putR (A ++ part row x :: B) x A.length v = A ++ part row (x + 1) :: B by rw [e]; exact put_mid A B row x h]
    rw [ih (x + 1) (by omega) (fun k hk => by rw [show x + 1 + k = x + (k + 1) by omega]; exact h2 (k + 1) (by omega)), show x + 1 + n = x + (n + 1) by omega]
theorem row_back (s : ByteArray) (A B : List (List Int)) (row : List Int) (rest : List Int) (e : Nat) : ∀ (D p x : Nat), s.size < D + p → x ≤ row.length → row.length ≤ x + e → tail s p (rowB row e x ++ rest) →
    ∃ D' p', s.size < D' + p' ∧ tail s p' rest ∧ rleV s D p (A ++ part row x :: B) x A.length = rleV s D' p' (A ++ row :: B) row.length A.length := by
  induction e with
  | zero =>
    intro D p x h1 h2 h3 ht
    obtain rfl : x = row.length := by omega
    rw [part_all]
    exact ⟨D, p, h1, ht, rfl⟩
  | succ e ih =>
    intro D p x h1 h2 h3 ht
    simp only [rowB] at ht
    by_cases h : x < row.length
    · rw [if_pos h] at ht
      have g1 := rn_ge row x
      have g2 := rn_le row x h
      obtain ⟨t1, t2, t3, t4⟩ := tail_two (show tail s p ((rn row x : Int) :: rd row (x : Int) :: (rowB row e (x + rn row x) ++ rest)) from ht)
      have t5 : bN s p = rn row x := by omega
      cases D with
      | zero => omega
      | succ D =>
        obtain ⟨D', p', k1, k2, k3⟩ := ih D (p + 2) (x + rn row x) (by omega) g2 (by omega) t4
        refine ⟨D', p', k1, k2, ?_⟩
        rw [← k3]
        simp only [rleV]
        rw [if_pos t1, if_pos (by omega), t5, t3, putL_mid A B row _ (rn row x) x g2 (rn_same row x)]
        rfl
    · rw [if_neg h] at ht
      obtain rfl : x = row.length := by omega
      rw [part_all]
      exact ⟨D, p, h1, ht, rfl⟩
theorem pre_back (s : ByteArray) (W : Nat) (l : List (List Int)) : ∀ (A : List (List Int)) (row : List Int) (D p x : Nat), (∀ r ∈ l, r.length = W) → s.size < D + p → tail s p (preB l) → rleV s D p (A ++ row :: List.replicate l.length (List.replicate W 0)) x A.length = some (A ++ row :: l) := by
  induction l with
  | nil =>
    intro A row D p x hw h1 ht
    obtain ⟨t1, t2, t3, t4⟩ := tail_two ht
    have t5 := t4.1
    simp only [List.length_nil] at t5
    cases D with
    | zero => omega
    | succ D =>
      simp only [rleV]
      rw [if_pos t1, if_neg (by omega), if_neg (by omega), if_pos (by omega), if_neg (by omega)]
      rfl
  | cons r l ih =>
    intro A row D p x hw h1 ht
    obtain ⟨t1, t2, t3, t4⟩ := tail_two (show tail s p (0 :: 0 :: (rowBytes r ++ preB l)) from ht)
    cases D with
    | zero => omega
    | succ D =>
      have hr := hw r List.mem_cons_self
      obtain ⟨D', p', k1, k2, k3⟩ := row_back s (A ++ [row]) (List.replicate l.length (List.replicate W 0)) r (preB l) r.length D (p + 2) 0 (by omega) (by omega) (by omega) t4
      have h9 := ih (A ++ [row]) r D' p' r.length (fun y hy => hw y (List.mem_cons_of_mem _ hy)) k1 k2
      rw [← k3, part_none, hr, List.length_append, List.length_singleton, List.append_assoc] at h9
      simp only [rleV]
      rw [if_pos t1, if_neg (by omega), if_pos (by omega), List.length_cons, List.replicate_succ]
      rw [List.singleton_append, List.append_assoc, List.singleton_append] at h9
      exact h9
theorem rn_small (row : List Int) (hl : row.length ≤ 100) (i : Nat) (h : i < row.length) : (0 : Int) ≤ (rn row i : Int) ∧ (rn row i : Int) ≤ 255 := by
  have := rn_le row i h
  omega
theorem rowB_byte (row : List Int) (hl : row.length ≤ 100) (hb : byteRow row) (d : Nat) : ∀ i, ∀ x ∈ rowB row d i, 0 ≤ x ∧ x ≤ 255 := by
  induction d with
  | zero => intro i x hx; simp [rowB] at hx
  | succ d ih =>
    intro i x hx
    simp only [rowB] at hx
    split at hx
    · rename_i h
      rcases List.mem_append.1 hx with hx | hx
      · simp only [List.mem_cons, List.not_mem_nil, or_false] at hx
        rcases hx with rfl | rfl
        · exact rn_small row hl i h
        · exact hb _ (rd_mem (by omega) (by omega))
      · exact ih _ x hx
    · simp at hx
theorem preB_byte (l : List (List Int)) (hl : ∀ r ∈ l, r.length ≤ 100) (hb : ∀ r ∈ l, byteRow r) : ∀ x ∈ preB l, 0 ≤ x ∧ x ≤ 255 := by
  induction l with
  | nil =>
    intro x hx
    simp only [preB, List.mem_cons, List.not_mem_nil, or_false] at hx
    omega
  | cons r l ih =>
    intro x hx
    simp only [preB] at hx
    rcases List.mem_append.1 hx with hx | hx
    · simp only [List.mem_cons, List.not_mem_nil, or_false] at hx
      omega
    · rcases List.mem_append.1 hx with hx | hx
      · exact rowB_byte r (hl r List.mem_cons_self) (hb r List.mem_cons_self) _ _ x hx
      · exact ih (fun r h => hl r (List.mem_cons_of_mem _ h)) (fun r h => hb r (List.mem_cons_of_mem _ h)) x hx
theorem allB_byte (l : List (List Int)) (hl : ∀ r ∈ l, r.length ≤ 100) (hb : ∀ r ∈ l, byteRow r) : ∀ x ∈ allB l, 0 ≤ x ∧ x ≤ 255 := by
  cases l with
  | nil => exact preB_byte [] hl hb
  | cons r l =>
    intro x hx
    refine preB_byte (r :: l) hl hb x ?_
    rw [preB_ne _ (by simp)]
    exact List.mem_append_right _ hx
theorem preB_length (l : List (List Int)) (m : Nat) (hl : ∀ r ∈ l, r.length ≤ m) : (preB l).length ≤ 2 + (2 * m + 2) * l.length := by
  induction l with
  | nil => simp [preB]
  | cons r l ih =>
    have h1 := ih (fun r h => hl r (List.mem_cons_of_mem _ h))
    have h2 := hl r List.mem_cons_self
    have h3 := rowBytes_length r
    simp only [preB, List.length_append, List.length_cons, List.length_nil, Nat.mul_succ]
    omega
theorem allB_length (l : List (List Int)) (m : Nat) (hl : ∀ r ∈ l, r.length ≤ m) : (allB l).length ≤ 2 + (2 * m + 2) * l.length := by
  cases l with
  | nil => simp [allB]
  | cons r l =>
    have h := preB_length (r :: l) m hl
    rw [preB_ne _ (by simp), List.length_append] at h
    omega
theorem tail_str (l : List Int) (hl : ∀ x ∈ l, 0 ≤ x ∧ x ≤ 255) : tail (strOfNums l) 0 l := by
  refine ⟨by rw [strOfNums_size]; omega, fun k hk => ?_⟩
  have h := hl _ (List.getElem_mem hk)
  rw [Nat.zero_add, ← bN_int, strOfNums_at l k hk h.1 h.2]
/-- Rows of bytes, all of one width, are read back as they were written. -/
theorem rle_back (rows : List (List Int)) (W : Nat) (hW : W ≤ 7) (hr : rows.length ≤ 100) (hw : ∀ r ∈ rows, r.length = W) (hb : ∀ r ∈ rows, byteRow r) (h0 : rows = [] → W = 0) : rleR (strOfNums (allB rows)) (W : Int) (rows.length : Int) = some rows := by
  have hl : ∀ r ∈ rows, r.length ≤ 100 := fun r h => by have := hw r h; omega
  have hT := tail_str (allB rows) (allB_byte rows hl hb)
  have hz := allB_length rows 7 (fun r h => by have := hw r h; omega)
  have hs : (strOfNums (allB rows)).size = (allB rows).length := strOfNums_size _
  unfold rleR
  rw [if_pos ⟨by omega, by omega, by omega⟩, Int.toNat_natCast, Int.toNat_natCast]
  generalize strOfNums (allB rows) = s at hT hs
  cases rows with
  | nil =>
    obtain ⟨t1, t2, t3, t4⟩ := tail_two hT
    have t5 := t4.1
    simp only [List.length_nil] at t5
    simp only [rleV]
    rw [if_pos t1, if_neg (by omega), if_neg (by omega), if_pos (by omega), if_neg (by omega)]
    rfl
  | cons r l =>
    have hr1 := hw r List.mem_cons_self
    obtain ⟨D', p', k1, k2, k3⟩ := row_back s [] (List.replicate l.length (List.replicate W 0)) r (preB l) r.length (s.size + 1) 0 0 (by omega) (by omega) (by omega) hT
    have h9 := pre_back s W l [] r D' p' r.length (fun y hy => hw y (List.mem_cons_of_mem _ hy)) k1 k2
    rw [← k3, part_none, hr1] at h9
    exact h9
/-- What is drawn for RlePut: rows of one width, or such of which the first bears one number more that is no byte. -/
def rleDrawn (rows : List (List Int)) : Prop := rows.length ≤ 4 ∧ ∃ W, W ≤ 6 ∧ ((∀ r ∈ rows, r.length = W) ∨ ∃ r l, rows = (r ++ [256]) :: l ∧ r.length = W ∧ ∀ x ∈ l, x.length = W)
/-- The law's sense: both write the same text; if it is not empty, it is read back. -/
theorem rle_law (rows : List (List Int)) (hd : rleDrawn rows) : ∃ s : ByteArray, Ok (fun k => impl_RlePut.f k rows) (· = s) ∧ Ok (fun k => spec_RlePut.f k rows) (· = s) ∧ (s = (⟨#[]⟩ : ByteArray) ∨ rleR s ((if 0 < rows.length then (rows.getD 0 []).length else 0 : Nat) : Int) (rows.length : Int) = some rows) := by
  obtain ⟨h1, W, hW, h2⟩ := hd
  have hok : rowsOk rows := by
    refine ⟨by omega, fun r hr => ?_⟩
    rcases h2 with h2 | ⟨q, l, rfl, h3, h4⟩
    · have := h2 r hr; omega
    · rcases List.mem_cons.1 hr with rfl | hr
      · rw [List.length_append, List.length_singleton]; omega
      · have := h4 r hr; omega
  obtain ⟨s, a, b, c⟩ := rleput_both rows hok
  refine ⟨s, a, b, ?_⟩
  rcases c with ⟨hb, rfl⟩ | rfl
  · right
    rcases h2 with h2 | ⟨q, l, rfl, h3, h4⟩
    · cases rows with
      | nil => exact rle_back [] 0 (by omega) (by simp) (fun r h => by simp at h) hb (fun _ => rfl)
      | cons r l =>
        have e : (if 0 < (r :: l).length then ((r :: l).getD 0 []).length else 0) = W := by
          rw [if_pos (by simp)]
          exact h2 r List.mem_cons_self
        rw [e]
        exact rle_back (r :: l) W (by omega) (by omega) h2 hb (fun h => by simp at h)
    · have h5 := hb (q ++ [256]) List.mem_cons_self 256 (by simp)
      omega
  · exact .inl rfl
end Go.Proofs.Ytgdbinifnhfcjaa.Pure
/- A row of one's own, cut in front, is one's own. -/
set_option linter.unusedVariables false
set_option linter.unusedSimpArgs false
namespace Go.Proofs.Ytgdbinifnhfcjaa.P
open Go.RowKit Go.Proofs.YtgdbinifnhfcjaaW.PrintWords
theorem reps_take {α : Type} {R : α → List Value → Prop} {size : Nat} {ps : List α} {cs : List Value} (h : Reps R size ps cs) (m : Nat) (hm : m ≤ ps.length) : Reps R size (ps.take m) (cs.take (m * size)) := by
  obtain ⟨h1, h2⟩ := h
  have hle : m * size ≤ ps.length * size := Nat.mul_le_mul_right _ hm
  refine ⟨by rw [List.length_take, List.length_take, Nat.min_eq_left hm, Nat.min_eq_left (by omega)], fun j p hj => ?_⟩
  rw [List.getElem?_take] at hj
  split at hj
  · rename_i hlt
    have e : ((cs.take (m * size)).drop (j * size)).take size = (cs.drop (j * size)).take size := by
      have hs : j * size + size ≤ m * size := by rw [← Nat.succ_mul]; exact Nat.mul_le_mul_right _ hlt
      rw [List.drop_take, List.take_take, Nat.min_eq_left (by omega)]
    rw [e]
    exact h2 j p hj
  · cases hj
theorem R_take {α : Type} {d : Kd α} {e : Nat} {w : World} {base : Nat} {ok : Nat → Prop} {A : Option Addr} {n cap : Nat} {xs : List α} (h : d.R e w base ok (.slice A n cap) xs) (m : Nat) (hm : m ≤ xs.length) : d.R e w base ok (.slice A m cap) (xs.take m) := by
  have eo : (Value.slice A m cap).ownBlock = (Value.slice A n cap).ownBlock := by cases A <;> rfl
  obtain ⟨h0, inner, ⟨hlen, ho⟩, hr⟩ := h
  have hl : (xs.take m).length = m := by rw [List.length_take]; omega
  have hle : m * d.sz ≤ xs.length * d.sz := Nat.mul_le_mul_right _ hm
  refine ⟨fun k hk => h0 k (by rw [← eo]; exact hk), inner.take (m * d.sz), ⟨by rw [List.length_take, hl]; omega, ?_⟩, ?_⟩
  · rcases ho with ⟨hv, hz⟩ | ⟨g, cap', cur, hv, hg, hb, hnc, hcm, hsz, htk⟩
    · injection hv with ha hn hc
      subst ha hc
      have : m = 0 := by omega
      subst this
      exact .inl ⟨rfl, by rw [hl]⟩
    · injection hv with ha hn hc
      subst ha hc
      refine .inr ⟨g, cap, cur, by rw [hl], hg, hb, by omega, hcm, hsz, ?_⟩
      rw [hl, ← htk, List.take_take, Nat.min_eq_left hle]
  · rw [eo]
    exact reps_take hr m hm
end Go.Proofs.Ytgdbinifnhfcjaa.P
