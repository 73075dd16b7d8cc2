/- Texts of one law put together (wip/merge2.py). -/
import Derived.Test.YtgdbinifnhfcjaaMFnRle26
import Derived.Test.YtgdbinifnhfcjaaMFnRle23
/- impl.RlePut and spec.RlePut: both write the same bytes, or nothing where a number is no byte. -/
set_option linter.unusedVariables false
set_option linter.unusedSimpArgs false
namespace Go.Proofs.Ytgdbinifnhfcjaa.Pure
open Go.RowKit Go.Proofs.Ytgdbinifnhfcjaa.P Go.Proofs.Ytgdbinifnhfcjaa.Lib Go.Proofs.YtgdbinifnhfcjaaW.PrintWords Go.Proofs.YtgdbinifnhfcjaaW.PrintLast Go.Proofs.YtgdbinifnhfcjaaW.PrintMore
/-- How many are the same from i on, n of them known. -/
def runF (row : List Int) (i : Nat) : Nat → Nat → Nat
  | 0, n => n
  | d + 1, n => if i + n < row.length ∧ rd row ((i + n : Nat) : Int) = rd row (i : Int) then runF row i d (n + 1) else n
def rn (row : List Int) (i : Nat) : Nat := runF row i row.length 1
theorem runF_le (row : List Int) (i d : Nat) : ∀ n, n ≤ runF row i d n ∧ (i + n ≤ row.length → i + runF row i d n ≤ row.length) := by
  induction d with
  | zero => intro n; exact ⟨Nat.le_refl _, fun h => h⟩
  | succ d ih =>
    intro n
    simp only [runF]
    split
    · rename_i h
      have := ih (n + 1)
      exact ⟨by omega, fun _ => this.2 (by omega)⟩
    · exact ⟨Nat.le_refl _, fun h => h⟩
theorem runF_same (row : List Int) (i d : Nat) : ∀ n, (∀ k, k < n → rd row ((i + k : Nat) : Int) = rd row (i : Int)) → ∀ k, k < runF row i d n → rd row ((i + k : Nat) : Int) = rd row (i : Int) := by
  induction d with
  | zero => intro n h; exact h
  | succ d ih =>
    intro n h
    simp only [runF]
    split
    · rename_i hc
      refine ih (n + 1) fun k hk => ?_
      by_cases e : k = n
      · subst e; exact hc.2
      · exact h k (by omega)
    · exact h
theorem rn_ge (row : List Int) (i : Nat) : 1 ≤ rn row i := (runF_le row i _ 1).1
theorem rn_le (row : List Int) (i : Nat) (h : i < row.length) : i + rn row i ≤ row.length := (runF_le row i _ 1).2 (by omega)
theorem rn_same (row : List Int) (i : Nat) : ∀ k, k < rn row i → rd row ((i + k : Nat) : Int) = rd row (i : Int) := by
  refine runF_same row i _ 1 fun k hk => ?_
  have e : k = 0 := by omega
  subst e
  rfl
theorem eq7_at (row : List Int) (hl : row.length ≤ 100) (i : Nat) (hi : i < row.length) (d : Nat) : ∀ (n : Nat), 1 ≤ n → i + n ≤ row.length → row.length ≤ i + n + d → Ok (fun k => spec_l7Equal.l0 k row (i : Int) 255 (n : Int)) (· = (runF row i d n : Int)) := by
  induction d with
  | zero =>
    intro n h1 h2 h3
    refine Ok.succ ?_
    simp only [spec_l7Equal.l0, runF]
    rw [show wrap64 ((i : Int) + n) = ((i + n : Nat) : Int) by rw [w64 (by omega) (by omega)]; omega]
    exact Ok.yes (by omega) (Ok.no (by omega) (Ok.now _ rfl))
  | succ d ih =>
    intro n h1 h2 h3
    refine Ok.succ ?_
    simp only [spec_l7Equal.l0, runF]
    rw [show wrap64 ((i : Int) + n) = ((i + n : Nat) : Int) by rw [w64 (by omega) (by omega)]; omega, inc n (by omega)]
    refine Ok.yes (by omega) (Ok.ite (fun h4 => ?_) (fun h4 => ?_))
    · refine Ok.yes (by omega) (Ok.yes (by omega) (Ok.yes (by omega) (Ok.ite (fun h5 => ?_) (fun h5 => ?_))))
      · rw [if_pos ⟨by omega, h5⟩]
        exact ih (n + 1) (by omega) (by omega) (by omega)
      · rw [if_neg (fun h => h5 h.2)]
        exact Ok.now _ rfl
    · rw [if_neg (fun h => h4 (by omega))]
      exact Ok.now _ rfl
theorem eq7_rn (row : List Int) (hl : row.length ≤ 100) (i : Nat) (hi : i < row.length) : Ok (fun k => spec_l7Equal.f k row (i : Int) 255) (· = (rn row i : Int)) := by
  unfold spec_l7Equal.f
  exact eq7_at row hl i hi row.length 1 (by omega) (by omega) (by omega)
theorem same_at (row : List Int) (hl : row.length ≤ 100) (i : Nat) (hi : i < row.length) (d : Nat) : ∀ (n : Nat), 1 ≤ n → i + n ≤ row.length → row.length ≤ i + n + d → Ok (fun k => impl_same_int.l0 k row (i : Int) (n : Int)) (· = (runF row i d n : Int)) := by
  induction d with
  | zero =>
    intro n h1 h2 h3
    refine Ok.succ ?_
    simp only [impl_same_int.l0, runF]
    rw [show wrap64 ((i : Int) + n) = ((i + n : Nat) : Int) by rw [w64 (by omega) (by omega)]; omega]
    exact Ok.no (by omega) (Ok.now _ rfl)
  | succ d ih =>
    intro n h1 h2 h3
    refine Ok.succ ?_
    simp only [impl_same_int.l0, runF]
    rw [show wrap64 ((i : Int) + n) = ((i + n : Nat) : Int) by rw [w64 (by omega) (by omega)]; omega, inc n (by omega)]
    refine Ok.ite (fun h4 => ?_) (fun h4 => ?_)
    · refine Ok.yes (by omega) (Ok.yes (by omega) (Ok.yes (by omega) (Ok.ite (fun h5 => ?_) (fun h5 => ?_))))
      · rw [if_pos ⟨by omega, h5⟩]
        exact ih (n + 1) (by omega) (by omega) (by omega)
      · rw [if_neg (fun h => h5 h.2)]
        exact Ok.now _ rfl
    · rw [if_neg (fun h => h4 (by omega))]
      exact Ok.now _ rfl
theorem same_rn (row : List Int) (hl : row.length ≤ 100) (i : Nat) (hi : i < row.length) : Ok (fun k => impl_same_int.f k row (i : Int)) (· = (rn row i : Int)) := by
  unfold impl_same_int.f
  exact same_at row hl i hi row.length 1 (by omega) (by omega) (by omega)
/-- A row's bytes, from i on. -/
def rowB (row : List Int) : Nat → Nat → List Int
  | 0, _ => []
  | d + 1, i => if i < row.length then [(rn row i : Int), rd row (i : Int)] ++ rowB row d (i + rn row i) else []
def rowBytes (row : List Int) : List Int := rowB row row.length 0
def byteRow (row : List Int) : Prop := ∀ x ∈ row, 0 ≤ x ∧ x ≤ 255
theorem rowB_length (row : List Int) (d : Nat) : ∀ i, i ≤ row.length → (rowB row d i).length ≤ 2 * (row.length - i) := by
  induction d with
  | zero => intro i hi; simp [rowB]
  | succ d ih =>
    intro i hi
    simp only [rowB]
    split
    · rename_i h
      have h1 := rn_ge row i
      have h2 := rn_le row i h
      have h3 := ih (i + rn row i) h2
      simp only [List.length_append, List.length_cons, List.length_nil]
      omega
    · simp
/-- Two or more lists of bytes behind one another. -/
theorem str_app (a b : List Int) : strOfNums a ++ strOfNums b = strOfNums (a ++ b) := by
  apply ByteArray.ext
  rw [ByteArray.data_append]
  unfold strOfNums
  simp
theorem row7_at (row : List Int) (hl : row.length ≤ 100) (hb : byteRow row) (d : Nat) : ∀ (o : List Int) (i : Nat), o.length + 2 * d ≤ 1000000 → i ≤ row.length → row.length ≤ i + d → Ok (fun k => spec_l7Row.l0 k row (strOfNums o) (i : Int)) (· = strOfNums (o ++ rowB row d i)) := by
  induction d with
  | zero =>
    intro o i ho h0 h1
    refine Ok.succ ?_
    simp only [spec_l7Row.l0, rowB, List.append_nil]
    exact Ok.no (by omega) (Ok.now _ rfl)
  | succ d ih =>
    intro o i ho h0 h1
    refine Ok.succ ?_
    simp only [spec_l7Row.l0, rowB]
    by_cases h : i < row.length
    · rw [if_pos h]
      have g1 := rn_ge row i
      have g2 := rn_le row i h
      have g3 := hb _ (rd_mem (b := row) (i := (i : Int)) (by omega) (by omega))
      refine Ok.yes (by omega) ((eq7_rn row hl i h).bind fun t ht => ?_)
      subst ht
      refine Ok.yes (by omega) (Ok.binds rfl ?_)
      rw [show ((rn row i : Nat) : Int) % 256 = (rn row i : Int) by omega, show rd row (i : Int) % 256 = rd row (i : Int) by omega, show wrap64 ((i : Int) + (rn row i : Int)) = ((i + rn row i : Nat) : Int) by rw [w64 (by omega) (by omega)]; omega, str_app]
      refine Ok.yes (by rw [strOfNums_size, strOfNums_size]; simp only [List.length_cons, List.length_nil]; omega) ?_
      have h9 := ih (o ++ [(rn row i : Int), rd row (i : Int)]) (i + rn row i) (by simp only [List.length_append, List.length_cons, List.length_nil]; omega) g2 (by omega)
      rw [List.append_assoc] at h9
      exact h9
    · rw [if_neg h, List.append_nil]
      exact Ok.no (by omega) (Ok.now _ rfl)
theorem row7_is (row : List Int) (hl : row.length ≤ 100) (hb : byteRow row) : Ok (fun k => spec_l7Row.f k row) (· = strOfNums (rowBytes row)) := by
  unfold spec_l7Row.f
  exact row7_at row hl hb row.length [] 0 (by simp; omega) (by omega) (by omega)
def preB : List (List Int) → List Int
  | [] => [0, 1]
  | r :: l => [0, 0] ++ (rowBytes r ++ preB l)
/-- The bytes of rows. -/
def allB : List (List Int) → List Int
  | [] => [0, 1]
  | r :: l => rowBytes r ++ preB l
def rowsOk (rows : List (List Int)) : Prop := rows.length ≤ 100 ∧ ∀ r ∈ rows, r.length ≤ 100
theorem rowBytes_length (row : List Int) : (rowBytes row).length ≤ 2 * row.length := rowB_length row row.length 0 (by omega)
theorem inr_yes {row : List Int} (hb : byteRow row) (j : Nat) (h : j < row.length) : decide ((0 : Int) ≤ rd row (j : Int) ∧ rd row (j : Int) ≤ 255) = true :=
  decide_eq_true (hb _ (rd_mem (by omega) (by omega)))
theorem srow_good (rows : List (List Int)) (hr : rowsOk rows) (P : ByteArray → Prop) (o : List Int) (ho : o.length ≤ 1000000) (i : Nat) (hi : i < rows.length) (hb : byteRow rows[i])
    (K : Ok (fun k => spec_RlePut.l0 k rows (strOfNums (o ++ rowBytes rows[i] ++ (if i + 1 < rows.length then [0, 0] else []))) ((i + 1 : Nat) : Int)) P) (d : Nat) : ∀ j : Nat, rows[i].length ≤ j + d → j ≤ rows[i].length → Ok (fun k => spec_RlePut.l1 k rows (strOfNums o) (i : Int) (j : Int)) P := by
  have hl := hr.2 _ (List.getElem_mem hi)
  have hn := hr.1
  have done (j : Nat) (hj : rows[i].length ≤ j) : Ok (fun k => spec_RlePut.l1 k rows (strOfNums o) (i : Int) (j : Int)) P := by
    refine Ok.succ ?_
    simp only [spec_RlePut.l1]
    rw [rdL_at rows i hi, inc i (by omega)]
    refine Ok.yes (by omega) (Ok.yes (by omega) (Ok.no (by omega) ((row7_is _ hl hb).bind fun t ht => ?_)))
    subst ht
    have hz := rowBytes_length rows[i]
    rw [str_app]
    refine Ok.yes (by rw [strOfNums_size, strOfNums_size]; omega) (Ok.ite (fun h => Ok.binds rfl ?_) (fun h => ?_))
    · rw [str_app]
      refine Ok.yes (by rw [strOfNums_size, strOfNums_size, List.length_append]; simp only [List.length_cons, List.length_nil]; omega) ?_
      rw [if_pos (by omega)] at K
      exact K
    · rw [if_neg (by omega), List.append_nil] at K
      exact K
  induction d with
  | zero => exact fun j hj _ => done j (by omega)
  | succ d ih =>
    intro j hj hj2
    by_cases h : rows[i].length ≤ j
    · exact done j h
    · refine Ok.succ ?_
      simp only [spec_RlePut.l1]
      rw [rdL_at rows i hi, inc j (by omega)]
      refine Ok.yes (by omega) (Ok.yes (by omega) (Ok.yes (by omega) (Ok.yes (by omega) (Ok.binds (l1in_any _ 0 255) ?_))))
      exact Ok.yes (inr_yes hb j (by omega)) (Ok.no (by omega) (ih (j + 1) (by omega) (by omega)))
theorem preB_ne (l : List (List Int)) (h : l ≠ []) : preB l = [0, 0] ++ allB l := by
  cases l with
  | nil => exact absurd rfl h
  | cons r l => rfl
theorem sput_good (rows : List (List Int)) (hr : rowsOk rows) (hb : ∀ r ∈ rows, byteRow r) (d : Nat) : ∀ (o : List Int) (i : Nat), i + d = rows.length → o.length + 300 * d ≤ 500000 → Ok (fun k => spec_RlePut.l0 k rows (strOfNums o) (i : Int)) (· = strOfNums (o ++ allB (rows.drop i))) := by
  induction d with
  | zero =>
    intro o i h0 ho
    refine Ok.succ ?_
    simp only [spec_RlePut.l0]
    rw [List.drop_eq_nil_of_le (by omega)]
    refine Ok.no (by omega) (Ok.binds rfl ?_)
    rw [str_app]
    exact Ok.yes (by rw [strOfNums_size, strOfNums_size]; simp only [List.length_cons, List.length_nil]; omega) (Ok.now _ rfl)
  | succ d ih =>
    intro o i h0 ho
    have hi : i < rows.length := by omega
    have hl := hr.2 _ (List.getElem_mem hi)
    have hz := rowBytes_length rows[i]
    refine Ok.succ ?_
    simp only [spec_RlePut.l0]
    refine Ok.yes (by omega) (srow_good rows hr _ o (by omega) i hi (hb _ (List.getElem_mem hi)) ?_ rows[i].length 0 (by omega) (by omega))
    have h9 := ih (o ++ rowBytes rows[i] ++ (if i + 1 < rows.length then [0, 0] else [])) (i + 1) (by omega) (by
      rw [List.length_append, List.length_append]
      have : (if i + 1 < rows.length then [(0 : Int), 0] else []).length ≤ 2 := by split <;> simp
      omega)
    have e : o ++ rowBytes rows[i] ++ (if i + 1 < rows.length then [0, 0] else []) ++ allB (rows.drop (i + 1)) = o ++ allB (rows.drop i) := by
      rw [List.drop_eq_getElem_cons hi]
      by_cases h : i + 1 < rows.length
      · rw [if_pos h]
        rw [show allB (rows[i] :: rows.drop (i + 1)) = rowBytes rows[i] ++ preB (rows.drop (i + 1)) from rfl]
        rw [preB_ne _ (fun hn => by have := congrArg List.length hn; simp at this; omega)]
        simp only [List.append_assoc]
      · rw [if_neg h, List.drop_eq_nil_of_le (by omega)]
        simp [allB, preB]
    rw [e] at h9
    exact h9
theorem sput_is (rows : List (List Int)) (hr : rowsOk rows) (hb : ∀ r ∈ rows, byteRow r) : Ok (fun k => spec_RlePut.f k rows) (· = strOfNums (allB rows)) := by
  unfold spec_RlePut.f
  have := hr.1
  exact Ok.no (by omega) (sput_good rows hr hb rows.length [] 0 (by omega) (by simp; omega))
theorem irow_good (rows : List (List Int)) (row : List Int) (hl : row.length ≤ 100) (hb : byteRow row) (P : ByteArray → Prop) (n i : Int) (d : Nat) : ∀ (o : List Int) (at_ : Nat), o.length + 2 * d ≤ 1000000 → at_ ≤ row.length → row.length ≤ at_ + d →
    (Ok (fun k => impl_RlePut.l0 k (o ++ rowB row d at_) rows n (wrap64 (i + 1))) P) → Ok (fun k => impl_RlePut.l1 k o row (at_ : Int) rows n i) P := by
  induction d with
  | zero =>
    intro o j ho h0 h1 K
    refine Ok.succ ?_
    simp only [impl_RlePut.l1]
    simp only [rowB, List.append_nil] at K
    exact Ok.no (by omega) K
  | succ d ih =>
    intro o j ho h0 h1 K
    refine Ok.succ ?_
    simp only [impl_RlePut.l1]
    simp only [rowB] at K
    by_cases h : j < row.length
    · rw [if_pos h] at K
      have g1 := rn_ge row j
      have g2 := rn_le row j h
      have g3 := hb _ (rd_mem (b := row) (i := (j : Int)) (by omega) (by omega))
      refine Ok.yes (by omega) ((same_rn row hl j h).bind fun t ht => ?_)
      subst ht
      have em : mn (rn row j : Int) 255 = (rn row j : Int) := by unfold mn; omega
      rw [em]
      refine Ok.yes (by omega) (Ok.binds (show impl_in.f (rd row (j : Int)) 0 255 = some true by unfold impl_in.f; rw [if_pos (by omega), decide_eq_true (by omega)]) (Ok.yes rfl (Ok.binds rfl ?_)))
      rw [show ((rn row j : Nat) : Int) % 256 = (rn row j : Int) by omega, show rd row (j : Int) % 256 = rd row (j : Int) by omega, show wrap64 ((j : Int) + (rn row j : Int)) = ((j + rn row j : Nat) : Int) by rw [w64 (by omega) (by omega)]; omega]
      refine Ok.yes (by simp only [List.length_cons, List.length_nil]; omega) ?_
      refine ih (o ++ [(rn row j : Int), rd row (j : Int)]) (j + rn row j) (by simp only [List.length_append, List.length_cons, List.length_nil]; omega) g2 (by omega) ?_
      rw [List.append_assoc]
      exact K
    · rw [if_neg h, List.append_nil] at K
      exact Ok.no (by omega) K
theorem iput_good (rows : List (List Int)) (hr : rowsOk rows) (hb : ∀ r ∈ rows, byteRow r) (d : Nat) : ∀ (o : List Int) (i : Nat), i + d = rows.length → o.length + 300 * d ≤ 500000 →
    Ok (fun k => impl_RlePut.l0 k o rows (rows.length : Int) (i : Int)) (· = strOfNums (o ++ (if i = 0 then allB rows else preB (rows.drop i)))) := by
  induction d with
  | zero =>
    intro o i h0 ho
    refine Ok.succ ?_
    simp only [impl_RlePut.l0]
    refine Ok.no (by omega) (Ok.binds rfl (Ok.yes (by simp only [List.length_cons, List.length_nil]; omega) (Ok.now _ ?_)))
    by_cases h : i = 0
    · have hn : rows = [] := List.eq_nil_of_length_eq_zero (by omega)
      rw [if_pos h, hn]
      rfl
    · rw [if_neg h, List.drop_eq_nil_of_le (by omega)]
      rfl
  | succ d ih =>
    intro o i h0 ho
    have hi : i < rows.length := by omega
    have hl := hr.2 _ (List.getElem_mem hi)
    have hn := hr.1
    have hz := rowBytes_length rows[i]
    have hbi := hb _ (List.getElem_mem hi)
    have go (o' : List Int) (ho' : o'.length ≤ o.length + 2) (he : o' ++ rowBytes rows[i] ++ preB (rows.drop (i + 1)) = o ++ (if i = 0 then allB rows else preB (rows.drop i))) : Ok (fun k => impl_RlePut.j1 k o' rows[i] rows (rows.length : Int) (i : Int)) (· = strOfNums (o ++ (if i = 0 then allB rows else preB (rows.drop i)))) := by
      refine Ok.succ ?_
      simp only [impl_RlePut.j1]
      refine irow_good rows rows[i] hl hbi _ _ _ rows[i].length o' 0 (by omega) (by omega) (by omega) ?_
      rw [inc i (by omega)]
      have h9 := ih (o' ++ rowBytes rows[i]) (i + 1) (by omega) (by rw [List.length_append]; omega)
      rw [if_neg (by omega), he] at h9
      exact h9
    refine Ok.succ ?_
    simp only [impl_RlePut.l0]
    rw [rdL_at rows i hi]
    refine Ok.yes (by omega) (Ok.yes (by omega) (Ok.yes (by omega) (Ok.no (by omega) (Ok.ite (fun h => Ok.binds rfl (Ok.yes (by simp only [List.length_cons, List.length_nil]; omega) (go _ (by simp) ?_))) (fun h => go _ (by omega) ?_)))))
    · rw [if_neg (by omega), List.drop_eq_getElem_cons hi]
      simp only [preB, List.append_assoc]
    · obtain rfl : i = 0 := by omega
      rw [if_pos rfl]
      have e : rows = rows[0] :: rows.drop 1 := by
        have := List.drop_eq_getElem_cons (l := rows) (i := 0) hi
        simpa using this
      have e2 : allB rows = rowBytes rows[0] ++ preB (rows.drop 1) := by
        rw [show allB rows = allB (rows[0] :: rows.drop 1) from congrArg allB e]
        rfl
      rw [e2, List.append_assoc]
theorem iput_is (rows : List (List Int)) (hr : rowsOk rows) (hb : ∀ r ∈ rows, byteRow r) : Ok (fun k => impl_RlePut.f k rows) (· = strOfNums (allB rows)) := by
  unfold impl_RlePut.f
  have := hr.1
  exact Ok.no (by omega) (iput_good rows hr hb rows.length [] 0 (by omega) (by simp; omega))
theorem not_byte {row : List Int} (h : ¬ byteRow row) : ∃ k : Nat, k < row.length ∧ ¬ (0 ≤ rd row (k : Int) ∧ rd row (k : Int) ≤ 255) := by
  by_cases hk : ∃ k : Nat, k < row.length ∧ ¬ (0 ≤ rd row (k : Int) ∧ rd row (k : Int) ≤ 255)
  · exact hk
  · refine absurd (fun x hx => ?_) h
    obtain ⟨k, hlt, rfl⟩ := List.getElem_of_mem hx
    have e : rd row (k : Int) = row[k] := by
      unfold rd
      rw [Int.toNat_natCast, List.getD_eq_getElem?_getD, List.getElem?_eq_getElem hlt, Option.getD_some]
    by_cases hq : 0 ≤ rd row (k : Int) ∧ rd row (k : Int) ≤ 255
    · rw [e] at hq; exact hq
    · exact absurd ⟨k, hlt, hq⟩ hk
theorem srow_bad (rows : List (List Int)) (hr : rowsOk rows) (o : ByteArray) (i : Nat) (hi : i < rows.length) (m : Nat) (hm : m < rows[i].length) (hb : ¬ (0 ≤ rd rows[i] (m : Int) ∧ rd rows[i] (m : Int) ≤ 255)) (d : Nat) : ∀ j : Nat, m ≤ j + d → j ≤ m → Ok (fun k => spec_RlePut.l1 k rows o (i : Int) (j : Int)) (· = (⟨#[]⟩ : ByteArray)) := by
  have hl := hr.2 _ (List.getElem_mem hi)
  have hn := hr.1
  have here : Ok (fun k => spec_RlePut.l1 k rows o (i : Int) (m : Int)) (· = (⟨#[]⟩ : ByteArray)) := by
    refine Ok.succ ?_
    simp only [spec_RlePut.l1]
    rw [rdL_at rows i hi]
    refine Ok.yes (by omega) (Ok.yes (by omega) (Ok.yes (by omega) (Ok.yes (by omega) (Ok.binds (l1in_any _ 0 255) ?_))))
    exact Ok.no (by rw [decide_eq_false hb]; decide) (Ok.now _ rfl)
  induction d with
  | zero =>
    intro j h1 h2
    obtain rfl : j = m := by omega
    exact here
  | succ d ih =>
    intro j h1 h2
    by_cases e : j = m
    · rw [e]; exact here
    · refine Ok.succ ?_
      simp only [spec_RlePut.l1]
      rw [rdL_at rows i hi, inc j (by omega)]
      refine Ok.yes (by omega) (Ok.yes (by omega) (Ok.yes (by omega) (Ok.yes (by omega) (Ok.binds (l1in_any _ 0 255) ?_))))
      exact Ok.ite (fun h => Ok.no (by omega) (ih (j + 1) (by omega) (by omega))) (fun h => Ok.now _ rfl)
theorem sput_bad (rows : List (List Int)) (hr : rowsOk rows) (m : Nat) (hm : m < rows.length) (hb : ¬ byteRow rows[m]) (d : Nat) : ∀ (o : ByteArray) (i : Nat), m = i + d → o.size + 3000 * d ≤ 5000000 → Ok (fun k => spec_RlePut.l0 k rows o (i : Int)) (· = (⟨#[]⟩ : ByteArray)) := by
  have hr' : rows.length ≤ 1000 ∧ ∀ r ∈ rows, r.length ≤ 1000 := ⟨by have := hr.1; omega, fun r h => by have := hr.2 r h; omega⟩
  induction d with
  | zero =>
    intro o i h0 ho
    obtain rfl : m = i := by omega
    obtain ⟨k, hk, hk2⟩ := not_byte hb
    refine Ok.succ ?_
    simp only [spec_RlePut.l0]
    exact Ok.yes (by omega) (srow_bad rows hr o m hm k hk hk2 k 0 (by omega) (by omega))
  | succ d ih =>
    intro o i h0 ho
    have hi : i < rows.length := by omega
    refine Ok.succ ?_
    simp only [spec_RlePut.l0]
    exact Ok.yes (by omega) (rleput_l1 rows hr' (· = (⟨#[]⟩ : ByteArray)) rfl o i hi (by omega) (fun o' ho' => ih o' (i + 1) (by omega) (by omega)) 1000 0 (by have := hr.2 _ (List.getElem_mem hi); omega) (by omega))
theorem sput_no (rows : List (List Int)) (hr : rowsOk rows) (m : Nat) (hm : m < rows.length) (hb : ¬ byteRow rows[m]) : Ok (fun k => spec_RlePut.f k rows) (· = (⟨#[]⟩ : ByteArray)) := by
  unfold spec_RlePut.f
  have := hr.1
  exact Ok.no (by omega) (sput_bad rows hr m hm hb m _ 0 (by omega) (by rw [size_empty]; omega))
theorem irow_bad (rows : List (List Int)) (row : List Int) (hl : row.length ≤ 100) (m : Nat) (hm : m < row.length) (hb : ¬ (0 ≤ rd row (m : Int) ∧ rd row (m : Int) ≤ 255)) (n i : Int) (d : Nat) : ∀ (o : List Int) (j : Nat), o.length + 2 * d ≤ 1000000 → j ≤ m → m < j + d →
    Ok (fun k => impl_RlePut.l1 k o row (j : Int) rows n i) (· = (⟨#[]⟩ : ByteArray)) := by
  induction d with
  | zero => intro o j ho h0 h1; omega
  | succ d ih =>
    intro o j ho h0 h1
    have h : j < row.length := by omega
    have g1 := rn_ge row j
    have g2 := rn_le row j h
    refine Ok.succ ?_
    simp only [impl_RlePut.l1]
    refine Ok.yes (by omega) ((same_rn row hl j h).bind fun t ht => ?_)
    subst ht
    have em : mn (rn row j : Int) 255 = (rn row j : Int) := by unfold mn; omega
    rw [em]
    by_cases g3 : 0 ≤ rd row (j : Int) ∧ rd row (j : Int) ≤ 255
    · refine Ok.yes (by omega) (Ok.binds (show impl_in.f (rd row (j : Int)) 0 255 = some true by unfold impl_in.f; rw [if_pos (by omega), decide_eq_true (by omega)]) (Ok.yes rfl (Ok.binds rfl ?_)))
      rw [show wrap64 ((j : Int) + (rn row j : Int)) = ((j + rn row j : Nat) : Int) by rw [w64 (by omega) (by omega)]; omega]
      have hge : j + rn row j ≤ m := by
        by_cases hlt : m < j + rn row j
        · have e := rn_same row j (m - j) (by omega)
          rw [show j + (m - j) = m by omega] at e
          rw [← e] at g3
          exact absurd g3 hb
        · omega
      exact Ok.yes (by simp only [List.length_cons, List.length_nil]; omega) (ih _ (j + rn row j) (by simp only [List.length_append, List.length_cons, List.length_nil]; omega) hge (by omega))
    · refine Ok.yes (by omega) (Ok.binds (show impl_in.f (rd row (j : Int)) 0 255 = some false by
        unfold impl_in.f
        by_cases h5 : rd row (j : Int) ≥ 0
        · rw [if_pos h5, decide_eq_false (by omega)]
        · rw [if_neg h5]) (Ok.no (by decide) (Ok.now _ rfl)))
theorem iput_bad (rows : List (List Int)) (hr : rowsOk rows) (m : Nat) (hm : m < rows.length) (hb : ¬ byteRow rows[m]) (d : Nat) : ∀ (o : List Int) (i : Nat), m = i + d → o.length + 300 * d ≤ 500000 → Ok (fun k => impl_RlePut.l0 k o rows (rows.length : Int) (i : Int)) (· = (⟨#[]⟩ : ByteArray)) := by
  induction d with
  | zero =>
    intro o i h0 ho
    obtain rfl : m = i := by omega
    have hl := hr.2 _ (List.getElem_mem hm)
    obtain ⟨k, hk, hk2⟩ := not_byte hb
    have go (o' : List Int) (ho' : o'.length ≤ o.length + 2) : Ok (fun k => impl_RlePut.j1 k o' rows[m] rows (rows.length : Int) (m : Int)) (· = (⟨#[]⟩ : ByteArray)) := by
      refine Ok.succ ?_
      simp only [impl_RlePut.j1]
      exact irow_bad rows rows[m] hl k hk hk2 _ _ (k + 1) o' 0 (by omega) (by omega) (by omega)
    refine Ok.succ ?_
    simp only [impl_RlePut.l0]
    rw [rdL_at rows m hm]
    exact Ok.yes (by omega) (Ok.yes (by omega) (Ok.yes (by omega) (Ok.no (by omega) (Ok.ite (fun h => Ok.binds rfl (Ok.yes (by simp only [List.length_cons, List.length_nil]; omega) (go _ (by simp)))) (fun h => go _ (by omega))))))
  | succ d ih =>
    intro o i h0 ho
    have hi : i < rows.length := by omega
    have hl := hr.2 _ (List.getElem_mem hi)
    have hn := hr.1
    have go (o' : List Int) (ho' : o'.length ≤ o.length + 2) : Ok (fun k => impl_RlePut.j1 k o' rows[i] rows (rows.length : Int) (i : Int)) (· = (⟨#[]⟩ : ByteArray)) := by
      refine Ok.succ ?_
      simp only [impl_RlePut.j1]
      by_cases hbi : byteRow rows[i]
      · refine irow_good rows rows[i] hl hbi _ _ _ rows[i].length o' 0 (by omega) (by omega) (by omega) ?_
        rw [inc i (by omega)]
        have hz := rowBytes_length rows[i]
        exact ih (o' ++ rowBytes rows[i]) (i + 1) (by omega) (by rw [List.length_append]; omega)
      · obtain ⟨k, hk, hk2⟩ := not_byte hbi
        exact irow_bad rows rows[i] hl k hk hk2 _ _ (k + 1) o' 0 (by omega) (by omega) (by omega)
    refine Ok.succ ?_
    simp only [impl_RlePut.l0]
    rw [rdL_at rows i hi]
    exact Ok.yes (by omega) (Ok.yes (by omega) (Ok.yes (by omega) (Ok.no (by omega) (Ok.ite (fun h => Ok.binds rfl (Ok.yes (by simp only [List.length_cons, List.length_nil]; omega) (go _ (by simp)))) (fun h => go _ (by omega))))))
theorem iput_no (rows : List (List Int)) (hr : rowsOk rows) (m : Nat) (hm : m < rows.length) (hb : ¬ byteRow rows[m]) : Ok (fun k => impl_RlePut.f k rows) (· = (⟨#[]⟩ : ByteArray)) := by
  unfold impl_RlePut.f
  have := hr.1
  exact Ok.no (by omega) (iput_bad rows hr m hm hb m [] 0 (by omega) (by simp; omega))
/-- Both write the same: the rows' bytes, or nothing. -/
theorem rleput_both (rows : List (List Int)) (hr : rowsOk rows) : ∃ s : ByteArray, Ok (fun k => impl_RlePut.f k rows) (· = s) ∧ Ok (fun k => spec_RlePut.f k rows) (· = s) ∧ ((∀ r ∈ rows, byteRow r) ∧ s = strOfNums (allB rows) ∨ s = (⟨#[]⟩ : ByteArray)) := by
  by_cases h : ∀ r ∈ rows, byteRow r
  · exact ⟨_, iput_is rows hr h, sput_is rows hr h, .inl ⟨h, rfl⟩⟩
  · obtain ⟨r, hr2⟩ := Classical.not_forall.1 h
    obtain ⟨hm, hb⟩ := Classical.not_imp.1 hr2
    obtain ⟨m, hlt, rfl⟩ := List.getElem_of_mem hm
    exact ⟨_, iput_no rows hr m hlt hb, sput_no rows hr m hlt hb, .inr rfl⟩
end Go.Proofs.Ytgdbinifnhfcjaa.Pure
