/- Texts of one law put together (wip/merge2.py). -/
import Derived.Test.YtgdbinifnhfcjaaMFnExactTgaPut6
import Derived.Test.YtgdbinifnhfcjaaMFnExactTgaPut7
import Derived.Test.YtgdbinifnhfcjaaMFnExactTgaPut8
import Derived.Test.YtgdbinifnhfcjaaMFnExactTgaPut1
/- Runs of numbers of so many bytes: impl.RunPut and spec.l7Run write the same. -/
set_option linter.unusedVariables false
set_option linter.unusedSimpArgs false
namespace Go.Proofs.Ytgdbinifnhfcjaa.Pic
open Go.RowKit Go.Proofs.Ytgdbinifnhfcjaa.P Go.Proofs.Ytgdbinifnhfcjaa.Lib Go.Proofs.YtgdbinifnhfcjaaW.PrintWords Go.Proofs.YtgdbinifnhfcjaaW.PrintLast Go.Proofs.YtgdbinifnhfcjaaW.PrintMore
open Go.Proofs.Ytgdbinifnhfcjaa.Pure (le le_length numv numv_size nums_app append_nil' nil_append' inum_ok snum_ok)
/-- How many are the same from i on, n of them known. -/
def runF (row : List Int) (i : Nat) : Nat → Nat → Nat
  | 0, n => n
  | d + 1, n => if i + n < row.length ∧ rd row ((i + n : Nat) : Int) = rd row (i : Int) then runF row i d (n + 1) else n
def rn (row : List Int) (i : Nat) : Nat := runF row i row.length 1
theorem runF_le (row : List Int) (i d : Nat) : ∀ n, n ≤ runF row i d n ∧ (i + n ≤ row.length → i + runF row i d n ≤ row.length) := by
  induction d with
  | zero => intro n; exact ⟨Nat.le_refl _, fun h => h⟩
  | succ d ih =>
    intro n
    simp only [runF]
    split
    · rename_i h
      have := ih (n + 1)
      exact ⟨by omega, fun _ => this.2 (by omega)⟩
    · exact ⟨Nat.le_refl _, fun h => h⟩
theorem rn_ge (row : List Int) (i : Nat) : 1 ≤ rn row i := (runF_le row i _ 1).1
theorem rn_le (row : List Int) (i : Nat) (h : i < row.length) : i + rn row i ≤ row.length := (runF_le row i _ 1).2 (by omega)
theorem wadd (i n : Nat) (h : i + n ≤ 1000000) : wrap64 ((i : Int) + (n : Int)) = ((i + n : Nat) : Int) := by rw [w64 (by omega) (by omega)]; omega
theorem same_at (row : List Int) (hl : row.length ≤ 1000) (i : Nat) (hi : i < row.length) (d : Nat) : ∀ (n : Nat), 1 ≤ n → i + n ≤ row.length → row.length ≤ i + n + d → Ok (fun k => impl_same_int.l0 k row (i : Int) (n : Int)) (· = (runF row i d n : Int)) := by
  induction d with
  | zero =>
    intro n h1 h2 h3
    refine Ok.succ ?_
    simp only [impl_same_int.l0, runF]
    rw [wadd i n (by omega)]
    exact Ok.no (by omega) (Ok.now _ rfl)
  | succ d ih =>
    intro n h1 h2 h3
    refine Ok.succ ?_
    simp only [impl_same_int.l0, runF]
    rw [wadd i n (by omega), pinc3 n (by omega)]
    refine Ok.ite (fun h4 => ?_) (fun h4 => ?_)
    · refine Ok.yes (by omega) (Ok.yes (by omega) (Ok.yes (by omega) (Ok.ite (fun h5 => ?_) (fun h5 => ?_))))
      · rw [if_pos ⟨by omega, h5⟩]
        exact ih (n + 1) (by omega) (by omega) (by omega)
      · rw [if_neg (fun h => h5 h.2)]
        exact Ok.now _ rfl
    · rw [if_neg (fun h => h4 (by omega))]
      exact Ok.now _ rfl
theorem same_rn (row : List Int) (hl : row.length ≤ 1000) (i : Nat) (hi : i < row.length) : Ok (fun k => impl_same_int.f k row (i : Int)) (· = (rn row i : Int)) := by
  unfold impl_same_int.f
  exact same_at row hl i hi row.length 1 (by omega) (by omega) (by omega)
theorem eq7_at (row : List Int) (hl : row.length ≤ 1000) (M : Nat) (hM : M ≤ 255) (i : Nat) (hi : i < row.length) (d : Nat) : ∀ (n : Nat), 1 ≤ n → n ≤ M → i + n ≤ row.length → row.length ≤ i + n + d → Ok (fun k => spec_l7Equal.l0 k row (i : Int) (M : Int) (n : Int)) (· = (min (runF row i d n) M : Nat)) := by
  induction d with
  | zero =>
    intro n h1 hm h2 h3
    refine Ok.succ ?_
    simp only [spec_l7Equal.l0, runF]
    rw [wadd i n (by omega), Nat.min_eq_left hm]
    exact Ok.ite (fun _ => Ok.no (by omega) (Ok.now _ rfl)) (fun _ => Ok.now _ rfl)
  | succ d ih =>
    intro n h1 hm h2 h3
    refine Ok.succ ?_
    simp only [spec_l7Equal.l0, runF]
    rw [wadd i n (by omega), pinc3 n (by omega)]
    refine Ok.ite (fun h6 => Ok.ite (fun h4 => ?_) (fun h4 => ?_)) (fun h6 => ?_)
    · refine Ok.yes (by omega) (Ok.yes (by omega) (Ok.yes (by omega) (Ok.ite (fun h5 => ?_) (fun h5 => ?_))))
      · rw [if_pos ⟨by omega, h5⟩]
        exact ih (n + 1) (by omega) (by omega) (by omega) (by omega)
      · rw [if_neg (fun h => h5 h.2), Nat.min_eq_left hm]
        exact Ok.now _ rfl
    · rw [if_neg (fun h => h4 (by omega)), Nat.min_eq_left hm]
      exact Ok.now _ rfl
    · have hnm : n = M := by omega
      subst hnm
      refine Ok.now _ ?_
      congr 1
      split
      · have := (runF_le row i d (n + 1)).1
        omega
      · omega
theorem eq7_rn (row : List Int) (hl : row.length ≤ 1000) (M : Nat) (h1 : 1 ≤ M) (hM : M ≤ 255) (i : Nat) (hi : i < row.length) : Ok (fun k => spec_l7Equal.f k row (i : Int) (M : Int)) (· = (min (rn row i) M : Nat)) := by
  unfold spec_l7Equal.f
  exact eq7_at row hl M hM i hi row.length 1 (by omega) h1 (by omega) (by omega)
/-- How many stand ahead of two that are the same. -/
def othF (row : List Int) (i : Nat) : Nat → Nat → Nat
  | 0, n => n
  | d + 1, n => if n < 128 ∧ i + n < row.length ∧ rn row (i + n) < 2 then othF row i d (n + 1) else n
def oth (row : List Int) (i : Nat) : Nat := othF row i row.length 1
theorem othF_le (row : List Int) (i d : Nat) : ∀ n, n ≤ othF row i d n ∧ (i + n ≤ row.length → i + othF row i d n ≤ row.length) ∧ (n ≤ 128 → othF row i d n ≤ 128) := by
  induction d with
  | zero => intro n; exact ⟨Nat.le_refl _, fun h => h, fun h => h⟩
  | succ d ih =>
    intro n
    simp only [othF]
    split
    · rename_i h
      have := ih (n + 1)
      exact ⟨by omega, fun _ => this.2.1 (by omega), fun _ => this.2.2 (by omega)⟩
    · exact ⟨Nat.le_refl _, fun h => h, fun h => h⟩
theorem oth_bd (row : List Int) (i : Nat) (h : i < row.length) : 1 ≤ oth row i ∧ i + oth row i ≤ row.length ∧ oth row i ≤ 128 :=
  ⟨(othF_le row i _ 1).1, (othF_le row i _ 1).2.1 (by omega), (othF_le row i _ 1).2.2 (by omega)⟩
theorem cut_at (row : List Int) (hl : row.length ≤ 1000) (i : Nat) (hi : i < row.length) (d : Nat) : ∀ (n : Nat), 1 ≤ n → i + n ≤ row.length → row.length ≤ i + n + d → Ok (fun k => impl_cut_int.l0 k row (i : Int) 2 (n : Int)) (· = ((othF row i d n : Int), false)) := by
  induction d with
  | zero =>
    intro n h1 h2 h3
    refine Ok.succ ?_
    simp only [impl_cut_int.l0, othF]
    rw [wadd i n (by omega)]
    exact Ok.ite (fun _ => Ok.no (by omega) (Ok.now _ rfl)) (fun _ => Ok.now _ rfl)
  | succ d ih =>
    intro n h1 h2 h3
    refine Ok.succ ?_
    simp only [impl_cut_int.l0, othF]
    rw [wadd i n (by omega), pinc3 n (by omega)]
    refine Ok.ite (fun h4 => Ok.ite (fun h5 => ?_) (fun h5 => ?_)) (fun h4 => ?_)
    · refine (same_rn row hl (i + n) (by omega)).bind fun t ht => ?_
      subst ht
      refine Ok.ite (fun h6 => ?_) (fun h6 => ?_)
      · rw [if_pos ⟨by omega, by omega, by omega⟩]
        exact ih (n + 1) (by omega) (by omega) (by omega)
      · rw [if_neg (fun h => h6 (by have := h.2.2; omega))]
        exact Ok.now _ rfl
    · rw [if_neg (fun h => h5 (by have := h.2.1; omega))]
      exact Ok.now _ rfl
    · rw [if_neg (fun h => h4 (by have := h.1; omega))]
      exact Ok.now _ rfl
theorem cut_ok (row : List Int) (hl : row.length ≤ 1000) (i : Nat) (hi : i < row.length) : Ok (fun k => impl_cut_int.f k row (i : Int) 2) (· = if 2 ≤ rn row i then (((min (rn row i) 128 : Nat) : Int), true) else (((oth row i : Nat) : Int), false)) := by
  unfold impl_cut_int.f
  refine (same_rn row hl i hi).bind fun t ht => ?_
  subst ht
  refine Ok.ite (fun h => ?_) (fun h => ?_)
  · rw [if_pos (by omega)]
    refine Ok.now _ ?_
    congr 1
    unfold mn
    split <;> omega
  · rw [if_neg (by omega)]
    exact cut_at row hl i hi row.length 1 (by omega) (by omega) (by omega)
theorem other_at (row : List Int) (hl : row.length ≤ 1000) (i : Nat) (hi : i < row.length) (d : Nat) : ∀ (n : Nat), 1 ≤ n → i + n ≤ row.length → row.length ≤ i + n + d → Ok (fun k => spec_l7Other.l0 k row (i : Int) 128 (n : Int)) (· = (othF row i d n : Int)) := by
  induction d with
  | zero =>
    intro n h1 h2 h3
    refine Ok.succ ?_
    simp only [spec_l7Other.l0, othF]
    rw [wadd i n (by omega)]
    exact Ok.ite (fun _ => Ok.no (by omega) (Ok.now _ rfl)) (fun _ => Ok.now _ rfl)
  | succ d ih =>
    intro n h1 h2 h3
    refine Ok.succ ?_
    simp only [spec_l7Other.l0, othF]
    rw [wadd i n (by omega), pinc3 n (by omega)]
    refine Ok.ite (fun h4 => Ok.ite (fun h5 => ?_) (fun h5 => ?_)) (fun h4 => ?_)
    · refine (eq7_rn row hl 2 (by omega) (by omega) (i + n) (by omega)).bind fun t ht => ?_
      subst ht
      refine Ok.ite (fun h6 => ?_) (fun h6 => ?_)
      · rw [if_pos ⟨by omega, by omega, by omega⟩]
        exact ih (n + 1) (by omega) (by omega) (by omega)
      · rw [if_neg (fun h => h6 (by have := h.2.2; omega))]
        exact Ok.now _ rfl
    · rw [if_neg (fun h => h5 (by have := h.2.1; omega))]
      exact Ok.now _ rfl
    · rw [if_neg (fun h => h4 (by have := h.1; omega))]
      exact Ok.now _ rfl
theorem other_ok (row : List Int) (hl : row.length ≤ 1000) (i : Nat) (hi : i < row.length) : Ok (fun k => spec_l7Other.f k row (i : Int) 128) (· = (oth row i : Int)) := by
  unfold spec_l7Other.f
  exact other_at row hl i hi row.length 1 (by omega) (by omega) (by omega)
/-- The bytes of a list from i on. -/
def runB (row : List Int) (z : Nat) : Nat → Nat → List Int
  | 0, _ => []
  | d + 1, i => if i < row.length then (if 2 ≤ rn row i then ((127 + min (rn row i) 128 : Nat) : Int) :: (le (rd row (i : Int)) z ++ runB row z d (i + min (rn row i) 128)) else ((oth row i - 1 : Nat) : Int) :: (cat ((row.drop i).take (oth row i)) z ++ runB row z d (i + oth row i))) else []
theorem str_ne (a b : List Int) (o : List Int) (x : Int) : strOfNums o ++ strOfNums [x] ++ strOfNums a ++ strOfNums b = strOfNums (o ++ x :: (a ++ b)) := by
  rw [nums_app, nums_app, nums_app]
  simp
theorem slice_snoc (l : List Int) (i k : Nat) (h : i + k < l.length) : (l.drop i).take (k + 1) = (l.drop i).take k ++ [rd l ((i + k : Nat) : Int)] := by
  rw [List.take_succ_eq_append_getElem (by rw [List.length_drop]; omega), List.getElem_drop]
  unfold rd
  rw [Int.toNat_natCast, List.getD_eq_getElem?_getD, List.getElem?_eq_getElem h, Option.getD_some]
theorem srun1_l (row : List Int) (z : Nat) (hz : z ≤ 4) (hl : row.length ≤ 1000) (hf : fits row z) (Q : ByteArray → Prop) (i m : Nat) (him : i + m ≤ row.length) (o : List Int) (ho : o.length ≤ 1000000)
    (hQ : Ok (fun k => spec_l7Run.l0 k row (z : Int) (strOfNums (o ++ cat ((row.drop i).take m) z)) ((i + m : Nat) : Int)) Q) (d : Nat) : ∀ j : Nat, j + d = m → Ok (fun k => spec_l7Run.l1 k row (z : Int) (strOfNums (o ++ cat ((row.drop i).take j) z)) (i : Int) (m : Int) (j : Int)) Q := by
  induction d with
  | zero =>
    intro j hj
    refine Ok.succ ?_
    simp only [spec_l7Run.l1]
    obtain rfl : j = m := by omega
    rw [wadd i j (by omega)]
    exact Ok.no (by omega) hQ
  | succ d ih =>
    intro j hj
    have hb := fits_at hf (i + j) (by omega)
    have := pow4 hz
    refine Ok.succ ?_
    simp only [spec_l7Run.l1]
    rw [wadd i j (by omega), pinc3 j (by omega)]
    refine Ok.yes (by omega) (Ok.yes (by omega) (Ok.yes (by omega) ((snum_ok _ z false (by omega) ⟨hb.1, by omega⟩).bind fun t ht => ?_)))
    subst ht
    have hs : (strOfNums (o ++ cat ((row.drop i).take j) z)).size ≤ 2000000 := by
      rw [strOfNums_size, List.length_append, cat_length, List.length_take]
      have h : min j (row.drop i).length * z ≤ 1000 * 4 := Nat.mul_le_mul (by rw [List.length_drop]; omega) hz
      omega
    have he : strOfNums (o ++ cat ((row.drop i).take j) z) ++ numv (rd row ((i + j : Nat) : Int)) z false = strOfNums (o ++ cat ((row.drop i).take (j + 1)) z) := by
      rw [numv_le, nums_app, slice_snoc row i j (by omega), cat_snoc, List.append_assoc]
    rw [numv_size, he]
    exact Ok.yes (by omega) (ih (j + 1) (by omega))
theorem srun_l (row : List Int) (z : Nat) (hz : z ≤ 4) (hl : row.length ≤ 1000) (hf : fits row z) (d : Nat) : ∀ (i : Nat) (o : List Int), i ≤ row.length → row.length ≤ i + d → o.length ≤ 5 * i → Ok (fun k => spec_l7Run.l0 k row (z : Int) (strOfNums o) (i : Int)) (· = strOfNums (o ++ runB row z d i)) := by
  induction d with
  | zero =>
    intro i o h1 h2 h3
    refine Ok.succ ?_
    simp only [spec_l7Run.l0, runB]
    exact Ok.no (by omega) (Ok.now _ (by rw [List.append_nil]))
  | succ d ih =>
    intro i o h1 h2 h3
    refine Ok.succ ?_
    simp only [spec_l7Run.l0, runB]
    by_cases hi : i < row.length
    · rw [if_pos hi]
      have hr1 := rn_ge row i
      have hr2 := rn_le row i hi
      refine Ok.yes (by omega) ((eq7_rn row hl 128 (by omega) (by omega) i hi).bind fun t ht => ?_)
      subst ht
      have z1 : ∀ x : Int, (strOfNums [x]).size = 1 := fun x => by rw [strOfNums_size]; rfl
      have hos : (strOfNums o).size = o.length := strOfNums_size o
      by_cases h2r : 2 ≤ rn row i
      · rw [if_pos h2r]
        obtain ⟨m, hm⟩ : ∃ m, m = min (rn row i) 128 := ⟨_, rfl⟩
        rw [← hm]
        have hm1 : 2 ≤ m ∧ m ≤ 128 ∧ i + m ≤ row.length := by omega
        clear hm
        rw [show wrap64 (127 + (m : Int)) % 256 = ((127 + m : Nat) : Int) by rw [w64 (by omega) (by omega)]; omega, wadd i m (by omega)]
        have hb := fits_at hf i hi
        have := pow4 hz
        refine Ok.yes (by omega) (Ok.binds rfl (Ok.yes (by rw [z1]; omega) (Ok.yes (by omega) ((snum_ok _ z false (by omega) ⟨hb.1, by omega⟩).bind fun t ht => ?_))))
        subst ht
        rw [ByteArray.size_append, numv_size, z1, numv_le, nums_app, nums_app]
        refine Ok.yes (by omega) ?_
        have h := ih (i + m) (o ++ [((127 + m : Nat) : Int)] ++ le (rd row (i : Int)) z) (by omega) (by omega) (by rw [List.length_append, List.length_append, le_length, List.length_singleton]; omega)
        refine h.mono fun r hr => ?_
        rw [hr]
        simp
      · rw [if_neg h2r]
        obtain ⟨hm1, hm2, hm3⟩ := oth_bd row i hi
        refine Ok.no (by omega) ((other_ok row hl i hi).bind fun t ht => Ok.binds rfl ?_)
        subst ht
        generalize oth row i = m at hm1 hm2 hm3 ⊢
        rw [show wrap64 ((m : Int) - 1) % 256 = ((m - 1 : Nat) : Int) by rw [w64 (by omega) (by omega)]; omega, nums_app]
        refine Ok.yes (by rw [z1]; omega) ?_
        have hlast := ih (i + m) (o ++ [((m - 1 : Nat) : Int)] ++ cat ((row.drop i).take m) z) (by omega) (by omega) (by
          rw [List.length_append, List.length_append, cat_length, List.length_singleton, List.length_take, List.length_drop]
          have hmm : min m (row.length - i) = m := by omega
          rw [hmm]
          have : m * z ≤ m * 4 := Nat.mul_le_mul_left _ hz
          omega)
        have h := srun1_l row z hz hl hf (fun r => r = strOfNums (o ++ ((m - 1 : Nat) : Int) :: (cat ((row.drop i).take m) z ++ runB row z d (i + m)))) i m hm2 (o ++ [((m - 1 : Nat) : Int)]) (by rw [List.length_append, List.length_singleton]; omega) (hlast.mono fun r hr => by rw [hr]; simp) m 0 (by omega)
        have e0 : cat ((row.drop i).take 0) z = [] := rfl
        rw [e0, List.append_nil] at h
        exact h
    · rw [if_neg hi]
      exact Ok.no (by omega) (Ok.now _ (by rw [List.append_nil]))
theorem srun_ok (row : List Int) (z : Nat) (hz : z ≤ 4) (hl : row.length ≤ 1000) (hf : fits row z) : Ok (fun k => spec_l7Run.f k row (z : Int)) (· = strOfNums (runB row z row.length 0)) := by
  unfold spec_l7Run.f
  exact srun_l row z hz hl hf row.length 0 [] (by omega) (by omega) (by simp)
theorem irun2_l (row : List Int) (z : Nat) (h1z : 1 ≤ z) (hz : z ≤ 4) (Q : ByteArray → Prop) (i m : Nat) (him : i + m ≤ 100000) (told : List Int) (hl : told.length ≤ 1000) (hf : fits told z) (o : List Int) (ho : o.length ≤ 1000000)
    (hQ : Ok (fun k => impl_RunPut.l1 k row (z : Int) (strOfNums (o ++ cat told z)) ((i + m : Nat) : Int)) Q) (d : Nat) : ∀ j : Nat, j + d = told.length → Ok (fun k => impl_RunPut.l2 k row (z : Int) (strOfNums (o ++ cat (told.take j) z)) (i : Int) (m : Int) told (told.length : Int) (j : Int)) Q := by
  induction d with
  | zero =>
    intro j hj
    refine Ok.succ ?_
    simp only [impl_RunPut.l2]
    rw [wadd i m (by omega), List.take_of_length_le (by omega)]
    exact Ok.no (by omega) hQ
  | succ d ih =>
    intro j hj
    refine Ok.succ ?_
    simp only [impl_RunPut.l2]
    rw [pinc3 j (by omega)]
    refine Ok.yes (by omega) (Ok.yes (by omega) (Ok.yes (by omega) ((inum_ok _ z false h1z hz (fits_at hf j (by omega))).bind fun t ht => ?_)))
    subst ht
    have hs : (strOfNums (o ++ cat (told.take j) z)).size ≤ 2000000 := by
      rw [strOfNums_size, List.length_append, cat_length, List.length_take]
      have h : min j told.length * z ≤ 1000 * 4 := Nat.mul_le_mul (by omega) hz
      omega
    have he : strOfNums (o ++ cat (told.take j) z) ++ numv (rd told (j : Int)) z false = strOfNums (o ++ cat (told.take (j + 1)) z) := by
      rw [numv_le, nums_app, take_rd told j (by omega), cat_snoc, List.append_assoc]
    rw [numv_size, he]
    exact Ok.yes (by omega) (ih (j + 1) (by omega))
theorem irun2_ok (row : List Int) (z : Nat) (h1z : 1 ≤ z) (hz : z ≤ 4) (Q : ByteArray → Prop) (i m : Nat) (him : i + m ≤ 100000) (told : List Int) (hl : told.length ≤ 1000) (hf : fits told z) (o : List Int) (ho : o.length ≤ 1000000)
    (hQ : Ok (fun k => impl_RunPut.l1 k row (z : Int) (strOfNums (o ++ cat told z)) ((i + m : Nat) : Int)) Q) : Ok (fun k => impl_RunPut.j3 k row (z : Int) (strOfNums o) (i : Int) (m : Int) told) Q := by
  refine Ok.succ ?_
  simp only [impl_RunPut.j3]
  have h := irun2_l row z h1z hz Q i m him told hl hf o ho hQ told.length 0 (by omega)
  have e0 : cat (told.take 0) z = [] := rfl
  rw [e0, List.append_nil] at h
  exact h
theorem slice_fits {row : List Int} {z i m : Nat} (hf : fits row z) : fits ((row.drop i).take m) z := fun x hx => hf x (List.mem_of_mem_drop (List.mem_of_mem_take hx))
theorem cut_is (row : List Int) (i m : Nat) (h : i + m ≤ row.length) : (row.take (i + m)).drop i = (row.drop i).take m := by
  rw [List.drop_take]
  congr 1
  omega
theorem take_one (row : List Int) (i m : Nat) (h1 : 1 ≤ m) (hi : i < row.length) : ((row.drop i).take m).take 1 = [rd row (i : Int)] := by
  rw [List.take_take, show min 1 m = 0 + 1 by omega, slice_snoc row i 0 (by omega)]
  rfl
theorem irun_l (row : List Int) (z : Nat) (h1z : 1 ≤ z) (hz : z ≤ 4) (hl : row.length ≤ 1000) (hf : fits row z) (d : Nat) : ∀ (i : Nat) (o : List Int), i ≤ row.length → row.length ≤ i + d → o.length ≤ 5 * i → Ok (fun k => impl_RunPut.l1 k row (z : Int) (strOfNums o) (i : Int)) (· = strOfNums (o ++ runB row z d i)) := by
  induction d with
  | zero =>
    intro i o h1 h2 h3
    refine Ok.succ ?_
    simp only [impl_RunPut.l1, runB]
    exact Ok.no (by omega) (Ok.now _ (by rw [List.append_nil]))
  | succ d ih =>
    intro i o h1 h2 h3
    refine Ok.succ ?_
    simp only [impl_RunPut.l1, runB]
    by_cases hi : i < row.length
    · rw [if_pos hi]
      have hr1 := rn_ge row i
      have hr2 := rn_le row i hi
      refine Ok.yes (by omega) ((cut_ok row hl i hi).bind fun t ht => ?_)
      subst ht
      have z1 : ∀ x : Int, (strOfNums [x]).size = 1 := fun x => by rw [strOfNums_size]; rfl
      have hos : (strOfNums o).size = o.length := strOfNums_size o
      by_cases h2r : 2 ≤ rn row i
      · rw [if_pos h2r, if_pos h2r]
        obtain ⟨m, hm⟩ : ∃ m, m = min (rn row i) 128 := ⟨_, rfl⟩
        rw [← hm]
        have hm1 : 2 ≤ m ∧ m ≤ 128 ∧ i + m ≤ row.length := by omega
        clear hm
        simp only
        rw [show wrap64 (127 + (m : Int)) % 256 = ((127 + m : Nat) : Int) by rw [w64 (by omega) (by omega)]; omega, wadd i m (by omega), Int.toNat_natCast, Int.toNat_natCast, cut_is row i m hm1.2.2]
        have hlen : ((row.drop i).take m).length = m := by rw [List.length_take, List.length_drop]; omega
        refine Ok.yes (by omega) (Ok.yes (by omega) (Ok.yes (by omega) (Ok.binds rfl (Ok.yes (by trivial) (Ok.binds rfl (Ok.yes (by rw [z1]; omega) (Ok.yes (by omega) ?_)))))))
        rw [nums_app, take_one row i m (by omega) hi]
        refine irun2_ok row z h1z hz _ i m (by omega) [rd row (i : Int)] (by simp) (fun x hx => by rw [List.mem_singleton.1 hx]; exact fits_at hf i hi) (o ++ [((127 + m : Nat) : Int)]) (by rw [List.length_append, List.length_singleton]; omega) ?_
        have e1 : cat [rd row (i : Int)] z = le (rd row (i : Int)) z := by unfold cat; simp
        rw [e1]
        have h := ih (i + m) (o ++ [((127 + m : Nat) : Int)] ++ le (rd row (i : Int)) z) (by omega) (by omega) (by rw [List.length_append, List.length_append, le_length, List.length_singleton]; omega)
        refine h.mono fun r hr => ?_
        rw [hr]
        simp
      · rw [if_neg h2r, if_neg h2r]
        obtain ⟨hm1, hm2, hm3⟩ := oth_bd row i hi
        simp only
        generalize oth row i = m at hm1 hm2 hm3 ⊢
        rw [show wrap64 ((m : Int) - 1) % 256 = ((m - 1 : Nat) : Int) by rw [w64 (by omega) (by omega)]; omega, wadd i m (by omega), Int.toNat_natCast, Int.toNat_natCast, cut_is row i m hm2]
        have hlen : ((row.drop i).take m).length = m := by rw [List.length_take, List.length_drop]; omega
        refine Ok.yes (by omega) (Ok.yes (by omega) (Ok.yes (by omega) (Ok.binds rfl (Ok.no (by simp) (Ok.binds rfl (Ok.yes (by rw [z1]; omega) ?_))))))
        rw [nums_app]
        refine irun2_ok row z h1z hz _ i m (by omega) ((row.drop i).take m) (by omega) (slice_fits hf) (o ++ [((m - 1 : Nat) : Int)]) (by rw [List.length_append, List.length_singleton]; omega) ?_
        have h := ih (i + m) (o ++ [((m - 1 : Nat) : Int)] ++ cat ((row.drop i).take m) z) (by omega) (by omega) (by
          rw [List.length_append, List.length_append, cat_length, List.length_singleton, hlen]
          have : m * z ≤ m * 4 := Nat.mul_le_mul_left _ hz
          omega)
        refine h.mono fun r hr => ?_
        rw [hr]
        simp
    · rw [if_neg hi]
      exact Ok.no (by omega) (Ok.now _ (by rw [List.append_nil]))
theorem irun0_l (row : List Int) (z : Nat) (h1z : 1 ≤ z) (hz : z ≤ 4) (hl : row.length ≤ 1000) (hf : fits row z) (d : Nat) : ∀ (i : Nat), i + d = row.length → Ok (fun k => impl_RunPut.l0 k row (z : Int) row (row.length : Int) (i : Int)) (· = strOfNums (runB row z row.length 0)) := by
  obtain ⟨s1, s2⟩ := Pure.shl8 z h1z hz
  induction d with
  | zero =>
    intro i hi
    refine Ok.succ ?_
    simp only [impl_RunPut.l0]
    refine Ok.no (by omega) ?_
    exact (irun_l row z h1z hz hl hf row.length 0 [] (by omega) (by omega) (by simp)).mono fun r hr => by rw [hr]; rfl
  | succ d ih =>
    intro i hi
    have hb := fits_at hf i (by omega)
    have hin : impl_in.f (rd row (i : Int)) 0 (256 ^ z - 1) = some true := by unfold impl_in.f; rw [if_pos hb.1, decide_eq_true hb.2]
    refine Ok.succ ?_
    simp only [impl_RunPut.l0]
    rw [s1, s2, pinc3 i (by omega)]
    exact Ok.yes (by omega) (Ok.yes (by omega) (Ok.yes (by omega) (Ok.yes (by omega) (Ok.binds hin (Ok.yes rfl (ih (i + 1) (by omega)))))))
theorem irun_ok (row : List Int) (z : Nat) (h1z : 1 ≤ z) (hz : z ≤ 4) (hl : row.length ≤ 1000) (hf : fits row z) : Ok (fun k => impl_RunPut.f k row (z : Int)) (· = strOfNums (runB row z row.length 0)) := by
  have hin : impl_in.f (z : Int) 1 4 = some true := by unfold impl_in.f; rw [if_pos (by omega), decide_eq_true (by omega)]
  unfold impl_RunPut.f
  refine Ok.no (by omega) (Ok.binds hin (Ok.succ ?_))
  simp only [impl_RunPut.j0]
  exact Ok.no (by simp) (irun0_l row z h1z hz hl hf row.length 0 (by omega))
end Go.Proofs.Ytgdbinifnhfcjaa.Pic
namespace Go.Proofs.Ytgdbinifnhfcjaa.P
open Go.RowKit Go.Proofs.YtgdbinifnhfcjaaW.PrintWords Go.Proofs.YtgdbinifnhfcjaaW.PrintLast Go.Proofs.YtgdbinifnhfcjaaW.PrintMore
attribute [local go_sem] max2_int min2_int max_two min_two max_three min_three max_four min_four   -- for this text's walks alone
set_option linter.unusedVariables false
set_option linter.unusedSimpArgs false
/-! ### impl_rolled: function 90 -/
def impl_rolled.f (a0 : Int) (a1 : Int) : Option (Int) := if a0 = 3 then (some (Go.bits .or .i64 (wrap64 ((Int.tmod a1 256) * 16777216)) (a1 / 256))) else (some a1)
set_option maxHeartbeats 8000000 in
set_option maxRecDepth 100000 in
theorem impl_rolled.calls (a0 : Int) (a1 : Int) (r : Int) (w : World) (h : impl_rolled.f a0 a1 = some r) :
 Calls Try.prog 90 #[.int .i64 a0, .int .i64 a1] w fun e w' => e = .returned (.int .i64 r) ∧ Drawn0 w w' := by
 have H : (if a0 = 3 then (some (Go.bits .or .i64 (wrap64 ((Int.tmod a1 256) * 16777216)) (a1 / 256))) else (some a1)) = some r := h; clear h
 by_cases c3 : a0 = 3
 ·rw [if_pos c3] at H; have c3b0 : (a0 == 3) = true := beq_iff_eq.mpr c3; have c3b1 : (a0 != 3) = false := bne_eq_false_iff_eq.mpr c3; clear c3; obtain rfl := Option.some.inj H; go_enter Try.func90, Try.ntmps90
  go_wp2
  go_ret
  exact ⟨by first | rfl | (simp; done) | (simp [*]; done), by repeat (first | exact Drawn0.refl _ | apply Drawn0.step)⟩
 ·rw [if_neg c3] at H; have c3b0 : (a0 == 3) = false := beq_eq_false_iff_ne.mpr c3; have c3b1 : (a0 != 3) = true := bne_iff_ne.mpr c3; obtain rfl := Option.some.inj H; go_enter Try.func90, Try.ntmps90
  go_wp2
  go_ret
  exact ⟨by first | rfl | (simp; done) | (simp [*]; done), by repeat (first | exact Drawn0.refl _ | apply Drawn0.step)⟩
end Go.Proofs.Ytgdbinifnhfcjaa.P
