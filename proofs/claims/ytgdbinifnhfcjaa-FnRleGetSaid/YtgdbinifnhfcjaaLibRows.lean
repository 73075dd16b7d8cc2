/- Rows of numbers: the same twice are the same; marked, they hold the marks. -/
import Derived.Test.YtgdbinifnhfcjaaF14
import Derived.Test.YtgdbinifnhfcjaaF16
import Derived.Test.YtgdbinifnhfcjaaF48
import Derived.Test.YtgdbinifnhfcjaaLibOk
set_option linter.unusedVariables false
set_option linter.unusedSimpArgs false
namespace Go.Proofs.Ytgdbinifnhfcjaa.Pure
open Go.RowKit Go.Proofs.Ytgdbinifnhfcjaa.P Go.Proofs.Ytgdbinifnhfcjaa.Lib Go.Proofs.YtgdbinifnhfcjaaW.PrintWords Go.Proofs.YtgdbinifnhfcjaaW.PrintLast Go.Proofs.YtgdbinifnhfcjaaW.PrintMore
theorem inc (j : Nat) (hj : j ≤ 1000000000) : wrap64 ((j : Int) + 1) = ((j + 1 : Nat) : Int) := by rw [w64 (by omega) (by omega)]; omega
theorem same_run (l : List Int) (hl : l.length ≤ 1048576) (d : Nat) : ∀ (i : Nat), i + d = l.length → Ok (fun n => laws_eqIntS.l0 n l l (i : Int)) (· = true) := by
  induction d with
  | zero =>
    intro i hi
    refine Ok.succ ?_
    simp only [laws_eqIntS.l0]
    exact Ok.no (by omega) (Ok.now _ rfl)
  | succ d ih =>
    intro i hi
    refine Ok.succ ?_
    simp only [laws_eqIntS.l0]
    rw [inc i (by omega)]
    exact Ok.yes (by omega) (Ok.yes (by omega) (Ok.yes (by omega) (Ok.yes (by simp) (ih (i + 1) (by omega)))))
theorem same_ok (l : List Int) (hl : l.length ≤ 1048576) : Ok (fun n => laws_eqIntS.f n l l) (· = true) := by
  unfold laws_eqIntS.f
  exact Ok.yes rfl (same_run l hl l.length 0 (by omega))
def small (rows : List (List Int)) : Prop := rows.length ≤ 1000 ∧ ∀ r ∈ rows, r.length ≤ 1000
theorem rdL_at (rows : List (List Int)) (i : Nat) (h : i < rows.length) : rd_L1 rows (i : Int) = rows[i] := by
  unfold rd_L1
  rw [Int.toNat_natCast, List.getD_eq_getElem?_getD, List.getElem?_eq_getElem h, Option.getD_some]
theorem sames_run (l : List (List Int)) (hl : small l) (d : Nat) : ∀ (i : Nat), i + d = l.length → Ok (fun n => laws_eqIntSS.l0 n l l (i : Int)) (· = true) := by
  obtain ⟨h1, h2⟩ := hl
  induction d with
  | zero =>
    intro i hi
    refine Ok.succ ?_
    simp only [laws_eqIntSS.l0]
    exact Ok.no (by omega) (Ok.now _ rfl)
  | succ d ih =>
    intro i hi
    refine Ok.succ ?_
    simp only [laws_eqIntSS.l0]
    rw [inc i (by omega)]
    have hr := h2 _ (List.getElem_mem (show i < l.length by omega))
    rw [← rdL_at l i (by omega)] at hr
    refine Ok.yes (by omega) (Ok.yes (by omega) (Ok.yes (by omega) ((same_ok _ (by omega)).bind fun x hx => ?_)))
    subst hx
    exact Ok.yes rfl (ih (i + 1) (by omega))
theorem sames_ok (l : List (List Int)) (hl : small l) : Ok (fun n => laws_eqIntSS.f n l l) (· = true) := by
  unfold laws_eqIntSS.f
  exact Ok.yes rfl (sames_run l hl l.length 0 (by omega))
/-- So many numbers, one by one. -/
def marks : Nat → Int → List Int
  | 0, _ => []
  | n + 1, k => k :: marks n (k + 1)
theorem marks_length (n : Nat) : ∀ k, (marks n k).length = n := by
  induction n with
  | zero => intro k; rfl
  | succ n ih => intro k; simp only [marks, List.length_cons, ih]
theorem set_here {α : Type} (a : List α) (c v : α) (r : List α) : (a ++ c :: r).set a.length v = a ++ v :: r := by
  rw [List.set_append, if_neg (by omega), Nat.sub_self, List.set_cons_zero]
theorem mark_run (d : Nat) : ∀ (a r : List Int) (k : Int), r.length = d → a.length + d ≤ 100000 → 0 ≤ k → k + d ≤ 100000000 → Ok (fun n => laws_markIntS.l0 n (a ++ r) k (a.length : Int)) (· = (k + d, a ++ marks d k)) := by
  induction d with
  | zero =>
    intro a r k hr ha h0 hk
    obtain rfl := List.eq_nil_of_length_eq_zero hr
    refine Ok.succ ?_
    simp only [laws_markIntS.l0]
    refine Ok.no (by simp) (Ok.now _ ?_)
    simp [marks]
  | succ d ih =>
    intro a r k hr ha h0 hk
    obtain ⟨c, r, rfl⟩ : ∃ c r', r = c :: r' := by
      cases r with
      | nil => simp at hr
      | cons c r' => exact ⟨c, r', rfl⟩
    have hr' : r.length = d := by simpa using hr
    refine Ok.succ ?_
    simp only [laws_markIntS.l0]
    rw [inc a.length (by omega), w64 (x := k + 1) (by omega) (by omega), Int.toNat_natCast, set_here]
    refine Ok.yes (by rw [List.length_append, List.length_cons]; omega) (Ok.yes (by omega) ?_)
    have h := ih (a ++ [k]) r (k + 1) hr' (by rw [List.length_append, List.length_singleton]; omega) (by omega) (by omega)
    rw [List.append_assoc, List.length_append, List.length_singleton, List.singleton_append] at h
    refine h.mono fun x hx => ?_
    rw [hx]
    simp only [marks, Prod.mk.injEq]
    exact ⟨by omega, by rw [List.append_assoc]; rfl⟩
theorem mark_ok (l : List Int) (k : Int) (hl : l.length ≤ 1000) (h0 : 0 ≤ k) (hk : k ≤ 10000000) : Ok (fun n => laws_markIntS.f n l k) (· = (k + l.length, marks l.length k)) := by
  unfold laws_markIntS.f
  have h := mark_run l.length [] l k rfl (by simp; omega) h0 (by omega)
  rw [List.nil_append, List.nil_append] at h
  exact h
theorem rd_here (a : List Int) (c : Int) (r : List Int) : rd (a ++ c :: r) (a.length : Int) = c := by
  unfold rd
  rw [Int.toNat_natCast, List.getD_eq_getElem?_getD, List.getElem?_append_right (by omega), Nat.sub_self]
  rfl
theorem held_run (d : Nat) : ∀ (a : List Int) (k : Int), a.length + d ≤ 100000 → 0 ≤ k → k + d ≤ 100000000 → Ok (fun n => laws_heldIntS.l0 n (a ++ marks d k) k (a.length : Int)) (· = k + d) := by
  induction d with
  | zero =>
    intro a k ha h0 hk
    refine Ok.succ ?_
    simp only [laws_heldIntS.l0, marks]
    exact Ok.no (by simp) (Ok.now _ (by omega))
  | succ d ih =>
    intro a k ha h0 hk
    simp only [marks]
    refine Ok.succ ?_
    simp only [laws_heldIntS.l0]
    rw [rd_here, inc a.length (by omega), w64 (x := k + 1) (by omega) (by omega)]
    refine Ok.yes (by rw [List.length_append, List.length_cons]; omega) (Ok.yes (by omega) (Ok.yes rfl ?_))
    have h := ih (a ++ [k]) (k + 1) (by rw [List.length_append, List.length_singleton]; omega) (by omega) (by omega)
    rw [List.append_assoc, List.length_append, List.length_singleton, List.singleton_append] at h
    exact h.mono fun x hx => by rw [hx]; omega
theorem held_ok (n : Nat) (k : Int) (hn : n ≤ 1000) (h0 : 0 ≤ k) (hk : k ≤ 10000000) : Ok (fun m => laws_heldIntS.f m (marks n k) k) (· = k + n) := by
  unfold laws_heldIntS.f
  exact held_run n [] k (by simp; omega) h0 (by omega)
def total (rows : List (List Int)) : Nat := (rows.map List.length).sum
def markRows : List (List Int) → Int → List (List Int)
  | [], _ => []
  | r :: l, k => marks r.length k :: markRows l (k + r.length)
theorem markRows_length (l : List (List Int)) : ∀ k, (markRows l k).length = l.length := by
  induction l with
  | nil => intro k; rfl
  | cons r l ih => intro k; simp only [markRows, List.length_cons, ih]
theorem total_le (l : List (List Int)) (h : ∀ r ∈ l, r.length ≤ 1000) : total l ≤ 1000 * l.length := by
  induction l with
  | nil => simp [total]
  | cons r l ih =>
    have h1 := h r List.mem_cons_self
    have h2 := ih (fun x hx => h x (List.mem_cons_of_mem _ hx))
    unfold total at h2 ⊢
    simp only [List.map_cons, List.sum_cons, List.length_cons]
    omega
theorem helds_run (l : List (List Int)) : ∀ (a : List (List Int)) (k : Int), (∀ r ∈ l, r.length ≤ 1000) → a.length + l.length ≤ 1000 → 0 ≤ k → k + total l ≤ 5000000 → Ok (fun n => laws_heldIntSS.l0 n (a ++ markRows l k) k (a.length : Int)) (· = k + total l) := by
  induction l with
  | nil =>
    intro a k _ ha h0 hk
    refine Ok.succ ?_
    simp only [laws_heldIntSS.l0, markRows]
    exact Ok.no (by simp) (Ok.now _ (by simp [total]))
  | cons r l ih =>
    intro a k hr ha h0 hk
    have e : total (r :: l) = r.length + total l := by simp [total]
    rw [e] at hk ⊢
    have h1 := hr r List.mem_cons_self
    simp only [markRows]
    simp only [List.length_cons] at ha
    refine Ok.succ ?_
    simp only [laws_heldIntSS.l0]
    have hrd : rd_L1 (a ++ marks r.length k :: markRows l (k + r.length)) (a.length : Int) = marks r.length k := by
      rw [rdL_at _ _ (by rw [List.length_append, List.length_cons]; omega), List.getElem_append_right (by omega)]
      simp
    rw [hrd, inc a.length (by omega)]
    refine Ok.yes (by rw [List.length_append, List.length_cons]; omega) (Ok.yes (by omega) ((held_ok r.length k h1 h0 (by omega)).bind fun x hx => ?_))
    subst hx
    refine Ok.no (by omega) ?_
    have h := ih (a ++ [marks r.length k]) (k + r.length) (fun x hx => hr x (List.mem_cons_of_mem _ hx)) (by rw [List.length_append, List.length_singleton]; omega) (by omega) (by omega)
    rw [List.append_assoc, List.length_append, List.length_singleton, List.singleton_append] at h
    exact h.mono fun x hx => by rw [hx]; omega
theorem helds_ok (l : List (List Int)) (hl : small l) : Ok (fun n => laws_heldIntSS.f n (markRows l 1) 1) (· = 1 + total l) := by
  unfold laws_heldIntSS.f
  have h3 := total_le l hl.2
  have h := helds_run l [] 1 hl.2 (by have := hl.1; simp; omega) (by omega) (by have := hl.1; omega)
  rw [List.nil_append] at h
  exact h
end Go.Proofs.Ytgdbinifnhfcjaa.Pure
