/- Texts of one law put together (wip/merge2.py). -/
import Derived.Test.YtgdbinifnhfcjaaMFnRle8
import Derived.Test.YtgdbinifnhfcjaaMFnRle9
import Derived.Test.YtgdbinifnhfcjaaMFnRle10
/- Rows of numbers: the same twice are the same; marked, they hold the marks. -/
set_option linter.unusedVariables false
set_option linter.unusedSimpArgs false
namespace Go.Proofs.Ytgdbinifnhfcjaa.Pure
open Go.RowKit Go.Proofs.Ytgdbinifnhfcjaa.P Go.Proofs.Ytgdbinifnhfcjaa.Lib Go.Proofs.YtgdbinifnhfcjaaW.PrintWords Go.Proofs.YtgdbinifnhfcjaaW.PrintLast Go.Proofs.YtgdbinifnhfcjaaW.PrintMore
theorem inc (j : Nat) (hj : j ≤ 1000000000) : wrap64 ((j : Int) + 1) = ((j + 1 : Nat) : Int) := by rw [w64 (by omega) (by omega)]; omega
theorem same_run (l : List Int) (hl : l.length ≤ 1048576) (d : Nat) : ∀ (i : Nat), i + d = l.length → Ok (fun n => laws_eqIntS.l0 n l l (i : Int)) (· = true) := by
  induction d with
  | zero =>
    intro i hi
    refine Ok.succ ?_
    simp only [laws_eqIntS.l0]
    exact Ok.no (by omega) (Ok.now _ rfl)
  | succ d ih =>
    intro i hi
    refine Ok.succ ?_
    simp only [laws_eqIntS.l0]
    rw [inc i (by omega)]
    exact Ok.yes (by omega) (Ok.yes (by omega) (Ok.yes (by omega) (Ok.yes (by simp) (ih (i + 1) (by omega)))))
theorem same_ok (l : List Int) (hl : l.length ≤ 1048576) : Ok (fun n => laws_eqIntS.f n l l) (· = true) := by
  unfold laws_eqIntS.f
  exact Ok.yes rfl (same_run l hl l.length 0 (by omega))
def small (rows : List (List Int)) : Prop := rows.length ≤ 1000 ∧ ∀ r ∈ rows, r.length ≤ 1000
theorem rdL_at (rows : List (List Int)) (i : Nat) (h : i < rows.length) : rd_L1 rows (i : Int) = rows[i] := by
  unfold rd_L1
  rw [Int.toNat_natCast, List.getD_eq_getElem?_getD, List.getElem?_eq_getElem h, Option.getD_some]
theorem sames_run (l : List (List Int)) (hl : small l) (d : Nat) : ∀ (i : Nat), i + d = l.length → Ok (fun n => laws_eqIntSS.l0 n l l (i : Int)) (· = true) := by
  obtain ⟨h1, h2⟩ := hl
  induction d with
  | zero =>
    intro i hi
    refine Ok.succ ?_
    simp only [laws_eqIntSS.l0]
    exact Ok.no (by omega) (Ok.now _ rfl)
  | succ d ih =>
    intro i hi
    refine Ok.succ ?_
    simp only [laws_eqIntSS.l0]
    rw [inc i (by omega)]
    have hr := h2 _ (List.getElem_mem (show i < l.length by omega))
    rw [← rdL_at l i (by omega)] at hr
    refine Ok.yes (by omega) (Ok.yes (by omega) (Ok.yes (by omega) ((same_ok _ (by omega)).bind fun x hx => ?_)))
    subst hx
    exact Ok.yes rfl (ih (i + 1) (by omega))
theorem sames_ok (l : List (List Int)) (hl : small l) : Ok (fun n => laws_eqIntSS.f n l l) (· = true) := by
  unfold laws_eqIntSS.f
  exact Ok.yes rfl (sames_run l hl l.length 0 (by omega))
/-- So many numbers, one by one. -/
def marks : Nat → Int → List Int
  | 0, _ => []
  | n + 1, k => k :: marks n (k + 1)
theorem marks_length (n : Nat) : ∀ k, (marks n k).length = n := by
  induction n with
  | zero => intro k; rfl
  | succ n ih => intro k; simp only [marks, List.length_cons, ih]
theorem set_here {α : Type} (a : List α) (c v : α) (r : List α) : (a ++ c :: r).set a.length v = a ++ v :: r := by
  rw [List.set_append, if_neg (by omega), Nat.sub_self, List.set_cons_zero]
theorem mark_run (d : Nat) : ∀ (a r : List Int) (k : Int), r.length = d → a.length + d ≤ 100000 → 0 ≤ k → k + d ≤ 100000000 → Ok (fun n => laws_markIntS.l0 n (a ++ r) k (a.length : Int)) (· = (k + d, a ++ marks d k)) := by
  induction d with
  | zero =>
    intro a r k hr ha h0 hk
    obtain rfl := List.eq_nil_of_length_eq_zero hr
    refine Ok.succ ?_
    simp only [laws_markIntS.l0]
    refine Ok.no (by simp) (Ok.now _ ?_)
    simp [marks]
  | succ d ih =>
    intro a r k hr ha h0 hk
    obtain ⟨c, r, rfl⟩ : ∃ c r', r = c :: r' := by
      cases r with
      | nil => simp at hr
      | cons c r' => exact ⟨c, r', rfl⟩
    have hr' : r.length = d := by simpa using hr
    refine Ok.succ ?_
    simp only [laws_markIntS.l0]
    rw [inc a.length (by omega), w64 (x := k + 1) (by omega) (by omega), Int.toNat_natCast, set_here]
    refine Ok.yes (by rw [List.length_append, List.length_cons]; omega) (Ok.yes (by omega) ?_)
    have h := ih (a ++ [k]) r (k + 1) hr' (by rw [List.length_append, List.length_singleton]; omega) (by omega) (by omega)
    rw [List.append_assoc, List.length_append, List.length_singleton, List.singleton_append] at h
    refine h.mono fun x hx => ?_
    rw [hx]
    simp only [marks, Prod.mk.injEq]
    exact ⟨by omega, by rw [List.append_assoc]; rfl⟩
theorem mark_ok (l : List Int) (k : Int) (hl : l.length ≤ 1000) (h0 : 0 ≤ k) (hk : k ≤ 10000000) : Ok (fun n => laws_markIntS.f n l k) (· = (k + l.length, marks l.length k)) := by
  unfold laws_markIntS.f
  have h := mark_run l.length [] l k rfl (by simp; omega) h0 (by omega)
  rw [List.nil_append, List.nil_append] at h
  exact h
theorem rd_here (a : List Int) (c : Int) (r : List Int) : rd (a ++ c :: r) (a.length : Int) = c := by
  unfold rd
  rw [Int.toNat_natCast, List.getD_eq_getElem?_getD, List.getElem?_append_right (by omega), Nat.sub_self]
  rfl
theorem held_run (d : Nat) : ∀ (a : List Int) (k : Int), a.length + d ≤ 100000 → 0 ≤ k → k + d ≤ 100000000 → Ok (fun n => laws_heldIntS.l0 n (a ++ marks d k) k (a.length : Int)) (· = k + d) := by
  induction d with
  | zero =>
    intro a k ha h0 hk
    refine Ok.succ ?_
    simp only [laws_heldIntS.l0, marks]
    exact Ok.no (by simp) (Ok.now _ (by omega))
  | succ d ih =>
    intro a k ha h0 hk
    simp only [marks]
    refine Ok.succ ?_
    simp only [laws_heldIntS.l0]
    rw [rd_here, inc a.length (by omega), w64 (x := k + 1) (by omega) (by omega)]
    refine Ok.yes (by rw [List.length_append, List.length_cons]; omega) (Ok.yes (by omega) (Ok.yes rfl ?_))
    have h := ih (a ++ [k]) (k + 1) (by rw [List.length_append, List.length_singleton]; omega) (by omega) (by omega)
    rw [List.append_assoc, List.length_append, List.length_singleton, List.singleton_append] at h
    exact h.mono fun x hx => by rw [hx]; omega
theorem held_ok (n : Nat) (k : Int) (hn : n ≤ 1000) (h0 : 0 ≤ k) (hk : k ≤ 10000000) : Ok (fun m => laws_heldIntS.f m (marks n k) k) (· = k + n) := by
  unfold laws_heldIntS.f
  exact held_run n [] k (by simp; omega) h0 (by omega)
def total (rows : List (List Int)) : Nat := (rows.map List.length).sum
def markRows : List (List Int) → Int → List (List Int)
  | [], _ => []
  | r :: l, k => marks r.length k :: markRows l (k + r.length)
theorem markRows_length (l : List (List Int)) : ∀ k, (markRows l k).length = l.length := by
  induction l with
  | nil => intro k; rfl
  | cons r l ih => intro k; simp only [markRows, List.length_cons, ih]
theorem total_le (l : List (List Int)) (h : ∀ r ∈ l, r.length ≤ 1000) : total l ≤ 1000 * l.length := by
  induction l with
  | nil => simp [total]
  | cons r l ih =>
    have h1 := h r List.mem_cons_self
    have h2 := ih (fun x hx => h x (List.mem_cons_of_mem _ hx))
    unfold total at h2 ⊢
    simp only [List.map_cons, List.sum_cons, List.length_cons]
    omega
theorem helds_run (l : List (List Int)) : ∀ (a : List (List Int)) (k : Int), (∀ r ∈ l, r.length ≤ 1000) → a.length + l.length ≤ 1000 → 0 ≤ k → k + total l ≤ 5000000 → Ok (fun n => laws_heldIntSS.l0 n (a ++ markRows l k) k (a.length : Int)) (· = k + total l) := by
  induction l with
  | nil =>
    intro a k _ ha h0 hk
    refine Ok.succ ?_
    simp only [laws_heldIntSS.l0, markRows]
    exact Ok.no (by simp) (Ok.now _ (by simp [total]))
  | cons r l ih =>
    intro a k hr ha h0 hk
    have e : total (r :: l) = r.length + total l := by simp [total]
    rw [e] at hk ⊢
    have h1 := hr r List.mem_cons_self
    simp only [markRows]
    simp only [List.length_cons] at ha
    refine Ok.succ ?_
    simp only [laws_heldIntSS.l0]
    have hrd : rd_L1 (a ++ marks r.length k :: markRows l (k + r.length)) (a.length : Int) = marks r.length k := by
      rw [rdL_at _ _ (by rw [List.length_append, List.length_cons]; omega), List.getElem_append_right (by omega)]
      simp
    rw [hrd, inc a.length (by omega)]
    refine Ok.yes (by rw [List.length_append, List.length_cons]; omega) (Ok.yes (by omega) ((held_ok r.length k h1 h0 (by omega)).bind fun x hx => ?_))
    subst hx
    refine Ok.no (by omega) ?_
    have h := ih (a ++ [marks r.length k]) (k + r.length) (fun x hx => hr x (List.mem_cons_of_mem _ hx)) (by rw [List.length_append, List.length_singleton]; omega) (by omega) (by omega)
    rw [List.append_assoc, List.length_append, List.length_singleton, List.singleton_append] at h
    exact h.mono fun x hx => by rw [hx]; omega
theorem helds_ok (l : List (List Int)) (hl : small l) : Ok (fun n => laws_heldIntSS.f n (markRows l 1) 1) (· = 1 + total l) := by
  unfold laws_heldIntSS.f
  have h3 := total_le l hl.2
  have h := helds_run l [] 1 hl.2 (by have := hl.1; simp; omega) (by omega) (by have := hl.1; omega)
  rw [List.nil_append] at h
  exact h
end Go.Proofs.Ytgdbinifnhfcjaa.Pure
/- laws.markIntSS, walked: every number of the rows is marked; nothing else is written. -/
set_option linter.unusedVariables false
set_option linter.unusedSimpArgs false
namespace Go.Proofs.Ytgdbinifnhfcjaa.P
open Go.RowKit Go.Proofs.YtgdbinifnhfcjaaW.PrintWords Go.Proofs.YtgdbinifnhfcjaaW.PrintLast Go.Proofs.YtgdbinifnhfcjaaW.PrintMore
open Go.Proofs.Ytgdbinifnhfcjaa.Pure (small total markRows marks markRows_length total_le marks_length)
theorem total_app (a b : List (List Int)) : total (a ++ b) = total a + total b := by simp [total]
theorem markRows_app (a b : List (List Int)) : ∀ k, markRows (a ++ b) k = markRows a k ++ markRows b (k + total a) := by
  induction a with
  | nil => intro k; simp [markRows, total]
  | cons r a ih =>
    intro k
    simp only [List.cons_append, markRows]
    rw [ih, show k + (r.length : Int) + total a = k + total (r :: a) by simp [total]; omega]
/-- Rows of which i are marked. -/
def half (rows : List (List Int)) (k : Int) (i : Nat) : List (List Int) := markRows (rows.take i) k ++ rows.drop i
theorem half_length (rows : List (List Int)) (k : Int) (i : Nat) : (half rows k i).length = rows.length := by
  unfold half
  rw [List.length_append, markRows_length, List.length_take, List.length_drop]
  omega
theorem half_at (rows : List (List Int)) (k : Int) (i : Nat) (h : i < rows.length) : (half rows k i).getD i [] = rows[i] := by
  unfold half
  rw [List.getD_eq_getElem?_getD, List.getElem?_append_right (by rw [markRows_length, List.length_take]; omega), markRows_length, List.length_take, Nat.min_eq_left (by omega), Nat.sub_self, List.getElem?_drop, Nat.add_zero, List.getElem?_eq_getElem h, Option.getD_some]
theorem half_step (rows : List (List Int)) (k : Int) (i : Nat) (h : i < rows.length) : (half rows k i).set i (marks rows[i].length (k + total (rows.take i))) = half rows k (i + 1) ∧ total (rows.take (i + 1)) = total (rows.take i) + rows[i].length := by
  have ht : rows.take (i + 1) = rows.take i ++ [rows[i]] := by rw [List.take_add_one, List.getElem?_eq_getElem h, Option.toList_some]
  constructor
  · unfold half
    rw [ht, markRows_app, List.drop_eq_getElem_cons h]
    have hl : (markRows (rows.take i) k).length = i := by rw [markRows_length, List.length_take]; omega
    rw [List.set_append_right _ _ (by omega), hl, Nat.sub_self, List.set_cons_zero, List.append_assoc]
    rfl
  · rw [ht, total_app]
    simp [total]
theorem half_done (rows : List (List Int)) (k : Int) : half rows k rows.length = markRows rows k := by
  unfold half
  rw [List.take_length, List.drop_length, List.append_nil]
theorem total_take_le (rows : List (List Int)) (i : Nat) (h : small rows) : total (rows.take i) ≤ 1000000 := by
  have h1 := total_le (rows.take i) (fun r hr => h.2 r (List.mem_of_mem_take hr))
  have h2 := h.1
  have h3 : (rows.take i).length ≤ rows.length := by rw [List.length_take]; omega
  have : 1000 * (rows.take i).length ≤ 1000 * 1000 := Nat.mul_le_mul_left _ (by omega)
  omega
set_option maxHeartbeats 8000000 in
set_option maxRecDepth 100000 in
theorem markss_any (v : Value) (rows : List (List Int)) (k0 : Int) (P : Nat → Prop) (w0 w : World) (hl : small rows) (h0 : 0 ≤ k0 ∧ k0 ≤ 1000) (hB : Below w0.heap.size w0 w) (hP : ∀ k, w.heap.size ≤ k → P k)
    (hS : Kd.S (Kd.slice 3 (Kd.int .i64)) 31 w w0.heap.size P v rows) :
    Calls Try.prog 15 #[v, .int .i64 k0] w fun e w' => e = .returned (.int .i64 (k0 + total rows)) ∧ Kd.S (Kd.slice 3 (Kd.int .i64)) 31 w' w0.heap.size P v (markRows rows k0) ∧ Below w0.heap.size w0 w' ∧ Kept w w' P := by
  have HL := Aside0.mk hl
  have H0 := Aside0.mk h0
  have HB := Aside0.mk hB
  have HP := Aside0.mk hP
  have HS := Aside0.mk hS
  obtain ⟨A, cap, rfl⟩ := Kd.S_slice hS
  have n9 := hl.1
  clear hl h0 hB hP hS
  go_enter Try.func15, Try.ntmps15
  go_wp2
  go_loopg [1, 5] rows.length (fun kq v1 v5 wz => ∃ i : Nat, v5 = .int .i64 (i : Int) ∧ v1 = .int .i64 (k0 + total (rows.take i)) ∧ Aside0 (i + kq = rows.length) ∧ Aside0 (Kd.S (Kd.slice 3 (Kd.int .i64)) 31 wz w0.heap.size P (.slice A rows.length cap) (half rows k0 i)) ∧ Aside0 (Below w0.heap.size w0 wz) ∧ Aside0 (Kept w wz P))
  case atStart => exact ⟨0, rfl, by simp [total], ⟨by omega⟩, ⟨by unfold half; simpa [markRows] using HS.out⟩, HB, ⟨⟨Nat.le_refl _, fun _ _ _ => rfl⟩⟩⟩
  case round =>
    clear HS HB
    obtain ⟨i, rfl, rfl, HI, HS, HB, HK⟩ := hrel
    cases gk with
    | zero =>
      have hge : ¬ (i : Int) < (rows.length : Int) := by have := HI.out; omega
      have hge2 : decide ((i : Int) < (rows.length : Int)) = false := decide_eq_false hge
      have HE := Aside0.mk (show i = rows.length by have := HI.out; omega)
      go_wp2
      go_ret
      refine ⟨?_, ?_, HB.out, HK.out⟩
      · rw [HE.out, List.take_length]
        rfl
      · have h := HS.out
        rw [HE.out, half_done] at h
        exact h
    | succ kz =>
      have hlt0 : i < rows.length := by have := HI.out; omega
      have hlt : (i : Int) < (rows.length : Int) := by omega
      have hlt2 : decide ((i : Int) < (rows.length : Int)) = true := decide_eq_true hlt
      obtain ⟨q, cap', hv, _, _, _⟩ := Kd.S_form HS.out (by rw [half_length]; omega)
      rw [half_length] at hv
      injection hv with hv1 hv2 hv3
      subst hv1
      obtain ⟨oki, c, hcl, hM, hcc, _, hoki, hH⟩ := Kd.S_elem HS.out [] (i : Int) (by omega) hlt
      rw [Int.toNat_natCast] at hcc hM
      rw [half_at rows k0 i hlt0] at hM
      obtain ⟨u, rfl, hR⟩ := hM
      obtain ⟨A1, cp, rfl⟩ := Kd.R_slice hR
      have h5 : wr.cell? ⟨q, i, none⟩ = some (.slice A1 rows[i].length cp) := by simpa [Kd.slice] using hcc 0 _ rfl
      obtain ⟨row, hrow⟩ : ∃ row, rows[i] = row := ⟨_, rfl⟩
      have hr9 : row.length ≤ 1000 := by rw [← hrow]; exact HL.out.2 _ (List.getElem_mem hlt0)
      obtain ⟨t, ht⟩ : ∃ t, k0 + (total (rows.take i) : Int) = t := ⟨_, rfl⟩
      have ht9 : 0 ≤ t ∧ t ≤ 10000000 := by
        have := total_take_le rows i HL.out
        have := H0.out
        omega
      obtain ⟨k', hk'⟩ := (Pure.mark_ok row t hr9 ht9.1 ht9.2).rounds
      obtain ⟨hst, hto⟩ := half_step rows k0 i hlt0
      rw [hrow] at h5 hR hH hst hto
      rw [ht] at hst ⊢
      have HR := Aside0.mk hR
      have HK' := Aside0.mk hk'
      have HH := Aside0.mk hH
      have HOK := Aside0.mk hoki
      have HST := Aside0.mk hst
      have HTO := Aside0.mk hto
      have HT := Aside0.mk ht
      have i9 : (i : Int) ≤ 1000 := by omega
      have f1 : (0 ≤ (i : Int)) = True := eq_true (by omega)
      have f2 : ((i : Int) < (rows.length : Int)) = True := eq_true hlt
      clear hR hk' hH hoki hst hto ht hrow hcc hcl ht9 hv3 hv2
      go_wp2_with (go_at_call 48; (with_reducible refine (laws_markIntS.calls k' oki _ row t _ _ w0 _ HB.out HR.out HK'.out).mono ?_); rintro e w9 ⟨rfl, hr, hb, hk⟩; have HR9 := Aside0.mk hr; have HB9 := Aside0.mk hb; have HK9 := Aside0.mk hk; clear hr hb hk)
      go_roundg kz
      case measure => omega
      case rel =>
        have hsz : wr.heap.size ≤ w9.heap.size := HK9.out.1
        have hH2 := Kd.H_step (Kd.H_widen HH.out) (w1 := w9) (fun k hk hn hlt => HK9.out.2 k hlt (fun ho => hn (.inl ho)))
        have hS2 := Kd.H_back hH2 (x' := marks row.length t) (okp := fun k => oki k ∨ wr.heap.size ≤ k) ⟨_, rfl, HR9.out⟩ (fun k hk => hk.elim .inl (fun h => .inr ⟨HP.out k (Nat.le_trans HK.out.1 h), h⟩))
        rw [Int.toNat_natCast, HST.out] at hS2
        refine ⟨i + 1, by go_num, ?_, ⟨by have := HI.out; omega⟩, ⟨hS2⟩, HB9, ⟨⟨Nat.le_trans HK.out.1 hsz, fun j hj hn => ?_⟩⟩⟩
        · rw [HTO.out]
          have h := HT.out
          first | (congr 1; omega) | (rw [show (k0 + ((total (rows.take i) + row.length : Nat) : Int)) = t + (row.length : Int) by omega])
        · rw [HK9.out.2 j (Nat.lt_of_lt_of_le hj HK.out.1) (fun ho => hn (HOK.out j ho).1)]
          exact HK.out.2 j hj hn
end Go.Proofs.Ytgdbinifnhfcjaa.P
