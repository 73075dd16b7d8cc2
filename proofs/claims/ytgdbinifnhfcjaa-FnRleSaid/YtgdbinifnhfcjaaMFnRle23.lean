/- Texts of one law put together (wip/merge2.py). -/
import Derived.Test.YtgdbinifnhfcjaaMFnRle14
import Derived.Test.YtgdbinifnhfcjaaMFnRle15
import Derived.Test.YtgdbinifnhfcjaaMFnRle16
import Derived.Test.YtgdbinifnhfcjaaMFnRle18
import Derived.Test.YtgdbinifnhfcjaaMFnRle19
import Derived.Test.YtgdbinifnhfcjaaMFnRle21
import Derived.Test.YtgdbinifnhfcjaaMFnRle22
import Derived.Test.YtgdbinifnhfcjaaMFnRle11
import Derived.OpenShut
/- What is drawn for runs of rows: rows, and their text: of what size. -/
set_option linter.unusedVariables false
set_option linter.unusedSimpArgs false
namespace Go.Proofs.Ytgdbinifnhfcjaa.Pure
open Go.RowKit Go.Proofs.Ytgdbinifnhfcjaa.P Go.Proofs.Ytgdbinifnhfcjaa.Lib Go.Proofs.YtgdbinifnhfcjaaW.PrintWords Go.Proofs.YtgdbinifnhfcjaaW.PrintLast Go.Proofs.YtgdbinifnhfcjaaW.PrintMore
/-! ### what is drawn: pick, of, l1Many, l14Text -/
open Go.Proofs.Ytgdbinifnhfcjaa.Lib
theorem pick_ok (b : List Int) (hb : ∀ x ∈ b, 0 ≤ x ∧ x ≤ 255) (p n : Int) (hp : 0 ≤ p) (hp' : p ≤ 1099511627776) (hn : n ≤ 9223372036854775807) :
    Ok (fun k => spec_l1Rd_pick.f k b p n) (fun r => 0 ≤ r.1 ∧ (1 ≤ n → r.1 < n) ∧ (n < 1 → r.1 = 0) ∧ r.2 = p + 1) := by
  have e1 : wrap64 (p + 1) = p + 1 := w64 (by omega) (by omega)
  unfold spec_l1Rd_pick.f
  by_cases h1 : n < 1
  · refine Ok.yes h1 (Ok.succ ?_)
    simp only [spec_l1Rd_pick.j0, e1, if_true]
    exact Ok.now _ ⟨by simp, fun h => by omega, fun _ => rfl, rfl⟩
  refine Ok.no h1 (Ok.succ ?_)
  simp only [spec_l1Rd_pick.j0, e1]
  by_cases h2 : (b.length : Int) = 0
  · have hbq : ((b.length : Int) == 0) = true := beq_iff_eq.2 h2
    exact Ok.yes hbq (Ok.now _ ⟨by omega, fun _ => by show (0 : Int) < n; omega, fun h => absurd h h1, rfl⟩)
  have hbq : ¬ ((b.length : Int) == 0) = true := by simpa using h2
  have e2 : wrap64 (p + 1 - 1) = p := by rw [w64 (by omega) (by omega)]; omega
  simp only [e2]
  refine Ok.no hbq ?_
  have hn0 : ¬ n = 0 := by omega
  refine Ok.ite (fun h3 => Ok.yes hp (Ok.no hn0 ?_)) (fun h3 => Ok.no h2 ?_)
  · have hm := hb _ (rd_mem hp h3)
    have e3 : wrap64 (rd b p) = rd b p := w64 (by omega) (by omega)
    rw [e3, tmod_nn hm.1]
    exact Ok.now _ ⟨Int.emod_nonneg _ hn0, fun _ => Int.emod_lt_of_pos _ (by omega), fun h => absurd h h1, rfl⟩
  · have hl : 0 < (b.length : Int) := by omega
    rw [tmod_nn hp]
    have a0 : 0 ≤ p % (b.length : Int) := Int.emod_nonneg _ h2
    have a1 : p % (b.length : Int) < (b.length : Int) := Int.emod_lt_of_pos _ hl
    have e4 : wrap64 (p * 7) = p * 7 := w64 (by omega) (by omega)
    have e5 : wrap64 (p * 7 + 3) = p * 7 + 3 := w64 (by omega) (by omega)
    simp only [e4, e5]
    rw [tmod_nn (show 0 ≤ p * 7 + 3 by omega)]
    have b0 : 0 ≤ (p * 7 + 3) % (b.length : Int) := Int.emod_nonneg _ h2
    have b1 : (p * 7 + 3) % (b.length : Int) < (b.length : Int) := Int.emod_lt_of_pos _ hl
    refine Ok.yes a0 (Ok.yes a1 (Ok.yes b0 (Ok.yes b1 (Ok.no hn0 ?_))))
    have c0 := hb _ (rd_mem a0 a1)
    have c1 := hb _ (rd_mem b0 b1)
    generalize rd b (p % (b.length : Int)) = x at c0 ⊢
    generalize rd b ((p * 7 + 3) % (b.length : Int)) = y at c1 ⊢
    rw [tdiv_nn hp]
    have d0 : 0 ≤ p / (b.length : Int) := Int.ediv_nonneg hp (by omega)
    have d1 : p / (b.length : Int) ≤ p := Int.ediv_le_self _ hp
    generalize p / (b.length : Int) = q at d0 d1 ⊢
    have f1 : wrap64 x = x := w64 (by omega) (by omega)
    have f2 : wrap64 y = y := w64 (by omega) (by omega)
    have f3 : wrap64 q = q := w64 (by omega) (by omega)
    have f4 : wrap64 (x * 131) = x * 131 := w64 (by omega) (by omega)
    have f5 : wrap64 (y * 1117) = y * 1117 := w64 (by omega) (by omega)
    have f6 : wrap64 (p * 29) = p * 29 := w64 (by omega) (by omega)
    have f7 : wrap64 (q * 53) = q * 53 := w64 (by omega) (by omega)
    simp only [f1, f2, f3, f4, f5, f6, f7]
    have f8 : wrap64 (x * 131 + y * 1117) = x * 131 + y * 1117 := w64 (by omega) (by omega)
    simp only [f8]
    have f9 : wrap64 (x * 131 + y * 1117 + p * 29) = x * 131 + y * 1117 + p * 29 := w64 (by omega) (by omega)
    simp only [f9]
    have f10 : wrap64 (x * 131 + y * 1117 + p * 29 + q * 53) = x * 131 + y * 1117 + p * 29 + q * 53 := w64 (by omega) (by omega)
    simp only [f10]
    have g0 : 0 ≤ x * 131 + y * 1117 + p * 29 + q * 53 := by omega
    have g1 : x * 131 + y * 1117 + p * 29 + q * 53 ≤ 9223372036854775807 := by omega
    generalize x * 131 + y * 1117 + p * 29 + q * 53 = z at g0 g1 ⊢
    rw [tdiv_nn g0]
    have f11 : wrap64 (z / 64) = z / 64 := w64 (by omega) (by omega)
    rw [f11]
    have hx := xor_nonneg g0 g1 (show 0 ≤ z / 64 by omega) (by omega)
    rw [tmod_nn hx.1]
    exact Ok.now _ ⟨Int.emod_nonneg _ hn0, fun _ => Int.emod_lt_of_pos _ (by omega), fun h => absurd h h1, rfl⟩

theorem pick_at (b : List Int) (hb : ∀ x ∈ b, 0 ≤ x ∧ x ≤ 255) (p n : Int) (hp : 0 ≤ p ∧ p ≤ 1099511627776) (hn : 1 ≤ n ∧ n ≤ 9223372036854775807) :
    Ok (fun k => spec_l1Rd_pick.f k b p n) (fun r => (0 ≤ r.1 ∧ r.1 < n) ∧ r.2 = p + 1) :=
  (pick_ok b hb p n hp.1 hp.2 hn.2).mono fun _ h => ⟨⟨h.1, h.2.1 hn.1⟩, h.2.2.2⟩
theorem open_ok (l : List Int) : Ok (fun _ => spec_l1Open.f l) (fun r => r.1 = l.take 2000 ∧ r.2 = 0) := by
  unfold spec_l1Open.f
  refine Ok.ite (fun h => Ok.yes (by omega) (Ok.now _ ⟨rfl, rfl⟩)) (fun h => Ok.now _ ⟨?_, rfl⟩)
  rw [List.take_of_length_le (by omega)]
theorem byte_wf {l : List Int} (h : ∀ x ∈ l, (Lit.int .u8 x).wf = true) : ∀ x ∈ l, 0 ≤ x ∧ x ≤ 255 := fun x hx => bounds_u8 (h x hx)
theorem byte_take {l : List Int} (h : ∀ x ∈ l, 0 ≤ x ∧ x ≤ 255) (n : Nat) : ∀ x ∈ l.take n, 0 ≤ x ∧ x ≤ 255 := fun x hx => h x (List.mem_of_mem_take hx)

theorem bendAt_size (s : ByteArray) (v x : Int) : (bendAt s v x).size = s.size := by
  unfold bendAt
  rw [strOfNums_size, List.length_set, bytesOf_length]
theorem bend_ok (b : List Int) (hb : ∀ x ∈ b, 0 ≤ x ∧ x ≤ 255) (p : Int) (hp : 0 ≤ p ∧ p ≤ 1000000000) (s : ByteArray) (hs : s.size ≤ 10000000) : Ok (fun k => spec_l14Bend.f k b p s) (fun r => r.1.size = s.size ∧ p ≤ r.2 ∧ r.2 ≤ p + 2) := by
  unfold spec_l14Bend.f
  refine Ok.ite (fun h => Ok.now _ ⟨rfl, by simp only; omega, by simp only; omega⟩) (fun h => ?_)
  have h1 : 1 ≤ (s.size : Int) := by
    by_cases hz : s.size = 0
    · exact absurd ((Go.Proofs.Ytgdbinifnhfcjaa.Lib.text_nil s).2 hz) h
    · omega
  refine (pick_at b hb p (s.size : Int) ⟨hp.1, by omega⟩ ⟨h1, by omega⟩).bind fun x hx => ?_
  obtain ⟨v, q⟩ := x
  obtain ⟨hv, rfl⟩ := hx
  refine Ok.yes hv.1 (Ok.yes hv.2 ?_)
  refine (pick_at b hb (p + 1) 255 ⟨by omega, by omega⟩ ⟨by omega, by omega⟩).bind fun x hx => Ok.now _ ⟨bendAt_size _ _ _, ?_, ?_⟩
  · have := hx.2; simp only at this ⊢; omega
  · have := hx.2; simp only at this ⊢; omega

theorem same4_l (a n : Int) (hn : n ≤ 100000) (d : Nat) : ∀ (o : List Int) (i : Int), 0 ≤ i → n - i ≤ d → o.length + d ≤ 1000000 → Ok (fun k => spec_l4Same.l0 k a n o i) (fun r => r.length ≤ o.length + d) := by
  induction d with
  | zero =>
    intro o i h0 hd ho
    refine Ok.succ ?_
    simp only [spec_l4Same.l0]
    exact Ok.no (by omega) (Ok.now _ (by omega))
  | succ d ih =>
    intro o i h0 hd ho
    refine Ok.succ ?_
    simp only [spec_l4Same.l0]
    refine Ok.ite (fun h => ?_) (fun h => Ok.now _ (by omega))
    rw [w64 (x := i + 1) (by omega) (by omega)]
    refine Ok.yes (by omega) ((ih (o ++ [a]) (i + 1) (by omega) (by omega) (by rw [List.length_append, List.length_singleton]; omega)).mono fun r hr => ?_)
    rw [List.length_append, List.length_singleton] at hr
    omega
theorem same4_ok (a n : Int) (hn : n ≤ 1000) : Ok (fun k => spec_l4Same.f k a n) (fun r => r.length ≤ 1000) := by
  unfold spec_l4Same.f
  exact (same4_l a n (by omega) 1000 [] 0 (by omega) (by omega) (by simp)).mono fun r hr => by simpa using hr
theorem nums_l1 (b : List Int) (P : List Int × Int → Prop) (a1 x6 x7 p : Int) (m : Nat) : ∀ (o : List Int), o.length + m ≤ 65536 →
    (∀ y : List Int, y.length = o.length + m → Ok (fun k => spec_l14Nums.l0 k a1 y (wrap64 (x6 - 1)) b p) P) → Ok (fun k => spec_l14Nums.l1 k a1 o x6 x7 (m : Int) b p) P := by
  induction m with
  | zero =>
    intro o hs K
    refine Ok.succ ?_
    simp only [spec_l14Nums.l1]
    exact Ok.no (by omega) (K o (by omega))
  | succ m ih =>
    intro o hs K
    refine Ok.succ ?_
    simp only [spec_l14Nums.l1]
    refine Ok.yes (by omega) (Ok.yes (by omega) ?_)
    rw [show wrap64 (((m + 1 : Nat) : Int) - 1) = (m : Int) by rw [w64 (by omega) (by omega)]; omega]
    refine ih _ (by rw [List.length_append, List.length_singleton]; omega) fun y hy => K y ?_
    rw [List.length_append, List.length_singleton] at hy
    omega
theorem mul_small (x y : Int) (hx : 0 ≤ x ∧ x < 4) (hy : 0 ≤ y ∧ y < 4) : 0 ≤ x * y ∧ x * y ≤ 9 := by
  refine ⟨Int.mul_nonneg hx.1 hy.1, ?_⟩
  have h := Int.mul_le_mul (show x ≤ 3 by omega) (show y ≤ 3 by omega) hy.1 (by omega)
  omega
theorem nums_l0 (b : List Int) (hb : ∀ x ∈ b, 0 ≤ x ∧ x ≤ 255) (a1 : Int) (ha : 1 ≤ a1 ∧ a1 ≤ 100000) (d : Nat) : ∀ (o : List Int) (p : Int), d ≤ 100 → o.length + 10 * d ≤ 60000 → 0 ≤ p → p + 3 * d + 2 ≤ 1099511627776 →
    Ok (fun k => spec_l14Nums.l0 k a1 o (d : Int) b p) (fun r => r.1.length ≤ o.length + 10 * d + 1000 ∧ p ≤ r.2 ∧ r.2 ≤ p + 3 * d + 2) := by
  induction d with
  | zero =>
    intro o p hd ho h0 hp
    refine Ok.succ ?_
    simp only [spec_l14Nums.l0]
    refine Ok.no (by omega) ?_
    refine (pick_at b hb p 16 ⟨h0, by omega⟩ ⟨by omega, by omega⟩).bind fun a hv => ?_
    obtain ⟨v, q⟩ := a
    obtain ⟨hv, rfl⟩ := hv
    refine Ok.ite (fun h => Ok.no (by omega) ?_) (fun h => Ok.now _ ⟨by simp only; omega, by simp only; omega, by simp only; omega⟩)
    refine (pick_at b hb (p + 1) 9 ⟨by omega, by omega⟩ ⟨by omega, by omega⟩).bind fun a hu => ?_
    obtain ⟨u, q⟩ := a
    obtain ⟨hu, rfl⟩ := hu
    simp only at hu
    simp only [show wrap64 (130 + u) = 130 + u from w64 (by omega) (by omega)]
    refine (same4_ok _ (130 + u) (by omega)).bind fun t ht => Ok.yes (by omega) (Ok.now _ ⟨?_, by simp only; omega, by simp only; omega⟩)
    simp only [List.length_append]
    omega
  | succ d ih =>
    intro o p hd ho h0 hp
    refine Ok.succ ?_
    simp only [spec_l14Nums.l0]
    refine Ok.yes (by omega) ?_
    refine (pick_at b hb p a1 ⟨h0, by omega⟩ ⟨by omega, by omega⟩).bind fun a hv => ?_
    obtain ⟨v, q⟩ := a
    obtain ⟨hv, rfl⟩ := hv
    refine (pick_at b hb (p + 1) 4 ⟨by omega, by omega⟩ ⟨by omega, by omega⟩).bind fun a hu => ?_
    obtain ⟨u, q⟩ := a
    obtain ⟨hu, rfl⟩ := hu
    refine (pick_at b hb (p + 1 + 1) 4 ⟨by omega, by omega⟩ ⟨by omega, by omega⟩).bind fun a hz => ?_
    obtain ⟨z, q⟩ := a
    obtain ⟨hz, rfl⟩ := hz
    simp only at hu hz hv
    have hm := mul_small u z hu hz
    simp only [show wrap64 (1 + wrap64 (u * z)) = 1 + u * z by rw [w64 (x := u * z) (by omega) (by omega), w64 (by omega) (by omega)]]
    obtain ⟨m, hm2⟩ := Int.eq_ofNat_of_zero_le (show 0 ≤ 1 + u * z by omega)
    rw [hm2]
    refine nums_l1 b _ a1 ((d + 1 : Nat) : Int) v (p + 1 + 1 + 1) m o (by omega) fun y hy => ?_
    rw [show wrap64 (((d + 1 : Nat) : Int) - 1) = (d : Int) by rw [w64 (by omega) (by omega)]; omega]
    exact (ih y (p + 1 + 1 + 1) (by omega) (by omega) (by omega) (by omega)).mono fun r hr => ⟨by omega, by omega, by omega⟩
theorem nums_ok (b : List Int) (hb : ∀ x ∈ b, 0 ≤ x ∧ x ≤ 255) (a1 p : Int) (ha : 1 ≤ a1 ∧ a1 ≤ 100000) (hp : 0 ≤ p ∧ p ≤ 1000000000) : Ok (fun k => spec_l14Nums.f k b p a1) (fun r => r.1.length ≤ 1100 ∧ p ≤ r.2 ∧ r.2 ≤ p + 40) := by
  unfold spec_l14Nums.f
  refine (pick_at b hb p 9 ⟨by omega, by omega⟩ ⟨by omega, by omega⟩).bind fun a hv => ?_
  obtain ⟨v, q⟩ := a
  obtain ⟨hv, rfl⟩ := hv
  simp only at hv
  obtain ⟨m, hm⟩ := Int.eq_ofNat_of_zero_le hv.1
  subst hm
  refine (nums_l0 b hb a1 ha m [] (p + 1) (by omega) (by simp; omega) (by omega) (by omega)).mono fun r hr => ?_
  simp only [List.length_nil] at hr
  exact ⟨by omega, by omega, by omega⟩
theorem rows_l1 (b : List Int) (hb : ∀ x ∈ b, 0 ≤ x ∧ x ≤ 255) (P : List (List Int) × Int → Prop) (x3 : List (List Int)) (h3 : x3.length ≤ 1000) (W : Nat) (hW : W ≤ 1000) (x5 : Int) (d : Nat) : ∀ (o : List Int) (p : Int), W ≤ o.length + d → o.length ≤ 100000 → 0 ≤ p → p + d ≤ 1099511627776 →
    (∀ (r : List Int) (q : Int), r.length = W → p ≤ q → q ≤ p + d → Ok (fun k => spec_l14Rows.l0 k (x3 ++ [r]) (W : Int) (wrap64 (x5 - 1)) b q) P) → Ok (fun k => spec_l14Rows.l1 k x3 (W : Int) x5 o b p) P := by
  have done (o : List Int) (p : Int) (d : Nat) (h : W ≤ o.length) (hK : (∀ (r : List Int) (q : Int), r.length = W → p ≤ q → q ≤ p + d → Ok (fun k => spec_l14Rows.l0 k (x3 ++ [r]) (W : Int) (wrap64 (x5 - 1)) b q) P)) : Ok (fun k => spec_l14Rows.l1 k x3 (W : Int) x5 o b p) P := by
    refine Ok.succ ?_
    simp only [spec_l14Rows.l1]
    refine Ok.no (by omega) (Ok.yes (by omega) (Ok.yes (by omega) (Ok.yes (by omega) (hK _ _ ?_ (by omega) (by omega)))))
    rw [List.length_take, Int.toNat_natCast]
    omega
  induction d with
  | zero =>
    intro o p hd ho h0 hp K
    exact done o p 0 (by omega) K
  | succ d ih =>
    intro o p hd ho h0 hp K
    by_cases h : W ≤ o.length
    · exact done o p (d + 1) h K
    · refine Ok.succ ?_
      simp only [spec_l14Rows.l1]
      refine Ok.yes (by omega) ?_
      refine (pick_at b hb p 256 ⟨h0, by omega⟩ ⟨by omega, by omega⟩).bind fun a hv => ?_
      obtain ⟨v, q⟩ := a
      obtain ⟨hv, rfl⟩ := hv
      refine Ok.yes (by omega) (ih _ (p + 1) (by rw [List.length_append, List.length_singleton]; omega) (by rw [List.length_append, List.length_singleton]; omega) (by omega) (by omega) fun r q hr h1 h2 => K r q hr (by omega) (by omega))
theorem rows_l0 (b : List Int) (hb : ∀ x ∈ b, 0 ≤ x ∧ x ≤ 255) (W : Nat) (hW : W ≤ 1000) (d : Nat) : ∀ (x3 : List (List Int)) (p : Int), x3.length + d ≤ 1000 → (∀ x ∈ x3, x.length = W) → 0 ≤ p → p + 2000 * d ≤ 1000000000 →
    Ok (fun k => spec_l14Rows.l0 k x3 (W : Int) (d : Int) b p) (fun r => r.1.length = x3.length + d ∧ (∀ x ∈ r.1, x.length = W) ∧ p ≤ r.2 ∧ r.2 ≤ p + 2000 * d) := by
  induction d with
  | zero =>
    intro x3 p hd hx h0 hp
    refine Ok.succ ?_
    simp only [spec_l14Rows.l0]
    exact Ok.no (by omega) (Ok.now _ ⟨rfl, hx, by simp only; omega, by simp only; omega⟩)
  | succ d ih =>
    intro x3 p hd hx h0 hp
    refine Ok.succ ?_
    simp only [spec_l14Rows.l0]
    refine Ok.yes (by omega) ?_
    refine (nums_ok b hb 5 p (by omega) ⟨h0, by omega⟩).bind fun a hv => ?_
    obtain ⟨o, q⟩ := a
    simp only at hv
    refine rows_l1 b hb _ x3 (by omega) W hW ((d + 1 : Nat) : Int) 1000 o q (by omega) (by omega) (by omega) (by omega) fun r q2 hr h1 h2 => ?_
    rw [show wrap64 (((d + 1 : Nat) : Int) - 1) = (d : Int) by rw [w64 (by omega) (by omega)]; omega]
    refine (ih (x3 ++ [r]) q2 (by rw [List.length_append, List.length_singleton]; omega) (fun x hm => ?_) (by omega) (by omega)).mono fun y hy => ?_
    · rcases List.mem_append.1 hm with hm | hm
      · exact hx x hm
      · rw [List.mem_singleton.1 hm]; exact hr
    · obtain ⟨y1, y2, y3, y4⟩ := hy
      rw [List.length_append, List.length_singleton] at y1
      exact ⟨by omega, y2, by omega, by omega⟩
theorem rows_ok (b : List Int) (hb : ∀ x ∈ b, 0 ≤ x ∧ x ≤ 255) (p : Int) (hp : 0 ≤ p ∧ p ≤ 100000000) : Ok (fun k => spec_l14Rows.f k b p) (fun r => r.1.length ≤ 4 ∧ (∃ W, W ≤ 6 ∧ ∀ x ∈ r.1, x.length = W) ∧ p ≤ r.2 ∧ r.2 ≤ p + 100000) := by
  unfold spec_l14Rows.f
  refine (pick_at b hb p 7 ⟨by omega, by omega⟩ ⟨by omega, by omega⟩).bind fun a hv => ?_
  obtain ⟨v, q⟩ := a
  obtain ⟨hv, rfl⟩ := hv
  refine (pick_at b hb (p + 1) 5 ⟨by omega, by omega⟩ ⟨by omega, by omega⟩).bind fun a hu => ?_
  obtain ⟨u, q⟩ := a
  obtain ⟨hu, rfl⟩ := hu
  simp only at hv hu
  obtain ⟨W, hW⟩ := Int.eq_ofNat_of_zero_le hv.1
  obtain ⟨d, hd⟩ := Int.eq_ofNat_of_zero_le hu.1
  subst hW hd
  refine (rows_l0 b hb W (by omega) d [] (p + 1 + 1) (by simp; omega) (fun x h => by simp at h) (by omega) (by omega)).mono fun r hr => ?_
  obtain ⟨h1, h2, h3, h4⟩ := hr
  simp only [List.length_nil] at h1
  exact ⟨by omega, ⟨W, by omega, h2⟩, by omega, by omega⟩
theorem eq7_l (row : List Int) (hl : row.length ≤ 1000) (i : Nat) (hi : i < row.length) (M : Nat) (hM : M ≤ 1000) (d : Nat) : ∀ (n : Nat), 1 ≤ n → i + n ≤ row.length → M ≤ n + d → Ok (fun k => spec_l7Equal.l0 k row (i : Int) (M : Int) (n : Int)) (fun r => (n : Int) ≤ r ∧ i + r ≤ row.length) := by
  induction d with
  | zero =>
    intro n h1 h2 h3
    refine Ok.succ ?_
    simp only [spec_l7Equal.l0]
    exact Ok.no (by omega) (Ok.now _ ⟨by omega, by omega⟩)
  | succ d ih =>
    intro n h1 h2 h3
    refine Ok.succ ?_
    simp only [spec_l7Equal.l0]
    rw [show wrap64 ((i : Int) + n) = ((i + n : Nat) : Int) by rw [w64 (by omega) (by omega)]; omega, inc n (by omega)]
    refine Ok.ite (fun h => Ok.ite (fun h4 => ?_) (fun h4 => Ok.now _ ⟨by omega, by omega⟩)) (fun h => Ok.now _ ⟨by omega, by omega⟩)
    refine Ok.yes (by omega) (Ok.yes (by omega) (Ok.yes (by omega) (Ok.ite (fun h5 => ?_) (fun h5 => Ok.now _ ⟨by omega, by omega⟩))))
    exact (ih (n + 1) (by omega) (by omega) (by omega)).mono fun r hr => ⟨by omega, by omega⟩
theorem eq7_ok (row : List Int) (hl : row.length ≤ 1000) (i : Nat) (hi : i < row.length) : Ok (fun k => spec_l7Equal.f k row (i : Int) 255) (fun r => 1 ≤ r ∧ i + r ≤ row.length) := by
  unfold spec_l7Equal.f
  exact eq7_l row hl i hi 255 (by omega) 255 1 (by omega) (by omega) (by omega)
theorem row7_l (row : List Int) (hl : row.length ≤ 1000) (d : Nat) : ∀ (o : ByteArray) (i : Nat), i ≤ row.length → row.length ≤ i + d → o.size ≤ 2 * i → Ok (fun k => spec_l7Row.l0 k row o (i : Int)) (fun r => r.size ≤ 2 * row.length) := by
  induction d with
  | zero =>
    intro o i h0 h1 h2
    refine Ok.succ ?_
    simp only [spec_l7Row.l0]
    exact Ok.no (by omega) (Ok.now _ (by omega))
  | succ d ih =>
    intro o i h0 h1 h2
    refine Ok.succ ?_
    simp only [spec_l7Row.l0]
    refine Ok.ite (fun h => ?_) (fun h => Ok.now _ (by omega))
    refine (eq7_ok row hl i (by omega)).bind fun t ht => ?_
    refine Ok.yes (by omega) (Ok.binds rfl ?_)
    have hz : (strOfNums [t % 256, (rd row (i : Int)) % 256]).size = 2 := by rw [strOfNums_size]; rfl
    obtain ⟨n, hn⟩ := Int.eq_ofNat_of_zero_le (show 0 ≤ t by omega)
    subst hn
    rw [show wrap64 ((i : Int) + n) = ((i + n : Nat) : Int) by rw [w64 (by omega) (by omega)]; omega]
    refine Ok.yes (by rw [hz]; omega) ?_
    exact ih _ (i + n) (by omega) (by omega) (by rw [ByteArray.size_append, hz]; omega)
theorem row7_ok (row : List Int) (hl : row.length ≤ 1000) : Ok (fun k => spec_l7Row.f k row) (fun r => r.size ≤ 2 * row.length) := by
  unfold spec_l7Row.f
  exact row7_l row hl row.length _ 0 (by omega) (by omega) (by rw [size_empty]; omega)
theorem l1in_any (a b c : Int) : spec_l1In.f a b c = some (decide (b ≤ a ∧ a ≤ c)) := by
  unfold spec_l1In.f
  by_cases h : a ≥ b
  · rw [if_pos h]
    congr 1
    exact decide_eq_decide.2 ⟨fun h2 => ⟨h, h2⟩, fun h2 => h2.2⟩
  · rw [if_neg h, decide_eq_false (by omega)]
theorem rleput_l1 (rows : List (List Int)) (hr : rows.length ≤ 1000 ∧ ∀ r ∈ rows, r.length ≤ 1000) (P : ByteArray → Prop) (hP : P (⟨#[]⟩ : ByteArray)) (o : ByteArray) (i : Nat) (hi : i < rows.length) (ho : o.size ≤ 1000000000)
    (K : ∀ o' : ByteArray, o'.size ≤ o.size + 2002 → Ok (fun k => spec_RlePut.l0 k rows o' ((i + 1 : Nat) : Int)) P) (d : Nat) : ∀ j : Nat, rows[i].length ≤ j + d → j ≤ 100000 → Ok (fun k => spec_RlePut.l1 k rows o (i : Int) (j : Int)) P := by
  have hl := hr.2 _ (List.getElem_mem hi)
  have done (j : Nat) (hj : rows[i].length ≤ j) : Ok (fun k => spec_RlePut.l1 k rows o (i : Int) (j : Int)) P := by
    refine Ok.succ ?_
    simp only [spec_RlePut.l1]
    rw [rdL_at rows i hi, inc i (by omega)]
    refine Ok.yes (by omega) (Ok.yes (by omega) (Ok.no (by omega) ((row7_ok _ hl).bind fun t ht => ?_)))
    refine Ok.yes (by omega) (Ok.ite (fun h => Ok.binds rfl ?_) (fun h => K _ (by rw [ByteArray.size_append]; omega)))
    have hz : (strOfNums [0, 0]).size = 2 := by rw [strOfNums_size]; rfl
    refine Ok.yes (by rw [ByteArray.size_append, hz]; omega) (K _ ?_)
    rw [ByteArray.size_append, ByteArray.size_append, hz]
    omega
  induction d with
  | zero => exact fun j hj _ => done j (by omega)
  | succ d ih =>
    intro j hj hj2
    by_cases h : rows[i].length ≤ j
    · exact done j h
    · refine Ok.succ ?_
      simp only [spec_RlePut.l1]
      rw [rdL_at rows i hi, inc j (by omega)]
      refine Ok.yes (by omega) (Ok.yes (by omega) (Ok.yes (by omega) (Ok.yes (by omega) (Ok.binds (l1in_any _ 0 255) ?_))))
      exact Ok.ite (fun h => Ok.ite (fun h2 => Ok.now _ hP) (fun h2 => ih (j + 1) (by omega) (by omega))) (fun h => Ok.now _ hP)
theorem rleput_l0 (rows : List (List Int)) (hr : rows.length ≤ 1000 ∧ ∀ r ∈ rows, r.length ≤ 1000) (d : Nat) : ∀ (o : ByteArray) (i : Nat), i + d = rows.length → o.size ≤ 2002 * i → Ok (fun k => spec_RlePut.l0 k rows o (i : Int)) (fun s => s.size ≤ 3000000) := by
  induction d with
  | zero =>
    intro o i h0 h1
    refine Ok.succ ?_
    simp only [spec_RlePut.l0]
    refine Ok.no (by omega) (Ok.binds rfl ?_)
    have hz : (strOfNums [0, 1]).size = 2 := by rw [strOfNums_size]; rfl
    exact Ok.yes (by rw [hz]; omega) (Ok.now _ (by rw [ByteArray.size_append, hz]; omega))
  | succ d ih =>
    intro o i h0 h1
    refine Ok.succ ?_
    simp only [spec_RlePut.l0]
    refine Ok.yes (by omega) ?_
    exact rleput_l1 rows hr _ (by rw [size_empty]; omega) o i (by omega) (by omega) (fun o' ho' => ih o' (i + 1) (by omega) (by omega)) 1000 0 (by have := hr.2 _ (List.getElem_mem (show i < rows.length by omega)); omega) (by omega)
theorem rleput_ok (rows : List (List Int)) (hr : rows.length ≤ 1000 ∧ ∀ r ∈ rows, r.length ≤ 1000) : Ok (fun k => spec_RlePut.f k rows) (fun s => s.size ≤ 3000000) := by
  unfold spec_RlePut.f
  exact Ok.ite (fun h => Ok.now _ (by rw [size_empty]; omega)) (fun h => rleput_l0 rows hr rows.length _ 0 (by omega) (by rw [size_empty]; omega))
theorem drawrle_j (b : List Int) (hb : ∀ x ∈ b, 0 ≤ x ∧ x ≤ 255) (rows : List (List Int)) (s : ByteArray) (hs : s.size ≤ 3000000) (W p : Int) (hp : 0 ≤ p ∧ p ≤ 100000000) : Ok (fun k => spec_DrawRleGet.j0 k rows s W b p) (fun _ => True) := by
  refine Ok.succ ?_
  simp only [spec_DrawRleGet.j0]
  refine (pick_at b hb p 7 ⟨by omega, by omega⟩ ⟨by omega, by omega⟩).bind fun a hv => ?_
  obtain ⟨v, q⟩ := a
  obtain ⟨hv, rfl⟩ := hv
  refine Ok.ite (fun h1 => ?_) (fun h1 => Ok.ite (fun h2 => ?_) (fun h2 => Ok.ite (fun h3 => ?_) (fun h3 => Ok.ite (fun h4 => ?_) (fun h4 => Ok.now _ trivial))))
  · exact (bend_ok b hb (p + 1) ⟨by omega, by omega⟩ s (by omega)).bind fun a _ => Ok.now _ trivial
  · refine (pick_at b hb (p + 1) 3 ⟨by omega, by omega⟩ ⟨by omega, by omega⟩).bind fun a hu => ?_
    obtain ⟨u, q⟩ := a
    obtain ⟨hu, rfl⟩ := hu
    exact (pick_at b hb (p + 1 + 1) 3 ⟨by omega, by omega⟩ ⟨by omega, by omega⟩).bind fun a hu => Ok.now _ trivial
  · refine (pick_at b hb (p + 1) 2 ⟨by omega, by omega⟩ ⟨by omega, by omega⟩).bind fun a hu => ?_
    obtain ⟨u, q⟩ := a
    obtain ⟨hu, rfl⟩ := hu
    exact (pick_at b hb (p + 1 + 1) 3 ⟨by omega, by omega⟩ ⟨by omega, by omega⟩).bind fun a hu => Ok.now _ trivial
  · simp only [show wrap64 ((s.size : Int) + 1) = (s.size : Int) + 1 from w64 (by omega) (by omega)]
    refine (pick_at b hb (p + 1) ((s.size : Int) + 1) ⟨by omega, by omega⟩ ⟨by omega, by omega⟩).bind fun a hu => ?_
    obtain ⟨u, q⟩ := a
    obtain ⟨hu, rfl⟩ := hu
    simp only at hu
    exact Ok.yes (by simp only; omega) (Ok.yes (by simp only; omega) (Ok.now _ trivial))
theorem drawrleget_ok (l : List Int) (hl : ∀ x ∈ l, 0 ≤ x ∧ x ≤ 255) : Ok (fun k => spec_DrawRleGet.f k l) (fun _ => True) := by
  unfold spec_DrawRleGet.f
  refine (open_ok l).bind fun a ha => ?_
  obtain ⟨b, p⟩ := a
  obtain ⟨rfl, rfl⟩ := ha
  refine (rows_ok _ (byte_take hl 2000) 0 (by omega)).bind fun a ha => ?_
  obtain ⟨rows, q⟩ := a
  obtain ⟨h1, ⟨W, hW, h2⟩, h3, h4⟩ := ha
  refine (rleput_ok rows ⟨by simp only at h1; omega, fun r hr => by have := h2 r hr; omega⟩).bind fun s hs => ?_
  simp only at h3 h4
  exact Ok.ite (fun h => Ok.yes (by simpa using h) (drawrle_j _ (byte_take hl 2000) rows s hs _ q ⟨by omega, by omega⟩)) (fun h => drawrle_j _ (byte_take hl 2000) rows s hs _ q ⟨by omega, by omega⟩)
end Go.Proofs.Ytgdbinifnhfcjaa.Pure
