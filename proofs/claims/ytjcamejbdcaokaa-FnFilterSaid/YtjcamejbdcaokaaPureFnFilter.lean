/- laws.FnFilter: of every drawn kind, row, row above and step the program filters and unfilters as the reference does; a filtered row unfiltered is the row, and the other way round. No condition. -/
import Derived.Test.YtjcamejbdcaokaaF5
import Derived.Test.YtjcamejbdcaokaaLibOk
import Derived.OpenShut
set_option linter.unusedVariables false
set_option linter.unusedSimpArgs false
namespace Go.Proofs.Ytjcamejbdcaokaa.Pure
open Go.RowKit Go.Proofs.Ytjcamejbdcaokaa.P Go.Proofs.YtjcamejbdcaokaaW.PrintWords Go.Proofs.YtjcamejbdcaokaaW.PrintLast Go.Proofs.YtjcamejbdcaokaaW.PrintMore
/-! ### what is drawn: pick, of, l1Many, l14Text -/
open Go.Proofs.Ytjcamejbdcaokaa.Lib
theorem pick_ok (b : List Int) (hb : ∀ x ∈ b, 0 ≤ x ∧ x ≤ 255) (p n : Int) (hp : 0 ≤ p) (hp' : p ≤ 1099511627776) (hn : n ≤ 9223372036854775807) :
    Ok (fun k => spec_l1Rd_pick.f k b p n) (fun r => 0 ≤ r.1 ∧ (1 ≤ n → r.1 < n) ∧ (n < 1 → r.1 = 0) ∧ r.2 = p + 1) := by
  have e1 : wrap64 (p + 1) = p + 1 := w64 (by omega) (by omega)
  unfold spec_l1Rd_pick.f
  by_cases h1 : n < 1
  · refine Ok.yes h1 (Ok.succ ?_)
    simp only [spec_l1Rd_pick.j0, e1, if_true]
    exact Ok.now _ ⟨by simp, fun h => by omega, fun _ => rfl, rfl⟩
  refine Ok.no h1 (Ok.succ ?_)
  simp only [spec_l1Rd_pick.j0, e1]
  by_cases h2 : (b.length : Int) = 0
  · have hbq : ((b.length : Int) == 0) = true := beq_iff_eq.2 h2
    exact Ok.yes hbq (Ok.now _ ⟨by omega, fun _ => by show (0 : Int) < n; omega, fun h => absurd h h1, rfl⟩)
  have hbq : ¬ ((b.length : Int) == 0) = true := by simpa using h2
  have e2 : wrap64 (p + 1 - 1) = p := by rw [w64 (by omega) (by omega)]; omega
  simp only [e2]
  refine Ok.no hbq ?_
  have hn0 : ¬ n = 0 := by omega
  refine Ok.ite (fun h3 => Ok.yes hp (Ok.no hn0 ?_)) (fun h3 => Ok.no h2 ?_)
  · have hm := hb _ (rd_mem hp h3)
    have e3 : wrap64 (rd b p) = rd b p := w64 (by omega) (by omega)
    rw [e3, tmod_nn hm.1]
    exact Ok.now _ ⟨Int.emod_nonneg _ hn0, fun _ => Int.emod_lt_of_pos _ (by omega), fun h => absurd h h1, rfl⟩
  · have hl : 0 < (b.length : Int) := by omega
    rw [tmod_nn hp]
    have a0 : 0 ≤ p % (b.length : Int) := Int.emod_nonneg _ h2
    have a1 : p % (b.length : Int) < (b.length : Int) := Int.emod_lt_of_pos _ hl
    have e4 : wrap64 (p * 7) = p * 7 := w64 (by omega) (by omega)
    have e5 : wrap64 (p * 7 + 3) = p * 7 + 3 := w64 (by omega) (by omega)
    simp only [e4, e5]
    rw [tmod_nn (show 0 ≤ p * 7 + 3 by omega)]
    have b0 : 0 ≤ (p * 7 + 3) % (b.length : Int) := Int.emod_nonneg _ h2
    have b1 : (p * 7 + 3) % (b.length : Int) < (b.length : Int) := Int.emod_lt_of_pos _ hl
    refine Ok.yes a0 (Ok.yes a1 (Ok.yes b0 (Ok.yes b1 (Ok.no hn0 ?_))))
    have c0 := hb _ (rd_mem a0 a1)
    have c1 := hb _ (rd_mem b0 b1)
    generalize rd b (p % (b.length : Int)) = x at c0 ⊢
    generalize rd b ((p * 7 + 3) % (b.length : Int)) = y at c1 ⊢
    rw [tdiv_nn hp]
    have d0 : 0 ≤ p / (b.length : Int) := Int.ediv_nonneg hp (by omega)
    have d1 : p / (b.length : Int) ≤ p := Int.ediv_le_self _ hp
    generalize p / (b.length : Int) = q at d0 d1 ⊢
    have f1 : wrap64 x = x := w64 (by omega) (by omega)
    have f2 : wrap64 y = y := w64 (by omega) (by omega)
    have f3 : wrap64 q = q := w64 (by omega) (by omega)
    have f4 : wrap64 (x * 131) = x * 131 := w64 (by omega) (by omega)
    have f5 : wrap64 (y * 1117) = y * 1117 := w64 (by omega) (by omega)
    have f6 : wrap64 (p * 29) = p * 29 := w64 (by omega) (by omega)
    have f7 : wrap64 (q * 53) = q * 53 := w64 (by omega) (by omega)
    simp only [f1, f2, f3, f4, f5, f6, f7]
    have f8 : wrap64 (x * 131 + y * 1117) = x * 131 + y * 1117 := w64 (by omega) (by omega)
    simp only [f8]
    have f9 : wrap64 (x * 131 + y * 1117 + p * 29) = x * 131 + y * 1117 + p * 29 := w64 (by omega) (by omega)
    simp only [f9]
    have f10 : wrap64 (x * 131 + y * 1117 + p * 29 + q * 53) = x * 131 + y * 1117 + p * 29 + q * 53 := w64 (by omega) (by omega)
    simp only [f10]
    have g0 : 0 ≤ x * 131 + y * 1117 + p * 29 + q * 53 := by omega
    have g1 : x * 131 + y * 1117 + p * 29 + q * 53 ≤ 9223372036854775807 := by omega
    generalize x * 131 + y * 1117 + p * 29 + q * 53 = z at g0 g1 ⊢
    rw [tdiv_nn g0]
    have f11 : wrap64 (z / 64) = z / 64 := w64 (by omega) (by omega)
    rw [f11]
    have hx := xor_nonneg g0 g1 (show 0 ≤ z / 64 by omega) (by omega)
    rw [tmod_nn hx.1]
    exact Ok.now _ ⟨Int.emod_nonneg _ hn0, fun _ => Int.emod_lt_of_pos _ (by omega), fun h => absurd h h1, rfl⟩

theorem pick_at (b : List Int) (hb : ∀ x ∈ b, 0 ≤ x ∧ x ≤ 255) (p n : Int) (hp : 0 ≤ p ∧ p ≤ 1099511627776) (hn : 1 ≤ n ∧ n ≤ 9223372036854775807) :
    Ok (fun k => spec_l1Rd_pick.f k b p n) (fun r => (0 ≤ r.1 ∧ r.1 < n) ∧ r.2 = p + 1) :=
  (pick_ok b hb p n hp.1 hp.2 hn.2).mono fun _ h => ⟨⟨h.1, h.2.1 hn.1⟩, h.2.2.2⟩
theorem open_ok (l : List Int) : Ok (fun _ => spec_l1Open.f l) (fun r => r.1 = l.take 2000 ∧ r.2 = 0) := by
  unfold spec_l1Open.f
  refine Ok.ite (fun h => Ok.yes (by omega) (Ok.now _ ⟨rfl, rfl⟩)) (fun h => Ok.now _ ⟨?_, rfl⟩)
  rw [List.take_of_length_le (by omega)]
theorem byte_wf {l : List Int} (h : ∀ x ∈ l, (Lit.int .u8 x).wf = true) : ∀ x ∈ l, 0 ≤ x ∧ x ≤ 255 := fun x hx => bounds_u8 (h x hx)
theorem byte_take {l : List Int} (h : ∀ x ∈ l, 0 ≤ x ∧ x ≤ 255) (n : Nat) : ∀ x ∈ l.take n, 0 ≤ x ∧ x ≤ 255 := fun x hx => h x (List.mem_of_mem_take hx)

theorem of_ok (b : List Int) (hb : ∀ x ∈ b, 0 ≤ x ∧ x ≤ 255) (p : Int) (l : List ByteArray) (hp : 0 ≤ p ∧ p ≤ 1099511627776) (hl : 1 ≤ l.length ∧ l.length ≤ 1000) (m : Nat) (hm : ∀ s ∈ l, s.size ≤ m) :
    Ok (fun k => spec_l1Rd_of.f k b p l) (fun r => r.1.size ≤ m ∧ r.2 = p + 1) := by
  unfold spec_l1Rd_of.f
  refine (pick_at b hb p l.length hp (by omega)).bind fun a ha => ?_
  obtain ⟨v, q⟩ := a
  obtain ⟨⟨h0, h1⟩, rfl⟩ := ha
  refine Ok.yes h0 (Ok.yes h1 (Ok.now _ ⟨?_, rfl⟩))
  apply hm
  have hv : v.toNat < l.length := by simp only at h0 h1; omega
  show rdOf ByteArray.empty l v ∈ l
  unfold rdOf
  rw [List.getD_eq_getElem?_getD, List.getElem?_eq_getElem hv]
  exact List.getElem_mem hv

theorem many_l (s : ByteArray) (n : Int) (hs : s.size ≤ 65536) (hn : n ≤ 65536) (d : Nat) : ∀ (o : ByteArray) (i : Int), 0 ≤ i → n - i ≤ d → (o.size : Int) ≤ 65536 * i →
    Ok (fun k => spec_l1Many.l0 k s n o i) (fun r => r.size ≤ o.size + s.size * d) := by
  induction d with
  | zero =>
    intro o i h0 hd ho
    have h : ¬ i < n := by omega
    refine Ok.succ ?_
    simp only [spec_l1Many.l0]
    exact Ok.no h (Ok.now _ (by omega))
  | succ d ih =>
    intro o i h0 hd ho
    refine Ok.succ ?_
    simp only [spec_l1Many.l0]
    refine Ok.ite (fun h => ?_) (fun h => Ok.now _ (by omega))
    have c : o.size + s.size ≤ 9223372036854775807 := by omega
    have e : wrap64 (i + 1) = i + 1 := w64 (by omega) (by omega)
    rw [e]
    refine Ok.yes c ((ih (o ++ s) (i + 1) (by omega) (by omega) (by rw [ByteArray.size_append]; omega)).mono fun r hr => ?_)
    rw [ByteArray.size_append] at hr
    rw [Nat.mul_succ]
    omega
theorem many_ok (s : ByteArray) (n : Int) (hs : s.size ≤ 65536) (hn : n ≤ 65536) : Ok (fun k => spec_l1Many.f k s n) (fun r => r.size ≤ s.size * n.toNat) := by
  unfold spec_l1Many.f
  refine (many_l s n hs hn n.toNat (⟨#[]⟩ : ByteArray) 0 (by omega) (by omega) (by rw [size_empty]; omega)).mono fun r hr => ?_
  have : (⟨#[]⟩ : ByteArray).size = 0 := rfl
  omega

/-- The inner loop of l14Text, by what follows it. -/
theorem text_l1 (b : List Int) (hb : ∀ x ∈ b, 0 ≤ x ∧ x ≤ 255) (P : ByteArray × Int → Prop) (n : Int) (m : Nat) : ∀ (s : ByteArray) (p : Int), 0 ≤ p → p + m ≤ 1099511627776 → s.size + m ≤ 65536 →
    (∀ (s' : ByteArray) (p' : Int), s'.size ≤ s.size + m → p ≤ p' → p' ≤ p + m → Ok (fun k => spec_l14Text.l0 k s' (wrap64 (n - 1)) b p') P) →
    Ok (fun k => spec_l14Text.l1 k s n (m : Int) b p) P := by
  induction m with
  | zero =>
    intro s p h0 hp hs K
    have h : ¬ ((0 : Nat) : Int) > 0 := by omega
    refine Ok.succ ?_
    simp only [spec_l14Text.l1]
    exact Ok.no h (K s p (by omega) (by omega) (by omega))
  | succ m ih =>
    intro s p h0 hp hs K
    have h : ((m + 1 : Nat) : Int) > 0 := by omega
    refine Ok.succ ?_
    simp only [spec_l14Text.l1]
    refine Ok.yes h ?_
    refine (pick_at b hb p 256 ⟨h0, by omega⟩ ⟨by omega, by omega⟩).bind fun a ha => ?_
    obtain ⟨v, q⟩ := a
    obtain ⟨_, rfl⟩ := ha
    refine Ok.binds rfl ?_
    have hz : (strOfNums [(v, p + 1).1 % 256]).size = 1 := by rw [strOfNums_size]; rfl
    have c : s.size + (strOfNums [(v, p + 1).1 % 256]).size ≤ 9223372036854775807 := by omega
    have e : wrap64 (((m + 1 : Nat) : Int) - 1) = (m : Int) := by rw [w64 (by omega) (by omega)]; omega
    refine Ok.yes c ?_
    rw [e]
    refine ih _ _ (by omega) (by omega) (by rw [ByteArray.size_append]; omega) fun s' p' h1 h2 h3 => ?_
    rw [ByteArray.size_append] at h1
    exact K s' p' (by omega) (by omega) (by omega)

theorem text_l0 (b : List Int) (hb : ∀ x ∈ b, 0 ≤ x ∧ x ≤ 255) (d : Nat) : ∀ (s : ByteArray) (p : Int), d ≤ 100 → 0 ≤ p → p + 20 * d ≤ 1099511627776 → s.size + 40 * d ≤ 65536 →
    Ok (fun k => spec_l14Text.l0 k s (d : Int) b p) (fun r => r.1.size ≤ s.size + 40 * d ∧ p ≤ r.2 ∧ r.2 ≤ p + 20 * d) := by
  induction d with
  | zero =>
    intro s p hd h0 hp hs
    have h : ¬ ((0 : Nat) : Int) > 0 := by omega
    refine Ok.succ ?_
    simp only [spec_l14Text.l0]
    exact Ok.no h (Ok.now _ ⟨by simp, by simp, by simp⟩)
  | succ d ih =>
    intro s p hd h0 hp hs
    have h : ((d + 1 : Nat) : Int) > 0 := by omega
    have e : wrap64 (((d + 1 : Nat) : Int) - 1) = (d : Int) := by rw [w64 (by omega) (by omega)]; omega
    have go : ∀ (t : ByteArray) (q : Int), t.size ≤ 40 → p ≤ q → q ≤ p + 20 → Ok (fun k => spec_l14Text.l0 k (s ++ t) (d : Int) b q) (fun r => r.1.size ≤ s.size + 40 * (d + 1) ∧ p ≤ r.2 ∧ r.2 ≤ p + 20 * ((d + 1 : Nat) : Int)) := by
      intro t q ht h1 h2
      refine (ih (s ++ t) q (by omega) (by omega) (by omega) (by rw [ByteArray.size_append]; omega)).mono fun r hr => ?_
      rw [ByteArray.size_append] at hr
      exact ⟨by omega, by omega, by omega⟩
    refine Ok.succ ?_
    simp only [spec_l14Text.l0]
    refine Ok.yes h ?_
    refine (pick_at b hb p 5 ⟨h0, by omega⟩ ⟨by omega, by omega⟩).bind fun a ha => ?_
    obtain ⟨v, q⟩ := a
    obtain ⟨hv, rfl⟩ := ha
    rw [e]
    refine Ok.ite (fun h1 => ?_) (fun h1 => Ok.ite (fun h2 => ?_) (fun h2 => Ok.ite (fun h3 => ?_) (fun h3 => ?_)))
    · refine (of_ok b hb (p + 1) _ ⟨by omega, by omega⟩ ⟨by decide, by decide⟩ 1 (by decide)).bind fun a ha => ?_
      obtain ⟨t, q⟩ := a
      obtain ⟨ht, rfl⟩ := ha
      refine (pick_at b hb (p + 1 + 1) 40 ⟨by omega, by omega⟩ ⟨by omega, by omega⟩).bind fun a ha => ?_
      obtain ⟨v2, q⟩ := a
      obtain ⟨hv2, rfl⟩ := ha
      refine (many_ok t v2 (by simp only at ht; omega) (by simp only at hv2; omega)).bind fun u hu => ?_
      simp only at ht hv2
      have hu' : u.size ≤ 40 := by
        have : t.size * v2.toNat ≤ 1 * v2.toNat := Nat.mul_le_mul_right _ ht
        omega
      exact Ok.yes (by omega) (go u _ hu' (by omega) (by omega))
    · exact Ok.yes (by omega) (go _ _ (by decide) (by omega) (by omega))
    · refine (pick_at b hb (p + 1) 12 ⟨by omega, by omega⟩ ⟨by omega, by omega⟩).bind fun a ha => ?_
      obtain ⟨v2, q⟩ := a
      obtain ⟨hv2, rfl⟩ := ha
      simp only at hv2
      obtain ⟨m, hm⟩ := Int.eq_ofNat_of_zero_le hv2.1
      subst hm
      refine text_l1 b hb _ ((d + 1 : Nat) : Int) m s (p + 1 + 1) (by omega) (by omega) (by omega) fun s' p' g1 g2 g3 => ?_
      rw [e]
      refine (ih s' p' (by omega) (by omega) (by omega) (by omega)).mono fun r hr => ⟨by omega, by omega, by omega⟩
    · refine (of_ok b hb (p + 1) _ ⟨by omega, by omega⟩ ⟨by decide, by decide⟩ 10 (by decide)).bind fun a ha => ?_
      obtain ⟨t, q⟩ := a
      obtain ⟨ht, rfl⟩ := ha
      simp only at ht
      exact Ok.yes (by simp only; omega) (go t _ (by omega) (by omega) (by omega))

theorem text_ok (b : List Int) (hb : ∀ x ∈ b, 0 ≤ x ∧ x ≤ 255) (p : Int) (hp : 0 ≤ p ∧ p ≤ 1000000000) :
    Ok (fun k => spec_l14Text.f k b p) (fun r => r.1.size ≤ 9001 ∧ p ≤ r.2 ∧ r.2 ≤ p + 200) := by
  unfold spec_l14Text.f
  refine (pick_at b hb p 150 ⟨by omega, by omega⟩ ⟨by omega, by omega⟩).bind fun a ha => ?_
  obtain ⟨v, q⟩ := a
  obtain ⟨hv, rfl⟩ := ha
  refine Ok.ite (fun h1 => ?_) (fun h1 => ?_)
  · refine (pick_at b hb (p + 1) 2 ⟨by omega, by omega⟩ ⟨by omega, by omega⟩).bind fun a ha => ?_
    obtain ⟨v2, q⟩ := a
    obtain ⟨hv2, rfl⟩ := ha
    simp only at hv2
    have e : wrap64 (9000 + v2) = 9000 + v2 := w64 (by omega) (by omega)
    simp only [e]
    refine (many_ok (⟨#[116]⟩ : ByteArray) (9000 + v2) (by decide) (by omega)).bind fun u hu => ?_
    have h1 : (⟨#[116]⟩ : ByteArray).size = 1 := rfl
    rw [h1] at hu
    exact Ok.now _ ⟨by simp only; omega, by simp only; omega, by simp only; omega⟩
  · refine (pick_at b hb (p + 1) 7 ⟨by omega, by omega⟩ ⟨by omega, by omega⟩).bind fun a ha => ?_
    obtain ⟨v2, q⟩ := a
    obtain ⟨hv2, rfl⟩ := ha
    simp only at hv2
    obtain ⟨m, hm⟩ := Int.eq_ofNat_of_zero_le hv2.1
    subst hm
    refine (text_l0 b hb m (⟨#[]⟩ : ByteArray) (p + 1 + 1) (by omega) (by omega) (by omega) (by rw [size_empty]; omega)).mono fun r hr => ?_
    have h1 : (⟨#[]⟩ : ByteArray).size = 0 := rfl
    exact ⟨by omega, by omega, by omega⟩

/-! ### FilterPut of both sides is one plain function -/
def gb (s : ByteArray) (j : Int) : Int := if 0 ≤ j ∧ j < s.size then bt s j else 0
theorem gb_range (s : ByteArray) (j : Int) : 0 ≤ gb s j ∧ gb s j ≤ 255 := by
  unfold gb
  split
  · exact bt_range s j
  · omega
def ab (x : Int) : Int := if x < 0 then -x else x
def near (a b c : Int) : Int :=
  if ab (b - c) ≤ ab (a - c) ∧ ab (b - c) ≤ ab (a + b - c - c) then a else if ab (a - c) ≤ ab (a + b - c - c) then b else c
def beside (kind a b c : Int) : Int := if kind = 1 then a else if kind = 2 then b else if kind = 3 then (a + b) / 2 else if kind = 4 then near a b c else 0
theorem near_range {a b c : Int} (ha : 0 ≤ a ∧ a ≤ 255) (hb : 0 ≤ b ∧ b ≤ 255) (hc : 0 ≤ c ∧ c ≤ 255) : 0 ≤ near a b c ∧ near a b c ≤ 255 := by
  unfold near
  split
  · exact ha
  · split <;> assumption
theorem beside_range {k a b c : Int} (ha : 0 ≤ a ∧ a ≤ 255) (hb : 0 ≤ b ∧ b ≤ 255) (hc : 0 ≤ c ∧ c ≤ 255) : 0 ≤ beside k a b c ∧ beside k a b c ≤ 255 := by
  unfold beside
  split
  · exact ha
  · split
    · exact hb
    · split
      · omega
      · split
        · exact near_range ha hb hc
        · omega
theorem half_eq {a b : Int} (ha : 0 ≤ a ∧ a ≤ 255) (hb : 0 ≤ b ∧ b ≤ 255) : wrap64 (Int.tdiv (wrap64 (a + b)) 2) = (a + b) / 2 := by
  rw [w64 (x := a + b) (by omega) (by omega), tdiv_nn (by omega), w64 (by omega) (by omega)]
theorem far_eq {x : Int} (h : -100000 ≤ x ∧ x ≤ 100000) : impl_far.f x = some (ab x) := by
  unfold impl_far.f ab mx
  rw [w64 (by omega) (by omega)]
  congr 1
  split <;> split <;> omega
theorem abs_eq {x : Int} (h : -100000 ≤ x ∧ x ≤ 100000) : spec_l9Abs.f x = some (ab x) := by
  unfold spec_l9Abs.f ab
  split
  · rw [w64 (by omega) (by omega)]
  · rfl

theorem guess_ok {a b c : Int} (kind : Int) (ha : 0 ≤ a ∧ a ≤ 255) (hb : 0 ≤ b ∧ b ≤ 255) (hc : 0 ≤ c ∧ c ≤ 255) : Ok (fun k => impl_guess.f k kind a b c) (· = beside kind a b c) := by
  unfold impl_guess.f beside
  refine Ok.ite (fun h => Ok.now _ (by rw [if_pos h])) (fun h1 => Ok.ite (fun h => Ok.now _ (by rw [if_neg h1, if_pos h])) (fun h2 => Ok.ite (fun h => Ok.now _ (by rw [if_neg h1, if_neg h2, if_pos h, half_eq ha hb])) (fun h3 => Ok.ite (fun h4 => ?_) (fun h4 => Ok.now _ (by rw [if_neg h1, if_neg h2, if_neg h3, if_neg h4])))))
  rw [if_neg h1, if_neg h2, if_neg h3, if_pos h4]
  refine Ok.binds rfl ?_
  have e1 : wrap64 (a + b) = a + b := w64 (by omega) (by omega)
  have e2 : wrap64 (a + b - c) = a + b - c := w64 (by omega) (by omega)
  have fe : ∀ x : Int, 0 ≤ x ∧ x ≤ 255 → impl_far.f (wrap64 (a + b - c - x)) = some (ab (a + b - c - x)) := fun x hx => by
    rw [w64 (by omega) (by omega)]; exact far_eq (by omega)
  have n0 : (([b, c] : List Int).length : Int) = 2 := rfl
  have i1 : wrap64 (0 + 1) = 1 := by rw [w64 (by omega) (by omega)]; rfl
  have i2 : wrap64 (1 + 1) = 2 := by rw [w64 (by omega) (by omega)]; rfl
  have r0 : rd [b, c] 0 = b := rfl
  have r1 : rd [b, c] 1 = c := rfl
  have last : ∀ y : Int, Ok (fun k => impl_guess.l0 k a b c y [b, c] 2 2) (· = y) := fun y => by
    refine Ok.succ ?_
    simp only [impl_guess.l0]
    exact Ok.no (by decide) (Ok.now _ rfl)
  have step1 : ∀ y : Int, 0 ≤ y ∧ y ≤ 255 → Ok (fun k => impl_guess.l0 k a b c y [b, c] 2 1) (· = if ab (a + b - c - c) < ab (a + b - c - y) then c else y) := fun y hy => by
    refine Ok.succ ?_
    simp only [impl_guess.l0, e1, e2, n0, i2, r1]
    refine Ok.yes (by decide) (Ok.yes (by decide) (Ok.yes (by decide) ?_))
    refine Ok.binds (fe c hc) (Ok.binds (fe y hy) ?_)
    exact Ok.ite (fun h => by rw [if_pos h]; exact last c) (fun h => by rw [if_neg h]; exact last y)
  refine Ok.succ ?_
  simp only [impl_guess.l0, e1, e2, n0, i1, r0]
  refine Ok.yes (by decide) (Ok.yes (by decide) (Ok.yes (by decide) ?_))
  refine Ok.binds (fe b hb) (Ok.binds (fe a ha) (Ok.ite (fun h => ?_) (fun h => ?_)))
  · refine (step1 b hb).mono fun r hr => ?_
    subst hr
    unfold near ab at *
    repeat' split
    all_goals omega
  · refine (step1 a ha).mono fun r hr => ?_
    subst hr
    unfold near ab at *
    repeat' split
    all_goals omega

theorem beside_ok {a b c : Int} (kind : Int) (ha : 0 ≤ a ∧ a ≤ 255) (hb : 0 ≤ b ∧ b ≤ 255) (hc : 0 ≤ c ∧ c ≤ 255) : Ok (fun k => spec_l9Beside.f k kind a b c) (· = beside kind a b c) := by
  unfold spec_l9Beside.f beside
  refine Ok.ite (fun h => Ok.now _ (by rw [if_pos h])) (fun h1 => Ok.ite (fun h => Ok.now _ (by rw [if_neg h1, if_pos h])) (fun h2 => Ok.ite (fun h => Ok.now _ (by rw [if_neg h1, if_neg h2, if_pos h, half_eq ha hb])) (fun h3 => Ok.ite (fun h4 => ?_) (fun h4 => Ok.now _ (by rw [if_neg h1, if_neg h2, if_neg h3, if_neg h4])))))
  rw [if_neg h1, if_neg h2, if_neg h3, if_pos h4]
  refine Ok.bind (P := (· = near a b c)) ?_ fun r hr => Ok.now _ hr
  unfold spec_l9Near.f
  have e1 : wrap64 (a + b) = a + b := w64 (by omega) (by omega)
  have e2 : wrap64 (a + b - c) = a + b - c := w64 (by omega) (by omega)
  have e3 : wrap64 (a + b - c - a) = b - c := by rw [w64 (by omega) (by omega)]; omega
  have e4 : wrap64 (a + b - c - b) = a - c := by rw [w64 (by omega) (by omega)]; omega
  have e5 : wrap64 (a + b - c - c) = a + b - c - c := w64 (by omega) (by omega)
  simp only [e1, e2, e3, e4, e5]
  refine Ok.binds (abs_eq (by omega)) (Ok.binds (abs_eq (by omega)) (Ok.binds (abs_eq (by omega)) ?_))
  unfold near
  refine Ok.ite (fun h => ?_) (fun h => ?_)
  · refine Ok.succ ?_
    simp only [spec_l9Near.j0]
    refine Ok.ite (fun g => Ok.now _ ?_) (fun g => Ok.ite (fun q => Ok.now _ ?_) (fun q => Ok.now _ ?_))
    · rw [if_pos ⟨h, of_decide_eq_true g⟩]
    · rw [if_neg (fun z => g (decide_eq_true z.2)), if_pos q]
    · rw [if_neg (fun z => g (decide_eq_true z.2)), if_neg q]
  · refine Ok.succ ?_
    simp only [spec_l9Near.j0]
    refine Ok.no (by decide) (Ok.ite (fun q => Ok.now _ ?_) (fun q => Ok.now _ ?_))
    · rw [if_neg (fun z => h z.1), if_pos q]
    · rw [if_neg (fun z => h z.1), if_neg q]

theorem byteAt_eq (s : ByteArray) (hs : s.size ≤ 140737488355328) (i : Int) : impl_byteAt_string.f s i = some (gb s i) := by
  unfold impl_byteAt_string.f impl_in.f gb
  have hb := bt_range s i
  have e : wrap64 ((s.size : Int) - 1) = (s.size : Int) - 1 := w64 (by omega) (by omega)
  have e2 : wrap64 (bt s i) = bt s i := w64 (by omega) (by omega)
  rw [e, e2]
  by_cases h0 : i ≥ 0
  · have g0 : 0 ≤ i := h0
    by_cases h1 : i ≤ (s.size : Int) - 1
    · have g1 : i < (s.size : Int) := by omega
      simp [g0, g1, h1]
    · have g1 : ¬ i < (s.size : Int) := by omega
      simp [g0, g1, h1]
  · have g0 : ¬ 0 ≤ i := h0
    simp [g0]
theorem l9Byte_eq (s : ByteArray) (hs : s.size ≤ 140737488355328) (i : Int) : spec_l9Byte.f s i = some (gb s i) := by
  unfold spec_l9Byte.f spec_l1In.f gb
  have hb := bt_range s i
  have e : wrap64 ((s.size : Int) - 1) = (s.size : Int) - 1 := w64 (by omega) (by omega)
  have e2 : wrap64 (bt s i) = bt s i := w64 (by omega) (by omega)
  rw [e, e2]
  by_cases h0 : i ≥ 0
  · have g0 : 0 ≤ i := h0
    by_cases h1 : i ≤ (s.size : Int) - 1
    · have g1 : i < (s.size : Int) := by omega
      simp [g0, g1, h1]
    · have g1 : ¬ i < (s.size : Int) := by omega
      simp [g0, g1, h1]
  · have g0 : ¬ 0 ≤ i := h0
    simp [g0]

/-- A filtered byte. -/
def pv (kind : Int) (row above : ByteArray) (step : Int) (i : Nat) : Int := (bt row i - beside kind (gb row (i - step)) (gb above i) (gb above (i - step))) % 256
/-- The filtered row. -/
def fput (kind : Int) (row above : ByteArray) (step : Int) : ByteArray := strOfNums ((List.range row.size).map (pv kind row above step))
/-- May a row be filtered? -/
def fok (kind : Int) (row above : ByteArray) (step : Int) : Prop := (0 ≤ kind ∧ kind ≤ 4) ∧ (1 ≤ step ∧ step ≤ 4) ∧ row.size ≤ 1000 ∧ (above.size = 0 ∨ above.size = row.size)
instance (kind : Int) (row above : ByteArray) (step : Int) : Decidable (fok kind row above step) := by unfold fok; infer_instance

theorem filterOk_eq (kind : Int) (row above : ByteArray) (step : Int) : impl_filterOk.f kind row above step = some (decide (fok kind row above step)) := by
  unfold impl_filterOk.f impl_in.f fok
  by_cases h1 : kind ≥ 0 <;> by_cases h2 : kind ≤ 4 <;> by_cases h3 : step ≥ 1 <;> by_cases h4 : step ≤ 4 <;> by_cases h5 : (row.size : Int) ≤ 1000 <;> by_cases h6 : above.size = 0 <;> by_cases h7 : above.size = row.size <;>
    simp [h1, h2, h3, h4, h5, h6, h7, text_nil] <;> omega
theorem l9Filters_eq (kind : Int) (row above : ByteArray) (step : Int) : spec_l9Filters.f kind row above step = some (decide (fok kind row above step)) := by
  unfold spec_l9Filters.f spec_l1In.f fok
  by_cases h1 : kind ≥ 0 <;> by_cases h2 : kind ≤ 4 <;> by_cases h3 : step ≥ 1 <;> by_cases h4 : step ≤ 4 <;> by_cases h5 : (row.size : Int) ≤ 1000 <;> by_cases h6 : above.size = 0 <;> by_cases h7 : above.size = row.size <;>
    simp [h1, h2, h3, h4, h5, h6, h7, text_nil] <;> omega

theorem range_map_succ (f : Nat → Int) (i : Nat) : (List.range (i + 1)).map f = (List.range i).map f ++ [f i] := by rw [List.range_succ, List.map_append]; rfl

theorem put_l (kind : Int) (row above : ByteArray) (step : Int) (h : fok kind row above step) (d : Nat) : ∀ i : Nat, i + d = row.size →
    Ok (fun k => spec_l9Put.l0 k kind row above step ((List.range i).map (pv kind row above step)) i) (· = fput kind row above step) := by
  obtain ⟨hk, hs, hr, ha⟩ := h
  induction d with
  | zero =>
    intro i hi
    have g : ¬ (i : Int) < (row.size : Int) := by omega
    refine Ok.succ ?_
    simp only [spec_l9Put.l0]
    refine Ok.no g (Ok.now _ ?_)
    unfold fput
    rw [show row.size = i by omega]
  | succ d ih =>
    intro i hi
    have g : (i : Int) < (row.size : Int) := by omega
    have e1 : wrap64 ((i : Int) - step) = i - step := w64 (by omega) (by omega)
    have e2 : wrap64 ((i : Int) + 1) = ((i + 1 : Nat) : Int) := by rw [w64 (by omega) (by omega)]; omega
    have hb := bt_range row i
    have e3 : wrap64 (bt row i) = bt row i := w64 (by omega) (by omega)
    refine Ok.succ ?_
    simp only [spec_l9Put.l0, e1, e2, e3]
    refine Ok.yes g (Ok.yes (by omega) ?_)
    refine Ok.binds (l9Byte_eq row (by omega) _) (Ok.binds (l9Byte_eq above (by omega) _) (Ok.binds (l9Byte_eq above (by omega) _) ?_))
    refine (beside_ok kind (gb_range _ _) (gb_range _ _) (gb_range _ _)).bind fun r hr2 => ?_
    subst hr2
    have hq := beside_range (k := kind) (gb_range row (i - step)) (gb_range above i) (gb_range above (i - step))
    have e4 : Int.tmod (wrap64 (wrap64 (bt row i - beside kind (gb row (i - step)) (gb above i) (gb above (i - step))) + 512)) 256 % 256 = pv kind row above step i := by
      unfold pv
      rw [w64 (x := bt row i - _) (by omega) (by omega), w64 (by omega) (by omega), tmod_nn (by omega)]
      omega
    rw [e4, ← range_map_succ]
    exact Ok.yes (by rw [List.length_map, List.length_range]; omega) (ih (i + 1) (by omega))

theorem set_next (f : Nat → Int) (i d : Nat) (x : Int) (hx : x = f i) : ((List.range i).map f ++ List.replicate (d + 1) 0).set i x = (List.range (i + 1)).map f ++ List.replicate d 0 := by
  subst hx
  rw [List.set_append_right _ _ (by simp), range_map_succ]
  simp [List.replicate_succ]

theorem iput_l (kind : Int) (row above : ByteArray) (step : Int) (h : fok kind row above step) (d : Nat) : ∀ i : Nat, i + d = row.size →
    Ok (fun k => impl_FilterPut.l0 k kind row above step ((List.range i).map (pv kind row above step) ++ List.replicate d 0) (row.size : Int) i) (· = fput kind row above step) := by
  obtain ⟨hk, hs, hr, ha⟩ := h
  induction d with
  | zero =>
    intro i hi
    have g : ¬ (i : Int) < (row.size : Int) := by omega
    refine Ok.succ ?_
    simp only [impl_FilterPut.l0]
    refine Ok.no g (Ok.now _ ?_)
    unfold fput
    rw [show row.size = i by omega]
    simp
  | succ d ih =>
    intro i hi
    have g : (i : Int) < (row.size : Int) := by omega
    have e1 : wrap64 ((i : Int) - step) = i - step := w64 (by omega) (by omega)
    have e2 : wrap64 ((i : Int) + 1) = ((i + 1 : Nat) : Int) := by rw [w64 (by omega) (by omega)]; omega
    have hb := bt_range row i
    refine Ok.succ ?_
    simp only [impl_FilterPut.l0, e1, e2]
    refine Ok.yes g (Ok.yes (by omega) (Ok.yes g ?_))
    refine Ok.binds (byteAt_eq row (by omega) _) (Ok.binds (byteAt_eq above (by omega) _) (Ok.binds (byteAt_eq above (by omega) _) ?_))
    refine (guess_ok kind (gb_range _ _) (gb_range _ _) (gb_range _ _)).bind fun r hr2 => ?_
    subst hr2
    have hq := beside_range (k := kind) (gb_range row (i - step)) (gb_range above i) (gb_range above (i - step))
    have e4 : (bt row i - beside kind (gb row (i - step)) (gb above i) (gb above (i - step)) % 256) % 256 = pv kind row above step i := by
      unfold pv
      omega
    have hl : (i : Int) < (((List.range i).map (pv kind row above step) ++ List.replicate (d + 1) 0).length : Int) := by simp; omega
    refine Ok.yes hl ?_
    rw [show ((i : Int).toNat) = i by omega, set_next _ i d _ e4]
    exact ih (i + 1) (by omega)

theorem filterPut_ok (kind : Int) (row above : ByteArray) (step : Int) :
    Ok (fun k => impl_FilterPut.f k kind row above step) (· = if fok kind row above step then fput kind row above step else ⟨#[]⟩) := by
  unfold impl_FilterPut.f
  refine Ok.binds (filterOk_eq kind row above step) ?_
  refine Ok.ite (fun h => ?_) (fun h => Ok.now _ ?_)
  · have hf := of_decide_eq_true h
    have hr := hf.2.2.1
    refine Ok.yes (by omega) (Ok.yes (by omega) (Ok.binds rfl ?_))
    rw [if_pos hf]
    have := iput_l kind row above step hf row.size 0 (by omega)
    simpa using this
  · rw [if_neg (fun z => h (decide_eq_true z))]
theorem l9FilterPut_ok (kind : Int) (row above : ByteArray) (step : Int) :
    Ok (fun k => spec_FilterPut.f k kind row above step) (· = if fok kind row above step then fput kind row above step else ⟨#[]⟩) := by
  unfold spec_FilterPut.f
  refine Ok.binds (l9Filters_eq kind row above step) ?_
  refine Ok.ite (fun h => ?_) (fun h => Ok.now _ ?_)
  · have hf := of_decide_eq_true h
    rw [if_pos hf]
    refine Ok.bind (P := (· = fput kind row above step)) ?_ fun r hr => Ok.now _ hr
    unfold spec_l9Put.f
    have := put_l kind row above step hf row.size 0 (by omega)
    simpa using this
  · rw [if_neg (fun z => h (decide_eq_true z))]

theorem fput_self (kind : Int) (row above : ByteArray) (step : Int) (h : ∀ i : Nat, i < row.size → beside kind (gb row (i - step)) (gb above i) (gb above (i - step)) = 0) : fput kind row above step = row := by
  unfold fput
  rw [show (List.range row.size).map (pv kind row above step) = (List.range row.size).map fun (i : Nat) => bt row (i : Int) from List.map_congr_left fun i hi => by
    unfold pv
    have := bt_range row i
    rw [h i (by simpa using hi)]
    omega]
  exact strOfNums_self row
theorem fput_congr (k k' : Int) (row above : ByteArray) (step : Int) (h : ∀ i : Nat, i < row.size → beside k (gb row (i - step)) (gb above i) (gb above (i - step)) = beside k' (gb row (i - step)) (gb above i) (gb above (i - step))) : fput k row above step = fput k' row above step := by
  unfold fput
  rw [show (List.range row.size).map (pv k row above step) = (List.range row.size).map (pv k' row above step) from List.map_congr_left fun i hi => by
    unfold pv
    rw [h i (by simpa using hi)]]

theorem drawFilter_ok (b : List Int) (hb : ∀ x ∈ b, 0 ≤ x ∧ x ≤ 255) (p : Int) (hp : 0 ≤ p ∧ p ≤ 1000) :
    Ok (fun k => spec_l14Filter.f k b p) (fun r => r.2.1.size ≤ 9001) := by
  have j1 : ∀ (a t : ByteArray) (q : Int), a.size ≤ 9001 → t.size ≤ 10000 → 0 ≤ q ∧ q ≤ 100000 → Ok (fun k => spec_l14Filter.j1 k a t b q) (fun r => r.2.1.size ≤ 9001) := by
    intro a t q ha ht hq
    refine Ok.succ ?_
    simp only [spec_l14Filter.j1]
    refine (pick_at b hb q 5 ⟨by omega, by omega⟩ ⟨by omega, by omega⟩).bind fun x hx => ?_
    obtain ⟨v1, q1⟩ := x
    obtain ⟨_, rfl⟩ := hx
    refine (pick_at b hb (q + 1) 4 ⟨by omega, by omega⟩ ⟨by omega, by omega⟩).bind fun x hx => ?_
    obtain ⟨v2, q1⟩ := x
    obtain ⟨_, rfl⟩ := hx
    refine (pick_at b hb (q + 1 + 1) 16 ⟨by omega, by omega⟩ ⟨by omega, by omega⟩).bind fun x hx => ?_
    obtain ⟨v3, q1⟩ := x
    obtain ⟨_, rfl⟩ := hx
    refine Ok.ite (fun h => ?_) (fun h => Ok.ite (fun h => ?_) (fun h => Ok.ite (fun h => ?_) (fun h => Ok.now _ ha)))
    · refine Ok.binds rfl ?_
      refine (pick_at b hb (q + 1 + 1 + 1) 2 ⟨by omega, by omega⟩ ⟨by omega, by omega⟩).bind fun x hx => ?_
      exact Ok.yes hx.1.1 (Ok.yes hx.1.2 (Ok.now _ ha))
    · refine Ok.binds rfl ?_
      refine (pick_at b hb (q + 1 + 1 + 1) 2 ⟨by omega, by omega⟩ ⟨by omega, by omega⟩).bind fun x hx => ?_
      exact Ok.yes hx.1.1 (Ok.yes hx.1.2 (Ok.now _ ha))
    · exact Ok.yes (by omega) (Ok.now _ ha)
  have l0 : ∀ (a : ByteArray), a.size ≤ 9001 → ∀ (d : Nat) (t : ByteArray) (i q : Int), 0 ≤ i → (a.size : Int) - i ≤ d → t.size + d ≤ 9001 → 0 ≤ q ∧ q + d ≤ 100000 → Ok (fun k => spec_l14Filter.l0 k a t i b q) (fun r => r.2.1.size ≤ 9001) := by
    intro a ha d
    induction d with
    | zero =>
      intro t i q hi hd ht hq
      refine Ok.succ ?_
      simp only [spec_l14Filter.l0]
      exact Ok.no (by omega) (j1 a t q ha (by omega) (by omega))
    | succ d ih =>
      intro t i q hi hd ht hq
      refine Ok.succ ?_
      simp only [spec_l14Filter.l0]
      refine Ok.ite (fun h => ?_) (fun h => j1 a t q ha (by omega) (by omega))
      refine (pick_at b hb q 256 ⟨by omega, by omega⟩ ⟨by omega, by omega⟩).bind fun x hx => ?_
      obtain ⟨v1, q1⟩ := x
      obtain ⟨_, rfl⟩ := hx
      refine Ok.binds rfl ?_
      have hz : (strOfNums [(v1, q + 1).1 % 256]).size = 1 := by rw [strOfNums_size]; rfl
      have e : wrap64 (i + 1) = i + 1 := w64 (by omega) (by omega)
      rw [e]
      exact Ok.yes (by omega) (ih _ _ _ (by omega) (by omega) (by rw [ByteArray.size_append]; omega) (by simp only; omega))
  unfold spec_l14Filter.f
  refine (text_ok b hb p (by omega)).bind fun x hx => ?_
  obtain ⟨a, q⟩ := x
  obtain ⟨ha, h1, h2⟩ := hx
  simp only at ha h1 h2
  refine (pick_at b hb q 3 ⟨by omega, by omega⟩ ⟨by omega, by omega⟩).bind fun x hx => ?_
  obtain ⟨v1, q1⟩ := x
  obtain ⟨_, rfl⟩ := hx
  refine Ok.ite (fun h => l0 a ha a.size _ 0 _ (by omega) (by omega) (by rw [size_empty]; omega) (by simp only; omega)) (fun h => j1 a _ _ ha (by rw [size_empty]; omega) (by simp only; omega))

/-! ### filtering undone, and the two ways round -/
def gl (l : List Int) (i : Int) : Int := if 0 ≤ i ∧ i < (l.length : Int) then rd l i else 0
def gnext (kind : Int) (row above : ByteArray) (step : Int) (l : List Int) : Int := (bt row (l.length : Int) + beside kind (gl l ((l.length : Int) - step)) (gb above (l.length : Int)) (gb above ((l.length : Int) - step))) % 256
/-- The first n bytes of the row that was filtered. -/
def gpre (kind : Int) (row above : ByteArray) (step : Int) : Nat → List Int
  | 0 => []
  | n + 1 => gpre kind row above step n ++ [gnext kind row above step (gpre kind row above step n)]
def fget (kind : Int) (row above : ByteArray) (step : Int) : ByteArray := strOfNums (gpre kind row above step row.size)
section
variable (kind : Int) (row above : ByteArray) (step : Int)
theorem gpre_len (n : Nat) : (gpre kind row above step n).length = n := by
  induction n with
  | zero => rfl
  | succ n ih => simp only [gpre, List.length_append, ih, List.length_cons, List.length_nil]
theorem gnext_range (l : List Int) : 0 ≤ gnext kind row above step l ∧ gnext kind row above step l ≤ 255 := by unfold gnext; omega
theorem gpre_range (n : Nat) : ∀ x ∈ gpre kind row above step n, 0 ≤ x ∧ x ≤ 255 := by
  induction n with
  | zero => intro x hx; cases hx
  | succ n ih =>
    intro x hx
    simp only [gpre, List.mem_append, List.mem_singleton] at hx
    rcases hx with hx | rfl
    · exact ih x hx
    · exact gnext_range kind row above step _
theorem gpre_get (n i : Nat) (h : i < n) : (gpre kind row above step n)[i]? = some (gnext kind row above step (gpre kind row above step i)) := by
  induction n with
  | zero => omega
  | succ n ih =>
    simp only [gpre]
    by_cases hi : i < n
    · rw [List.getElem?_append_left (by rw [gpre_len]; exact hi)]
      exact ih hi
    · obtain rfl : i = n := by omega
      rw [List.getElem?_append_right (by rw [gpre_len]; exact Nat.le_refl _), gpre_len, Nat.sub_self]
      rfl
theorem gl_gb (l : List Int) (hl : ∀ x ∈ l, 0 ≤ x ∧ x ≤ 255) (i : Int) : gb (strOfNums l) i = gl l i := by
  unfold gb gl
  rw [strOfNums_size]
  by_cases h : 0 ≤ i ∧ i < (l.length : Int)
  · rw [if_pos h, if_pos h]
    obtain ⟨j, rfl⟩ := Int.eq_ofNat_of_zero_le h.1
    have hj : j < l.length := by omega
    have hm := hl _ (List.getElem_mem hj)
    rw [strOfNums_at l j hj hm.1 hm.2]
    unfold rd
    rw [Int.toNat_natCast, List.getD_eq_getElem?_getD, List.getElem?_eq_getElem hj, Option.getD_some]
  · rw [if_neg h, if_neg h]
theorem gl_map (f : Nat → Int) (n : Nat) (i : Int) : gl ((List.range n).map f) i = if 0 ≤ i ∧ i < (n : Int) then f i.toNat else 0 := by
  unfold gl
  rw [List.length_map, List.length_range]
  by_cases h : 0 ≤ i ∧ i < (n : Int)
  · rw [if_pos h, if_pos h]
    have hj : i.toNat < n := by omega
    unfold rd
    rw [List.getD_eq_getElem?_getD, List.getElem?_map, List.getElem?_range hj]
    rfl
  · rw [if_neg h, if_neg h]
theorem fput_at (i : Nat) (h : i < row.size) : bt (fput kind row above step) (i : Int) = pv kind row above step i := by
  have hl : i < ((List.range row.size).map (pv kind row above step)).length := by simpa using h
  have e : ((List.range row.size).map (pv kind row above step))[i] = pv kind row above step i := by simp
  have hr : 0 ≤ pv kind row above step i ∧ pv kind row above step i ≤ 255 := by unfold pv; omega
  unfold fput
  rw [strOfNums_at _ i hl (by rw [e]; exact hr.1) (by rw [e]; exact hr.2), e]
theorem fput_size : (fput kind row above step).size = row.size := by
  unfold fput
  rw [strOfNums_size, List.length_map, List.length_range]
theorem fget_size : (fget kind row above step).size = row.size := by
  unfold fget
  rw [strOfNums_size, gpre_len]
theorem get_put_pre (hs : 1 ≤ step) (n : Nat) (hn : n ≤ row.size) : gpre kind (fput kind row above step) above step n = (List.range n).map fun (i : Nat) => bt row (i : Int) := by
  induction n with
  | zero => rfl
  | succ n ih =>
    simp only [gpre]
    rw [ih (by omega), range_map_succ]
    congr 2
    unfold gnext
    rw [List.length_map, List.length_range, fput_at kind row above step n (by omega)]
    have e : gl ((List.range n).map fun (i : Nat) => bt row (i : Int)) ((n : Int) - step) = gb row ((n : Int) - step) := by
      rw [gl_map]
      unfold gb
      by_cases h : 0 ≤ (n : Int) - step
      · rw [if_pos ⟨h, by omega⟩, if_pos ⟨h, by omega⟩]
        congr 1
        omega
      · rw [if_neg (by omega), if_neg (by omega)]
    rw [e]
    unfold pv
    have := bt_range row n
    omega
theorem get_put (hs : 1 ≤ step) : fget kind (fput kind row above step) above step = row := by
  unfold fget
  rw [fput_size, get_put_pre kind row above step hs _ (Nat.le_refl _)]
  exact strOfNums_self row
theorem gl_pre (hs : 1 ≤ step) (i n : Nat) (h : i ≤ n) : gl (gpre kind row above step n) ((i : Int) - step) = gl (gpre kind row above step i) ((i : Int) - step) := by
  unfold gl
  rw [gpre_len, gpre_len]
  by_cases h0 : 0 ≤ (i : Int) - step
  · rw [if_pos ⟨h0, by omega⟩, if_pos ⟨h0, by omega⟩]
    unfold rd
    rw [List.getD_eq_getElem?_getD, List.getD_eq_getElem?_getD, gpre_get kind row above step n _ (by omega), gpre_get kind row above step i _ (by omega)]
  · rw [if_neg (by omega), if_neg (by omega)]
theorem put_get (hs : 1 ≤ step) : fput kind (fget kind row above step) above step = row := by
  have e : (List.range (fget kind row above step).size).map (pv kind (fget kind row above step) above step) = (List.range row.size).map fun (i : Nat) => bt row (i : Int) := by
    rw [fget_size]
    refine List.map_congr_left fun i hi => ?_
    have hi : i < row.size := by simpa using hi
    have hl : i < (gpre kind row above step row.size).length := by rw [gpre_len]; exact hi
    have eg := gpre_get kind row above step row.size i hi
    rw [List.getElem?_eq_getElem hl] at eg
    have eg := Option.some.inj eg
    have hr := gnext_range kind row above step (gpre kind row above step i)
    have eb : bt (fget kind row above step) (i : Int) = gnext kind row above step (gpre kind row above step i) := by
      unfold fget
      rw [strOfNums_at _ i hl (by rw [eg]; exact hr.1) (by rw [eg]; exact hr.2), eg]
    have ec : gb (fget kind row above step) ((i : Int) - step) = gl (gpre kind row above step i) ((i : Int) - step) := by
      unfold fget
      rw [gl_gb _ (gpre_range kind row above step _), gl_pre kind row above step hs i _ (by omega)]
    unfold pv
    rw [eb, ec]
    unfold gnext
    rw [gpre_len]
    have := bt_range row i
    omega
  unfold fput
  rw [e]
  exact strOfNums_self row
end

theorem byteAtL_eq (s : List Int) (hs : ∀ x ∈ s, 0 ≤ x ∧ x ≤ 255) (hl : s.length ≤ 1000000) (i : Int) : impl_byteAt_byte.f s i = some (gl s i) := by
  unfold impl_byteAt_byte.f impl_in.f gl
  have e : wrap64 ((s.length : Int) - 1) = (s.length : Int) - 1 := w64 (by omega) (by omega)
  rw [e]
  by_cases h0 : i ≥ 0
  · have g0 : 0 ≤ i := h0
    by_cases h1 : i ≤ (s.length : Int) - 1
    · have g1 : i < (s.length : Int) := by omega
      have hm := hs _ (rd_mem g0 g1)
      have e2 : wrap64 (rd s i) = rd s i := w64 (by omega) (by omega)
      simp [g0, g1, h1, e2]
    · have g1 : ¬ i < (s.length : Int) := by omega
      simp [g0, g1, h1]
  · have g0 : ¬ 0 ≤ i := h0
    simp [g0]
theorem gl_range (s : List Int) (hs : ∀ x ∈ s, 0 ≤ x ∧ x ≤ 255) (i : Int) : 0 ≤ gl s i ∧ gl s i ≤ 255 := by
  unfold gl
  by_cases h : 0 ≤ i ∧ i < (s.length : Int)
  · rw [if_pos h]; exact hs _ (rd_mem h.1 h.2)
  · rw [if_neg h]; omega
theorem sget_l (kind : Int) (row above : ByteArray) (step : Int) (h : fok kind row above step) (d : Nat) : ∀ i : Nat, i + d = row.size →
    Ok (fun k => spec_l9Get.l0 k kind row above step (gpre kind row above step i) i) (· = fget kind row above step) := by
  obtain ⟨hk, hs, hr, ha⟩ := h
  induction d with
  | zero =>
    intro i hi
    have g : ¬ (i : Int) < (row.size : Int) := by omega
    refine Ok.succ ?_
    simp only [spec_l9Get.l0]
    refine Ok.no g (Ok.now _ ?_)
    unfold fget
    rw [show row.size = i by omega]
  | succ d ih =>
    intro i hi
    have g : (i : Int) < (row.size : Int) := by omega
    have e1 : wrap64 ((i : Int) - step) = i - step := w64 (by omega) (by omega)
    have e2 : wrap64 ((i : Int) + 1) = ((i + 1 : Nat) : Int) := by rw [w64 (by omega) (by omega)]; omega
    have hb := bt_range row i
    have e3 : wrap64 (bt row i) = bt row i := w64 (by omega) (by omega)
    have hlen := gpre_len kind row above step i
    refine Ok.succ ?_
    simp only [spec_l9Get.l0, e1, e2, e3]
    refine Ok.yes g (Ok.yes (by omega) ?_)
    have hsz : (strOfNums (gpre kind row above step i)).size ≤ 140737488355328 := by rw [strOfNums_size, hlen]; omega
    refine Ok.binds (l9Byte_eq _ hsz _) (Ok.binds (l9Byte_eq above (by omega) _) (Ok.binds (l9Byte_eq above (by omega) _) ?_))
    refine (beside_ok kind (gb_range _ _) (gb_range _ _) (gb_range _ _)).bind fun r hr2 => ?_
    subst hr2
    have hq := beside_range (k := kind) (gb_range (strOfNums (gpre kind row above step i)) (i - step)) (gb_range above i) (gb_range above (i - step))
    have e4 : Int.tmod (wrap64 (bt row i + beside kind (gb (strOfNums (gpre kind row above step i)) (i - step)) (gb above i) (gb above (i - step)))) 256 % 256 = gnext kind row above step (gpre kind row above step i) := by
      unfold gnext
      rw [hlen, ← gl_gb _ (gpre_range kind row above step i)]
      rw [w64 (by omega) (by omega), tmod_nn (by omega)]
      omega
    rw [e4]
    exact Ok.yes (by rw [hlen]; omega) (ih (i + 1) (by omega))
theorem iget_l (kind : Int) (row above : ByteArray) (step : Int) (h : fok kind row above step) (d : Nat) : ∀ i : Nat, i + d = row.size →
    Ok (fun k => impl_FilterGet.l0 k kind row above step (gpre kind row above step i ++ List.replicate d 0) (row.size : Int) i) (· = fget kind row above step) := by
  obtain ⟨hk, hs, hr, ha⟩ := h
  induction d with
  | zero =>
    intro i hi
    have g : ¬ (i : Int) < (row.size : Int) := by omega
    refine Ok.succ ?_
    simp only [impl_FilterGet.l0]
    refine Ok.no g (Ok.now _ ?_)
    unfold fget
    rw [show row.size = i by omega]
    simp
  | succ d ih =>
    intro i hi
    have g : (i : Int) < (row.size : Int) := by omega
    have e1 : wrap64 ((i : Int) - step) = i - step := w64 (by omega) (by omega)
    have e2 : wrap64 ((i : Int) + 1) = ((i + 1 : Nat) : Int) := by rw [w64 (by omega) (by omega)]; omega
    have hb := bt_range row i
    have hlen := gpre_len kind row above step i
    have hpr := gpre_range kind row above step i
    have hall : ∀ x ∈ gpre kind row above step i ++ List.replicate (d + 1) 0, 0 ≤ x ∧ x ≤ 255 := by
      intro x hx
      rcases List.mem_append.1 hx with hx | hx
      · exact hpr x hx
      · rw [List.eq_of_mem_replicate hx]; omega
    have hall2 : (gpre kind row above step i ++ List.replicate (d + 1) 0).length = row.size := by rw [List.length_append, List.length_replicate, hlen]; omega
    have egl : gl (gpre kind row above step i ++ List.replicate (d + 1) 0) ((i : Int) - step) = gl (gpre kind row above step i) ((i : Int) - step) := by
      unfold gl
      rw [hall2, hlen]
      by_cases h0 : 0 ≤ (i : Int) - step
      · rw [if_pos ⟨h0, by omega⟩, if_pos ⟨h0, by omega⟩]
        unfold rd
        rw [List.getD_eq_getElem?_getD, List.getD_eq_getElem?_getD, List.getElem?_append_left (by rw [hlen]; omega)]
      · rw [if_neg (by omega), if_neg (by omega)]
    refine Ok.succ ?_
    simp only [impl_FilterGet.l0, e1, e2]
    refine Ok.yes g (Ok.yes (by omega) (Ok.yes g ?_))
    refine Ok.binds (byteAtL_eq _ hall (by rw [hall2]; omega) _) (Ok.binds (byteAt_eq above (by omega) _) (Ok.binds (byteAt_eq above (by omega) _) ?_))
    rw [egl]
    refine (guess_ok kind (gl_range _ hpr _) (gb_range _ _) (gb_range _ _)).bind fun r hr2 => ?_
    subst hr2
    have e4 : (bt row i + beside kind (gl (gpre kind row above step i) (i - step)) (gb above i) (gb above (i - step)) % 256) % 256 = gnext kind row above step (gpre kind row above step i) := by
      unfold gnext
      rw [hlen]
      omega
    have hl : (i : Int) < ((gpre kind row above step i ++ List.replicate (d + 1) 0).length : Int) := by rw [hall2]; exact g
    refine Ok.yes hl ?_
    rw [e4, show ((i : Int).toNat) = i by omega]
    have es : (gpre kind row above step i ++ List.replicate (d + 1) 0).set i (gnext kind row above step (gpre kind row above step i)) = gpre kind row above step (i + 1) ++ List.replicate d 0 := by
      rw [List.set_append_right _ _ (by rw [hlen]; exact Nat.le_refl _), hlen, Nat.sub_self, List.replicate_succ, List.set_cons_zero]
      simp only [gpre, List.append_assoc, List.cons_append, List.nil_append]
    rw [es]
    exact ih (i + 1) (by omega)
theorem filterGet_ok (kind : Int) (row above : ByteArray) (step : Int) :
    Ok (fun k => impl_FilterGet.f k kind row above step) (· = if fok kind row above step then fget kind row above step else ⟨#[]⟩) := by
  unfold impl_FilterGet.f
  refine Ok.binds (filterOk_eq kind row above step) ?_
  refine Ok.ite (fun h => ?_) (fun h => Ok.now _ ?_)
  · have hf := of_decide_eq_true h
    have hr := hf.2.2.1
    refine Ok.yes (by omega) (Ok.yes (by omega) (Ok.binds rfl ?_))
    rw [if_pos hf]
    have := iget_l kind row above step hf row.size 0 (by omega)
    simpa [gpre] using this
  · rw [if_neg (fun z => h (decide_eq_true z))]
theorem l9FilterGet_ok (kind : Int) (row above : ByteArray) (step : Int) :
    Ok (fun k => spec_FilterGet.f k kind row above step) (· = if fok kind row above step then fget kind row above step else ⟨#[]⟩) := by
  unfold spec_FilterGet.f
  refine Ok.binds (l9Filters_eq kind row above step) ?_
  refine Ok.ite (fun h => ?_) (fun h => Ok.now _ ?_)
  · have hf := of_decide_eq_true h
    rw [if_pos hf]
    refine Ok.bind (P := (· = fget kind row above step)) ?_ fun r hr => Ok.now _ hr
    unfold spec_l9Get.f
    have := sget_l kind row above step hf row.size 0 (by omega)
    simpa [gpre] using this
  · rw [if_neg (fun z => h (decide_eq_true z))]
theorem FnFilter : laws_FnFilter.Pure := by
  intro l0 hl hl2 hw
  apply Ok.rounds
  have hw' := byte_wf hw
  unfold laws_FnFilter.f
  refine Ok.ite (fun h => Ok.now _ rfl) (fun h => ?_)
  refine Ok.bind (P := fun r => r.2.1.size ≤ 9001) ?_ fun r hr => ?_
  · unfold spec_DrawFilterPut.f
    refine (open_ok l0).bind fun a ha => ?_
    obtain ⟨b, p⟩ := a
    obtain ⟨rfl, rfl⟩ := ha
    refine (drawFilter_ok _ (byte_take hw' 2000) 0 (by omega)).bind fun a ha => ?_
    exact Ok.now _ ha
  · obtain ⟨kd, row, above, step⟩ := r
    simp only at hr ⊢
    refine (filterPut_ok kd row above step).bind fun x hx => ?_
    refine (filterGet_ok kd row above step).bind fun y hy => ?_
    refine (l9FilterPut_ok kd row above step).bind fun x2 hx2 => ?_
    rw [← hx] at hx2
    subst hx2
    refine Ok.yes rfl ?_
    refine (l9FilterGet_ok kd row above step).bind fun y2 hy2 => ?_
    rw [← hy] at hy2
    subst hy2
    refine Ok.yes rfl (Ok.succ ?_)
    simp only [laws_FnFilter.j0]
    refine Ok.ite (fun h3 => ?_) (fun h3 => ?_)
    · refine (l9FilterPut_ok kd row above step).bind fun x3 hx3 => ?_
      rw [← hx] at hx3
      subst hx3
      refine Ok.yes rfl ?_
      refine (l9FilterGet_ok kd row above step).bind fun y3 hy3 => ?_
      rw [← hy] at hy3
      subst hy3
      exact Ok.now _ (by simp)
    · by_cases hf : fok kd row above step
      · rw [if_pos hf] at hx hy
        subst hx hy
        have hs1 := hf.2.1.1
        have hf1 : fok kd (fput kd row above step) above step := ⟨hf.1, hf.2.1, by rw [fput_size]; exact hf.2.2.1, by rw [fput_size]; exact hf.2.2.2⟩
        have hf2 : fok kd (fget kd row above step) above step := ⟨hf.1, hf.2.1, by rw [fget_size]; exact hf.2.2.1, by rw [fget_size]; exact hf.2.2.2⟩
        refine Ok.yes (by rw [fput_size]) ?_
        refine (filterGet_ok kd (fput kd row above step) above step).bind fun u hu => ?_
        rw [if_pos hf1, get_put kd row above step hs1] at hu
        subst hu
        refine Ok.yes rfl ?_
        refine (filterPut_ok kd _ above step).bind fun u2 hu2 => ?_
        rw [if_pos hf2, put_get kd _ above step hs1] at hu2
        subst hu2
        exact Ok.now _ (by simp)
      · rw [if_neg hf] at hx
        subst hx
        exact absurd (by rw [(Go.Proofs.Ytjcamejbdcaokaa.Lib.text_nil (⟨#[]⟩ : ByteArray)).2 rfl]; rfl) h3
end Go.Proofs.Ytjcamejbdcaokaa.Pure
