/- laws.FnRow: a drawn row that RowPut packs comes out of RowGet as it went in, in as few bytes as can hold it; what is not packed the reference does not pack either. No condition. -/
import Derived.Test.YteikopjhekhchaaF14
import Derived.Test.YteikopjhekhchaaLibRead
import Derived.OpenShut
set_option linter.unusedVariables false
set_option linter.unusedSimpArgs false
namespace Go.Proofs.Yteikopjhekhchaa.Pure
open Go.RowKit Go.Proofs.Yteikopjhekhchaa.P Go.Proofs.YteikopjhekhchaaW.PrintWords Go.Proofs.YteikopjhekhchaaW.PrintLast Go.Proofs.YteikopjhekhchaaW.PrintMore
/-! ### what is drawn: pick, of, l1Many, l14Text -/
open Go.Proofs.Yteikopjhekhchaa.Lib
theorem pick_ok (b : List Int) (hb : ∀ x ∈ b, 0 ≤ x ∧ x ≤ 255) (p n : Int) (hp : 0 ≤ p) (hp' : p ≤ 1099511627776) (hn : n ≤ 9223372036854775807) :
    Ok (fun k => spec_l1Rd_pick.f k b p n) (fun r => 0 ≤ r.1 ∧ (1 ≤ n → r.1 < n) ∧ (n < 1 → r.1 = 0) ∧ r.2 = p + 1) := by
  have e1 : wrap64 (p + 1) = p + 1 := w64 (by omega) (by omega)
  unfold spec_l1Rd_pick.f
  by_cases h1 : n < 1
  · refine Ok.yes h1 (Ok.succ ?_)
    simp only [spec_l1Rd_pick.j0, e1, if_true]
    exact Ok.now _ ⟨by simp, fun h => by omega, fun _ => rfl, rfl⟩
  refine Ok.no h1 (Ok.succ ?_)
  simp only [spec_l1Rd_pick.j0, e1]
  by_cases h2 : (b.length : Int) = 0
  · have hbq : ((b.length : Int) == 0) = true := beq_iff_eq.2 h2
    exact Ok.yes hbq (Ok.now _ ⟨by omega, fun _ => by show (0 : Int) < n; omega, fun h => absurd h h1, rfl⟩)
  have hbq : ¬ ((b.length : Int) == 0) = true := by simpa using h2
  have e2 : wrap64 (p + 1 - 1) = p := by rw [w64 (by omega) (by omega)]; omega
  simp only [e2]
  refine Ok.no hbq ?_
  have hn0 : ¬ n = 0 := by omega
  refine Ok.ite (fun h3 => Ok.yes hp (Ok.no hn0 ?_)) (fun h3 => Ok.no h2 ?_)
  · have hm := hb _ (rd_mem hp h3)
    have e3 : wrap64 (rd b p) = rd b p := w64 (by omega) (by omega)
    rw [e3, tmod_nn hm.1]
    exact Ok.now _ ⟨Int.emod_nonneg _ hn0, fun _ => Int.emod_lt_of_pos _ (by omega), fun h => absurd h h1, rfl⟩
  · have hl : 0 < (b.length : Int) := by omega
    rw [tmod_nn hp]
    have a0 : 0 ≤ p % (b.length : Int) := Int.emod_nonneg _ h2
    have a1 : p % (b.length : Int) < (b.length : Int) := Int.emod_lt_of_pos _ hl
    have e4 : wrap64 (p * 7) = p * 7 := w64 (by omega) (by omega)
    have e5 : wrap64 (p * 7 + 3) = p * 7 + 3 := w64 (by omega) (by omega)
    simp only [e4, e5]
    rw [tmod_nn (show 0 ≤ p * 7 + 3 by omega)]
    have b0 : 0 ≤ (p * 7 + 3) % (b.length : Int) := Int.emod_nonneg _ h2
    have b1 : (p * 7 + 3) % (b.length : Int) < (b.length : Int) := Int.emod_lt_of_pos _ hl
    refine Ok.yes a0 (Ok.yes a1 (Ok.yes b0 (Ok.yes b1 (Ok.no hn0 ?_))))
    have c0 := hb _ (rd_mem a0 a1)
    have c1 := hb _ (rd_mem b0 b1)
    generalize rd b (p % (b.length : Int)) = x at c0 ⊢
    generalize rd b ((p * 7 + 3) % (b.length : Int)) = y at c1 ⊢
    rw [tdiv_nn hp]
    have d0 : 0 ≤ p / (b.length : Int) := Int.ediv_nonneg hp (by omega)
    have d1 : p / (b.length : Int) ≤ p := Int.ediv_le_self _ hp
    generalize p / (b.length : Int) = q at d0 d1 ⊢
    have f1 : wrap64 x = x := w64 (by omega) (by omega)
    have f2 : wrap64 y = y := w64 (by omega) (by omega)
    have f3 : wrap64 q = q := w64 (by omega) (by omega)
    have f4 : wrap64 (x * 131) = x * 131 := w64 (by omega) (by omega)
    have f5 : wrap64 (y * 1117) = y * 1117 := w64 (by omega) (by omega)
    have f6 : wrap64 (p * 29) = p * 29 := w64 (by omega) (by omega)
    have f7 : wrap64 (q * 53) = q * 53 := w64 (by omega) (by omega)
    simp only [f1, f2, f3, f4, f5, f6, f7]
    have f8 : wrap64 (x * 131 + y * 1117) = x * 131 + y * 1117 := w64 (by omega) (by omega)
    simp only [f8]
    have f9 : wrap64 (x * 131 + y * 1117 + p * 29) = x * 131 + y * 1117 + p * 29 := w64 (by omega) (by omega)
    simp only [f9]
    have f10 : wrap64 (x * 131 + y * 1117 + p * 29 + q * 53) = x * 131 + y * 1117 + p * 29 + q * 53 := w64 (by omega) (by omega)
    simp only [f10]
    have g0 : 0 ≤ x * 131 + y * 1117 + p * 29 + q * 53 := by omega
    have g1 : x * 131 + y * 1117 + p * 29 + q * 53 ≤ 9223372036854775807 := by omega
    generalize x * 131 + y * 1117 + p * 29 + q * 53 = z at g0 g1 ⊢
    rw [tdiv_nn g0]
    have f11 : wrap64 (z / 64) = z / 64 := w64 (by omega) (by omega)
    rw [f11]
    have hx := xor_nonneg g0 g1 (show 0 ≤ z / 64 by omega) (by omega)
    rw [tmod_nn hx.1]
    exact Ok.now _ ⟨Int.emod_nonneg _ hn0, fun _ => Int.emod_lt_of_pos _ (by omega), fun h => absurd h h1, rfl⟩

theorem pick_at (b : List Int) (hb : ∀ x ∈ b, 0 ≤ x ∧ x ≤ 255) (p n : Int) (hp : 0 ≤ p ∧ p ≤ 1099511627776) (hn : 1 ≤ n ∧ n ≤ 9223372036854775807) :
    Ok (fun k => spec_l1Rd_pick.f k b p n) (fun r => (0 ≤ r.1 ∧ r.1 < n) ∧ r.2 = p + 1) :=
  (pick_ok b hb p n hp.1 hp.2 hn.2).mono fun _ h => ⟨⟨h.1, h.2.1 hn.1⟩, h.2.2.2⟩
theorem open_ok (l : List Int) : Ok (fun _ => spec_l1Open.f l) (fun r => r.1 = l.take 2000 ∧ r.2 = 0) := by
  unfold spec_l1Open.f
  refine Ok.ite (fun h => Ok.yes (by omega) (Ok.now _ ⟨rfl, rfl⟩)) (fun h => Ok.now _ ⟨?_, rfl⟩)
  rw [List.take_of_length_le (by omega)]
theorem byte_wf {l : List Int} (h : ∀ x ∈ l, (Lit.int .u8 x).wf = true) : ∀ x ∈ l, 0 ≤ x ∧ x ≤ 255 := fun x hx => bounds_u8 (h x hx)
theorem byte_take {l : List Int} (h : ∀ x ∈ l, 0 ≤ x ∧ x ≤ 255) (n : Nat) : ∀ x ∈ l.take n, 0 ≤ x ∧ x ≤ 255 := fun x hx => h x (List.mem_of_mem_take hx)

theorem drawRow_l0 (b : List Int) (hb : ∀ x ∈ b, 0 ≤ x ∧ x ≤ 255) (D : Nat) (hD : D ≤ 62) (d : Nat) : ∀ (o : List Int) (p : Int), d ≤ 100 → 0 ≤ p → p ≤ 1000000 - 2 * d → o.length + d ≤ 200 →
    Ok (fun k => spec_l14Row.l0 k (D : Int) o (d : Int) b p) (fun r => r.1.length ≤ o.length + d ∧ p ≤ r.2 ∧ r.2 ≤ p + 2 * d) := by
  induction d with
  | zero =>
    intro o p hd hp hp2 ho
    have c1 : ¬ ((0 : Nat) : Int) > 0 := by omega
    refine Ok.succ ?_
    simp only [spec_l14Row.l0]
    exact Ok.no c1 (Ok.now _ ⟨by simp, by simp, by simp⟩)
  | succ d ih =>
    intro o p hd hp hp2 ho
    have c1 : ((d + 1 : Nat) : Int) > 0 := by omega
    have e : wrap64 (((d + 1 : Nat) : Int) - 1) = (d : Int) := by rw [w64 (by omega) (by omega)]; omega
    refine Ok.succ ?_
    simp only [spec_l14Row.l0]
    refine Ok.yes c1 ?_
    refine (pick_at b hb p 256 ⟨hp, by omega⟩ ⟨by omega, by omega⟩).bind fun x hx => ?_
    obtain ⟨v1, q1⟩ := x
    obtain ⟨_, rfl⟩ := hx
    refine (pick_at b hb (p + 1) 65536 ⟨by omega, by omega⟩ ⟨by omega, by omega⟩).bind fun x hx => ?_
    obtain ⟨v2, q1⟩ := x
    obtain ⟨_, rfl⟩ := hx
    refine (pow_ok D hD).bind fun x hx => ?_
    subst hx
    have hp1 := pow2_1 D
    have c2 : ¬ (2 : Int) ^ D = 0 := by omega
    have c3 : o.length < 17592186044416 := by omega
    refine Ok.no c2 (Ok.yes c3 ?_)
    rw [e]
    have h1 : ∀ z : Int, (o ++ [z]).length = o.length + 1 := fun z => by simp
    refine (ih _ (p + 1 + 1) (by omega) (by omega) (by omega) (by rw [h1]; omega)).mono fun r hr => ?_
    rw [h1] at hr
    exact ⟨by omega, by omega, by omega⟩
theorem rd6 {v : Int} (h : 0 ≤ v ∧ v < 6) : ∃ D : Nat, D ≤ 32 ∧ rd [1, 2, 4, 8, 24, 32] v = (D : Int) := by
  have hv : v = 0 ∨ v = 1 ∨ v = 2 ∨ v = 3 ∨ v = 4 ∨ v = 5 := by omega
  rcases hv with rfl | rfl | rfl | rfl | rfl | rfl
  · exact ⟨1, by decide, rfl⟩
  · exact ⟨2, by decide, rfl⟩
  · exact ⟨4, by decide, rfl⟩
  · exact ⟨8, by decide, rfl⟩
  · exact ⟨24, by decide, rfl⟩
  · exact ⟨32, by decide, rfl⟩
theorem drawRowPut_ok (l : List Int) (hl : ∀ x ∈ l, 0 ≤ x ∧ x ≤ 255) : Ok (fun k => spec_DrawRowPut.f k l) (fun r => r.1.length ≤ 100) := by
  unfold spec_DrawRowPut.f
  refine (open_ok l).bind fun a ha => ?_
  obtain ⟨b, p⟩ := a
  obtain ⟨e1, e2⟩ := ha
  simp only at e1 e2
  subst e2
  have hb : ∀ x ∈ b, 0 ≤ x ∧ x ≤ 255 := by subst e1; exact byte_take hl 2000
  clear e1
  refine Ok.binds rfl ?_
  refine (pick_at b hb 0 6 ⟨by omega, by omega⟩ ⟨by omega, by omega⟩).bind fun x hx => ?_
  obtain ⟨v1, q1⟩ := x
  obtain ⟨hv, rfl⟩ := hx
  simp only at hv ⊢
  obtain ⟨D, hD, eD⟩ := rd6 hv
  have c1 : v1 < (([1, 2, 4, 8, 24, 32] : List Int).length : Int) := hv.2
  refine Ok.yes hv.1 (Ok.yes c1 ?_)
  rw [eD]
  have hrow : Ok (fun k => spec_l14Row.f k b (0 + 1) (D : Int)) (fun r => r.1.length ≤ 12 ∧ 0 ≤ r.2 ∧ r.2 ≤ 100) := by
    unfold spec_l14Row.f
    refine (pick_at b hb (0 + 1) 12 ⟨by omega, by omega⟩ ⟨by omega, by omega⟩).bind fun x hx => ?_
    obtain ⟨v2, q1⟩ := x
    obtain ⟨hv2, rfl⟩ := hx
    simp only at hv2 ⊢
    obtain ⟨m, rfl⟩ := Int.eq_ofNat_of_zero_le hv2.1
    refine (drawRow_l0 b hb D (by omega) m [] (0 + 1 + 1) (by omega) (by omega) (by omega) (by simp only [List.length_nil]; omega)).mono fun r hr => ?_
    simp only [List.length_nil] at hr
    exact ⟨by omega, by omega, by omega⟩
  refine hrow.bind fun x hx => ?_
  obtain ⟨o, q⟩ := x
  simp only at hx ⊢
  refine (pick_at b hb q 16 ⟨by omega, by omega⟩ ⟨by omega, by omega⟩).bind fun x hx3 => ?_
  obtain ⟨v3, q3⟩ := x
  obtain ⟨hv3, rfl⟩ := hx3
  simp only at hv3 ⊢
  refine Ok.ite (fun h1 => ?_) (fun h1 => Ok.ite (fun h2 => ?_) (fun h2 => Ok.now _ (by show o.length ≤ 100; omega)))
  · refine Ok.binds rfl ?_
    refine (pick_at b hb (q + 1) 3 ⟨by omega, by omega⟩ ⟨by omega, by omega⟩).bind fun x hx4 => ?_
    obtain ⟨v4, q4⟩ := x
    obtain ⟨hv4, rfl⟩ := hx4
    exact Ok.yes hv4.1 (Ok.yes hv4.2 (Ok.now _ (by show o.length ≤ 100; omega)))
  · refine (pow_ok D (by omega)).bind fun x hx => ?_
    refine Ok.binds rfl ?_
    refine (pick_at b hb (q + 1) 2 ⟨by omega, by omega⟩ ⟨by omega, by omega⟩).bind fun x hx4 => ?_
    obtain ⟨v4, q4⟩ := x
    obtain ⟨hv4, rfl⟩ := hx4
    refine Ok.yes hv4.1 (Ok.yes hv4.2 (Ok.yes (by omega) (Ok.now _ ?_)))
    show (o ++ [_]).length ≤ 100
    rw [List.length_append]
    simp only [List.length_cons, List.length_nil]
    omega
theorem wi_run (l : List Int) (hl : l.length ≤ 1048576) (d : Nat) : ∀ (i : Nat), i + d = l.length → Ok (fun n => laws_wiInts.l0 n l l (i : Int)) (· = true) := by
  induction d with
  | zero =>
    intro i hi
    refine Ok.succ ?_
    simp only [laws_wiInts.l0]
    have c1 : ¬ (i : Int) < (l.length : Int) := by omega
    exact Ok.no c1 (Ok.now _ rfl)
  | succ d ih =>
    intro i hi
    have c1 : (i : Int) < (l.length : Int) := by omega
    have c2 : (0 : Int) ≤ (i : Int) := by omega
    have e1 : wrap64 ((i : Int) + 1) = ((i + 1 : Nat) : Int) := by rw [w64 (by omega) (by omega)] <;> omega
    refine Ok.succ ?_
    simp only [laws_wiInts.l0]
    refine Ok.yes c1 (Ok.yes c2 (Ok.yes c1 (Ok.yes (by simp) ?_)))
    rw [e1]
    exact ih (i + 1) (by omega)
theorem wi_ok (l : List Int) (hl : l.length ≤ 1048576) : Ok (fun n => laws_wiInts.f n l l) (· = true) := by
  unfold laws_wiInts.f
  exact Ok.yes rfl (wi_run l hl l.length 0 (by omega))

theorem FnRow : laws_FnRow.Pure := by
  intro l0 h1 h2 hw
  have hl := byte_wf hw
  unfold laws_FnRow.f
  apply Ok.rounds
  refine Ok.ite (fun h => Ok.now _ rfl) (fun h => ?_)
  refine (drawRowPut_ok l0 hl).bind fun a ha => ?_
  obtain ⟨l, a⟩ := a
  simp only at ha ⊢
  obtain ⟨r, hr, hs⟩ := rowPut_ok l a
  refine Ok.binds hr ?_
  refine hs.bind fun y hy => ?_
  subst hy
  refine Ok.yes rfl ?_
  refine Ok.succ ?_
  simp only [laws_FnRow.j0]
  refine Ok.ite (fun h3 => ?_) (fun h3 => ?_)
  · refine hs.bind fun z hz => ?_
    subst hz
    exact Ok.now _ (by simp)
  · have hne : y ≠ ⟨#[]⟩ := by
      intro q
      subst q
      exact h3 (by rw [(Go.Proofs.Yteikopjhekhchaa.Lib.empty_iff (⟨#[]⟩ : ByteArray)).2 rfl]; rfl)
    unfold impl_RowPut.f at hr
    by_cases hd : rowD a
    · rw [if_pos hd, if_pos (by omega)] at hr
      obtain ⟨D, rfl⟩ : ∃ D : Nat, a = (D : Int) := ⟨a.toNat, by unfold rowD at hd; omega⟩
      rw [Int.toNat_natCast] at hr
      by_cases hany : l.any (impl_outside.bad (2 ^ D - 1)) = true
      · rw [if_pos hany] at hr
        exact absurd (Option.some.inj hr).symm hne
      · rw [if_neg hany] at hr
        have hr := (Option.some.inj hr).symm
        subst hr
        have hg : ∀ x ∈ l, rowGood D x := by
          intro x hx
          rw [← bad_good]
          cases hb : impl_outside.bad (2 ^ D - 1) x with
          | false => rfl
          | true => exact absurd (List.any_eq_true.2 ⟨x, hx, hb⟩) hany
        obtain ⟨g1, g2⟩ := rowGet_ok l D hd (by omega) hg
        refine g1.bind fun z hz => ?_
        subst hz
        refine Ok.yes rfl ?_
        refine (wi_ok l (by omega)).bind fun z hz => ?_
        subst hz
        refine Ok.yes rfl (Ok.now _ ?_)
        rw [← g2]
        simp
    · rw [if_neg hd] at hr
      exact absurd (Option.some.inj hr).symm hne
end Go.Proofs.Yteikopjhekhchaa.Pure
