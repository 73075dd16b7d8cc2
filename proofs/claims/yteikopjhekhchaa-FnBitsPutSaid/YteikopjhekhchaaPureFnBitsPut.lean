/- laws.FnBitsPut: drawn numbers that BitsPut packs are read by BitsGet each where it was put, and the text is as long as they need; what is not packed the reference does not pack either. No condition. -/
import Derived.Test.YteikopjhekhchaaF12
import Derived.Test.YteikopjhekhchaaLibBitsGet
import Derived.OpenShut
set_option linter.unusedVariables false
set_option linter.unusedSimpArgs false
namespace Go.Proofs.Yteikopjhekhchaa.Pure
open Go.RowKit Go.Proofs.Yteikopjhekhchaa.P Go.Proofs.YteikopjhekhchaaW.PrintWords Go.Proofs.YteikopjhekhchaaW.PrintLast Go.Proofs.YteikopjhekhchaaW.PrintMore
/-! ### what is drawn: pick, of, l1Many, l14Text -/
open Go.Proofs.Yteikopjhekhchaa.Lib
theorem pick_ok (b : List Int) (hb : ∀ x ∈ b, 0 ≤ x ∧ x ≤ 255) (p n : Int) (hp : 0 ≤ p) (hp' : p ≤ 1099511627776) (hn : n ≤ 9223372036854775807) :
    Ok (fun k => spec_l1Rd_pick.f k b p n) (fun r => 0 ≤ r.1 ∧ (1 ≤ n → r.1 < n) ∧ (n < 1 → r.1 = 0) ∧ r.2 = p + 1) := by
  have e1 : wrap64 (p + 1) = p + 1 := w64 (by omega) (by omega)
  unfold spec_l1Rd_pick.f
  by_cases h1 : n < 1
  · refine Ok.yes h1 (Ok.succ ?_)
    simp only [spec_l1Rd_pick.j0, e1, if_true]
    exact Ok.now _ ⟨by simp, fun h => by omega, fun _ => rfl, rfl⟩
  refine Ok.no h1 (Ok.succ ?_)
  simp only [spec_l1Rd_pick.j0, e1]
  by_cases h2 : (b.length : Int) = 0
  · have hbq : ((b.length : Int) == 0) = true := beq_iff_eq.2 h2
    exact Ok.yes hbq (Ok.now _ ⟨by omega, fun _ => by show (0 : Int) < n; omega, fun h => absurd h h1, rfl⟩)
  have hbq : ¬ ((b.length : Int) == 0) = true := by simpa using h2
  have e2 : wrap64 (p + 1 - 1) = p := by rw [w64 (by omega) (by omega)]; omega
  simp only [e2]
  refine Ok.no hbq ?_
  have hn0 : ¬ n = 0 := by omega
  refine Ok.ite (fun h3 => Ok.yes hp (Ok.no hn0 ?_)) (fun h3 => Ok.no h2 ?_)
  · have hm := hb _ (rd_mem hp h3)
    have e3 : wrap64 (rd b p) = rd b p := w64 (by omega) (by omega)
    rw [e3, tmod_nn hm.1]
    exact Ok.now _ ⟨Int.emod_nonneg _ hn0, fun _ => Int.emod_lt_of_pos _ (by omega), fun h => absurd h h1, rfl⟩
  · have hl : 0 < (b.length : Int) := by omega
    rw [tmod_nn hp]
    have a0 : 0 ≤ p % (b.length : Int) := Int.emod_nonneg _ h2
    have a1 : p % (b.length : Int) < (b.length : Int) := Int.emod_lt_of_pos _ hl
    have e4 : wrap64 (p * 7) = p * 7 := w64 (by omega) (by omega)
    have e5 : wrap64 (p * 7 + 3) = p * 7 + 3 := w64 (by omega) (by omega)
    simp only [e4, e5]
    rw [tmod_nn (show 0 ≤ p * 7 + 3 by omega)]
    have b0 : 0 ≤ (p * 7 + 3) % (b.length : Int) := Int.emod_nonneg _ h2
    have b1 : (p * 7 + 3) % (b.length : Int) < (b.length : Int) := Int.emod_lt_of_pos _ hl
    refine Ok.yes a0 (Ok.yes a1 (Ok.yes b0 (Ok.yes b1 (Ok.no hn0 ?_))))
    have c0 := hb _ (rd_mem a0 a1)
    have c1 := hb _ (rd_mem b0 b1)
    generalize rd b (p % (b.length : Int)) = x at c0 ⊢
    generalize rd b ((p * 7 + 3) % (b.length : Int)) = y at c1 ⊢
    rw [tdiv_nn hp]
    have d0 : 0 ≤ p / (b.length : Int) := Int.ediv_nonneg hp (by omega)
    have d1 : p / (b.length : Int) ≤ p := Int.ediv_le_self _ hp
    generalize p / (b.length : Int) = q at d0 d1 ⊢
    have f1 : wrap64 x = x := w64 (by omega) (by omega)
    have f2 : wrap64 y = y := w64 (by omega) (by omega)
    have f3 : wrap64 q = q := w64 (by omega) (by omega)
    have f4 : wrap64 (x * 131) = x * 131 := w64 (by omega) (by omega)
    have f5 : wrap64 (y * 1117) = y * 1117 := w64 (by omega) (by omega)
    have f6 : wrap64 (p * 29) = p * 29 := w64 (by omega) (by omega)
    have f7 : wrap64 (q * 53) = q * 53 := w64 (by omega) (by omega)
    simp only [f1, f2, f3, f4, f5, f6, f7]
    have f8 : wrap64 (x * 131 + y * 1117) = x * 131 + y * 1117 := w64 (by omega) (by omega)
    simp only [f8]
    have f9 : wrap64 (x * 131 + y * 1117 + p * 29) = x * 131 + y * 1117 + p * 29 := w64 (by omega) (by omega)
    simp only [f9]
    have f10 : wrap64 (x * 131 + y * 1117 + p * 29 + q * 53) = x * 131 + y * 1117 + p * 29 + q * 53 := w64 (by omega) (by omega)
    simp only [f10]
    have g0 : 0 ≤ x * 131 + y * 1117 + p * 29 + q * 53 := by omega
    have g1 : x * 131 + y * 1117 + p * 29 + q * 53 ≤ 9223372036854775807 := by omega
    generalize x * 131 + y * 1117 + p * 29 + q * 53 = z at g0 g1 ⊢
    rw [tdiv_nn g0]
    have f11 : wrap64 (z / 64) = z / 64 := w64 (by omega) (by omega)
    rw [f11]
    have hx := xor_nonneg g0 g1 (show 0 ≤ z / 64 by omega) (by omega)
    rw [tmod_nn hx.1]
    exact Ok.now _ ⟨Int.emod_nonneg _ hn0, fun _ => Int.emod_lt_of_pos _ (by omega), fun h => absurd h h1, rfl⟩

theorem pick_at (b : List Int) (hb : ∀ x ∈ b, 0 ≤ x ∧ x ≤ 255) (p n : Int) (hp : 0 ≤ p ∧ p ≤ 1099511627776) (hn : 1 ≤ n ∧ n ≤ 9223372036854775807) :
    Ok (fun k => spec_l1Rd_pick.f k b p n) (fun r => (0 ≤ r.1 ∧ r.1 < n) ∧ r.2 = p + 1) :=
  (pick_ok b hb p n hp.1 hp.2 hn.2).mono fun _ h => ⟨⟨h.1, h.2.1 hn.1⟩, h.2.2.2⟩
theorem open_ok (l : List Int) : Ok (fun _ => spec_l1Open.f l) (fun r => r.1 = l.take 2000 ∧ r.2 = 0) := by
  unfold spec_l1Open.f
  refine Ok.ite (fun h => Ok.yes (by omega) (Ok.now _ ⟨rfl, rfl⟩)) (fun h => Ok.now _ ⟨?_, rfl⟩)
  rw [List.take_of_length_le (by omega)]
theorem byte_wf {l : List Int} (h : ∀ x ∈ l, (Lit.int .u8 x).wf = true) : ∀ x ∈ l, 0 ≤ x ∧ x ≤ 255 := fun x hx => bounds_u8 (h x hx)
theorem byte_take {l : List Int} (h : ∀ x ∈ l, 0 ≤ x ∧ x ≤ 255) (n : Nat) : ∀ x ∈ l.take n, 0 ≤ x ∧ x ≤ 255 := fun x hx => h x (List.mem_of_mem_take hx)

theorem drawBits_j1 (b : List Int) (hb : ∀ x ∈ b, 0 ≤ x ∧ x ≤ 255) (o : List S59) (ho : o.length ≤ 100) (p : Int) (hp : 0 ≤ p ∧ p ≤ 1000000) (c : Bool) (hc : c = true → 0 < o.length) :
    Ok (fun k => spec_DrawBitsPut.j1 k o c b p) (fun r => r.1.length ≤ 100) := by
  refine Ok.succ ?_
  simp only [spec_DrawBitsPut.j1]
  refine Ok.ite (fun h => ?_) (fun h => ?_)
  · have h0 := hc h
    refine Ok.binds rfl ?_
    refine (pick_at b hb p 4 ⟨hp.1, by omega⟩ ⟨by omega, by omega⟩).bind fun x hx => ?_
    obtain ⟨v, q⟩ := x
    obtain ⟨hv, rfl⟩ := hx
    refine Ok.yes hv.1 (Ok.yes hv.2 (Ok.yes (by omega) ?_))
    refine (pick_at b hb (p + 1) 2 ⟨by omega, by omega⟩ ⟨by omega, by omega⟩).bind fun x hx => ?_
    refine Ok.now _ ?_
    simp only [List.length_set]
    exact ho
  · refine (pick_at b hb p 2 ⟨hp.1, by omega⟩ ⟨by omega, by omega⟩).bind fun x hx => ?_
    exact Ok.now _ ho
theorem drawBits_l0 (b : List Int) (hb : ∀ x ∈ b, 0 ≤ x ∧ x ≤ 255) (d : Nat) : ∀ (o : List S59) (p : Int), d ≤ 100 → 0 ≤ p → p ≤ 1000000 - 3 * d - 10 → o.length + d ≤ 100 →
    Ok (fun k => spec_DrawBitsPut.l0 k o (d : Int) b p) (fun r => r.1.length ≤ 100) := by
  induction d with
  | zero =>
    intro o p hd hp hp2 ho
    have c1 : ¬ ((0 : Nat) : Int) > 0 := by omega
    refine Ok.succ ?_
    simp only [spec_DrawBitsPut.l0]
    refine Ok.no c1 (Ok.ite (fun h => ?_) (fun h => ?_))
    · refine (pick_at b hb p 12 ⟨hp, by omega⟩ ⟨by omega, by omega⟩).bind fun x hx => ?_
      obtain ⟨v, q⟩ := x
      obtain ⟨hv, rfl⟩ := hx
      exact drawBits_j1 b hb o (by omega) (p + 1) ⟨by omega, by omega⟩ _ (fun _ => by omega)
    · exact drawBits_j1 b hb o (by omega) p ⟨by omega, by omega⟩ _ (fun h => absurd h Bool.false_ne_true)
  | succ d ih =>
    intro o p hd hp hp2 ho
    have c1 : ((d + 1 : Nat) : Int) > 0 := by omega
    have e : wrap64 (((d + 1 : Nat) : Int) - 1) = (d : Int) := by rw [w64 (by omega) (by omega)]; omega
    refine Ok.succ ?_
    simp only [spec_DrawBitsPut.l0]
    refine Ok.yes c1 ?_
    refine (pick_at b hb p 25 ⟨hp, by omega⟩ ⟨by omega, by omega⟩).bind fun x hx => ?_
    obtain ⟨v1, q1⟩ := x
    obtain ⟨hv, rfl⟩ := hx
    simp only at hv ⊢
    obtain ⟨n, rfl⟩ := Int.eq_ofNat_of_zero_le hv.1
    refine (pick_at b hb (p + 1) 4096 ⟨by omega, by omega⟩ ⟨by omega, by omega⟩).bind fun x hx => ?_
    obtain ⟨v2, q1⟩ := x
    obtain ⟨_, rfl⟩ := hx
    refine (pick_at b hb (p + 1 + 1) 4096 ⟨by omega, by omega⟩ ⟨by omega, by omega⟩).bind fun x hx => ?_
    obtain ⟨v3, q1⟩ := x
    obtain ⟨_, rfl⟩ := hx
    refine (pow_ok n (by omega)).bind fun x hx => ?_
    subst hx
    have hp1 := pow2_1 n
    have c2 : ¬ (2 : Int) ^ n = 0 := by omega
    have c3 : o.length < 8796093022208 := by omega
    refine Ok.no c2 (Ok.yes c3 ?_)
    rw [e]
    have h1 : ∀ z : S59, (o ++ [z]).length = o.length + 1 := fun z => by simp
    exact ih _ (p + 1 + 1 + 1) (by omega) (by omega) (by omega) (by rw [h1]; omega)
theorem drawBitsPut_ok (l : List Int) (hl : ∀ x ∈ l, 0 ≤ x ∧ x ≤ 255) : Ok (fun k => spec_DrawBitsPut.f k l) (fun r => r.1.length ≤ 100) := by
  unfold spec_DrawBitsPut.f
  refine (open_ok l).bind fun a ha => ?_
  obtain ⟨b, p⟩ := a
  obtain ⟨e1, e2⟩ := ha
  simp only at e1 e2
  subst e2
  have hb : ∀ x ∈ b, 0 ≤ x ∧ x ≤ 255 := by subst e1; exact byte_take hl 2000
  clear e1
  refine (pick_at b hb 0 8 ⟨by omega, by omega⟩ ⟨by omega, by omega⟩).bind fun x hx => ?_
  obtain ⟨v1, q1⟩ := x
  obtain ⟨hv, rfl⟩ := hx
  simp only at hv ⊢
  obtain ⟨n, rfl⟩ := Int.eq_ofNat_of_zero_le hv.1
  exact drawBits_l0 b hb n [] (0 + 1) (by omega) (by omega) (by omega) (by simp only [List.length_nil]; omega)
theorem back_run (l : List S59) (high : Bool) (hl : l.length ≤ 100) (hok : ∀ b ∈ l, bitOk b = true) (hsum : natSum l ≤ 72000) (s : ByteArray) (hs : s = strOfNums (pkBits high l [] 0)) (d : Nat) :
    ∀ i, i + d = l.length → Ok (fun n => laws_FnBitsPut.l0 n l high s ((natSum (l.take i) : Nat) : Int) (i : Int)) (· = true) := by
  obtain ⟨r1, _, r3⟩ := bits_at high l 0 [] (fun b hb => (bitOk_size (hok b hb)).1) (Inv.nil high) (by omega)
  simp only [Nat.zero_add] at r1 r3
  rw [show ((0 : Nat) : Int) = 0 from rfl] at r1 r3
  have hlen := r1.len
  have hsz : s.size = (natSum l + 7) / 8 := by rw [hs, strOfNums_size, hlen]
  induction d with
  | zero =>
    intro i hi
    have c1 : ¬ (i : Int) < (l.length : Int) := by omega
    refine Ok.succ ?_
    simp only [laws_FnBitsPut.l0]
    refine Ok.no c1 (Ok.now _ ?_)
    rw [List.take_of_length_le (by omega), hsz]
    have e1 : wrap64 ((natSum l : Int) + 7) = ((natSum l + 7 : Nat) : Int) := by rw [w64 (by omega) (by omega)] <;> omega
    rw [e1, tdiv8 (by omega)]
    simp
  | succ d ih =>
    intro i hi
    have hlt : i < l.length := by omega
    have c1 : (i : Int) < (l.length : Int) := by omega
    have c2 : (0 : Int) ≤ (i : Int) := by omega
    have e1 : wrap64 ((i : Int) + 1) = ((i + 1 : Nat) : Int) := by rw [w64 (by omega) (by omega)] <;> omega
    have he : rd_T59 l (i : Int) = l[i] := by
      show l.getD (i : Int).toNat z59 = _
      rw [Int.toNat_natCast, List.getD_eq_getElem?_getD, List.getElem?_eq_getElem hlt]; rfl
    have ht := natSum_take l i hlt
    have ht2 := natSum_take_le l (i + 1)
    have hb3 := r3 i hlt
    have hk := bitOk_size (hok _ (List.getElem_mem hlt))
    have ih2 := ih (i + 1) (by omega)
    obtain ⟨b, hb⟩ : ∃ b, l[i] = b := ⟨_, rfl⟩
    rw [hb] at he ht hb3 hk
    obtain ⟨⟨k1, k2, k3, k4⟩, k5, k6⟩ := hk
    obtain ⟨z, hz⟩ : ∃ z : Nat, b.f1 = (z : Int) := ⟨b.f1.toNat, by omega⟩
    obtain ⟨m, hm⟩ := Int.eq_ofNat_of_zero_le k1
    rw [hz, Int.toNat_natCast] at ht hb3 k6
    rw [hm] at hb3 k6
    have k7 : m < 2 ^ z := by
      have e : (2 : Int) ^ z = ((2 ^ z : Nat) : Int) := by push_cast; rfl
      rw [e] at k6
      exact Int.ofNat_lt.1 k6
    clear k6
    have hbits : ∀ j, j < z → ((bitT high s (natSum (l.take i) + j) : Nat) : Int) = pkBit (m : Int) z high j := by
      intro j hj
      rw [hs, bitT_nums high _ r1.byte _ (by rw [hlen]; omega)]
      exact hb3 j hj
    clear hb3
    have g := bitsGet_ok s (natSum (l.take i)) z m high (by omega) k7 (by clear k7; omega) (by clear k7; omega) hbits
    refine Ok.succ ?_
    simp only [laws_FnBitsPut.l0]
    refine Ok.yes c1 (Ok.yes c2 ?_)
    rw [he, hz, hm, e1]
    refine g.bind fun x hx => ?_
    subst hx
    have e2 : wrap64 (((natSum (l.take i) : Nat) : Int) + (z : Int)) = ((natSum (l.take (i + 1)) : Nat) : Int) := by clear k7; rw [ht, w64 (by omega) (by omega)]; rfl
    refine Ok.yes rfl (Ok.yes rfl ?_)
    rw [e2]
    exact ih2
theorem FnBitsPut : laws_FnBitsPut.Pure := by
  intro l0 h1 h2 hw
  have hl := byte_wf hw
  unfold laws_FnBitsPut.f
  apply Ok.rounds
  refine Ok.ite (fun h => Ok.now _ rfl) (fun h => ?_)
  refine (drawBitsPut_ok l0 hl).bind fun a ha => ?_
  obtain ⟨l, high⟩ := a
  simp only at ha ⊢
  obtain ⟨r, hr, hs⟩ := bitsPut_ok l high (by omega)
  refine Ok.binds hr ?_
  refine hs.bind fun y hy => ?_
  subst hy
  refine Ok.yes rfl ?_
  refine Ok.succ ?_
  simp only [laws_FnBitsPut.j0]
  refine Ok.ite (fun h3 => ?_) (fun h3 => ?_)
  · refine hs.bind fun z hz => ?_
    subst hz
    exact Ok.now _ (by simp)
  · have hne : y ≠ ⟨#[]⟩ := by
      intro q
      subst q
      exact h3 (by rw [(Go.Proofs.Yteikopjhekhchaa.Lib.empty_iff (⟨#[]⟩ : ByteArray)).2 rfl]; rfl)
    unfold impl_BitsPut.f at hr
    rw [if_pos (by omega)] at hr
    by_cases hall : l.all bitOk = true
    · rw [if_pos hall] at hr
      by_cases hsum : bitsSum l > 72000
      · rw [if_pos hsum] at hr
        exact absurd (Option.some.inj hr).symm hne
      · rw [if_neg hsum] at hr
        have hn := natSum_eq l (fun b hb => (bitOk_size (all_mem hall b hb)).1)
        have h := back_run l high ha (all_mem hall) (by omega) y (Option.some.inj hr).symm l.length 0 (by omega)
        rw [List.take_zero] at h
        exact h
    · rw [if_neg hall] at hr
      exact absurd (Option.some.inj hr).symm hne
end Go.Proofs.Yteikopjhekhchaa.Pure
