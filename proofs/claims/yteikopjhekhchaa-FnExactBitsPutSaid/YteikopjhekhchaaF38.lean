-- Written by a program of this session (wip/myprint.py) through the print of the kit: not trusted, Lean checks it.
import Derived.Test.YteikopjhekhchaaF00
import Derived.Test.YteikopjhekhchaaF70
import Derived.Test.YteikopjhekhchaaF71
import Derived.Test.YteikopjhekhchaaF72
import Derived.Test.YteikopjhekhchaaF89
import Derived.Test.YteikopjhekhchaaF92
namespace Go.Proofs.Yteikopjhekhchaa.P
open Go.RowKit Go.Proofs.YteikopjhekhchaaW.PrintWords Go.Proofs.YteikopjhekhchaaW.PrintLast Go.Proofs.YteikopjhekhchaaW.PrintMore
attribute [local go_sem] max2_int min2_int max_two min_two max_three min_three max_four min_four   -- for this text's walks alone
set_option linter.unusedVariables false
set_option linter.unusedSimpArgs false

/-! ### impl_RowPut: function 38 -/
def pkRow (size : Nat) : List Int → List Int → Int → List Int
  | [], xs, _ => xs
  | n :: l, xs, pos => pkRow size l (pkPut n size true 0 xs pos size) (pos + size)
def rowD (a1 : Int) : Prop := a1 = 1 ∨ a1 = 2 ∨ a1 = 4 ∨ a1 = 8 ∨ a1 = 24 ∨ a1 = 32
instance (a1 : Int) : Decidable (rowD a1) := by unfold rowD; infer_instance
def impl_RowPut.f (l0 : List Int) (a1 : Int) : Option ByteArray :=
  if rowD a1 then (if l0.length ≤ 1000 then (if l0.any (impl_outside.bad (2 ^ a1.toNat - 1)) = true then some ⟨#[]⟩ else some (strOfNums (pkRow a1.toNat l0 [] 0))) else some ⟨#[]⟩) else some ⟨#[]⟩
theorem rowDepth_eq (a1 : Int) : impl_rowDepth.f a1 = some (decide (rowD a1)) := by
  unfold impl_rowDepth.f impl_smallDepth.f rowD
  by_cases h1 : a1 = 1 <;> by_cases h2 : a1 = 2 <;> by_cases h3 : a1 = 4 <;> by_cases h4 : a1 = 8 <;> by_cases h5 : a1 = 24 <;> by_cases h6 : a1 = 32 <;> simp [h1, h2, h3, h4, h5, h6]
set_option maxHeartbeats 1000000 in
set_option maxRecDepth 100000 in
theorem impl_RowPut.yes (A0 : Option Addr) (c0 : Nat) (l0 : List Int) (D : Nat) (w : World) (hr0 : Kd.C (Kd.int .i64) w A0 l0.length l0) (hc0 : l0.length ≤ c0) (hD : rowD D) (hl : l0.length ≤ 1000) (hany : l0.any (impl_outside.bad (2 ^ D - 1)) = false) :
    Calls Try.prog 38 #[.slice A0 l0.length c0, .int .i64 D] w fun e w' => e = .returned (.string (strOfNums (pkRow D l0 [] 0))) ∧ Below w.heap.size w w' := by
  have HR0 := Aside0.mk hr0
  have HC0 := Aside0.mk hc0
  have d1 : 1 ≤ D ∧ D ≤ 32 := by rcases hD with h | h | h | h | h | h <;> omega
  have HA := Aside0.mk (show impl_outside.f l0 (2 ^ D - 1) = some false by unfold impl_outside.f; rw [hany])
  have HD1 := Aside0.mk (show impl_rowDepth.f (D : Int) = some true by rw [rowDepth_eq, decide_eq_true hD])
  have hl' : ¬ 1000 < l0.length := by omega
  have HV := Aside0.mk (show ∀ x ∈ l0, 0 ≤ x ∧ x ≤ 2 ^ D - 1 from fun x hx => by
    have h := List.any_eq_false.1 hany x hx
    unfold impl_outside.bad at h
    simp at h
    omega)
  have hpI1 : (1 : Int) ≤ 2 ^ D := pow2_1 D
  have hpI2 : (2 : Int) ^ D ≤ 4294967296 := pow2_32 d1.2
  obtain ⟨R, hR⟩ : ∃ R, pkRow D l0 [] 0 = R := ⟨_, rfl⟩
  have HR := Aside0.mk hR
  rw [hR]
  clear hany hD hr0 hc0 hR
  go_enter Try.func38, Try.ntmps38
  go_wp2_with (first | (go_at_call 70; refine (impl_rowDepth.calls _ true _ HD1.out).mono ?_; rintro e w' ⟨rfl, ⟨nd, rfl⟩⟩) | (go_at_call 71; refine (impl_outside.calls A0 c0 l0 (2 ^ D - 1) false _ (Kd.C_drewN HR0.out nd) HC0.out HA.out).mono ?_; rintro e w1 ⟨rfl, hb1⟩; have HB1 := Aside0.mk (show Below w.heap.size w w1 from (pw_below_drewN (Below.refl w.heap.size w) nd).trans hb1); clear hb1))
  go_loopw [27] (fun v27 wr => ∃ (k d : Nat) (ys : List Int) (pos : Int), v27 = .int .i64 k ∧ Aside0 (k + d = l0.length) ∧ Aside0 (0 ≤ pos ∧ pos ≤ 32 * k) ∧ Aside0 ((ys.length : Int) = (pos + 7) / 8) ∧ Aside0 (pkRow D (l0.drop k) ys pos = R) ∧ Aside0 (IsPk w wr w1.heap.size ys pos true) ∧ Aside0 (Below w.heap.size w wr)) (fun i _ => l0.length - (intOf i).toNat)
  case atStart => exact ⟨0, l0.length, [], 0, rfl, ⟨by omega⟩, ⟨by omega⟩, ⟨by simp⟩, ⟨by have := HR.out; simpa using this⟩, ⟨IsPk.new w w1 true HB1.out.size⟩, ⟨below_alloc HB1.out _⟩⟩
  case round =>
    clear HR
    obtain ⟨k, d, ys, pos, rfl, HD, HP, HN, HR, HI, HB⟩ := hrel
    have hkl : k ≤ l0.length := by have := HD.out; omega
    cases d with
    | zero =>
      have hge : ¬ k < l0.length := by have := HD.out; omega
      have HE := Aside0.mk (show R = ys by
        have h := HR.out
        rw [List.drop_eq_nil_of_le (by omega)] at h
        simp only [pkRow] at h
        exact h.symm)
      obtain ⟨vv, hbk, hok, hgk⟩ := HI.out
      have c0' := blk_cell hbk 0
      simp at c0'
      have hcv := own_string (P := Try.prog) Try.underlying34 Try.underlying5 Try.underlying9 hok
      clear hbk hok hgk
      go_wp2
      go_ret
      exact ⟨by rw [HE.out]; rfl, by repeat (first | exact HB.out | apply below_alloc | apply pw_below_drewN | apply below_drew1)⟩
    | succ d =>
      have hlt : k < l0.length := by have := HD.out; omega
      obtain ⟨ad, hA0, hx⟩ := Kd.at_int (Kd.C_below HR0.out HB.out) (k : Int) (by omega) (by omega)
      obtain ⟨x, hxx⟩ : ∃ x, x = rd l0 k := ⟨_, rfl⟩
      rw [← hxx] at hx
      have hx' : wr.cell? (ad.add k) = some (.int .i64 x) := by simpa using hx
      have HX := Aside0.mk (show (0 ≤ x ∧ x ≤ 2 ^ D - 1) ∧ pkRow D (l0.drop (k + 1)) (pkPut x D true 0 ys pos D) (pos + D) = R by
        have e : l0[k] = x := by
          rw [hxx]
          unfold rd
          rw [List.getD_eq_getElem?_getD]
          simp [hlt]
        refine ⟨HV.out x (by rw [← e]; exact List.getElem_mem hlt), ?_⟩
        have h := HR.out
        rw [List.drop_eq_getElem_cons hlt, e] at h
        simpa only [pkRow] using h)
      subst hA0
      clear hx hxx HR
      have HQ := Aside0.mk (show 0 ≤ x ∧ x ≤ 9223372036854775807 by have := HX.out.1; omega)
      go_wp2_with (go_at_call 72; refine (impl_packer_put.calls w1.heap.size ys pos x D true w _ HN.out (by omega) HP.out.1 (by have := HP.out; omega) HQ.out.1 HQ.out.2 HI.out HB.out).mono ?_; rintro e w' ⟨rfl, hi, hb⟩; have HI2 := Aside0.mk hi; have HB2 := Aside0.mk hb; clear hi hb)
      go_roundw
      case rel => exact ⟨k + 1, d, _, pos + D, by go_num, ⟨by have := HD.out; omega⟩, ⟨by have := HP.out; omega⟩, ⟨pkPut_len x D true D 0 ys pos HP.out.1 HN.out⟩, ⟨HX.out.2⟩, HI2, HB2⟩
      case measure => simp [intOf]; omega
set_option maxHeartbeats 1000000 in
set_option maxRecDepth 100000 in
theorem impl_RowPut.calls (A0 : Option Addr) (c0 : Nat) (l0 : List Int) (a1 : Int) (r : ByteArray) (w : World) (hr0 : Kd.C (Kd.int .i64) w A0 l0.length l0) (hc0 : l0.length ≤ c0) (h : impl_RowPut.f l0 a1 = some r) :
    Calls Try.prog 38 #[.slice A0 l0.length c0, .int .i64 a1] w fun e w' => e = .returned (.string r) ∧ Below w.heap.size w w' := by
  unfold impl_RowPut.f at h
  have hm : l0.length ≤ 9223372036854775807 := hr0.2.1
  by_cases h1 : rowD a1
  · rw [if_pos h1] at h
    obtain ⟨D, rfl⟩ : ∃ D : Nat, a1 = D := ⟨a1.toNat, by rcases h1 with h | h | h | h | h | h <;> omega⟩
    rw [Int.toNat_natCast] at h
    have d1 : 1 ≤ D ∧ D ≤ 32 := by rcases h1 with h | h | h | h | h | h <;> omega
    have HD1 := Aside0.mk (show impl_rowDepth.f (D : Int) = some true by rw [rowDepth_eq, decide_eq_true h1])
    by_cases h2 : l0.length ≤ 1000
    · rw [if_pos h2] at h
      by_cases h3 : l0.any (impl_outside.bad (2 ^ D - 1)) = true
      · rw [if_pos h3] at h
        obtain rfl := Option.some.inj h
        have hpI1 : (1 : Int) ≤ 2 ^ D := pow2_1 D
        have hpI2 : (2 : Int) ^ D ≤ 4294967296 := pow2_32 d1.2
        have HA := Aside0.mk (show impl_outside.f l0 (2 ^ D - 1) = some true by unfold impl_outside.f; rw [h3])
        have h2' : ¬ 1000 < l0.length := by omega
        have HR0 := Aside0.mk hr0
        have HC0 := Aside0.mk hc0
        clear h3 hr0 hc0 h1 h2
        go_enter Try.func38, Try.ntmps38
        go_wp2_with (first | (go_at_call 70; refine (impl_rowDepth.calls _ true _ HD1.out).mono ?_; rintro e w' ⟨rfl, ⟨nd, rfl⟩⟩) | (go_at_call 71; refine (impl_outside.calls A0 c0 l0 (2 ^ D - 1) true _ (Kd.C_drewN HR0.out nd) HC0.out HA.out).mono ?_; rintro e w1 ⟨rfl, hb1⟩; have HB1 := Aside0.mk (show Below w.heap.size w w1 from (pw_below_drewN (Below.refl w.heap.size w) nd).trans hb1); clear hb1))
        go_ret
        exact ⟨rfl, HB1.out⟩
      · rw [if_neg h3] at h
        obtain rfl := Option.some.inj h
        exact impl_RowPut.yes A0 c0 l0 D w hr0 hc0 h1 h2 (by simpa using h3)
    · rw [if_neg h2] at h
      obtain rfl := Option.some.inj h
      have h2' : 1000 < l0.length := by omega
      clear hr0 hc0 h1 h2
      go_enter Try.func38, Try.ntmps38
      go_wp2_with (go_at_call 70; refine (impl_rowDepth.calls _ true _ HD1.out).mono ?_; rintro e w' ⟨rfl, ⟨nd, rfl⟩⟩)
      go_ret
      exact ⟨rfl, by repeat (first | exact Below.refl _ _ | apply below_alloc | apply pw_below_drewN | apply below_drew1)⟩
  · rw [if_neg h1] at h
    obtain rfl := Option.some.inj h
    have HD1 := Aside0.mk (show impl_rowDepth.f a1 = some false by rw [rowDepth_eq, decide_eq_false h1])
    clear hr0 hc0 h1
    go_enter Try.func38, Try.ntmps38
    go_wp2_with (go_at_call 70; refine (impl_rowDepth.calls _ false _ HD1.out).mono ?_; rintro e w' ⟨rfl, ⟨nd, rfl⟩⟩)
    go_ret
    exact ⟨rfl, by repeat (first | exact Below.refl _ _ | apply below_alloc | apply pw_below_drewN | apply below_drew1)⟩

end Go.Proofs.Yteikopjhekhchaa.P
