/- Texts of one law put together (wip/merge2.py). -/
import Derived.Test.YtgdbinifnhfcjaaMFnRle6
import Derived.Test.YtgdbinifnhfcjaaMFnRle11
import Derived.OpenShut
import Derived.Test.YtgdbinifnhfcjaaMFnRle0
/- laws.FnExactRleGet: at every text, width and height the program's RleGet returns what the reference's returns, rows of its own that may be written. -/
set_option linter.unusedVariables false
set_option linter.unusedSimpArgs false
namespace Go.Proofs.Ytgdbinifnhfcjaa.P
open Go.RowKit Go.Proofs.YtgdbinifnhfcjaaW.PrintWords Go.Proofs.YtgdbinifnhfcjaaW.PrintLast Go.Proofs.YtgdbinifnhfcjaaW.PrintMore
open Go.Proofs.Ytgdbinifnhfcjaa.Pure (small total markRows marks markRows_length total_le marks_length)
/-! the rows' shape -/
def sameShape (a b : List (List Int)) : Prop := a.map List.length = b.map List.length
theorem putR_shape (rows : List (List Int)) (x y : Nat) (b : Int) : sameShape (putR rows x y b) rows := by
  unfold sameShape putR
  by_cases h : y < rows.length
  · rw [List.map_set]
    apply List.ext_getElem
    · simp
    · intro i h1 h2
      rw [List.getElem_set]
      split
      · rename_i he
        subst he
        simp [List.getD_eq_getElem?_getD, List.getElem?_eq_getElem h]
      · rfl
  · rw [List.set_eq_of_length_le (by omega)]
theorem putL_shape : ∀ (l : List Int) (rows : List (List Int)) (x y : Nat) (q : List (List Int) × Nat), putL l rows x y = some q → sameShape q.1 rows
  | [], rows, x, y, q, h => by
    simp only [putL, Option.some.injEq] at h
    subst h
    rfl
  | b :: l, rows, x, y, q, h => by
    simp only [putL] at h
    split at h
    · exact (putL_shape l _ _ _ q h).trans (putR_shape rows x y b)
    · cases h
theorem rleV_shape (s : ByteArray) : ∀ (d p : Nat) (rows : List (List Int)) (x y : Nat) (rs : List (List Int)), rleV s d p rows x y = some rs → sameShape rs rows
  | 0, p, rows, x, y, rs, h => by cases h
  | d + 1, p, rows, x, y, rs, h => by
    simp only [rleV] at h
    split at h
    · split at h
      · obtain ⟨q, h1, h2⟩ := Option.bind_eq_some_iff.mp h
        exact (rleV_shape s d _ _ _ _ rs h2).trans (putL_shape _ _ _ _ q h1)
      · split at h
        · exact rleV_shape s d _ _ _ _ rs h
        · split at h
          · split at h
            · cases h
            · rw [← Option.some.inj h]; rfl
          · split at h
            · split at h
              · cases h
              · exact rleV_shape s d _ _ _ _ rs h
            · split at h
              · cases h
              · obtain ⟨q, h1, h2⟩ := Option.bind_eq_some_iff.mp h
                exact (rleV_shape s d _ _ _ _ rs h2).trans (putL_shape _ _ _ _ q h1)
    · cases h
theorem shape_small {a b : List (List Int)} (h : sameShape a b) (hb : small b) : small a := by
  unfold sameShape at h
  refine ⟨?_, fun r hr => ?_⟩
  · have := congrArg List.length h
    simp only [List.length_map] at this
    rw [this]
    exact hb.1
  · have hm : r.length ∈ b.map List.length := by rw [← h]; exact List.mem_map_of_mem hr
    obtain ⟨r2, h2, h3⟩ := List.mem_map.1 hm
    rw [← h3]
    exact hb.2 r2 h2
theorem rleR_small (s : ByteArray) (a1 a2 : Int) : small ((rleR s a1 a2).getD []) := by
  unfold rleR
  split
  · rename_i ho
    obtain ⟨h1, h2, h3⟩ := ho
    cases hR : rleV s (s.size + 1) 0 (zeroRows a1.toNat a2.toNat) 0 0 with
    | none => exact ⟨by simp, fun r hr => by simp at hr⟩
    | some rs =>
      refine shape_small (rleV_shape s _ _ _ _ _ rs hR) ⟨?_, fun r hr => ?_⟩
      · unfold zeroRows
        rw [List.length_replicate]
        omega
      · unfold zeroRows at hr
        rw [(List.mem_replicate.1 hr).2, List.length_replicate]
        omega
  · exact ⟨by simp, fun r hr => by simp at hr⟩
theorem heldss_any (A : Option Addr) (n c : Nat) (R : List (List Int)) (e base : Nat) (ok : Nat → Prop) (w : World) (kh : Nat) (hS : Kd.S (Kd.slice 3 (Kd.int .i64)) e w base ok (.slice A n c) (markRows R 1)) (h : laws_heldIntSS.f kh (markRows R 1) 1 = some (1 + (total R : Int))) :
    Calls Try.prog 16 #[.slice A n c, .int .i64 1] w fun e w' => e = .returned (.int .i64 (1 + (total R : Int))) ∧ Drawn0 w w' := by
  obtain ⟨h1, h2, h3⟩ := Kd.S_reads' hS
  subst h1
  exact laws_heldIntSS.calls kh A c (markRows R 1) 1 _ w h3 h2 h
set_option maxHeartbeats 8000000 in
set_option maxRecDepth 100000 in
theorem law_FnExactRleGet (s : ByteArray) (a1 a2 : Int) (w : World) (hs : s.size ≤ 140737488351232) (_h1 : (Lit.int .i64 a1).wf = true) (_h2 : (Lit.int .i64 a2).wf = true) :
    Calls Try.prog 3 #[.string s, .int .i64 a1, .int .i64 a2] w fun e w' => e = .returned (.bool true) ∧ Below w.heap.size w w' := by
  have hsm := rleR_small s a1 a2
  obtain ⟨ke, he⟩ := (Pure.sames_ok _ hsm).rounds
  obtain ⟨kh, hh⟩ := (Pure.helds_ok _ hsm).rounds
  have HC1 : ∀ w, Aside0 (Calls Try.prog 13 #[.string s, .int .i64 a1, .int .i64 a2] w fun e w' => RowsRes w (rleR s a1 a2) e w' ∧ Below w.heap.size w w') := fun w => ⟨rleget_any s a1 a2 w⟩
  have HC2 : ∀ w, Aside0 (Calls Try.prog 12 #[.string s, .int .i64 a1, .int .i64 a2] w fun e w' => RowsRes w (rleR s a1 a2) e w' ∧ Below w.heap.size w w') := fun w => ⟨srleget_any s a1 a2 w⟩
  unfold RowsRes at HC1 HC2
  generalize (rleR s a1 a2).isSome = ok at HC1 HC2
  generalize (rleR s a1 a2).getD [] = R at HC1 HC2 he hh hsm
  have HE := Aside0.mk he
  have HH := Aside0.mk hh
  have HSM := Aside0.mk hsm
  have HB0 := Aside0.mk (Below.refl w.heap.size w)
  have ht9 := total_le R hsm.2
  have ht8 := hsm.1
  have ht7 : 1000 * R.length ≤ 1000 * 1000 := Nat.mul_le_mul_left _ ht8
  have t1 : decide ((1 : Int) + (total R : Int) < 0) = false := decide_eq_false (by omega)
  have t0 : (0 : Int) ≤ (total R : Int) := by omega
  have t9 : (total R : Int) ≤ 1000000 := by omega
  clear he hh hsm ht9 ht8 ht7
  by_cases hz : 1048576 < s.size
  · have s1 : decide (1048576 < (s.size : Int)) = true := decide_eq_true (by omega)
    have s2 : decide (1048576 < s.size) = true := decide_eq_true hz
    clear hz
    go_enter Try.func3, Try.ntmps3
    go_wp2
    go_ret
    exact ⟨rfl, HB0.out⟩
  · have s1 : decide (1048576 < (s.size : Int)) = false := decide_eq_false (by omega)
    have s2 : decide (1048576 < s.size) = false := decide_eq_false hz
    clear hz
    have tok1 : True := trivial
    have tok2 : True := trivial
    have tok3 : True := trivial
    have tok4 : True := trivial
    go_enter Try.func3, Try.ntmps3
    go_wp2_with (first
      | (go_at_call 12; (with_reducible refine (HC2 _).out.mono ?_); rintro e w1 ⟨⟨v1, rfl, hs1⟩, hb1⟩; obtain ⟨A1, c1, rfl⟩ := Kd.S_slice hs1; have HS1 := Aside0.mk hs1; have HB1 := Aside0.mk hb1; clear hs1 hb1)
      | (go_at_call 13; have _t := tok1; (with_reducible refine (HC1 _).out.mono ?_); rintro e w2 ⟨⟨v2, rfl, hs2⟩, hb2⟩; obtain ⟨A2, c2, rfl⟩ := Kd.S_slice hs2; have HS2 := Aside0.mk hs2; have HB12 := Aside0.mk hb2; have HW1 := Aside0.mk (Kd.S_old HS1.out hb2); clear hs2 hb2 tok1)
      | (go_at_call 14; have _t := tok2; (with_reducible refine (laws_eqIntSS.calls ke _ _ R _ _ R true _ (Kd.S_reads' HS2.out).2.2 (Kd.S_reads' HS2.out).2.1 (Kd.S_reads' HW1.out).2.2 (Kd.S_reads' HW1.out).2.1 HE.out).mono ?_); rintro e w' ⟨rfl, ⟨n1, rfl⟩⟩; clear tok2)
      | (go_at_call 15; (with_reducible refine (markss_any _ R 1 (fun k => w1.heap.size ≤ k) w1 _ HSM.out ⟨by omega, by omega⟩ ?m1 ?m2 ?m3).mono ?_); (case m1 => exact pw_below_drewN HB12.out _); (case m2 => exact (fun k hk => Nat.le_trans HB12.out.size hk)); (case m3 => exact (Kd.S_mono (Kd.S_bound (Kd.S_drewN HS2.out _)) (fun k hk => hk.2.1))); rintro e w3 ⟨rfl, hs3, hb3, hk3⟩; have HS3 := Aside0.mk hs3; have HB3 := Aside0.mk hb3; have HW3 := Aside0.mk (Kd.S_step (Kd.S_drewN HW1.out n1) (fun k hk hlt => hk3.2 k hlt (fun h => Nat.lt_irrefl _ (Nat.lt_of_lt_of_le hk.2 h)))); clear hs3 hb3 hk3)
      | (go_at_call 16; have _t := tok3; (with_reducible refine (heldss_any _ _ _ R _ _ _ _ kh HS3.out HH.out).mono ?_); rintro e w' ⟨rfl, ⟨n2, rfl⟩⟩; clear tok3)
      | (go_at_call 13; (with_reducible refine (HC1 _).out.mono ?_); rintro e w4 ⟨⟨v4, rfl, hs4⟩, hb4⟩; obtain ⟨A4, c4, rfl⟩ := Kd.S_slice hs4; have HS4 := Aside0.mk hs4; have HG4 := Aside0.mk (Kd.S_below (Kd.S_drewN HS3.out n2) hb4); have HW4 := Aside0.mk (Kd.S_below (Kd.S_drewN HW3.out n2) hb4); have HB4 := Aside0.mk (below_step HB1.out (below_step (pw_below_drewN HB3.out n2) hb4)); clear hs4 hb4)
      | (go_at_call 14; (with_reducible refine (laws_eqIntSS.calls ke _ _ R _ _ R true _ (Kd.S_reads' HS4.out).2.2 (Kd.S_reads' HS4.out).2.1 (Kd.S_reads' HW4.out).2.2 (Kd.S_reads' HW4.out).2.1 HE.out).mono ?_); rintro e w' ⟨rfl, ⟨n3, rfl⟩⟩)
      | (go_at_call 16; (with_reducible refine (heldss_any _ _ _ R _ _ _ _ kh (Kd.S_drewN HG4.out n3) HH.out).mono ?_); rintro e w' ⟨rfl, ⟨n4, rfl⟩⟩))
    go_ret
    exact ⟨rfl, pw_below_drewN HB4.out _⟩
end Go.Proofs.Ytgdbinifnhfcjaa.P
-- Written by a program of this session (wip/myprint.py) through the print of the kit: not trusted, Lean checks it.
namespace Go.Proofs.Ytgdbinifnhfcjaa.P
open Go.RowKit Go.Proofs.YtgdbinifnhfcjaaW.PrintWords Go.Proofs.YtgdbinifnhfcjaaW.PrintLast Go.Proofs.YtgdbinifnhfcjaaW.PrintMore
attribute [local go_sem] max2_int min2_int max_two min_two max_three min_three max_four min_four   -- for this text's walks alone
set_option linter.unusedVariables false
set_option linter.unusedSimpArgs false

/-! ### laws_wiInts: function 19 -/
def laws_wiInts.l0 : Nat → List Int → List Int → Int → Option (Bool)
  | 0, _, _, _ => none
  | k + 1, x0, x1, x5 => if x5 < (x0.length : Int) then (if 0 ≤ x5 then (if x5 < (x1.length : Int) then (if (rd x0 x5) = (rd x1 x5) then (laws_wiInts.l0 k x0 x1 (wrap64 (x5 + 1))) else (some false)) else (none)) else (none)) else (some true)
def laws_wiInts.f (k : Nat) (l0 : List Int) (l1 : List Int) : Option (Bool) := if (l0.length : Int) = (l1.length : Int) then (laws_wiInts.l0 k l0 l1 0) else (some false)
theorem laws_wiInts.mono_l : ∀ k, (∀ y0 y1 y2, LeO (laws_wiInts.l0 k y0 y1 y2) (laws_wiInts.l0 (k + 1) y0 y1 y2))
  | 0 => fun _ _ _ r h => by simp [laws_wiInts.l0] at h
  | k + 1 => by
    have ih0 := laws_wiInts.mono_l k
    · intro y0 y1 y2
      unfold laws_wiInts.l0
      repeat' first
      | (with_reducible exact ih0 _ _ _)
      | (with_reducible exact LeO.refl _)
      | (with_reducible exact LeO.none _)
      | (with_reducible refine LeO.ite ?_ ?_)
      | (with_reducible refine LeO.bind ?_ (fun _ => ?_))
      | exact ih0 _ _ _
      | exact LeO.none _
      | refine LeO.ite ?_ ?_
      | refine LeO.bind ?_ (fun _ => ?_)
theorem laws_wiInts.mono : ∀ a0 a1 k, LeO (laws_wiInts.f k a0 a1) (laws_wiInts.f (k + 1) a0 a1) := by
  intro a0 a1 k
  have ih0 := laws_wiInts.mono_l k
  unfold laws_wiInts.f
  repeat' first
      | (with_reducible exact ih0 _ _ _)
      | (with_reducible exact LeO.refl _)
      | (with_reducible exact LeO.none _)
      | (with_reducible refine LeO.ite ?_ ?_)
      | (with_reducible refine LeO.bind ?_ (fun _ => ?_))
      | exact ih0 _ _ _
      | exact LeO.none _
      | refine LeO.ite ?_ ?_
      | refine LeO.bind ?_ (fun _ => ?_)
set_option maxHeartbeats 8000000 in
set_option maxRecDepth 100000 in
theorem laws_wiInts.calls (k : Nat) (A0 : Option Addr) (c0 : Nat) (l0 : List Int) (A1 : Option Addr) (c1 : Nat) (l1 : List Int) (r : Bool) (w : World) (hr0 : Kd.C (Kd.int .i64) w A0 l0.length l0) (hc0 : l0.length ≤ c0) (hr1 : Kd.C (Kd.int .i64) w A1 l1.length l1) (hc1 : l1.length ≤ c1) (h : laws_wiInts.f k l0 l1 = some r) :
    Calls Try.prog 19 #[.slice A0 l0.length c0, .slice A1 l1.length c1] w fun e w' => e = .returned (.bool r) ∧ Drawn0 w w' := by
  have HR0 := Aside0.mk hr0
  have HC0 := Aside0.mk hc0
  clear hr0 hc0
  have HR1 := Aside0.mk hr1
  have HC1 := Aside0.mk hc1
  clear hr1 hc1
  have H : (if (l0.length : Int) = (l1.length : Int) then (laws_wiInts.l0 k l0 l1 0) else (some false)) = some r := h
  clear h
  by_cases c3 : (l0.length : Int) = (l1.length : Int)
  · rw [if_pos c3] at H
    have c3b0 : ((l0.length : Int) == (l1.length : Int)) = true := beq_iff_eq.mpr c3
    have c3b1 : ((l0.length : Int) != (l1.length : Int)) = false := bne_eq_false_iff_eq.mpr c3
    have c3b2 : (l0.length == l1.length) = true := by first | simpa using c3 | (simp at c3 ⊢; omega)
    clear c3
    have H' := Aside0.mk H
    clear H
    go_enter Try.func19, Try.ntmps19
    go_wp2
    repeat (go_quiet (fail); try go_wp2)
    go_loopg [5] k (fun kq v5 w' => ∃ (x5_1 : Int), v5 = .int .i64 x5_1 ∧ Aside0 (laws_wiInts.l0 kq l0 l1 x5_1 = some r) ∧ Aside0 (kq ≤ k) ∧ Drawn0 w w')
    case atStart => exact ⟨(0), (by first | rfl | (simp; done) | (simp [*]; done)), H', ⟨Nat.le_refl _⟩, by repeat (first | exact Drawn0.refl _ | apply Drawn0.step)⟩
    case round =>
      clear H'
      try clear c1
      try clear p2
      try clear c3
      try clear c3b0
      try clear c3b1
      try clear c3b2
      obtain ⟨x5_1, rfl, HA, HK1, ⟨m1, rfl⟩⟩ := hrel
      cases gk with
      | zero => exact absurd HA.out (by simp [laws_wiInts.l0])
      | succ k1 =>
        have H := HA.out
        clear HA
        simp only [laws_wiInts.l0] at H
        by_cases c4 : x5_1 < (l0.length : Int)
        · rw [if_pos c4] at H
          have c4b0 : decide (x5_1 < (l0.length : Int)) = true := decide_eq_true c4
          clear c4
          by_cases c5 : 0 ≤ x5_1
          · rw [if_pos c5] at H
            have c5b0 : decide (0 ≤ x5_1) = true := decide_eq_true c5
            clear c5
            by_cases c6 : x5_1 < (l1.length : Int)
            · rw [if_pos c6] at H
              have c6b0 : decide (x5_1 < (l1.length : Int)) = true := decide_eq_true c6
              clear c6
              by_cases c7 : (rd l0 x5_1) = (rd l1 x5_1)
              · rw [if_pos c7] at H
                have c7b0 : ((rd l0 x5_1) == (rd l1 x5_1)) = true := beq_iff_eq.mpr c7
                have c7b1 : ((rd l0 x5_1) != (rd l1 x5_1)) = false := bne_eq_false_iff_eq.mpr c7
                clear c7
                have H' := Aside0.mk H
                clear H
                have p279 : 0 ≤ (x5_1 : Int) := of_decide_eq_true (by first | (with_reducible assumption) | assumption)
                have q279 : x5_1 < (l0.length : Int) := of_decide_eq_true (by first | (with_reducible assumption) | assumption)
                obtain ⟨ad279, e279, hx279_0⟩ := Kd.at_int HR0.out x5_1 p279 q279
                cases e279
                replace p279 := eq_true p279
                replace q279 := eq_true q279
                have p280 : 0 ≤ (x5_1 : Int) := of_decide_eq_true (by first | (with_reducible assumption) | assumption)
                have q280 : x5_1 < (l1.length : Int) := of_decide_eq_true (by first | (with_reducible assumption) | assumption)
                obtain ⟨ad280, e280, hx280_0⟩ := Kd.at_int HR1.out x5_1 p280 q280
                cases e280
                replace p280 := eq_true p280
                replace q280 := eq_true q280
                go_wp2
                repeat (go_quiet (fail); try go_wp2)
                go_roundg k1
                case measure => have := HK1.out; omega
                case rel => exact ⟨(wrap64 (x5_1 + 1)), (by first | rfl | (simp; done) | (simp [*]; done)), H', ⟨by have := HK1.out; omega⟩, by repeat (first | exact Drawn0.refl _ | apply Drawn0.step)⟩
              · rw [if_neg c7] at H
                have c7b0 : ((rd l0 x5_1) == (rd l1 x5_1)) = false := beq_eq_false_iff_ne.mpr c7
                have c7b1 : ((rd l0 x5_1) != (rd l1 x5_1)) = true := bne_iff_ne.mpr c7
                obtain rfl := Option.some.inj H
                have p279 : 0 ≤ (x5_1 : Int) := of_decide_eq_true (by first | (with_reducible assumption) | assumption)
                have q279 : x5_1 < (l0.length : Int) := of_decide_eq_true (by first | (with_reducible assumption) | assumption)
                obtain ⟨ad279, e279, hx279_0⟩ := Kd.at_int HR0.out x5_1 p279 q279
                cases e279
                replace p279 := eq_true p279
                replace q279 := eq_true q279
                have p280 : 0 ≤ (x5_1 : Int) := of_decide_eq_true (by first | (with_reducible assumption) | assumption)
                have q280 : x5_1 < (l1.length : Int) := of_decide_eq_true (by first | (with_reducible assumption) | assumption)
                obtain ⟨ad280, e280, hx280_0⟩ := Kd.at_int HR1.out x5_1 p280 q280
                cases e280
                replace p280 := eq_true p280
                replace q280 := eq_true q280
                go_wp2
                repeat (go_quiet (fail); try go_wp2)
                go_ret
                exact ⟨by first | rfl | (simp; done) | (simp [*]; done), by repeat (first | exact Drawn0.refl _ | apply Drawn0.step)⟩
            · rw [if_neg c6] at H
              exact absurd H (by simp)
          · rw [if_neg c5] at H
            exact absurd H (by simp)
        · rw [if_neg c4] at H
          have c4b0 : decide (x5_1 < (l0.length : Int)) = false := decide_eq_false c4
          clear c4
          obtain rfl := Option.some.inj H
          go_wp2
          repeat (go_quiet (fail); try go_wp2)
          go_ret
          exact ⟨by first | rfl | (simp; done) | (simp [*]; done), by repeat (first | exact Drawn0.refl _ | apply Drawn0.step)⟩
  · rw [if_neg c3] at H
    have c3b0 : ((l0.length : Int) == (l1.length : Int)) = false := beq_eq_false_iff_ne.mpr c3
    have c3b1 : ((l0.length : Int) != (l1.length : Int)) = true := bne_iff_ne.mpr c3
    have c3b2 : (l0.length == l1.length) = false := by first | simpa using c3 | (simp at c3 ⊢; omega)
    obtain rfl := Option.some.inj H
    go_enter Try.func19, Try.ntmps19
    go_wp2
    repeat (go_quiet (fail); try go_wp2)
    go_ret
    exact ⟨by first | rfl | (simp; done) | (simp [*]; done), by repeat (first | exact Drawn0.refl _ | apply Drawn0.step)⟩

end Go.Proofs.Ytgdbinifnhfcjaa.P
