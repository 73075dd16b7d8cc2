-- PRINTED by print.py (a twelfth state) out of the translation. Not trusted: Lean checks it.
import Derived.Test.YteikopjhekhchaaF00
import Derived.Test.YteikopjhekhchaaF46
import Derived.Test.YteikopjhekhchaaF47
import Derived.Test.YteikopjhekhchaaF48
namespace Go.Proofs.Yteikopjhekhchaa.P
open Go.RowKit Go.Proofs.YteikopjhekhchaaW.PrintWords Go.Proofs.YteikopjhekhchaaW.PrintLast Go.Proofs.YteikopjhekhchaaW.PrintMore
attribute [local go_sem] max2_int min2_int max_two min_two max_three min_three max_four min_four   -- for this text's walks alone
set_option linter.unusedVariables false
set_option linter.unusedSimpArgs false

/-! ### laws_FnFilterNone: function 13 -/
def laws_FnFilterNone.j0 : Nat → ByteArray → Int → ByteArray → Bool → Option (Bool)
  | 0, _, _, _, _ => none
  | k + 1, x4, x6, x7, x38 => if x38 = true then ((spec_FilterPut.f k 1 x4 (⟨#[]⟩ : ByteArray) x6).bind fun t491 => (some (x7.toList == t491.toList))) else ((impl_FilterPut.f k 4 x4 (⟨#[]⟩ : ByteArray) x6).bind fun t492 => (if x7.toList = t492.toList then ((impl_FilterPut.f k 0 x4 (⟨#[]⟩ : ByteArray) x6).bind fun t493 => (if t493.toList = x4.toList then ((impl_FilterPut.f k 2 x4 (⟨#[]⟩ : ByteArray) x6).bind fun t494 => (some (t494.toList == x4.toList))) else (some false))) else (some false)))
def laws_FnFilterNone.f (k : Nat) (l0 : List Int) : Option (Bool) := if (l0.length : Int) > 1048576 then (some true) else ((spec_DrawFilterGet.f k l0).bind fun bt485 => ((impl_FilterPut.f k 1 bt485.2.1 (⟨#[]⟩ : ByteArray) bt485.2.2.2).bind fun t489 => ((spec_FilterPut.f k 1 bt485.2.1 (⟨#[]⟩ : ByteArray) bt485.2.2.2).bind fun t490 => (if t489.toList = t490.toList then (if bt485.2.2.2 < 1 then (laws_FnFilterNone.j0 k bt485.2.1 bt485.2.2.2 t489 true) else (if bt485.2.2.2 > 4 then (laws_FnFilterNone.j0 k bt485.2.1 bt485.2.2.2 t489 true) else (laws_FnFilterNone.j0 k bt485.2.1 bt485.2.2.2 t489 (decide ((bt485.2.1.size : Int) > 1000))))) else (laws_FnFilterNone.j0 k bt485.2.1 bt485.2.2.2 t489 true)))))
theorem laws_FnFilterNone.mono_l : ∀ k, (∀ y0 y1 y2 y3, LeO (laws_FnFilterNone.j0 k y0 y1 y2 y3) (laws_FnFilterNone.j0 (k + 1) y0 y1 y2 y3))
  | 0 => fun _ _ _ _ r h => by simp [laws_FnFilterNone.j0] at h
  | k + 1 => by
    have ih0 := laws_FnFilterNone.mono_l k
    · intro y0 y1 y2 y3
      unfold laws_FnFilterNone.j0
      repeat' first
      | (with_reducible exact ih0 _ _ _ _)
      | (with_reducible exact impl_FilterPut.mono _ _ _ _ _)
      | (with_reducible exact spec_DrawFilterGet.mono _ _)
      | (with_reducible exact spec_FilterPut.mono _ _ _ _ _)
      | (with_reducible exact LeO.refl _)
      | (with_reducible exact LeO.none _)
      | (with_reducible refine LeO.ite ?_ ?_)
      | (with_reducible refine LeO.bind ?_ (fun _ => ?_))
      | exact ih0 _ _ _ _
      | exact impl_FilterPut.mono _ _ _ _ _
      | exact spec_DrawFilterGet.mono _ _
      | exact spec_FilterPut.mono _ _ _ _ _
      | exact LeO.none _
      | refine LeO.ite ?_ ?_
      | refine LeO.bind ?_ (fun _ => ?_)
theorem laws_FnFilterNone.mono : ∀ a0 k, LeO (laws_FnFilterNone.f k a0) (laws_FnFilterNone.f (k + 1) a0) := by
  intro a0 k
  have ih0 := laws_FnFilterNone.mono_l k
  unfold laws_FnFilterNone.f
  repeat' first
      | (with_reducible exact ih0 _ _ _ _)
      | (with_reducible exact impl_FilterPut.mono _ _ _ _ _)
      | (with_reducible exact spec_DrawFilterGet.mono _ _)
      | (with_reducible exact spec_FilterPut.mono _ _ _ _ _)
      | (with_reducible exact LeO.refl _)
      | (with_reducible exact LeO.none _)
      | (with_reducible refine LeO.ite ?_ ?_)
      | (with_reducible refine LeO.bind ?_ (fun _ => ?_))
      | exact ih0 _ _ _ _
      | exact impl_FilterPut.mono _ _ _ _ _
      | exact spec_DrawFilterGet.mono _ _
      | exact spec_FilterPut.mono _ _ _ _ _
      | exact LeO.none _
      | refine LeO.ite ?_ ?_
      | refine LeO.bind ?_ (fun _ => ?_)
set_option maxHeartbeats 2000000 in
set_option maxRecDepth 100000 in
theorem laws_FnFilterNone.calls (k : Nat) (A0 : Option Addr) (c0 : Nat) (l0 : List Int) (r : Bool) (w : World) (hr0 : Kd.C (Kd.int .u8) w A0 l0.length l0) (hc0 : l0.length ≤ c0) (h : laws_FnFilterNone.f k l0 = some r) :
    Calls Try.prog 13 #[.slice A0 l0.length c0] w fun e w' => e = .returned (.bool r) ∧ Below w.heap.size w w' := by
  have HR0 := Aside0.mk hr0
  have HC0 := Aside0.mk hc0
  clear hr0 hc0
  have HB := Aside0.mk (Below.refl w.heap.size w)
  have H : (if (l0.length : Int) > 1048576 then (some true) else ((spec_DrawFilterGet.f k l0).bind fun bt485 => ((impl_FilterPut.f k 1 bt485.2.1 (⟨#[]⟩ : ByteArray) bt485.2.2.2).bind fun t489 => ((spec_FilterPut.f k 1 bt485.2.1 (⟨#[]⟩ : ByteArray) bt485.2.2.2).bind fun t490 => (if t489.toList = t490.toList then (if bt485.2.2.2 < 1 then (laws_FnFilterNone.j0 k bt485.2.1 bt485.2.2.2 t489 true) else (if bt485.2.2.2 > 4 then (laws_FnFilterNone.j0 k bt485.2.1 bt485.2.2.2 t489 true) else (laws_FnFilterNone.j0 k bt485.2.1 bt485.2.2.2 t489 (decide ((bt485.2.1.size : Int) > 1000))))) else (laws_FnFilterNone.j0 k bt485.2.1 bt485.2.2.2 t489 true)))))) = some r := h
  clear h
  by_cases c2 : (l0.length : Int) > 1048576
  · rw [if_pos c2] at H
    have c2b0 : decide (1048576 < (l0.length : Int)) = true := decide_eq_true c2
    have c2b1 : decide (1048576 < l0.length) = true := decide_eq_true (by omega)
    clear c2
    obtain rfl := Option.some.inj H
    go_enter Try.func13, Try.ntmps13
    go_wp2
    go_ret
    exact ⟨by first | rfl | (simp [errW_none, errW_some] <;> rfl) | (simp [*, errW_none, errW_some] <;> rfl), by repeat (first | (with_reducible first | exact HB.out | apply below_alloc | apply pw_below_drewN | apply below_drew1) | exact HB.out)⟩
  · rw [if_neg c2] at H
    have c2b0 : decide (1048576 < (l0.length : Int)) = false := decide_eq_false c2
    have c2b1 : decide (1048576 < l0.length) = false := decide_eq_false (by omega)
    clear c2
    replace H := Option.bind_eq_some_iff.mp H
    obtain ⟨⟨t485, t486, t487, t488⟩, A30, H⟩ := H
    replace H : ((impl_FilterPut.f k 1 t486 (⟨#[]⟩ : ByteArray) t488).bind fun t489 => ((spec_FilterPut.f k 1 t486 (⟨#[]⟩ : ByteArray) t488).bind fun t490 => (if t489.toList = t490.toList then (if t488 < 1 then (laws_FnFilterNone.j0 k t486 t488 t489 true) else (if t488 > 4 then (laws_FnFilterNone.j0 k t486 t488 t489 true) else (laws_FnFilterNone.j0 k t486 t488 t489 (decide ((t486.size : Int) > 1000))))) else (laws_FnFilterNone.j0 k t486 t488 t489 true)))) = some r := H
    have A3 := Aside0.mk A30
    clear A30
    replace H := Option.bind_eq_some_iff.mp H
    obtain ⟨t489, A40, H⟩ := H
    replace H : ((spec_FilterPut.f k 1 t486 (⟨#[]⟩ : ByteArray) t488).bind fun t490 => (if t489.toList = t490.toList then (if t488 < 1 then (laws_FnFilterNone.j0 k t486 t488 t489 true) else (if t488 > 4 then (laws_FnFilterNone.j0 k t486 t488 t489 true) else (laws_FnFilterNone.j0 k t486 t488 t489 (decide ((t486.size : Int) > 1000))))) else (laws_FnFilterNone.j0 k t486 t488 t489 true))) = some r := H
    have A4 := Aside0.mk A40
    clear A40
    have HC5 := Aside0.mk H
    clear H
    go_enter Try.func13, Try.ntmps13
    go_upto_region 5 with (first | ((with_reducible refine gate_callee (f := 46) rfl ?_); refine goesL_ (some 13) rfl rfl Try.func46 (by kernel_rfl) rfl #[.slice A0 l0.length c0] rfl (by (try simp only [List.map_toArray, List.map_cons, List.map_nil]); first | done | rfl | (simp only [List.length_drop, List.length_take]; rfl)) ?_; (with_reducible refine (spec_DrawFilterGet.calls k _ _ l0 t485 t486 t487 t488 _ ?side1 ?side2 A3.out).mono ?_); (case side1 => repeat (first | exact HR0.out | (with_reducible refine Kd.C_alloc ?_ _) | (with_reducible refine Kd.C_drewN ?_ _) | (with_reducible refine Kd.C_drew ?_))); (case side2 => exact HC0.out); rintro e w6 ⟨rfl, hb⟩; refine ⟨_, rfl, ?_⟩; have n0_ := Aside0.mk (below_step (by repeat (first | (with_reducible first | exact HB.out | apply below_alloc | apply pw_below_drewN | apply below_drew1) | exact HB.out)) hb); clear HB; have HB := n0_; clear n0_; (try clear hb); (try clear hb2); (try clear hk); (try clear hi)) | ((with_reducible refine gate_callee (f := 47) rfl ?_); refine goesL_ (some 20) rfl rfl Try.func47 (by kernel_rfl) rfl #[.int .i64 1, .string t486, .string (⟨#[]⟩ : ByteArray), .int .i64 t488] rfl (by (try simp only [List.map_toArray, List.map_cons, List.map_nil]); first | done | rfl | (simp only [List.length_drop, List.length_take]; rfl)) ?_; (with_reducible refine (impl_FilterPut.calls k 1 t486 (⟨#[]⟩ : ByteArray) t488 t489 _ A4.out).mono ?_); rintro e w7 ⟨rfl, hb⟩; refine ⟨_, rfl, ?_⟩; have n0_ := Aside0.mk (below_step (by repeat (first | (with_reducible first | exact HB.out | apply below_alloc | apply pw_below_drewN | apply below_drew1) | exact HB.out)) hb); clear HB; have HB := n0_; clear n0_; (try clear hb); (try clear hb2); (try clear hk); (try clear hi)))
    (try simp only [Act.put, List.setIfInBounds_toArray, List.set_cons_zero, List.set_cons_succ])
    go_cut [38] (fun v38 wc => ∃ (kq : Nat) (x38_4 : Bool), v38 = .bool x38_4 ∧ Aside0 (laws_FnFilterNone.j0 kq t486 t488 t489 x38_4 = some r) ∧ Aside0 (kq ≤ k) ∧ Aside0 (Below w.heap.size w wc))
    case first =>
      have H := HC5.out
      clear HC5
      replace H := Option.bind_eq_some_iff.mp H
      obtain ⟨t490, A80, H⟩ := H
      replace H : (if t489.toList = t490.toList then (if t488 < 1 then (laws_FnFilterNone.j0 k t486 t488 t489 true) else (if t488 > 4 then (laws_FnFilterNone.j0 k t486 t488 t489 true) else (laws_FnFilterNone.j0 k t486 t488 t489 (decide ((t486.size : Int) > 1000))))) else (laws_FnFilterNone.j0 k t486 t488 t489 true)) = some r := H
      have A8 := Aside0.mk A80
      clear A80
      by_cases c9 : t489.toList = t490.toList
      · rw [if_pos c9] at H
        have c9b0 : (t489.toList == t490.toList) = true := beq_iff_eq.mpr c9
        have c9b1 : (t489.toList != t490.toList) = false := bne_eq_false_iff_eq.mpr c9
        clear c9
        (first | rw [c9b0] | (simp only [i64_w, i32_w]; rw [c9b0]) | skip)
        by_cases c10 : t488 < 1
        · rw [if_pos c10] at H
          have c10b0 : decide (t488 < 1) = true := decide_eq_true c10
          clear c10
          have H' := Aside0.mk H
          clear H
          go_wp2_with (first | ((with_reducible refine gate_callee (f := 48) rfl ?_); refine goesL_ (some 24) rfl rfl Try.func48 (by kernel_rfl) rfl #[.int .i64 1, .string t486, .string (⟨#[]⟩ : ByteArray), .int .i64 t488] rfl (by (try simp only [List.map_toArray, List.map_cons, List.map_nil]); first | done | rfl | (simp only [List.length_drop, List.length_take]; rfl)) ?_; (with_reducible refine (spec_FilterPut.calls k 1 t486 (⟨#[]⟩ : ByteArray) t488 t490 _ A8.out).mono ?_); rintro e w11 ⟨rfl, hb⟩; refine ⟨_, rfl, ?_⟩; have n0_ := Aside0.mk (below_step (by repeat (first | (with_reducible first | exact HB.out | apply below_alloc | apply pw_below_drewN | apply below_drew1) | exact HB.out)) hb); clear HB; have HB := n0_; clear n0_; (try clear hb); (try clear hb2); (try clear hk); (try clear hi)))
          go_meet
          case rel => exact ⟨_, (true), (by first | rfl | (simp; done) | (simp [*]; done)), H', ⟨by first | omega | exact Nat.le_refl _⟩, ⟨by repeat (first | (with_reducible first | exact HB.out | apply below_alloc | apply pw_below_drewN | apply below_drew1) | exact HB.out)⟩⟩
        · rw [if_neg c10] at H
          have c10b0 : decide (t488 < 1) = false := decide_eq_false c10
          clear c10
          by_cases c12 : t488 > 4
          · rw [if_pos c12] at H
            have c12b0 : decide (4 < t488) = true := decide_eq_true c12
            clear c12
            have H' := Aside0.mk H
            clear H
            go_wp2_with (first | ((with_reducible refine gate_callee (f := 48) rfl ?_); refine goesL_ (some 24) rfl rfl Try.func48 (by kernel_rfl) rfl #[.int .i64 1, .string t486, .string (⟨#[]⟩ : ByteArray), .int .i64 t488] rfl (by (try simp only [List.map_toArray, List.map_cons, List.map_nil]); first | done | rfl | (simp only [List.length_drop, List.length_take]; rfl)) ?_; (with_reducible refine (spec_FilterPut.calls k 1 t486 (⟨#[]⟩ : ByteArray) t488 t490 _ A8.out).mono ?_); rintro e w13 ⟨rfl, hb⟩; refine ⟨_, rfl, ?_⟩; have n0_ := Aside0.mk (below_step (by repeat (first | (with_reducible first | exact HB.out | apply below_alloc | apply pw_below_drewN | apply below_drew1) | exact HB.out)) hb); clear HB; have HB := n0_; clear n0_; (try clear hb); (try clear hb2); (try clear hk); (try clear hi)))
            go_meet
            case rel => exact ⟨_, (true), (by first | rfl | (simp; done) | (simp [*]; done)), H', ⟨by first | omega | exact Nat.le_refl _⟩, ⟨by repeat (first | (with_reducible first | exact HB.out | apply below_alloc | apply pw_below_drewN | apply below_drew1) | exact HB.out)⟩⟩
          · rw [if_neg c12] at H
            have c12b0 : decide (4 < t488) = false := decide_eq_false c12
            clear c12
            have H' := Aside0.mk H
            clear H
            go_wp2_with (first | ((with_reducible refine gate_callee (f := 48) rfl ?_); refine goesL_ (some 24) rfl rfl Try.func48 (by kernel_rfl) rfl #[.int .i64 1, .string t486, .string (⟨#[]⟩ : ByteArray), .int .i64 t488] rfl (by (try simp only [List.map_toArray, List.map_cons, List.map_nil]); first | done | rfl | (simp only [List.length_drop, List.length_take]; rfl)) ?_; (with_reducible refine (spec_FilterPut.calls k 1 t486 (⟨#[]⟩ : ByteArray) t488 t490 _ A8.out).mono ?_); rintro e w14 ⟨rfl, hb⟩; refine ⟨_, rfl, ?_⟩; have n0_ := Aside0.mk (below_step (by repeat (first | (with_reducible first | exact HB.out | apply below_alloc | apply pw_below_drewN | apply below_drew1) | exact HB.out)) hb); clear HB; have HB := n0_; clear n0_; (try clear hb); (try clear hb2); (try clear hk); (try clear hi)))
            go_meet
            case rel => exact ⟨_, (decide ((t486.size : Int) > 1000)), (by first | rfl | (simp; done) | (simp [*]; done)), H', ⟨by first | omega | exact Nat.le_refl _⟩, ⟨by repeat (first | (with_reducible first | exact HB.out | apply below_alloc | apply pw_below_drewN | apply below_drew1) | exact HB.out)⟩⟩
      · rw [if_neg c9] at H
        have c9b0 : (t489.toList == t490.toList) = false := beq_eq_false_iff_ne.mpr c9
        have c9b1 : (t489.toList != t490.toList) = true := bne_iff_ne.mpr c9
        (first | rw [c9b0] | (simp only [i64_w, i32_w]; rw [c9b0]) | skip)
        have H' := Aside0.mk H
        clear H
        go_wp2_with (first | ((with_reducible refine gate_callee (f := 48) rfl ?_); refine goesL_ (some 24) rfl rfl Try.func48 (by kernel_rfl) rfl #[.int .i64 1, .string t486, .string (⟨#[]⟩ : ByteArray), .int .i64 t488] rfl (by (try simp only [List.map_toArray, List.map_cons, List.map_nil]); first | done | rfl | (simp only [List.length_drop, List.length_take]; rfl)) ?_; (with_reducible refine (spec_FilterPut.calls k 1 t486 (⟨#[]⟩ : ByteArray) t488 t490 _ A8.out).mono ?_); rintro e w15 ⟨rfl, hb⟩; refine ⟨_, rfl, ?_⟩; have n0_ := Aside0.mk (below_step (by repeat (first | (with_reducible first | exact HB.out | apply below_alloc | apply pw_below_drewN | apply below_drew1) | exact HB.out)) hb); clear HB; have HB := n0_; clear n0_; (try clear hb); (try clear hb2); (try clear hk); (try clear hi)))
        go_meet
        case rel => exact ⟨_, (true), (by first | rfl | (simp; done) | (simp [*]; done)), H', ⟨by first | omega | exact Nat.le_refl _⟩, ⟨by repeat (first | (with_reducible first | exact HB.out | apply below_alloc | apply pw_below_drewN | apply below_drew1) | exact HB.out)⟩⟩
    case rest =>
      clear HC5
      try clear c1
      try clear c2
      try clear c2b0
      try clear c2b1
      try clear p2
      try clear c4
      try clear c9
      try clear c9b0
      try clear c9b1
      try clear c10
      try clear c10b0
      try clear c12
      try clear c12b0
      try clear c13
      obtain ⟨kq, x38_4, rfl, HA, HJ4, HB⟩ := hcut
      cases kq with
      | zero => exact absurd HA.out (by simp [laws_FnFilterNone.j0])
      | succ kj4 =>
        have H := HA.out
        clear HA
        simp only [laws_FnFilterNone.j0] at H
        by_cases c16 : x38_4 = true
        · subst c16
          have H1 : ((spec_FilterPut.f kj4 1 t486 (⟨#[]⟩ : ByteArray) t488).bind fun t491 => (some (t489.toList == t491.toList))) = some r := by rw [if_pos rfl] at H; exact H
          clear H
          have H := H1
          clear H1
          replace H := Option.bind_eq_some_iff.mp H
          obtain ⟨t491, A170, H⟩ := H
          replace H : (some (t489.toList == t491.toList)) = some r := H
          have A17 := Aside0.mk A170
          clear A170
          obtain rfl := Option.some.inj H
          go_wp2_with (first | ((with_reducible refine gate_callee (f := 48) rfl ?_); refine goesL_ (some 42) rfl rfl Try.func48 (by kernel_rfl) rfl #[.int .i64 1, .string t486, .string (⟨#[]⟩ : ByteArray), .int .i64 t488] rfl (by (try simp only [List.map_toArray, List.map_cons, List.map_nil]); first | done | rfl | (simp only [List.length_drop, List.length_take]; rfl)) ?_; (with_reducible refine (spec_FilterPut.calls kj4 1 t486 (⟨#[]⟩ : ByteArray) t488 t491 _ A17.out).mono ?_); rintro e w18 ⟨rfl, hb⟩; refine ⟨_, rfl, ?_⟩; have n0_ := Aside0.mk (below_step (by repeat (first | (with_reducible first | exact HB.out | apply below_alloc | apply pw_below_drewN | apply below_drew1) | exact HB.out)) hb); clear HB; have HB := n0_; clear n0_; (try clear hb); (try clear hb2); (try clear hk); (try clear hi)))
          go_ret
          exact ⟨by first | rfl | (simp [errW_none, errW_some] <;> rfl) | (simp [*, errW_none, errW_some] <;> rfl), by repeat (first | (with_reducible first | exact HB.out | apply below_alloc | apply pw_below_drewN | apply below_drew1) | exact HB.out)⟩
        · replace c16 := Bool.eq_false_iff.mpr c16
          subst c16
          have H1 : ((impl_FilterPut.f kj4 4 t486 (⟨#[]⟩ : ByteArray) t488).bind fun t492 => (if t489.toList = t492.toList then ((impl_FilterPut.f kj4 0 t486 (⟨#[]⟩ : ByteArray) t488).bind fun t493 => (if t493.toList = t486.toList then ((impl_FilterPut.f kj4 2 t486 (⟨#[]⟩ : ByteArray) t488).bind fun t494 => (some (t494.toList == t486.toList))) else (some false))) else (some false))) = some r := by rw [if_neg (show ¬ (false = true) by decide)] at H; exact H
          clear H
          have H := H1
          clear H1
          replace H := Option.bind_eq_some_iff.mp H
          obtain ⟨t492, A190, H⟩ := H
          replace H : (if t489.toList = t492.toList then ((impl_FilterPut.f kj4 0 t486 (⟨#[]⟩ : ByteArray) t488).bind fun t493 => (if t493.toList = t486.toList then ((impl_FilterPut.f kj4 2 t486 (⟨#[]⟩ : ByteArray) t488).bind fun t494 => (some (t494.toList == t486.toList))) else (some false))) else (some false)) = some r := H
          have A19 := Aside0.mk A190
          clear A190
          by_cases c20 : t489.toList = t492.toList
          · rw [if_pos c20] at H
            have c20b0 : (t489.toList == t492.toList) = true := beq_iff_eq.mpr c20
            have c20b1 : (t489.toList != t492.toList) = false := bne_eq_false_iff_eq.mpr c20
            clear c20
            replace H := Option.bind_eq_some_iff.mp H
            obtain ⟨t493, A210, H⟩ := H
            replace H : (if t493.toList = t486.toList then ((impl_FilterPut.f kj4 2 t486 (⟨#[]⟩ : ByteArray) t488).bind fun t494 => (some (t494.toList == t486.toList))) else (some false)) = some r := H
            have A21 := Aside0.mk A210
            clear A210
            by_cases c22 : t493.toList = t486.toList
            · rw [if_pos c22] at H
              have c22b0 : (t493.toList == t486.toList) = true := beq_iff_eq.mpr c22
              have c22b1 : (t493.toList != t486.toList) = false := bne_eq_false_iff_eq.mpr c22
              clear c22
              replace H := Option.bind_eq_some_iff.mp H
              obtain ⟨t494, A230, H⟩ := H
              replace H : (some (t494.toList == t486.toList)) = some r := H
              have A23 := Aside0.mk A230
              clear A230
              obtain rfl := Option.some.inj H
              go_wp2_with (first | ((with_reducible refine gate_callee (f := 47) rfl ?_); refine goesL_ (some 47) rfl rfl Try.func47 (by kernel_rfl) rfl #[.int .i64 4, .string t486, .string (⟨#[]⟩ : ByteArray), .int .i64 t488] rfl (by (try simp only [List.map_toArray, List.map_cons, List.map_nil]); first | done | rfl | (simp only [List.length_drop, List.length_take]; rfl)) ?_; (with_reducible refine (impl_FilterPut.calls kj4 4 t486 (⟨#[]⟩ : ByteArray) t488 t492 _ A19.out).mono ?_); rintro e w24 ⟨rfl, hb⟩; refine ⟨_, rfl, ?_⟩; have n0_ := Aside0.mk (below_step (by repeat (first | (with_reducible first | exact HB.out | apply below_alloc | apply pw_below_drewN | apply below_drew1) | exact HB.out)) hb); clear HB; have HB := n0_; clear n0_; (try clear hb); (try clear hb2); (try clear hk); (try clear hi)) | (go_at_call 47; (with_reducible refine (impl_FilterPut.calls kj4 0 t486 (⟨#[]⟩ : ByteArray) t488 t493 _ A21.out).mono ?_); rintro e w25 ⟨rfl, hb⟩; have n0_ := Aside0.mk (below_step (by repeat (first | (with_reducible first | exact HB.out | apply below_alloc | apply pw_below_drewN | apply below_drew1) | exact HB.out)) hb); clear HB; have HB := n0_; clear n0_; (try clear hb); (try clear hb2); (try clear hk); (try clear hi)) | (go_at_call 47; (with_reducible refine (impl_FilterPut.calls kj4 2 t486 (⟨#[]⟩ : ByteArray) t488 t494 _ A23.out).mono ?_); rintro e w26 ⟨rfl, hb⟩; have n0_ := Aside0.mk (below_step (by repeat (first | (with_reducible first | exact HB.out | apply below_alloc | apply pw_below_drewN | apply below_drew1) | exact HB.out)) hb); clear HB; have HB := n0_; clear n0_; (try clear hb); (try clear hb2); (try clear hk); (try clear hi)))
              go_ret
              exact ⟨by first | rfl | (simp [errW_none, errW_some] <;> rfl) | (simp [*, errW_none, errW_some] <;> rfl), by repeat (first | (with_reducible first | exact HB.out | apply below_alloc | apply pw_below_drewN | apply below_drew1) | exact HB.out)⟩
            · rw [if_neg c22] at H
              have c22b0 : (t493.toList == t486.toList) = false := beq_eq_false_iff_ne.mpr c22
              have c22b1 : (t493.toList != t486.toList) = true := bne_iff_ne.mpr c22
              obtain rfl := Option.some.inj H
              go_wp2_with (first | ((with_reducible refine gate_callee (f := 47) rfl ?_); refine goesL_ (some 47) rfl rfl Try.func47 (by kernel_rfl) rfl #[.int .i64 4, .string t486, .string (⟨#[]⟩ : ByteArray), .int .i64 t488] rfl (by (try simp only [List.map_toArray, List.map_cons, List.map_nil]); first | done | rfl | (simp only [List.length_drop, List.length_take]; rfl)) ?_; (with_reducible refine (impl_FilterPut.calls kj4 4 t486 (⟨#[]⟩ : ByteArray) t488 t492 _ A19.out).mono ?_); rintro e w27 ⟨rfl, hb⟩; refine ⟨_, rfl, ?_⟩; have n0_ := Aside0.mk (below_step (by repeat (first | (with_reducible first | exact HB.out | apply below_alloc | apply pw_below_drewN | apply below_drew1) | exact HB.out)) hb); clear HB; have HB := n0_; clear n0_; (try clear hb); (try clear hb2); (try clear hk); (try clear hi)) | (go_at_call 47; (with_reducible refine (impl_FilterPut.calls kj4 0 t486 (⟨#[]⟩ : ByteArray) t488 t493 _ A21.out).mono ?_); rintro e w28 ⟨rfl, hb⟩; have n0_ := Aside0.mk (below_step (by repeat (first | (with_reducible first | exact HB.out | apply below_alloc | apply pw_below_drewN | apply below_drew1) | exact HB.out)) hb); clear HB; have HB := n0_; clear n0_; (try clear hb); (try clear hb2); (try clear hk); (try clear hi)))
              go_ret
              exact ⟨by first | rfl | (simp [errW_none, errW_some] <;> rfl) | (simp [*, errW_none, errW_some] <;> rfl), by repeat (first | (with_reducible first | exact HB.out | apply below_alloc | apply pw_below_drewN | apply below_drew1) | exact HB.out)⟩
          · rw [if_neg c20] at H
            have c20b0 : (t489.toList == t492.toList) = false := beq_eq_false_iff_ne.mpr c20
            have c20b1 : (t489.toList != t492.toList) = true := bne_iff_ne.mpr c20
            obtain rfl := Option.some.inj H
            go_wp2_with (first | ((with_reducible refine gate_callee (f := 47) rfl ?_); refine goesL_ (some 47) rfl rfl Try.func47 (by kernel_rfl) rfl #[.int .i64 4, .string t486, .string (⟨#[]⟩ : ByteArray), .int .i64 t488] rfl (by (try simp only [List.map_toArray, List.map_cons, List.map_nil]); first | done | rfl | (simp only [List.length_drop, List.length_take]; rfl)) ?_; (with_reducible refine (impl_FilterPut.calls kj4 4 t486 (⟨#[]⟩ : ByteArray) t488 t492 _ A19.out).mono ?_); rintro e w29 ⟨rfl, hb⟩; refine ⟨_, rfl, ?_⟩; have n0_ := Aside0.mk (below_step (by repeat (first | (with_reducible first | exact HB.out | apply below_alloc | apply pw_below_drewN | apply below_drew1) | exact HB.out)) hb); clear HB; have HB := n0_; clear n0_; (try clear hb); (try clear hb2); (try clear hk); (try clear hi)))
            go_ret
            exact ⟨by first | rfl | (simp [errW_none, errW_some] <;> rfl) | (simp [*, errW_none, errW_some] <;> rfl), by repeat (first | (with_reducible first | exact HB.out | apply below_alloc | apply pw_below_drewN | apply below_drew1) | exact HB.out)⟩

/-- THE ONE PURE STATEMENT of laws_FnFilterNone: yours. -/
def laws_FnFilterNone.Pure : Prop := ∀ (l0 : List Int), l0.length ≤ maxLen → l0.length * 1 ≤ 140737488351232 → (∀ x ∈ l0, (Lit.int .u8 x).wf = true) → ∃ k, laws_FnFilterNone.f k l0 = some true
theorem laws_FnFilterNone.walk (P : laws_FnFilterNone.Pure) (a0 : Option Addr) (len0 cap0 : Nat) (z0 : List Int) (w : World) (w0 : (a0 = none ∧ len0 = 0 ∧ cap0 = 0 ∧ z0 = []) ∨ ∃ x, a0 = some x ∧ len0 ≤ cap0 ∧ cap0 ≤ maxLen ∧ z0.length = cap0 ∧ (∀ i, i < z0.length → w.cell? (x.add i) = some (.int .u8 (z0.getD i 0))) ∧ ∀ n ∈ z0, (Lit.int .u8 n).wf = true) (y0 : len0 * 1 ≤ 140737488351232) :
    Calls Try.prog 13 #[.slice a0 len0 cap0] w fun e w' => e = .returned (.bool true) ∧ Below w.heap.size w w' := by
  obtain ⟨l0, rfl, hr0, hm0, hw0, hc0⟩ := ReadsInt.ofRowC w0
  obtain ⟨k, h⟩ := P l0 hm0 y0 hw0
  refine (laws_FnFilterNone.calls k _ _ l0 true w (Kd.C_of_reads (d := (0 : Int)) (h1 := fun _ => rfl) hr0) hc0 h).mono ?_
  rintro e w' ⟨rfl, hd⟩
  exact ⟨rfl, hd⟩

end Go.Proofs.Yteikopjhekhchaa.P
