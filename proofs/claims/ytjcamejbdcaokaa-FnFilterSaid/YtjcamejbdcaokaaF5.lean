-- Written by a program of this session (wip/myprint.py) through the print of the kit: not trusted, Lean checks it.
import Derived.Test.YtjcamejbdcaokaaF00
import Derived.Test.YtjcamejbdcaokaaF26
import Derived.Test.YtjcamejbdcaokaaF27
import Derived.Test.YtjcamejbdcaokaaF28
import Derived.Test.YtjcamejbdcaokaaF29
import Derived.Test.YtjcamejbdcaokaaF30
namespace Go.Proofs.Ytjcamejbdcaokaa.P
open Go.RowKit Go.Proofs.YtjcamejbdcaokaaW.PrintWords Go.Proofs.YtjcamejbdcaokaaW.PrintLast Go.Proofs.YtjcamejbdcaokaaW.PrintMore
attribute [local go_sem] max2_int min2_int max_two min_two max_three min_three max_four min_four   -- for this text's walks alone
set_option linter.unusedVariables false
set_option linter.unusedSimpArgs false

/-! ### laws_FnFilter: function 5 -/
def laws_FnFilter.j0 : Nat → Int → ByteArray → ByteArray → Int → ByteArray → ByteArray → Bool → Option (Bool)
  | 0, _, _, _, _, _, _, _ => none
  | k + 1, x3, x4, x5, x6, x7, x8, x48 => if x48 = true then ((spec_FilterPut.f k x3 x4 x5 x6).bind fun t348 => (if x7.toList = t348.toList then ((spec_FilterGet.f k x3 x4 x5 x6).bind fun t349 => (some (x8.toList == t349.toList))) else (some false))) else (if (x7.size : Int) = (x4.size : Int) then ((impl_FilterGet.f k x3 x7 x5 x6).bind fun t350 => (if t350.toList = x4.toList then ((impl_FilterPut.f k x3 x8 x5 x6).bind fun t351 => (some (t351.toList == x4.toList))) else (some false))) else (some false))
def laws_FnFilter.f (k : Nat) (l0 : List Int) : Option (Bool) := if (l0.length : Int) > 1048576 then (some true) else ((spec_DrawFilterPut.f k l0).bind fun bt340 => ((impl_FilterPut.f k bt340.1 bt340.2.1 bt340.2.2.1 bt340.2.2.2).bind fun t344 => ((impl_FilterGet.f k bt340.1 bt340.2.1 bt340.2.2.1 bt340.2.2.2).bind fun t345 => ((spec_FilterPut.f k bt340.1 bt340.2.1 bt340.2.2.1 bt340.2.2.2).bind fun t346 => (if t344.toList = t346.toList then ((spec_FilterGet.f k bt340.1 bt340.2.1 bt340.2.2.1 bt340.2.2.2).bind fun t347 => (if t345.toList = t347.toList then (laws_FnFilter.j0 k bt340.1 bt340.2.1 bt340.2.2.1 bt340.2.2.2 t344 t345 (t344.toList == ([] : List UInt8))) else (laws_FnFilter.j0 k bt340.1 bt340.2.1 bt340.2.2.1 bt340.2.2.2 t344 t345 true))) else (laws_FnFilter.j0 k bt340.1 bt340.2.1 bt340.2.2.1 bt340.2.2.2 t344 t345 true))))))
theorem laws_FnFilter.mono_l : ∀ k, (∀ y0 y1 y2 y3 y4 y5 y6, LeO (laws_FnFilter.j0 k y0 y1 y2 y3 y4 y5 y6) (laws_FnFilter.j0 (k + 1) y0 y1 y2 y3 y4 y5 y6))
  | 0 => fun _ _ _ _ _ _ _ r h => by simp [laws_FnFilter.j0] at h
  | k + 1 => by
    have ih0 := laws_FnFilter.mono_l k
    · intro y0 y1 y2 y3 y4 y5 y6
      unfold laws_FnFilter.j0
      repeat' first
      | (with_reducible exact ih0 _ _ _ _ _ _ _)
      | (with_reducible exact impl_FilterGet.mono _ _ _ _ _)
      | (with_reducible exact impl_FilterPut.mono _ _ _ _ _)
      | (with_reducible exact spec_DrawFilterPut.mono _ _)
      | (with_reducible exact spec_FilterGet.mono _ _ _ _ _)
      | (with_reducible exact spec_FilterPut.mono _ _ _ _ _)
      | (with_reducible exact LeO.refl _)
      | (with_reducible exact LeO.none _)
      | (with_reducible refine LeO.ite ?_ ?_)
      | (with_reducible refine LeO.bind ?_ (fun _ => ?_))
      | exact ih0 _ _ _ _ _ _ _
      | exact impl_FilterGet.mono _ _ _ _ _
      | exact impl_FilterPut.mono _ _ _ _ _
      | exact spec_DrawFilterPut.mono _ _
      | exact spec_FilterGet.mono _ _ _ _ _
      | exact spec_FilterPut.mono _ _ _ _ _
      | exact LeO.none _
      | refine LeO.ite ?_ ?_
      | refine LeO.bind ?_ (fun _ => ?_)
theorem laws_FnFilter.mono : ∀ a0 k, LeO (laws_FnFilter.f k a0) (laws_FnFilter.f (k + 1) a0) := by
  intro a0 k
  have ih0 := laws_FnFilter.mono_l k
  unfold laws_FnFilter.f
  repeat' first
      | (with_reducible exact ih0 _ _ _ _ _ _ _)
      | (with_reducible exact impl_FilterGet.mono _ _ _ _ _)
      | (with_reducible exact impl_FilterPut.mono _ _ _ _ _)
      | (with_reducible exact spec_DrawFilterPut.mono _ _)
      | (with_reducible exact spec_FilterGet.mono _ _ _ _ _)
      | (with_reducible exact spec_FilterPut.mono _ _ _ _ _)
      | (with_reducible exact LeO.refl _)
      | (with_reducible exact LeO.none _)
      | (with_reducible refine LeO.ite ?_ ?_)
      | (with_reducible refine LeO.bind ?_ (fun _ => ?_))
      | exact ih0 _ _ _ _ _ _ _
      | exact impl_FilterGet.mono _ _ _ _ _
      | exact impl_FilterPut.mono _ _ _ _ _
      | exact spec_DrawFilterPut.mono _ _
      | exact spec_FilterGet.mono _ _ _ _ _
      | exact spec_FilterPut.mono _ _ _ _ _
      | exact LeO.none _
      | refine LeO.ite ?_ ?_
      | refine LeO.bind ?_ (fun _ => ?_)
set_option maxHeartbeats 8000000 in
set_option maxRecDepth 100000 in
theorem laws_FnFilter.calls (k : Nat) (A0 : Option Addr) (c0 : Nat) (l0 : List Int) (r : Bool) (w : World) (hr0 : Kd.C (Kd.int .u8) w A0 l0.length l0) (hc0 : l0.length ≤ c0) (h : laws_FnFilter.f k l0 = some r) :
    Calls Try.prog 5 #[.slice A0 l0.length c0] w fun e w' => e = .returned (.bool r) ∧ Below w.heap.size w w' := by
  have HR0 := Aside0.mk hr0
  have HC0 := Aside0.mk hc0
  clear hr0 hc0
  have HB := Aside0.mk (Below.refl w.heap.size w)
  have H : (if (l0.length : Int) > 1048576 then (some true) else ((spec_DrawFilterPut.f k l0).bind fun bt340 => ((impl_FilterPut.f k bt340.1 bt340.2.1 bt340.2.2.1 bt340.2.2.2).bind fun t344 => ((impl_FilterGet.f k bt340.1 bt340.2.1 bt340.2.2.1 bt340.2.2.2).bind fun t345 => ((spec_FilterPut.f k bt340.1 bt340.2.1 bt340.2.2.1 bt340.2.2.2).bind fun t346 => (if t344.toList = t346.toList then ((spec_FilterGet.f k bt340.1 bt340.2.1 bt340.2.2.1 bt340.2.2.2).bind fun t347 => (if t345.toList = t347.toList then (laws_FnFilter.j0 k bt340.1 bt340.2.1 bt340.2.2.1 bt340.2.2.2 t344 t345 (t344.toList == ([] : List UInt8))) else (laws_FnFilter.j0 k bt340.1 bt340.2.1 bt340.2.2.1 bt340.2.2.2 t344 t345 true))) else (laws_FnFilter.j0 k bt340.1 bt340.2.1 bt340.2.2.1 bt340.2.2.2 t344 t345 true))))))) = some r := h
  clear h
  by_cases c2 : (l0.length : Int) > 1048576
  · rw [if_pos c2] at H
    have c2b0 : decide (1048576 < (l0.length : Int)) = true := decide_eq_true c2
    have c2b1 : decide (1048576 < l0.length) = true := decide_eq_true (by omega)
    clear c2
    obtain rfl := Option.some.inj H
    go_enter Try.func5, Try.ntmps5
    go_wp2
    go_ret
    exact ⟨by first | rfl | (simp [errW_none, errW_some] <;> rfl) | (simp [*, errW_none, errW_some] <;> rfl), by repeat (first | (with_reducible first | exact HB.out | apply below_alloc | apply pw_below_drewN | apply below_drew1) | exact HB.out)⟩
  · rw [if_neg c2] at H
    have c2b0 : decide (1048576 < (l0.length : Int)) = false := decide_eq_false c2
    have c2b1 : decide (1048576 < l0.length) = false := decide_eq_false (by omega)
    clear c2
    replace H := Option.bind_eq_some_iff.mp H
    obtain ⟨⟨t340, t341, t342, t343⟩, A30, H⟩ := H
    replace H : ((impl_FilterPut.f k t340 t341 t342 t343).bind fun t344 => ((impl_FilterGet.f k t340 t341 t342 t343).bind fun t345 => ((spec_FilterPut.f k t340 t341 t342 t343).bind fun t346 => (if t344.toList = t346.toList then ((spec_FilterGet.f k t340 t341 t342 t343).bind fun t347 => (if t345.toList = t347.toList then (laws_FnFilter.j0 k t340 t341 t342 t343 t344 t345 (t344.toList == ([] : List UInt8))) else (laws_FnFilter.j0 k t340 t341 t342 t343 t344 t345 true))) else (laws_FnFilter.j0 k t340 t341 t342 t343 t344 t345 true))))) = some r := H
    have A3 := Aside0.mk A30
    clear A30
    replace H := Option.bind_eq_some_iff.mp H
    obtain ⟨t344, A40, H⟩ := H
    replace H : ((impl_FilterGet.f k t340 t341 t342 t343).bind fun t345 => ((spec_FilterPut.f k t340 t341 t342 t343).bind fun t346 => (if t344.toList = t346.toList then ((spec_FilterGet.f k t340 t341 t342 t343).bind fun t347 => (if t345.toList = t347.toList then (laws_FnFilter.j0 k t340 t341 t342 t343 t344 t345 (t344.toList == ([] : List UInt8))) else (laws_FnFilter.j0 k t340 t341 t342 t343 t344 t345 true))) else (laws_FnFilter.j0 k t340 t341 t342 t343 t344 t345 true)))) = some r := H
    have A4 := Aside0.mk A40
    clear A40
    replace H := Option.bind_eq_some_iff.mp H
    obtain ⟨t345, A50, H⟩ := H
    replace H : ((spec_FilterPut.f k t340 t341 t342 t343).bind fun t346 => (if t344.toList = t346.toList then ((spec_FilterGet.f k t340 t341 t342 t343).bind fun t347 => (if t345.toList = t347.toList then (laws_FnFilter.j0 k t340 t341 t342 t343 t344 t345 (t344.toList == ([] : List UInt8))) else (laws_FnFilter.j0 k t340 t341 t342 t343 t344 t345 true))) else (laws_FnFilter.j0 k t340 t341 t342 t343 t344 t345 true))) = some r := H
    have A5 := Aside0.mk A50
    clear A50
    have HC6 := Aside0.mk H
    clear H
    go_enter Try.func5, Try.ntmps5
    go_upto_region 6 with (first | ((with_reducible refine gate_callee (f := 26) rfl ?_); refine goesL_ (some 14) rfl rfl Try.func26 (by kernel_rfl) rfl #[.slice A0 l0.length c0] rfl (by (try simp only [List.map_toArray, List.map_cons, List.map_nil]); first | done | rfl | (simp only [List.length_drop, List.length_take]; rfl)) ?_; (with_reducible refine (spec_DrawFilterPut.calls k _ _ l0 t340 t341 t342 t343 _ ?side1 ?side2 A3.out).mono ?_); (case side1 => repeat (first | exact HR0.out | (with_reducible refine Kd.C_alloc ?_ _) | (with_reducible refine Kd.C_drewN ?_ _) | (with_reducible refine Kd.C_drew ?_))); (case side2 => exact HC0.out); rintro e w7 ⟨rfl, hb⟩; refine ⟨_, rfl, ?_⟩; have n0_ := Aside0.mk (below_step (by repeat (first | (with_reducible first | exact HB.out | apply below_alloc | apply pw_below_drewN | apply below_drew1) | exact HB.out)) hb); clear HB; have HB := n0_; clear n0_; (try clear hb); (try clear hb2); (try clear hk); (try clear hi)) | ((with_reducible refine gate_callee (f := 27) rfl ?_); refine goesL_ (some 23) rfl rfl Try.func27 (by kernel_rfl) rfl #[.int .i64 t340, .string t341, .string t342, .int .i64 t343] rfl (by (try simp only [List.map_toArray, List.map_cons, List.map_nil]); first | done | rfl | (simp only [List.length_drop, List.length_take]; rfl)) ?_; (with_reducible refine (impl_FilterPut.calls k t340 t341 t342 t343 t344 _ A4.out).mono ?_); rintro e w8 ⟨rfl, hb⟩; refine ⟨_, rfl, ?_⟩; have n0_ := Aside0.mk (below_step (by repeat (first | (with_reducible first | exact HB.out | apply below_alloc | apply pw_below_drewN | apply below_drew1) | exact HB.out)) hb); clear HB; have HB := n0_; clear n0_; (try clear hb); (try clear hb2); (try clear hk); (try clear hi)) | ((with_reducible refine gate_callee (f := 28) rfl ?_); refine goesL_ (some 28) rfl rfl Try.func28 (by kernel_rfl) rfl #[.int .i64 t340, .string t341, .string t342, .int .i64 t343] rfl (by (try simp only [List.map_toArray, List.map_cons, List.map_nil]); first | done | rfl | (simp only [List.length_drop, List.length_take]; rfl)) ?_; (with_reducible refine (impl_FilterGet.calls k t340 t341 t342 t343 t345 _ A5.out).mono ?_); rintro e w9 ⟨rfl, hb⟩; refine ⟨_, rfl, ?_⟩; have n0_ := Aside0.mk (below_step (by repeat (first | (with_reducible first | exact HB.out | apply below_alloc | apply pw_below_drewN | apply below_drew1) | exact HB.out)) hb); clear HB; have HB := n0_; clear n0_; (try clear hb); (try clear hb2); (try clear hk); (try clear hi)))
    (try simp only [Act.put, List.setIfInBounds_toArray, List.set_cons_zero, List.set_cons_succ])
    go_cut [48] (fun v48 wc => ∃ (kq : Nat) (x48_5 : Bool), v48 = .bool x48_5 ∧ Aside0 (laws_FnFilter.j0 kq t340 t341 t342 t343 t344 t345 x48_5 = some r) ∧ Aside0 (kq ≤ k) ∧ Aside0 (Below w.heap.size w wc))
    case first =>
      have H := HC6.out
      clear HC6
      replace H := Option.bind_eq_some_iff.mp H
      obtain ⟨t346, A100, H⟩ := H
      replace H : (if t344.toList = t346.toList then ((spec_FilterGet.f k t340 t341 t342 t343).bind fun t347 => (if t345.toList = t347.toList then (laws_FnFilter.j0 k t340 t341 t342 t343 t344 t345 (t344.toList == ([] : List UInt8))) else (laws_FnFilter.j0 k t340 t341 t342 t343 t344 t345 true))) else (laws_FnFilter.j0 k t340 t341 t342 t343 t344 t345 true)) = some r := H
      have A10 := Aside0.mk A100
      clear A100
      by_cases c11 : t344.toList = t346.toList
      · rw [if_pos c11] at H
        have c11b0 : (t344.toList == t346.toList) = true := beq_iff_eq.mpr c11
        have c11b1 : (t344.toList != t346.toList) = false := bne_eq_false_iff_eq.mpr c11
        clear c11
        (first | rw [c11b0] | (simp only [i64_w, i32_w]; rw [c11b0]) | skip)
        replace H := Option.bind_eq_some_iff.mp H
        obtain ⟨t347, A120, H⟩ := H
        replace H : (if t345.toList = t347.toList then (laws_FnFilter.j0 k t340 t341 t342 t343 t344 t345 (t344.toList == ([] : List UInt8))) else (laws_FnFilter.j0 k t340 t341 t342 t343 t344 t345 true)) = some r := H
        have A12 := Aside0.mk A120
        clear A120
        by_cases c13 : t345.toList = t347.toList
        · rw [if_pos c13] at H
          have c13b0 : (t345.toList == t347.toList) = true := beq_iff_eq.mpr c13
          have c13b1 : (t345.toList != t347.toList) = false := bne_eq_false_iff_eq.mpr c13
          clear c13
          have H' := Aside0.mk H
          clear H
          go_wp2_with (first | ((with_reducible refine gate_callee (f := 29) rfl ?_); refine goesL_ (some 34) rfl rfl Try.func29 (by kernel_rfl) rfl #[.int .i64 t340, .string t341, .string t342, .int .i64 t343] rfl (by (try simp only [List.map_toArray, List.map_cons, List.map_nil]); first | done | rfl | (simp only [List.length_drop, List.length_take]; rfl)) ?_; (with_reducible refine (spec_FilterPut.calls k t340 t341 t342 t343 t346 _ A10.out).mono ?_); rintro e w14 ⟨rfl, hb⟩; refine ⟨_, rfl, ?_⟩; have n0_ := Aside0.mk (below_step (by repeat (first | (with_reducible first | exact HB.out | apply below_alloc | apply pw_below_drewN | apply below_drew1) | exact HB.out)) hb); clear HB; have HB := n0_; clear n0_; (try clear hb); (try clear hb2); (try clear hk); (try clear hi)) | (go_at_call 30; (with_reducible refine (spec_FilterGet.calls k t340 t341 t342 t343 t347 _ A12.out).mono ?_); rintro e w15 ⟨rfl, hb⟩; have n0_ := Aside0.mk (below_step (by repeat (first | (with_reducible first | exact HB.out | apply below_alloc | apply pw_below_drewN | apply below_drew1) | exact HB.out)) hb); clear HB; have HB := n0_; clear n0_; (try clear hb); (try clear hb2); (try clear hk); (try clear hi)))
          go_meet
          case rel => exact ⟨_, ((t344.toList == ([] : List UInt8))), (by first | rfl | (simp; done) | (simp [*]; done)), H', ⟨by first | omega | exact Nat.le_refl _⟩, ⟨by repeat (first | (with_reducible first | exact HB.out | apply below_alloc | apply pw_below_drewN | apply below_drew1) | exact HB.out)⟩⟩
        · rw [if_neg c13] at H
          have c13b0 : (t345.toList == t347.toList) = false := beq_eq_false_iff_ne.mpr c13
          have c13b1 : (t345.toList != t347.toList) = true := bne_iff_ne.mpr c13
          have H' := Aside0.mk H
          clear H
          go_wp2_with (first | ((with_reducible refine gate_callee (f := 29) rfl ?_); refine goesL_ (some 34) rfl rfl Try.func29 (by kernel_rfl) rfl #[.int .i64 t340, .string t341, .string t342, .int .i64 t343] rfl (by (try simp only [List.map_toArray, List.map_cons, List.map_nil]); first | done | rfl | (simp only [List.length_drop, List.length_take]; rfl)) ?_; (with_reducible refine (spec_FilterPut.calls k t340 t341 t342 t343 t346 _ A10.out).mono ?_); rintro e w16 ⟨rfl, hb⟩; refine ⟨_, rfl, ?_⟩; have n0_ := Aside0.mk (below_step (by repeat (first | (with_reducible first | exact HB.out | apply below_alloc | apply pw_below_drewN | apply below_drew1) | exact HB.out)) hb); clear HB; have HB := n0_; clear n0_; (try clear hb); (try clear hb2); (try clear hk); (try clear hi)) | (go_at_call 30; (with_reducible refine (spec_FilterGet.calls k t340 t341 t342 t343 t347 _ A12.out).mono ?_); rintro e w17 ⟨rfl, hb⟩; have n0_ := Aside0.mk (below_step (by repeat (first | (with_reducible first | exact HB.out | apply below_alloc | apply pw_below_drewN | apply below_drew1) | exact HB.out)) hb); clear HB; have HB := n0_; clear n0_; (try clear hb); (try clear hb2); (try clear hk); (try clear hi)))
          go_meet
          case rel => exact ⟨_, (true), (by first | rfl | (simp; done) | (simp [*]; done)), H', ⟨by first | omega | exact Nat.le_refl _⟩, ⟨by repeat (first | (with_reducible first | exact HB.out | apply below_alloc | apply pw_below_drewN | apply below_drew1) | exact HB.out)⟩⟩
      · rw [if_neg c11] at H
        have c11b0 : (t344.toList == t346.toList) = false := beq_eq_false_iff_ne.mpr c11
        have c11b1 : (t344.toList != t346.toList) = true := bne_iff_ne.mpr c11
        (first | rw [c11b0] | (simp only [i64_w, i32_w]; rw [c11b0]) | skip)
        have H' := Aside0.mk H
        clear H
        go_wp2_with (first | ((with_reducible refine gate_callee (f := 29) rfl ?_); refine goesL_ (some 34) rfl rfl Try.func29 (by kernel_rfl) rfl #[.int .i64 t340, .string t341, .string t342, .int .i64 t343] rfl (by (try simp only [List.map_toArray, List.map_cons, List.map_nil]); first | done | rfl | (simp only [List.length_drop, List.length_take]; rfl)) ?_; (with_reducible refine (spec_FilterPut.calls k t340 t341 t342 t343 t346 _ A10.out).mono ?_); rintro e w18 ⟨rfl, hb⟩; refine ⟨_, rfl, ?_⟩; have n0_ := Aside0.mk (below_step (by repeat (first | (with_reducible first | exact HB.out | apply below_alloc | apply pw_below_drewN | apply below_drew1) | exact HB.out)) hb); clear HB; have HB := n0_; clear n0_; (try clear hb); (try clear hb2); (try clear hk); (try clear hi)))
        go_meet
        case rel => exact ⟨_, (true), (by first | rfl | (simp; done) | (simp [*]; done)), H', ⟨by first | omega | exact Nat.le_refl _⟩, ⟨by repeat (first | (with_reducible first | exact HB.out | apply below_alloc | apply pw_below_drewN | apply below_drew1) | exact HB.out)⟩⟩
    case rest =>
      clear HC6
      try clear c1
      try clear c2
      try clear c2b0
      try clear c2b1
      try clear p2
      try clear c5
      try clear c11
      try clear c11b0
      try clear c11b1
      try clear c13
      try clear c13b0
      try clear c13b1
      obtain ⟨kq, x48_5, rfl, HA, HJ5, HB⟩ := hcut
      cases kq with
      | zero => exact absurd HA.out (by simp [laws_FnFilter.j0])
      | succ kj5 =>
        have H := HA.out
        clear HA
        simp only [laws_FnFilter.j0] at H
        by_cases c19 : x48_5 = true
        · subst c19
          have H1 : ((spec_FilterPut.f kj5 t340 t341 t342 t343).bind fun t348 => (if t344.toList = t348.toList then ((spec_FilterGet.f kj5 t340 t341 t342 t343).bind fun t349 => (some (t345.toList == t349.toList))) else (some false))) = some r := by rw [if_pos rfl] at H; exact H
          clear H
          have H := H1
          clear H1
          replace H := Option.bind_eq_some_iff.mp H
          obtain ⟨t348, A200, H⟩ := H
          replace H : (if t344.toList = t348.toList then ((spec_FilterGet.f kj5 t340 t341 t342 t343).bind fun t349 => (some (t345.toList == t349.toList))) else (some false)) = some r := H
          have A20 := Aside0.mk A200
          clear A200
          by_cases c21 : t344.toList = t348.toList
          · rw [if_pos c21] at H
            have c21b0 : (t344.toList == t348.toList) = true := beq_iff_eq.mpr c21
            have c21b1 : (t344.toList != t348.toList) = false := bne_eq_false_iff_eq.mpr c21
            clear c21
            replace H := Option.bind_eq_some_iff.mp H
            obtain ⟨t349, A220, H⟩ := H
            replace H : (some (t345.toList == t349.toList)) = some r := H
            have A22 := Aside0.mk A220
            clear A220
            obtain rfl := Option.some.inj H
            go_wp2_with (first | ((with_reducible refine gate_callee (f := 29) rfl ?_); refine goesL_ (some 54) rfl rfl Try.func29 (by kernel_rfl) rfl #[.int .i64 t340, .string t341, .string t342, .int .i64 t343] rfl (by (try simp only [List.map_toArray, List.map_cons, List.map_nil]); first | done | rfl | (simp only [List.length_drop, List.length_take]; rfl)) ?_; (with_reducible refine (spec_FilterPut.calls kj5 t340 t341 t342 t343 t348 _ A20.out).mono ?_); rintro e w23 ⟨rfl, hb⟩; refine ⟨_, rfl, ?_⟩; have n0_ := Aside0.mk (below_step (by repeat (first | (with_reducible first | exact HB.out | apply below_alloc | apply pw_below_drewN | apply below_drew1) | exact HB.out)) hb); clear HB; have HB := n0_; clear n0_; (try clear hb); (try clear hb2); (try clear hk); (try clear hi)) | (go_at_call 30; (with_reducible refine (spec_FilterGet.calls kj5 t340 t341 t342 t343 t349 _ A22.out).mono ?_); rintro e w24 ⟨rfl, hb⟩; have n0_ := Aside0.mk (below_step (by repeat (first | (with_reducible first | exact HB.out | apply below_alloc | apply pw_below_drewN | apply below_drew1) | exact HB.out)) hb); clear HB; have HB := n0_; clear n0_; (try clear hb); (try clear hb2); (try clear hk); (try clear hi)))
            go_ret
            exact ⟨by first | rfl | (simp [errW_none, errW_some] <;> rfl) | (simp [*, errW_none, errW_some] <;> rfl), by repeat (first | (with_reducible first | exact HB.out | apply below_alloc | apply pw_below_drewN | apply below_drew1) | exact HB.out)⟩
          · rw [if_neg c21] at H
            have c21b0 : (t344.toList == t348.toList) = false := beq_eq_false_iff_ne.mpr c21
            have c21b1 : (t344.toList != t348.toList) = true := bne_iff_ne.mpr c21
            obtain rfl := Option.some.inj H
            go_wp2_with (first | ((with_reducible refine gate_callee (f := 29) rfl ?_); refine goesL_ (some 54) rfl rfl Try.func29 (by kernel_rfl) rfl #[.int .i64 t340, .string t341, .string t342, .int .i64 t343] rfl (by (try simp only [List.map_toArray, List.map_cons, List.map_nil]); first | done | rfl | (simp only [List.length_drop, List.length_take]; rfl)) ?_; (with_reducible refine (spec_FilterPut.calls kj5 t340 t341 t342 t343 t348 _ A20.out).mono ?_); rintro e w25 ⟨rfl, hb⟩; refine ⟨_, rfl, ?_⟩; have n0_ := Aside0.mk (below_step (by repeat (first | (with_reducible first | exact HB.out | apply below_alloc | apply pw_below_drewN | apply below_drew1) | exact HB.out)) hb); clear HB; have HB := n0_; clear n0_; (try clear hb); (try clear hb2); (try clear hk); (try clear hi)))
            go_ret
            exact ⟨by first | rfl | (simp [errW_none, errW_some] <;> rfl) | (simp [*, errW_none, errW_some] <;> rfl), by repeat (first | (with_reducible first | exact HB.out | apply below_alloc | apply pw_below_drewN | apply below_drew1) | exact HB.out)⟩
        · replace c19 := Bool.eq_false_iff.mpr c19
          subst c19
          have H1 : (if (t344.size : Int) = (t341.size : Int) then ((impl_FilterGet.f kj5 t340 t344 t342 t343).bind fun t350 => (if t350.toList = t341.toList then ((impl_FilterPut.f kj5 t340 t345 t342 t343).bind fun t351 => (some (t351.toList == t341.toList))) else (some false))) else (some false)) = some r := by rw [if_neg (show ¬ (false = true) by decide)] at H; exact H
          clear H
          have H := H1
          clear H1
          by_cases c26 : (t344.size : Int) = (t341.size : Int)
          · rw [if_pos c26] at H
            have c26b0 : ((t344.size : Int) == (t341.size : Int)) = true := beq_iff_eq.mpr c26
            have c26b1 : ((t344.size : Int) != (t341.size : Int)) = false := bne_eq_false_iff_eq.mpr c26
            have c26b2 : (t344.size == t341.size) = true := by first | simpa using c26 | (simp at c26 ⊢; omega)
            clear c26
            replace H := Option.bind_eq_some_iff.mp H
            obtain ⟨t350, A270, H⟩ := H
            replace H : (if t350.toList = t341.toList then ((impl_FilterPut.f kj5 t340 t345 t342 t343).bind fun t351 => (some (t351.toList == t341.toList))) else (some false)) = some r := H
            have A27 := Aside0.mk A270
            clear A270
            by_cases c28 : t350.toList = t341.toList
            · rw [if_pos c28] at H
              have c28b0 : (t350.toList == t341.toList) = true := beq_iff_eq.mpr c28
              have c28b1 : (t350.toList != t341.toList) = false := bne_eq_false_iff_eq.mpr c28
              clear c28
              replace H := Option.bind_eq_some_iff.mp H
              obtain ⟨t351, A290, H⟩ := H
              replace H : (some (t351.toList == t341.toList)) = some r := H
              have A29 := Aside0.mk A290
              clear A290
              obtain rfl := Option.some.inj H
              go_wp2_with (first | (go_at_call 28; (with_reducible refine (impl_FilterGet.calls kj5 t340 t344 t342 t343 t350 _ A27.out).mono ?_); rintro e w30 ⟨rfl, hb⟩; have n0_ := Aside0.mk (below_step (by repeat (first | (with_reducible first | exact HB.out | apply below_alloc | apply pw_below_drewN | apply below_drew1) | exact HB.out)) hb); clear HB; have HB := n0_; clear n0_; (try clear hb); (try clear hb2); (try clear hk); (try clear hi)) | (go_at_call 27; (with_reducible refine (impl_FilterPut.calls kj5 t340 t345 t342 t343 t351 _ A29.out).mono ?_); rintro e w31 ⟨rfl, hb⟩; have n0_ := Aside0.mk (below_step (by repeat (first | (with_reducible first | exact HB.out | apply below_alloc | apply pw_below_drewN | apply below_drew1) | exact HB.out)) hb); clear HB; have HB := n0_; clear n0_; (try clear hb); (try clear hb2); (try clear hk); (try clear hi)))
              go_ret
              exact ⟨by first | rfl | (simp [errW_none, errW_some] <;> rfl) | (simp [*, errW_none, errW_some] <;> rfl), by repeat (first | (with_reducible first | exact HB.out | apply below_alloc | apply pw_below_drewN | apply below_drew1) | exact HB.out)⟩
            · rw [if_neg c28] at H
              have c28b0 : (t350.toList == t341.toList) = false := beq_eq_false_iff_ne.mpr c28
              have c28b1 : (t350.toList != t341.toList) = true := bne_iff_ne.mpr c28
              obtain rfl := Option.some.inj H
              go_wp2_with (first | (go_at_call 28; (with_reducible refine (impl_FilterGet.calls kj5 t340 t344 t342 t343 t350 _ A27.out).mono ?_); rintro e w32 ⟨rfl, hb⟩; have n0_ := Aside0.mk (below_step (by repeat (first | (with_reducible first | exact HB.out | apply below_alloc | apply pw_below_drewN | apply below_drew1) | exact HB.out)) hb); clear HB; have HB := n0_; clear n0_; (try clear hb); (try clear hb2); (try clear hk); (try clear hi)))
              go_ret
              exact ⟨by first | rfl | (simp [errW_none, errW_some] <;> rfl) | (simp [*, errW_none, errW_some] <;> rfl), by repeat (first | (with_reducible first | exact HB.out | apply below_alloc | apply pw_below_drewN | apply below_drew1) | exact HB.out)⟩
          · rw [if_neg c26] at H
            have c26b0 : ((t344.size : Int) == (t341.size : Int)) = false := beq_eq_false_iff_ne.mpr c26
            have c26b1 : ((t344.size : Int) != (t341.size : Int)) = true := bne_iff_ne.mpr c26
            have c26b2 : (t344.size == t341.size) = false := by first | simpa using c26 | (simp at c26 ⊢; omega)
            obtain rfl := Option.some.inj H
            go_wp2
            go_ret
            exact ⟨by first | rfl | (simp [errW_none, errW_some] <;> rfl) | (simp [*, errW_none, errW_some] <;> rfl), by repeat (first | (with_reducible first | exact HB.out | apply below_alloc | apply pw_below_drewN | apply below_drew1) | exact HB.out)⟩

/-- THE ONE PURE STATEMENT of laws_FnFilter: yours. -/
def laws_FnFilter.Pure : Prop := ∀ (l0 : List Int), l0.length ≤ maxLen → l0.length * 1 ≤ 140737488351232 → (∀ x ∈ l0, (Lit.int .u8 x).wf = true) → ∃ k, laws_FnFilter.f k l0 = some true
theorem laws_FnFilter.walk (P : laws_FnFilter.Pure) (a0 : Option Addr) (len0 cap0 : Nat) (z0 : List Int) (w : World) (w0 : (a0 = none ∧ len0 = 0 ∧ cap0 = 0 ∧ z0 = []) ∨ ∃ x, a0 = some x ∧ len0 ≤ cap0 ∧ cap0 ≤ maxLen ∧ z0.length = cap0 ∧ (∀ i, i < z0.length → w.cell? (x.add i) = some (.int .u8 (z0.getD i 0))) ∧ ∀ n ∈ z0, (Lit.int .u8 n).wf = true) (y0 : len0 * 1 ≤ 140737488351232) :
    Calls Try.prog 5 #[.slice a0 len0 cap0] w fun e w' => e = .returned (.bool true) ∧ Below w.heap.size w w' := by
  obtain ⟨l0, rfl, hr0, hm0, hw0, hc0⟩ := ReadsInt.ofRowC w0
  obtain ⟨k, h⟩ := P l0 hm0 y0 hw0
  refine (laws_FnFilter.calls k _ _ l0 true w (Kd.C_of_reads (d := (0 : Int)) (h1 := fun _ => rfl) hr0) hc0 h).mono ?_
  rintro e w' ⟨rfl, hd⟩
  exact ⟨rfl, hd⟩

end Go.Proofs.Ytjcamejbdcaokaa.P
