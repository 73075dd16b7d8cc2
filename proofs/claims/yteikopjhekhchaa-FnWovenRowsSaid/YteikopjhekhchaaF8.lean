-- Written by a program of this session (wip/myprint.py) through the print of the kit: not trusted, Lean checks it.
import Derived.Test.YteikopjhekhchaaF00
import Derived.Test.YteikopjhekhchaaF23
import Derived.Test.YteikopjhekhchaaF24
import Derived.Test.YteikopjhekhchaaF28
import Derived.Test.YteikopjhekhchaaF29
import Derived.Test.YteikopjhekhchaaF30
namespace Go.Proofs.Yteikopjhekhchaa.P
open Go.RowKit Go.Proofs.YteikopjhekhchaaW.PrintWords Go.Proofs.YteikopjhekhchaaW.PrintLast Go.Proofs.YteikopjhekhchaaW.PrintMore
attribute [local go_sem] max2_int min2_int max_two min_two max_three min_three max_four min_four   -- for this text's walks alone
set_option linter.unusedVariables false
set_option linter.unusedSimpArgs false

/-! ### laws_FnWovenRows: function 8 -/
mutual
def laws_FnWovenRows.j0 : Nat → Int → List Int → Bool → Option (Bool)
  | 0, _, _, _ => none
  | k + 1, x3, x4, x23 => if x23 = true then ((spec_WovenRows.f k x3).bind fun t208 => ((laws_wiInts.f k x4 t208).bind fun t211 => (some t211))) else (if 0 ≤ x3 then (if (x3 : Int).toNat ≤ 281474976710656 then (laws_FnWovenRows.l0 k x3 x4 (List.replicate (x3 : Int).toNat false) 0) else (none)) else (none))
def laws_FnWovenRows.l0 : Nat → Int → List Int → List Bool → Int → Option (Bool)
  | 0, _, _, _, _ => none
  | k + 1, x3, x4, x5, x6 => if x6 < (x4.length : Int) then (if 0 ≤ x6 then ((laws_wiIn.f (rd x4 x6) 0 (wrap64 (x3 - 1))).bind fun t216 => (if t216 = true then (if 0 ≤ (rd x4 x6) then (if (rd x4 x6) < (x5.length : Int) then (if rdOf false x5 (rd x4 x6) = true then (some false) else (if x6 < (wrap64 (Int.tdiv (wrap64 (x3 + 7)) 8)) then (if (rd x4 x6) = (wrap64 (8 * x6)) then (laws_FnWovenRows.l0 k x3 x4 (x5.set ((rd x4 x6) : Int).toNat true) (wrap64 (x6 + 1))) else (some false)) else (laws_FnWovenRows.l0 k x3 x4 (x5.set ((rd x4 x6) : Int).toNat true) (wrap64 (x6 + 1))))) else (none)) else (none)) else (some false))) else (none)) else (some ((x4.length : Int) == x3))
end
def laws_FnWovenRows.f (k : Nat) (l0 : List Int) : Option (Bool) := if (l0.length : Int) > 1048576 then (some true) else ((spec_DrawWovenRows.f k l0).bind fun t200 => ((impl_WovenRows.f k t200).bind fun t201 => ((spec_WovenRows.f k t200).bind fun t204 => ((laws_wiInts.f k t201 t204).bind fun t207 => (if t207 = true then (laws_FnWovenRows.j0 k t200 t201 ((t201.length : Int) == 0)) else (laws_FnWovenRows.j0 k t200 t201 true))))))
theorem laws_FnWovenRows.mono_l : ∀ k, (∀ y0 y1 y2, LeO (laws_FnWovenRows.j0 k y0 y1 y2) (laws_FnWovenRows.j0 (k + 1) y0 y1 y2)) ∧ (∀ y0 y1 y2 y3, LeO (laws_FnWovenRows.l0 k y0 y1 y2 y3) (laws_FnWovenRows.l0 (k + 1) y0 y1 y2 y3))
  | 0 => ⟨fun _ _ _ r h => by simp [laws_FnWovenRows.j0] at h, fun _ _ _ _ r h => by simp [laws_FnWovenRows.l0] at h⟩
  | k + 1 => by
    obtain ⟨ih0, ih1⟩ := laws_FnWovenRows.mono_l k
    refine ⟨?_, ?_⟩
    · intro y0 y1 y2
      unfold laws_FnWovenRows.j0
      repeat' first
      | (with_reducible exact ih0 _ _ _)
      | (with_reducible exact ih1 _ _ _ _)
      | (with_reducible exact impl_WovenRows.mono _ _)
      | (with_reducible exact laws_wiInts.mono _ _ _)
      | (with_reducible exact spec_DrawWovenRows.mono _ _)
      | (with_reducible exact spec_WovenRows.mono _ _)
      | (with_reducible exact LeO.refl _)
      | (with_reducible exact LeO.none _)
      | (with_reducible refine LeO.ite ?_ ?_)
      | (with_reducible refine LeO.bind ?_ (fun _ => ?_))
      | exact ih0 _ _ _
      | exact ih1 _ _ _ _
      | exact impl_WovenRows.mono _ _
      | exact laws_wiInts.mono _ _ _
      | exact spec_DrawWovenRows.mono _ _
      | exact spec_WovenRows.mono _ _
      | exact LeO.none _
      | refine LeO.ite ?_ ?_
      | refine LeO.bind ?_ (fun _ => ?_)
    · intro y0 y1 y2 y3
      unfold laws_FnWovenRows.l0
      repeat' first
      | (with_reducible exact ih0 _ _ _)
      | (with_reducible exact ih1 _ _ _ _)
      | (with_reducible exact impl_WovenRows.mono _ _)
      | (with_reducible exact laws_wiInts.mono _ _ _)
      | (with_reducible exact spec_DrawWovenRows.mono _ _)
      | (with_reducible exact spec_WovenRows.mono _ _)
      | (with_reducible exact LeO.refl _)
      | (with_reducible exact LeO.none _)
      | (with_reducible refine LeO.ite ?_ ?_)
      | (with_reducible refine LeO.bind ?_ (fun _ => ?_))
      | exact ih0 _ _ _
      | exact ih1 _ _ _ _
      | exact impl_WovenRows.mono _ _
      | exact laws_wiInts.mono _ _ _
      | exact spec_DrawWovenRows.mono _ _
      | exact spec_WovenRows.mono _ _
      | exact LeO.none _
      | refine LeO.ite ?_ ?_
      | refine LeO.bind ?_ (fun _ => ?_)
theorem laws_FnWovenRows.mono : ∀ a0 k, LeO (laws_FnWovenRows.f k a0) (laws_FnWovenRows.f (k + 1) a0) := by
  intro a0 k
  obtain ⟨ih0, ih1⟩ := laws_FnWovenRows.mono_l k
  unfold laws_FnWovenRows.f
  repeat' first
      | (with_reducible exact ih0 _ _ _)
      | (with_reducible exact ih1 _ _ _ _)
      | (with_reducible exact impl_WovenRows.mono _ _)
      | (with_reducible exact laws_wiInts.mono _ _ _)
      | (with_reducible exact spec_DrawWovenRows.mono _ _)
      | (with_reducible exact spec_WovenRows.mono _ _)
      | (with_reducible exact LeO.refl _)
      | (with_reducible exact LeO.none _)
      | (with_reducible refine LeO.ite ?_ ?_)
      | (with_reducible refine LeO.bind ?_ (fun _ => ?_))
      | exact ih0 _ _ _
      | exact ih1 _ _ _ _
      | exact impl_WovenRows.mono _ _
      | exact laws_wiInts.mono _ _ _
      | exact spec_DrawWovenRows.mono _ _
      | exact spec_WovenRows.mono _ _
      | exact LeO.none _
      | refine LeO.ite ?_ ?_
      | refine LeO.bind ?_ (fun _ => ?_)
set_option maxHeartbeats 8000000 in
set_option maxRecDepth 100000 in
theorem laws_FnWovenRows.calls (k : Nat) (A0 : Option Addr) (c0 : Nat) (l0 : List Int) (r : Bool) (w : World) (hr0 : Kd.C (Kd.int .u8) w A0 l0.length l0) (hc0 : l0.length ≤ c0) (h : laws_FnWovenRows.f k l0 = some r) :
    Calls Try.prog 8 #[.slice A0 l0.length c0] w fun e w' => e = .returned (.bool r) ∧ Below w.heap.size w w' := by
  have HR0 := Aside0.mk hr0
  have HC0 := Aside0.mk hc0
  clear hr0 hc0
  have HB := Aside0.mk (Below.refl w.heap.size w)
  have H : (if (l0.length : Int) > 1048576 then (some true) else ((spec_DrawWovenRows.f k l0).bind fun t200 => ((impl_WovenRows.f k t200).bind fun t201 => ((spec_WovenRows.f k t200).bind fun t204 => ((laws_wiInts.f k t201 t204).bind fun t207 => (if t207 = true then (laws_FnWovenRows.j0 k t200 t201 ((t201.length : Int) == 0)) else (laws_FnWovenRows.j0 k t200 t201 true))))))) = some r := h
  clear h
  by_cases c2 : (l0.length : Int) > 1048576
  · rw [if_pos c2] at H
    have c2b0 : decide (1048576 < (l0.length : Int)) = true := decide_eq_true c2
    have c2b1 : decide (1048576 < l0.length) = true := decide_eq_true (by omega)
    clear c2
    obtain rfl := Option.some.inj H
    go_enter Try.func8, Try.ntmps8
    go_wp2
    go_ret
    exact ⟨by first | rfl | (simp [errW_none, errW_some] <;> rfl) | (simp [*, errW_none, errW_some] <;> rfl), by repeat (first | (with_reducible first | exact HB.out | apply below_alloc | apply pw_below_drewN | apply below_drew1) | exact HB.out)⟩
  · rw [if_neg c2] at H
    have c2b0 : decide (1048576 < (l0.length : Int)) = false := decide_eq_false c2
    have c2b1 : decide (1048576 < l0.length) = false := decide_eq_false (by omega)
    clear c2
    replace H := Option.bind_eq_some_iff.mp H
    obtain ⟨t200, A30, H⟩ := H
    replace H : ((impl_WovenRows.f k t200).bind fun t201 => ((spec_WovenRows.f k t200).bind fun t204 => ((laws_wiInts.f k t201 t204).bind fun t207 => (if t207 = true then (laws_FnWovenRows.j0 k t200 t201 ((t201.length : Int) == 0)) else (laws_FnWovenRows.j0 k t200 t201 true))))) = some r := H
    have A3 := Aside0.mk A30
    clear A30
    replace H := Option.bind_eq_some_iff.mp H
    obtain ⟨t201, A40, H⟩ := H
    replace H : ((spec_WovenRows.f k t200).bind fun t204 => ((laws_wiInts.f k t201 t204).bind fun t207 => (if t207 = true then (laws_FnWovenRows.j0 k t200 t201 ((t201.length : Int) == 0)) else (laws_FnWovenRows.j0 k t200 t201 true)))) = some r := H
    have A4 := Aside0.mk A40
    clear A40
    have HC5 := Aside0.mk H
    clear H
    go_enter Try.func8, Try.ntmps8
    go_upto_region 5 with (first | ((with_reducible refine gate_callee (f := 28) rfl ?_); refine goesL_ (some 11) rfl rfl Try.func28 (by kernel_rfl) rfl #[.slice A0 l0.length c0] rfl (by (try simp only [List.map_toArray, List.map_cons, List.map_nil]); first | done | rfl | (simp only [List.length_drop, List.length_take]; rfl)) ?_; (with_reducible refine (spec_DrawWovenRows.calls k _ _ l0 t200 _ ?side1 ?side2 A3.out).mono ?_); (case side1 => repeat (first | exact HR0.out | (with_reducible refine Kd.C_alloc ?_ _) | (with_reducible refine Kd.C_drewN ?_ _) | (with_reducible refine Kd.C_drew ?_))); (case side2 => exact HC0.out); rintro e w6 ⟨rfl, hb⟩; refine ⟨_, rfl, ?_⟩; have n0_ := Aside0.mk (below_step (by repeat (first | (with_reducible first | exact HB.out | apply below_alloc | apply pw_below_drewN | apply below_drew1) | exact HB.out)) hb); clear HB; have HB := n0_; clear n0_; (try clear hb); (try clear hb2); (try clear hk); (try clear hi)) | ((with_reducible refine gate_callee (f := 24) rfl ?_); refine goesL_ (some 13) rfl rfl Try.func24 (by kernel_rfl) rfl #[.int .i64 t200] rfl (by (try simp only [List.map_toArray, List.map_cons, List.map_nil]); first | done | rfl | (simp only [List.length_drop, List.length_take]; rfl)) ?_; (with_reducible refine (impl_WovenRows.calls k t200 t201 _ A4.out).mono ?_); rintro e w7 ⟨v202, rfl, ho0, hb⟩; refine ⟨_, rfl, ?_⟩; have n0_ := Aside0.mk (Kd.R_lower ho0 (below_size (by repeat (first | (with_reducible first | exact HB.out | apply below_alloc | apply pw_below_drewN | apply below_drew1) | exact HB.out)))); have n1_ := Aside0.mk (below_step (by repeat (first | (with_reducible first | exact HB.out | apply below_alloc | apply pw_below_drewN | apply below_drew1) | exact HB.out)) hb); clear HB; have HO203 := n0_; have HB := n1_; clear n0_ n1_; (try clear hb); (try clear hb2); (try clear hk); (try clear hi); (try clear ho0)))
    (try simp only [Act.put, List.setIfInBounds_toArray, List.set_cons_zero, List.set_cons_succ])
    go_cut [23] (fun v23 wc => ∃ (kq : Nat) (x23_4 : Bool), v23 = .bool x23_4 ∧ Aside0 (laws_FnWovenRows.j0 kq t200 t201 x23_4 = some r) ∧ Aside0 (kq ≤ k) ∧ Aside0 (Kd.R (Kd.int .i64) 3 wc w.heap.size (fun _ => True) v202 t201) ∧ Aside0 (Below w.heap.size w wc))
    case first =>
      have H := HC5.out
      clear HC5
      replace H := Option.bind_eq_some_iff.mp H
      obtain ⟨t204, A80, H⟩ := H
      replace H : ((laws_wiInts.f k t201 t204).bind fun t207 => (if t207 = true then (laws_FnWovenRows.j0 k t200 t201 ((t201.length : Int) == 0)) else (laws_FnWovenRows.j0 k t200 t201 true))) = some r := H
      have A8 := Aside0.mk A80
      clear A80
      replace H := Option.bind_eq_some_iff.mp H
      obtain ⟨t207, A90, H⟩ := H
      replace H : (if t207 = true then (laws_FnWovenRows.j0 k t200 t201 ((t201.length : Int) == 0)) else (laws_FnWovenRows.j0 k t200 t201 true)) = some r := H
      have A9 := Aside0.mk A90
      clear A90
      by_cases c10 : t207 = true
      · subst c10
        have H1 : (laws_FnWovenRows.j0 k t200 t201 ((t201.length : Int) == 0)) = some r := by rw [if_pos rfl] at H; exact H
        clear H
        have H := H1
        clear H1
        have H' := Aside0.mk H
        clear H
        go_wp2_with (first | ((with_reducible refine gate_callee (f := 23) rfl ?_); refine goesL_ (some 16) rfl rfl Try.func23 (by kernel_rfl) rfl #[.int .i64 t200] rfl (by (try simp only [List.map_toArray, List.map_cons, List.map_nil]); first | done | rfl | (simp only [List.length_drop, List.length_take]; rfl)) ?_; (with_reducible refine (spec_WovenRows.calls k t200 t204 _ A8.out).mono ?_); rintro e w11 ⟨v205, rfl, ho0, hb⟩; refine ⟨_, rfl, ?_⟩; have n0_ := Aside0.mk (Kd.R_elder' (by (with_reducible repeat (first | apply Kd.R_alloc | apply Kd.R_drewN | apply Kd.R_drew)); exact HO203.out) (Kd.R_base ho0) hb); have n1_ := Aside0.mk (Kd.R_lower (Kd.R_new' ho0 (Kd.R_lt (by (with_reducible repeat (first | apply Kd.R_alloc | apply Kd.R_drewN | apply Kd.R_drew)); exact HO203.out))) (below_size (by repeat (first | (with_reducible first | exact HB.out | apply below_alloc | apply pw_below_drewN | apply below_drew1) | exact HB.out)))); have n2_ := Aside0.mk (below_step (by repeat (first | (with_reducible first | exact HB.out | apply below_alloc | apply pw_below_drewN | apply below_drew1) | exact HB.out)) hb); clear HO203; clear HB; have HO203 := n0_; have HO206 := n1_; have HB := n2_; clear n0_ n1_ n2_; (try clear hb); (try clear hb2); (try clear hk); (try clear hi); (try clear ho0); obtain ⟨Ao12, co12, eo12⟩ := Kd.R_slice HO203.out; subst eo12; obtain ⟨Ao13, co13, eo13⟩ := Kd.R_slice HO206.out; subst eo13) | ((with_reducible refine gate_callee (f := 29) rfl ?_); refine goesL_ (some 17) rfl rfl Try.func29 (by kernel_rfl) rfl #[.slice Ao12 t201.length co12, .slice Ao13 t204.length co13] rfl (by (try simp only [List.map_toArray, List.map_cons, List.map_nil]); first | done | rfl | (simp only [List.length_drop, List.length_take]; rfl)) ?_; (with_reducible refine (laws_wiInts.calls k _ _ t201 _ _ t204 true _ ?side1 ?side2 ?side3 ?side4 A9.out).mono ?_); (case side1 => repeat (first | exact (Kd.R_reads' HO203.out).2.2 | (with_reducible refine Kd.C_alloc ?_ _) | (with_reducible refine Kd.C_drewN ?_ _) | (with_reducible refine Kd.C_drew ?_))); (case side2 => exact (Kd.R_reads' HO203.out).2.1); (case side3 => repeat (first | exact (Kd.R_reads' HO206.out).2.2 | (with_reducible refine Kd.C_alloc ?_ _) | (with_reducible refine Kd.C_drewN ?_ _) | (with_reducible refine Kd.C_drew ?_))); (case side4 => exact (Kd.R_reads' HO206.out).2.1); rintro e w' ⟨rfl, ⟨nd, rfl⟩⟩; refine ⟨_, rfl, ?_⟩))
        go_meet
        case rel => exact ⟨_, (((t201.length : Int) == 0)), (by first | rfl | (simp; done) | (simp [*]; done)), H', ⟨by first | omega | exact Nat.le_refl _⟩, ⟨by (with_reducible repeat (first | apply Kd.R_alloc | apply Kd.R_drewN | apply Kd.R_drew)); exact Kd.R_mono HO203.out (fun _ hk => trivial)⟩, ⟨by repeat (first | (with_reducible first | exact HB.out | apply below_alloc | apply pw_below_drewN | apply below_drew1) | exact HB.out)⟩⟩
      · replace c10 := Bool.eq_false_iff.mpr c10
        subst c10
        have H1 : (laws_FnWovenRows.j0 k t200 t201 true) = some r := by rw [if_neg (show ¬ (false = true) by decide)] at H; exact H
        clear H
        have H := H1
        clear H1
        have H' := Aside0.mk H
        clear H
        go_wp2_with (first | ((with_reducible refine gate_callee (f := 23) rfl ?_); refine goesL_ (some 16) rfl rfl Try.func23 (by kernel_rfl) rfl #[.int .i64 t200] rfl (by (try simp only [List.map_toArray, List.map_cons, List.map_nil]); first | done | rfl | (simp only [List.length_drop, List.length_take]; rfl)) ?_; (with_reducible refine (spec_WovenRows.calls k t200 t204 _ A8.out).mono ?_); rintro e w14 ⟨v205, rfl, ho0, hb⟩; refine ⟨_, rfl, ?_⟩; have n0_ := Aside0.mk (Kd.R_elder' (by (with_reducible repeat (first | apply Kd.R_alloc | apply Kd.R_drewN | apply Kd.R_drew)); exact HO203.out) (Kd.R_base ho0) hb); have n1_ := Aside0.mk (Kd.R_lower (Kd.R_new' ho0 (Kd.R_lt (by (with_reducible repeat (first | apply Kd.R_alloc | apply Kd.R_drewN | apply Kd.R_drew)); exact HO203.out))) (below_size (by repeat (first | (with_reducible first | exact HB.out | apply below_alloc | apply pw_below_drewN | apply below_drew1) | exact HB.out)))); have n2_ := Aside0.mk (below_step (by repeat (first | (with_reducible first | exact HB.out | apply below_alloc | apply pw_below_drewN | apply below_drew1) | exact HB.out)) hb); clear HO203; clear HB; have HO203 := n0_; have HO206 := n1_; have HB := n2_; clear n0_ n1_ n2_; (try clear hb); (try clear hb2); (try clear hk); (try clear hi); (try clear ho0); obtain ⟨Ao15, co15, eo15⟩ := Kd.R_slice HO203.out; subst eo15; obtain ⟨Ao16, co16, eo16⟩ := Kd.R_slice HO206.out; subst eo16) | ((with_reducible refine gate_callee (f := 29) rfl ?_); refine goesL_ (some 17) rfl rfl Try.func29 (by kernel_rfl) rfl #[.slice Ao15 t201.length co15, .slice Ao16 t204.length co16] rfl (by (try simp only [List.map_toArray, List.map_cons, List.map_nil]); first | done | rfl | (simp only [List.length_drop, List.length_take]; rfl)) ?_; (with_reducible refine (laws_wiInts.calls k _ _ t201 _ _ t204 false _ ?side1 ?side2 ?side3 ?side4 A9.out).mono ?_); (case side1 => repeat (first | exact (Kd.R_reads' HO203.out).2.2 | (with_reducible refine Kd.C_alloc ?_ _) | (with_reducible refine Kd.C_drewN ?_ _) | (with_reducible refine Kd.C_drew ?_))); (case side2 => exact (Kd.R_reads' HO203.out).2.1); (case side3 => repeat (first | exact (Kd.R_reads' HO206.out).2.2 | (with_reducible refine Kd.C_alloc ?_ _) | (with_reducible refine Kd.C_drewN ?_ _) | (with_reducible refine Kd.C_drew ?_))); (case side4 => exact (Kd.R_reads' HO206.out).2.1); rintro e w' ⟨rfl, ⟨nd, rfl⟩⟩; refine ⟨_, rfl, ?_⟩))
        go_meet
        case rel => exact ⟨_, (true), (by first | rfl | (simp; done) | (simp [*]; done)), H', ⟨by first | omega | exact Nat.le_refl _⟩, ⟨by (with_reducible repeat (first | apply Kd.R_alloc | apply Kd.R_drewN | apply Kd.R_drew)); exact Kd.R_mono HO203.out (fun _ hk => trivial)⟩, ⟨by repeat (first | (with_reducible first | exact HB.out | apply below_alloc | apply pw_below_drewN | apply below_drew1) | exact HB.out)⟩⟩
    case rest =>
      clear HC5
      try clear c1
      try clear c2
      try clear c2b0
      try clear c2b1
      try clear p2
      try clear c8
      try clear c10
      obtain ⟨kq, x23_4, rfl, HA, HJ4, HO_4, HB⟩ := hcut
      cases kq with
      | zero => exact absurd HA.out (by simp [laws_FnWovenRows.j0])
      | succ kj4 =>
        have H := HA.out
        clear HA
        simp only [laws_FnWovenRows.j0] at H
        by_cases c17 : x23_4 = true
        · subst c17
          have H1 : ((spec_WovenRows.f kj4 t200).bind fun t208 => ((laws_wiInts.f kj4 t201 t208).bind fun t211 => (some t211))) = some r := by rw [if_pos rfl] at H; exact H
          clear H
          have H := H1
          clear H1
          replace H := Option.bind_eq_some_iff.mp H
          obtain ⟨t208, A180, H⟩ := H
          replace H : ((laws_wiInts.f kj4 t201 t208).bind fun t211 => (some t211)) = some r := H
          have A18 := Aside0.mk A180
          clear A180
          replace H := Option.bind_eq_some_iff.mp H
          obtain ⟨t211, A190, H⟩ := H
          replace H : (some t211) = some r := H
          have A19 := Aside0.mk A190
          clear A190
          obtain rfl := Option.some.inj H
          go_wp2_with (first | ((with_reducible refine gate_callee (f := 23) rfl ?_); refine goesL_ (some 26) rfl rfl Try.func23 (by kernel_rfl) rfl #[.int .i64 t200] rfl (by (try simp only [List.map_toArray, List.map_cons, List.map_nil]); first | done | rfl | (simp only [List.length_drop, List.length_take]; rfl)) ?_; (with_reducible refine (spec_WovenRows.calls kj4 t200 t208 _ A18.out).mono ?_); rintro e w20 ⟨v209, rfl, ho0, hb⟩; refine ⟨_, rfl, ?_⟩; have n0_ := Aside0.mk (Kd.R_elder' (by (with_reducible repeat (first | apply Kd.R_alloc | apply Kd.R_drewN | apply Kd.R_drew)); exact HO_4.out) (Kd.R_base ho0) hb); have n1_ := Aside0.mk (Kd.R_lower (Kd.R_new' ho0 (Kd.R_lt (by (with_reducible repeat (first | apply Kd.R_alloc | apply Kd.R_drewN | apply Kd.R_drew)); exact HO_4.out))) (below_size (by repeat (first | (with_reducible first | exact HB.out | apply below_alloc | apply pw_below_drewN | apply below_drew1) | exact HB.out)))); have n2_ := Aside0.mk (below_step (by repeat (first | (with_reducible first | exact HB.out | apply below_alloc | apply pw_below_drewN | apply below_drew1) | exact HB.out)) hb); clear HO_4; clear HB; have HO_4 := n0_; have HO210 := n1_; have HB := n2_; clear n0_ n1_ n2_; (try clear hb); (try clear hb2); (try clear hk); (try clear hi); (try clear ho0); obtain ⟨Ao21, co21, eo21⟩ := Kd.R_slice HO_4.out; subst eo21; obtain ⟨Ao22, co22, eo22⟩ := Kd.R_slice HO210.out; subst eo22) | ((with_reducible refine gate_callee (f := 29) rfl ?_); refine goesL_ (some 27) rfl rfl Try.func29 (by kernel_rfl) rfl #[.slice Ao21 t201.length co21, .slice Ao22 t208.length co22] rfl (by (try simp only [List.map_toArray, List.map_cons, List.map_nil]); first | done | rfl | (simp only [List.length_drop, List.length_take]; rfl)) ?_; (with_reducible refine (laws_wiInts.calls kj4 _ _ t201 _ _ t208 t211 _ ?side1 ?side2 ?side3 ?side4 A19.out).mono ?_); (case side1 => repeat (first | exact (Kd.R_reads' HO_4.out).2.2 | (with_reducible refine Kd.C_alloc ?_ _) | (with_reducible refine Kd.C_drewN ?_ _) | (with_reducible refine Kd.C_drew ?_))); (case side2 => exact (Kd.R_reads' HO_4.out).2.1); (case side3 => repeat (first | exact (Kd.R_reads' HO210.out).2.2 | (with_reducible refine Kd.C_alloc ?_ _) | (with_reducible refine Kd.C_drewN ?_ _) | (with_reducible refine Kd.C_drew ?_))); (case side4 => exact (Kd.R_reads' HO210.out).2.1); rintro e w' ⟨rfl, ⟨nd, rfl⟩⟩; refine ⟨_, rfl, ?_⟩))
          go_ret
          exact ⟨by first | rfl | (simp [errW_none, errW_some] <;> rfl) | (simp [*, errW_none, errW_some] <;> rfl), by repeat (first | (with_reducible first | exact HB.out | apply below_alloc | apply pw_below_drewN | apply below_drew1) | exact HB.out)⟩
        · replace c17 := Bool.eq_false_iff.mpr c17
          subst c17
          have H1 : (if 0 ≤ t200 then (if (t200 : Int).toNat ≤ 281474976710656 then (laws_FnWovenRows.l0 kj4 t200 t201 (List.replicate (t200 : Int).toNat false) 0) else (none)) else (none)) = some r := by rw [if_neg (show ¬ (false = true) by decide)] at H; exact H
          clear H
          have H := H1
          clear H1
          by_cases c23 : 0 ≤ t200
          · rw [if_pos c23] at H
            have c23b0 := eq_true c23
            have c23b1 : decide (0 ≤ t200) = true := decide_eq_true c23
            clear c23
            by_cases c24 : (t200 : Int).toNat ≤ 281474976710656
            · rw [if_pos c24] at H
              have c24b0 := eq_true c24
              have c24b1 : decide ((t200 : Int).toNat ≤ 281474976710656) = true := decide_eq_true c24
              clear c24
              obtain ⟨y212, hy212⟩ : ∃ y_ : List Bool, y_ = (List.replicate (t200 : Int).toNat false) := ⟨_, rfl⟩
              replace H : (laws_FnWovenRows.l0 kj4 t200 t201 y212 0) = some r := by first | (rw [hy212]; with_reducible exact H) | (have H2_ := (Option.bind_some _ _).symm.trans H; rw [hy212]; with_reducible exact H2_) | (have H2_ := (Option.bind_some _ _).symm.trans H; with_reducible exact H2_) | with_reducible exact H | (rw [hy212]; exact H) | exact H
              have Ny212 := Aside0.mk hy212
              clear hy212
              have H' := Aside0.mk H
              clear H
              go_wp2_with (first | ((with_reducible refine gate_dst (N := 29) rfl ?_); (try (refine gate_guard (by rfl) ?_; dsimp only)); refine Kd.R_make Kd.bool _ 4 rfl (N := 29) rfl 36 _ _ rfl t200 rfl rfl Try.underlying36 (.bool false) 1 info4 rfl (by decide) (by omega) false (ok := fun _ => True) (okp := fun _ => True) rfl (fun _ hk => hk) trivial (of_decide_eq_true (by first | (with_reducible assumption) | assumption)) (Nat.le_trans (Nat.mul_le_mul_right _ (of_decide_eq_true (by first | (with_reducible assumption) | assumption) : t200.toNat ≤ 281474976710656)) (by omega)) (Below.refl _ _) (Nat.le_refl _) ?_; intro v213 w25 ho26 hb hg_ hnew_; clear hg_ hnew_; (first | rw [← Ny212.out] at ho26 | (simp only [Int.reduceToNat] at ho26; rw [← Ny212.out] at ho26)); have n0_ := Aside0.mk (Kd.R_below (by (with_reducible repeat (first | apply Kd.R_alloc | apply Kd.R_drewN | apply Kd.R_drew)); exact HO_4.out) hb); have n1_ := Aside0.mk (Kd.R_lower ho26 (below_size (by repeat (first | (with_reducible first | exact HB.out | apply below_alloc | apply pw_below_drewN | apply below_drew1) | exact HB.out)))); have n2_ := Aside0.mk (below_step (by repeat (first | (with_reducible first | exact HB.out | apply below_alloc | apply pw_below_drewN | apply below_drew1) | exact HB.out)) hb); clear HO_4; clear HB; have HO_4 := n0_; have HO214 := n1_; have HB := n2_; clear n0_ n1_ n2_; clear hb ho26))
              go_loopg [6] kj4 (fun kq v6 w' => ∃ (x5_2 : List Bool) (x6_2 : Int), v6 = .int .i64 x6_2 ∧ Aside0 (laws_FnWovenRows.l0 kq t200 t201 x5_2 x6_2 = some r) ∧ Aside0 (kq ≤ kj4) ∧ Aside0 (Kd.R (Kd.int .i64) 3 w' w.heap.size (fun _ => True) v202 t201) ∧ Aside0 (Kd.R Kd.bool 4 w' w.heap.size (fun _ => True) v213 x5_2) ∧ Aside0 (Below w.heap.size w w'))
              case atStart => exact ⟨(y212), (0), (by first | rfl | (simp; done) | (simp [*]; done)), H', ⟨Nat.le_refl _⟩, ⟨by (with_reducible repeat (first | apply Kd.R_alloc | apply Kd.R_drewN | apply Kd.R_drew)); exact HO_4.out⟩, ⟨by (with_reducible repeat (first | apply Kd.R_alloc | apply Kd.R_drewN | apply Kd.R_drew)); exact HO214.out⟩, ⟨by repeat (first | (with_reducible first | exact HB.out | apply below_alloc | apply pw_below_drewN | apply below_drew1) | exact HB.out)⟩⟩
              case round =>
                clear H'
                try clear c1
                try clear c2
                try clear c2b0
                try clear c2b1
                try clear p2
                try clear c8
                try clear c10
                try clear c17
                try clear c23
                try clear c23b0
                try clear c23b1
                try clear c24
                try clear c24b0
                try clear c24b1
                try clear p2
                obtain ⟨x5_2, x6_2, rfl, HA, HK2, HO_4, HO_5, HB⟩ := hrel
                cases gk with
                | zero => exact absurd HA.out (by simp [laws_FnWovenRows.l0])
                | succ k2 =>
                  have H := HA.out
                  clear HA
                  simp only [laws_FnWovenRows.l0] at H
                  by_cases c27 : x6_2 < (t201.length : Int)
                  · rw [if_pos c27] at H
                    have c27b0 : decide (x6_2 < (t201.length : Int)) = true := decide_eq_true c27
                    clear c27
                    by_cases c28 : 0 ≤ x6_2
                    · rw [if_pos c28] at H
                      have c28b0 : decide (0 ≤ x6_2) = true := decide_eq_true c28
                      clear c28
                      replace H := Option.bind_eq_some_iff.mp H
                      obtain ⟨t216, A290, H⟩ := H
                      replace H : (if t216 = true then (if 0 ≤ (rd t201 x6_2) then (if (rd t201 x6_2) < (x5_2.length : Int) then (if rdOf false x5_2 (rd t201 x6_2) = true then (some false) else (if x6_2 < (wrap64 (Int.tdiv (wrap64 (t200 + 7)) 8)) then (if (rd t201 x6_2) = (wrap64 (8 * x6_2)) then (laws_FnWovenRows.l0 k2 t200 t201 (x5_2.set ((rd t201 x6_2) : Int).toNat true) (wrap64 (x6_2 + 1))) else (some false)) else (laws_FnWovenRows.l0 k2 t200 t201 (x5_2.set ((rd t201 x6_2) : Int).toNat true) (wrap64 (x6_2 + 1))))) else (none)) else (none)) else (some false)) = some r := H
                      have A29 := Aside0.mk A290
                      clear A290
                      by_cases c30 : t216 = true
                      · subst c30
                        have H1 : (if 0 ≤ (rd t201 x6_2) then (if (rd t201 x6_2) < (x5_2.length : Int) then (if rdOf false x5_2 (rd t201 x6_2) = true then (some false) else (if x6_2 < (wrap64 (Int.tdiv (wrap64 (t200 + 7)) 8)) then (if (rd t201 x6_2) = (wrap64 (8 * x6_2)) then (laws_FnWovenRows.l0 k2 t200 t201 (x5_2.set ((rd t201 x6_2) : Int).toNat true) (wrap64 (x6_2 + 1))) else (some false)) else (laws_FnWovenRows.l0 k2 t200 t201 (x5_2.set ((rd t201 x6_2) : Int).toNat true) (wrap64 (x6_2 + 1))))) else (none)) else (none)) = some r := by rw [if_pos rfl] at H; exact H
                        clear H
                        have H := H1
                        clear H1
                        by_cases c31 : 0 ≤ (rd t201 x6_2)
                        · rw [if_pos c31] at H
                          have c31b0 : decide (0 ≤ (rd t201 x6_2)) = true := decide_eq_true c31
                          clear c31
                          by_cases c32 : (rd t201 x6_2) < (x5_2.length : Int)
                          · rw [if_pos c32] at H
                            have c32b0 : decide ((rd t201 x6_2) < (x5_2.length : Int)) = true := decide_eq_true c32
                            clear c32
                            obtain ⟨bq33, hbq33⟩ : ∃ b_ : Bool, b_ = (rdOf false x5_2 (rd t201 x6_2)) := ⟨_, rfl⟩
                            replace H : (if bq33 = true then (some false) else (if x6_2 < (wrap64 (Int.tdiv (wrap64 (t200 + 7)) 8)) then (if (rd t201 x6_2) = (wrap64 (8 * x6_2)) then (laws_FnWovenRows.l0 k2 t200 t201 (x5_2.set ((rd t201 x6_2) : Int).toNat true) (wrap64 (x6_2 + 1))) else (some false)) else (laws_FnWovenRows.l0 k2 t200 t201 (x5_2.set ((rd t201 x6_2) : Int).toNat true) (wrap64 (x6_2 + 1))))) = some r := by rw [← hbq33] at H; exact H
                            have Nbq33 := Aside0.mk hbq33
                            clear hbq33
                            by_cases c34 : bq33 = true
                            · subst c34
                              have H1 : (some false) = some r := by rw [if_pos rfl] at H; exact H
                              clear H
                              have H := H1
                              clear H1
                              obtain rfl := Option.some.inj H
                              obtain ⟨Ao35, co35, eo35⟩ := Kd.R_slice HO_4.out
                              subst eo35
                              have p215 : 0 ≤ (x6_2 : Int) := of_decide_eq_true (by first | (with_reducible assumption) | assumption)
                              have q215 : x6_2 < (t201.length : Int) := of_decide_eq_true (by first | (with_reducible assumption) | assumption)
                              obtain ⟨ad215, e215, hx215_0⟩ := Kd.at_int (Kd.R_reads' HO_4.out).2.2 x6_2 p215 q215
                              cases e215
                              replace p215 := eq_true p215
                              replace q215 := eq_true q215
                              go_wp2_with (first | ((with_reducible refine gate_callee (f := 30) rfl ?_); refine goesL_ (some 42) rfl rfl Try.func30 (by kernel_rfl) rfl #[.int .i64 (rd t201 x6_2), .int .i64 0, .int .i64 (wrap64 (t200 - 1))] rfl (by (try simp only [List.map_toArray, List.map_cons, List.map_nil]); first | done | rfl | (simp only [List.length_drop, List.length_take]; rfl)) ?_; (with_reducible refine (laws_wiIn.calls (rd t201 x6_2) 0 (wrap64 (t200 - 1)) true _ A29.out).mono ?_); rintro e w' ⟨rfl, ⟨nd, rfl⟩⟩; refine ⟨_, rfl, ?_⟩; have p217 : 0 ≤ (x6_2 : Int) := of_decide_eq_true (by first | (with_reducible assumption) | assumption); have q217 : x6_2 < (t201.length : Int) := of_decide_eq_true (by first | (with_reducible assumption) | assumption); obtain ⟨ad217, e217, hx217_0⟩ := Kd.at_int (Kd.R_reads' HO_4.out).2.2 x6_2 p217 q217; obtain rfl : ad215 = ad217 := (by injection e217); replace p217 := eq_true p217; replace q217 := eq_true q217; obtain ⟨Ao36, co36, eo36⟩ := Kd.R_slice HO_5.out; subst eo36; have p218 : 0 ≤ ((rd t201 x6_2) : Int) := of_decide_eq_true (by first | (with_reducible assumption) | assumption); have q218 : (rd t201 x6_2) < (x5_2.length : Int) := of_decide_eq_true (by first | (with_reducible assumption) | assumption); obtain ⟨ad218, e218, hx218_0⟩ := Kd.at_bool (Kd.R_reads' HO_5.out).2.2 (rd t201 x6_2) p218 q218; (try rw [← Nbq33.out] at hx218_0); cases e218; replace p218 := eq_true p218; replace q218 := eq_true q218))
                              go_ret
                              exact ⟨by first | rfl | (simp [errW_none, errW_some] <;> rfl) | (simp [*, errW_none, errW_some] <;> rfl), by repeat (first | (with_reducible first | exact HB.out | apply below_alloc | apply pw_below_drewN | apply below_drew1) | exact HB.out)⟩
                            · replace c34 := Bool.eq_false_iff.mpr c34
                              subst c34
                              have H1 : (if x6_2 < (wrap64 (Int.tdiv (wrap64 (t200 + 7)) 8)) then (if (rd t201 x6_2) = (wrap64 (8 * x6_2)) then (laws_FnWovenRows.l0 k2 t200 t201 (x5_2.set ((rd t201 x6_2) : Int).toNat true) (wrap64 (x6_2 + 1))) else (some false)) else (laws_FnWovenRows.l0 k2 t200 t201 (x5_2.set ((rd t201 x6_2) : Int).toNat true) (wrap64 (x6_2 + 1)))) = some r := by rw [if_neg (show ¬ (false = true) by decide)] at H; exact H
                              clear H
                              have H := H1
                              clear H1
                              by_cases c37 : x6_2 < (wrap64 (Int.tdiv (wrap64 (t200 + 7)) 8))
                              · rw [if_pos c37] at H
                                have c37b0 : decide (x6_2 < (wrap64 (Int.tdiv (wrap64 (t200 + 7)) 8))) = true := decide_eq_true c37
                                clear c37
                                by_cases c38 : (rd t201 x6_2) = (wrap64 (8 * x6_2))
                                · rw [if_pos c38] at H
                                  have c38b0 : ((rd t201 x6_2) == (wrap64 (8 * x6_2))) = true := beq_iff_eq.mpr c38
                                  have c38b1 : ((rd t201 x6_2) != (wrap64 (8 * x6_2))) = false := bne_eq_false_iff_eq.mpr c38
                                  clear c38
                                  obtain ⟨y221, hy221⟩ : ∃ y_ : List Bool, y_ = (x5_2.set ((rd t201 x6_2) : Int).toNat true) := ⟨_, rfl⟩
                                  replace H : (laws_FnWovenRows.l0 k2 t200 t201 y221 (wrap64 (x6_2 + 1))) = some r := by first | (rw [hy221]; with_reducible exact H) | (have H2_ := (Option.bind_some _ _).symm.trans H; rw [hy221]; with_reducible exact H2_) | (have H2_ := (Option.bind_some _ _).symm.trans H; with_reducible exact H2_) | with_reducible exact H | (rw [hy221]; exact H) | exact H
                                  have Ny221 := Aside0.mk hy221
                                  clear hy221
                                  have H' := Aside0.mk H
                                  clear H
                                  obtain ⟨Ao40, co40, eo40⟩ := Kd.R_slice HO_4.out
                                  subst eo40
                                  have p215 : 0 ≤ (x6_2 : Int) := of_decide_eq_true (by first | (with_reducible assumption) | assumption)
                                  have q215 : x6_2 < (t201.length : Int) := of_decide_eq_true (by first | (with_reducible assumption) | assumption)
                                  obtain ⟨ad215, e215, hx215_0⟩ := Kd.at_int (Kd.R_reads' HO_4.out).2.2 x6_2 p215 q215
                                  cases e215
                                  replace p215 := eq_true p215
                                  replace q215 := eq_true q215
                                  go_wp2_with (first | ((with_reducible refine gate_callee (f := 30) rfl ?_); refine goesL_ (some 42) rfl rfl Try.func30 (by kernel_rfl) rfl #[.int .i64 (rd t201 x6_2), .int .i64 0, .int .i64 (wrap64 (t200 - 1))] rfl (by (try simp only [List.map_toArray, List.map_cons, List.map_nil]); first | done | rfl | (simp only [List.length_drop, List.length_take]; rfl)) ?_; (with_reducible refine (laws_wiIn.calls (rd t201 x6_2) 0 (wrap64 (t200 - 1)) true _ A29.out).mono ?_); rintro e w' ⟨rfl, ⟨nd, rfl⟩⟩; refine ⟨_, rfl, ?_⟩; (try (rw [drewN_self wr]; generalize hq_ : World.drewN wr _ = wr; have n0_ : Aside0 (Kd.R (Kd.int .i64) 3 wr w.heap.size (fun _ => True) (.slice (some ad215) t201.length co40) t201) := ⟨by rw [← hq_]; exact (by (with_reducible repeat (first | apply Kd.R_alloc | apply Kd.R_drewN | apply Kd.R_drew)); exact HO_4.out)⟩; have n1_ : Aside0 (Kd.R Kd.bool 4 wr w.heap.size (fun _ => True) v213 x5_2) := ⟨by rw [← hq_]; exact (by (with_reducible repeat (first | apply Kd.R_alloc | apply Kd.R_drewN | apply Kd.R_drew)); exact HO_5.out)⟩; have n2_ : Aside0 (Below w.heap.size w wr) := ⟨by rw [← hq_]; exact (by repeat (first | (with_reducible first | exact HB.out | apply below_alloc | apply pw_below_drewN | apply below_drew1) | exact HB.out))⟩; clear HO_4 HO_5 HB hq_; have HO_4 := n0_; have HO_5 := n1_; have HB := n2_; clear n0_ n1_ n2_)); have p217 : 0 ≤ (x6_2 : Int) := of_decide_eq_true (by first | (with_reducible assumption) | assumption); have q217 : x6_2 < (t201.length : Int) := of_decide_eq_true (by first | (with_reducible assumption) | assumption); obtain ⟨ad217, e217, hx217_0⟩ := Kd.at_int (Kd.R_reads' HO_4.out).2.2 x6_2 p217 q217; obtain rfl : ad215 = ad217 := (by injection e217); replace p217 := eq_true p217; replace q217 := eq_true q217; obtain ⟨Ao41, co41, eo41⟩ := Kd.R_slice HO_5.out; subst eo41; have p218 : 0 ≤ ((rd t201 x6_2) : Int) := of_decide_eq_true (by first | (with_reducible assumption) | assumption); have q218 : (rd t201 x6_2) < (x5_2.length : Int) := of_decide_eq_true (by first | (with_reducible assumption) | assumption); obtain ⟨ad218, e218, hx218_0⟩ := Kd.at_bool (Kd.R_reads' HO_5.out).2.2 (rd t201 x6_2) p218 q218; (try rw [← Nbq33.out] at hx218_0); cases e218; replace p218 := eq_true p218; replace q218 := eq_true q218; have p219 : 0 ≤ (x6_2 : Int) := of_decide_eq_true (by first | (with_reducible assumption) | assumption); have q219 : x6_2 < (t201.length : Int) := of_decide_eq_true (by first | (with_reducible assumption) | assumption); obtain ⟨ad219, e219, hx219_0⟩ := Kd.at_int (Kd.R_reads' HO_4.out).2.2 x6_2 p219 q219; obtain rfl : ad215 = ad219 := (by injection e219); replace p219 := eq_true p219; replace q219 := eq_true q219; have p220 : 0 ≤ (x6_2 : Int) := of_decide_eq_true (by first | (with_reducible assumption) | assumption); have q220 : x6_2 < (t201.length : Int) := of_decide_eq_true (by first | (with_reducible assumption) | assumption); obtain ⟨ad220, e220, hx220_0⟩ := Kd.at_int (Kd.R_reads' HO_4.out).2.2 x6_2 p220 q220; obtain rfl : ad215 = ad220 := (by injection e220); replace p220 := eq_true p220; replace q220 := eq_true q220; have p39 : 0 ≤ ((rd t201 x6_2) : Int) := of_decide_eq_true (by first | (with_reducible assumption) | assumption); have q39 : ((rd t201 x6_2) : Int) < ((x5_2.length : Int) : Int) := of_decide_eq_true (by first | (with_reducible assumption) | assumption); obtain ⟨go39, co39, eo39, gb39, gl39, cl39, HG39⟩ := Kd.R_form HO_5.out (by omega); (first | cases eo39 | (injection eo39 with ea_ en_ ec_; (first | subst ea_ | (injection ea_ with ea_; subst ea_)); subst ec_; clear en_)); have GB39 := Aside0.mk gb39; have GG39 := Aside0.mk HG39; clear gb39 gl39 HG39; (first | simp only [add_plain] at hx218_0 | skip); obtain ⟨hx39_0, hf39_0⟩ := Kd.R_celln false HO_5.out ((rd t201 x6_2) : Int) p39 q39; replace p39 := eq_true p39; replace q39 := eq_true q39; obtain ⟨hy42_, hz42_⟩ := Kd.R_celln false HO_5.out ((rd t201 x6_2) : Int) (of_decide_eq_true (by first | (with_reducible assumption) | assumption)) (of_decide_eq_true (by first | (with_reducible assumption) | assumption)); have HP42 := Kd.R_putg HO_5.out ((rd t201 x6_2) : Int) true) | ((with_reducible refine gate_store (t := 4) (p := 74) rfl ?_); refine store_event (t := 4) (p := 74) (v := ?vo_w43) (w1 := (wr.setCell ⟨go39, ((rd t201 x6_2) : Int).toNat, none⟩ (.bool true))) ?hg ?ho ?hn ?hr ?_; (case ho => rfl); (case hg => rfl); (case hn => rfl); (case hr => first | (go_simp; done) | (go_simp; rfl)); intro w43 hw; have hg : wr.grownBy w43 (some go39) := (by rw [hw]; exact HP42.2); have hp_ : Kd.R Kd.bool 4 w43 w.heap.size (fun _ => True) (.slice (some ⟨go39, 0, none⟩) x5_2.length co41) y221 := (by rw [hw, Ny221.out]; exact HP42.1); clear HP42; have n0_ := Aside0.mk (Kd.R_over' (v := (.slice (some ⟨go39, 0, none⟩) x5_2.length co41)) (by (with_reducible repeat (first | apply Kd.R_alloc | apply Kd.R_drewN | apply Kd.R_drew)); exact HO_4.out) (Kd.R_typed HO_5.out) (by decide) hg); have n1_ := Aside0.mk (hp_); have n2_ := Aside0.mk ((by rw [hw]; exact below_set (HB.out) GB39.out : Below w.heap.size w w43)); clear HO_4; clear HO_5; clear HB; have HO_4 := n0_; have HO_5 := n1_; have HB := n2_; clear n0_ n1_ n2_; clear hg hw hp_))
                                  go_roundg k2
                                  case measure => have := HJ4.out; have := HK2.out; omega
                                  case rel => exact ⟨(y221), (wrap64 (x6_2 + 1)), (by first | rfl | (simp; done) | (simp [*]; done)), H', ⟨by have := HJ4.out; have := HK2.out; omega⟩, ⟨by (with_reducible repeat (first | apply Kd.R_alloc | apply Kd.R_drewN | apply Kd.R_drew)); exact HO_4.out⟩, ⟨by (with_reducible repeat (first | apply Kd.R_alloc | apply Kd.R_drewN | apply Kd.R_drew)); exact HO_5.out⟩, ⟨by repeat (first | (with_reducible first | exact HB.out | apply below_alloc | apply pw_below_drewN | apply below_drew1) | exact HB.out)⟩⟩
                                · rw [if_neg c38] at H
                                  have c38b0 : ((rd t201 x6_2) == (wrap64 (8 * x6_2))) = false := beq_eq_false_iff_ne.mpr c38
                                  have c38b1 : ((rd t201 x6_2) != (wrap64 (8 * x6_2))) = true := bne_iff_ne.mpr c38
                                  obtain rfl := Option.some.inj H
                                  obtain ⟨Ao44, co44, eo44⟩ := Kd.R_slice HO_4.out
                                  subst eo44
                                  have p215 : 0 ≤ (x6_2 : Int) := of_decide_eq_true (by first | (with_reducible assumption) | assumption)
                                  have q215 : x6_2 < (t201.length : Int) := of_decide_eq_true (by first | (with_reducible assumption) | assumption)
                                  obtain ⟨ad215, e215, hx215_0⟩ := Kd.at_int (Kd.R_reads' HO_4.out).2.2 x6_2 p215 q215
                                  cases e215
                                  replace p215 := eq_true p215
                                  replace q215 := eq_true q215
                                  go_wp2_with (first | ((with_reducible refine gate_callee (f := 30) rfl ?_); refine goesL_ (some 42) rfl rfl Try.func30 (by kernel_rfl) rfl #[.int .i64 (rd t201 x6_2), .int .i64 0, .int .i64 (wrap64 (t200 - 1))] rfl (by (try simp only [List.map_toArray, List.map_cons, List.map_nil]); first | done | rfl | (simp only [List.length_drop, List.length_take]; rfl)) ?_; (with_reducible refine (laws_wiIn.calls (rd t201 x6_2) 0 (wrap64 (t200 - 1)) true _ A29.out).mono ?_); rintro e w' ⟨rfl, ⟨nd, rfl⟩⟩; refine ⟨_, rfl, ?_⟩; have p217 : 0 ≤ (x6_2 : Int) := of_decide_eq_true (by first | (with_reducible assumption) | assumption); have q217 : x6_2 < (t201.length : Int) := of_decide_eq_true (by first | (with_reducible assumption) | assumption); obtain ⟨ad217, e217, hx217_0⟩ := Kd.at_int (Kd.R_reads' HO_4.out).2.2 x6_2 p217 q217; obtain rfl : ad215 = ad217 := (by injection e217); replace p217 := eq_true p217; replace q217 := eq_true q217; obtain ⟨Ao45, co45, eo45⟩ := Kd.R_slice HO_5.out; subst eo45; have p218 : 0 ≤ ((rd t201 x6_2) : Int) := of_decide_eq_true (by first | (with_reducible assumption) | assumption); have q218 : (rd t201 x6_2) < (x5_2.length : Int) := of_decide_eq_true (by first | (with_reducible assumption) | assumption); obtain ⟨ad218, e218, hx218_0⟩ := Kd.at_bool (Kd.R_reads' HO_5.out).2.2 (rd t201 x6_2) p218 q218; (try rw [← Nbq33.out] at hx218_0); cases e218; replace p218 := eq_true p218; replace q218 := eq_true q218; have p219 : 0 ≤ (x6_2 : Int) := of_decide_eq_true (by first | (with_reducible assumption) | assumption); have q219 : x6_2 < (t201.length : Int) := of_decide_eq_true (by first | (with_reducible assumption) | assumption); obtain ⟨ad219, e219, hx219_0⟩ := Kd.at_int (Kd.R_reads' HO_4.out).2.2 x6_2 p219 q219; obtain rfl : ad215 = ad219 := (by injection e219); replace p219 := eq_true p219; replace q219 := eq_true q219))
                                  go_ret
                                  exact ⟨by first | rfl | (simp [errW_none, errW_some] <;> rfl) | (simp [*, errW_none, errW_some] <;> rfl), by repeat (first | (with_reducible first | exact HB.out | apply below_alloc | apply pw_below_drewN | apply below_drew1) | exact HB.out)⟩
                              · rw [if_neg c37] at H
                                have c37b0 : decide (x6_2 < (wrap64 (Int.tdiv (wrap64 (t200 + 7)) 8))) = false := decide_eq_false c37
                                clear c37
                                obtain ⟨y223, hy223⟩ : ∃ y_ : List Bool, y_ = (x5_2.set ((rd t201 x6_2) : Int).toNat true) := ⟨_, rfl⟩
                                replace H : (laws_FnWovenRows.l0 k2 t200 t201 y223 (wrap64 (x6_2 + 1))) = some r := by first | (rw [hy223]; with_reducible exact H) | (have H2_ := (Option.bind_some _ _).symm.trans H; rw [hy223]; with_reducible exact H2_) | (have H2_ := (Option.bind_some _ _).symm.trans H; with_reducible exact H2_) | with_reducible exact H | (rw [hy223]; exact H) | exact H
                                have Ny223 := Aside0.mk hy223
                                clear hy223
                                have H' := Aside0.mk H
                                clear H
                                obtain ⟨Ao47, co47, eo47⟩ := Kd.R_slice HO_4.out
                                subst eo47
                                have p215 : 0 ≤ (x6_2 : Int) := of_decide_eq_true (by first | (with_reducible assumption) | assumption)
                                have q215 : x6_2 < (t201.length : Int) := of_decide_eq_true (by first | (with_reducible assumption) | assumption)
                                obtain ⟨ad215, e215, hx215_0⟩ := Kd.at_int (Kd.R_reads' HO_4.out).2.2 x6_2 p215 q215
                                cases e215
                                replace p215 := eq_true p215
                                replace q215 := eq_true q215
                                go_wp2_with (first | ((with_reducible refine gate_callee (f := 30) rfl ?_); refine goesL_ (some 42) rfl rfl Try.func30 (by kernel_rfl) rfl #[.int .i64 (rd t201 x6_2), .int .i64 0, .int .i64 (wrap64 (t200 - 1))] rfl (by (try simp only [List.map_toArray, List.map_cons, List.map_nil]); first | done | rfl | (simp only [List.length_drop, List.length_take]; rfl)) ?_; (with_reducible refine (laws_wiIn.calls (rd t201 x6_2) 0 (wrap64 (t200 - 1)) true _ A29.out).mono ?_); rintro e w' ⟨rfl, ⟨nd, rfl⟩⟩; refine ⟨_, rfl, ?_⟩; (try (rw [drewN_self wr]; generalize hq_ : World.drewN wr _ = wr; have n0_ : Aside0 (Kd.R (Kd.int .i64) 3 wr w.heap.size (fun _ => True) (.slice (some ad215) t201.length co47) t201) := ⟨by rw [← hq_]; exact (by (with_reducible repeat (first | apply Kd.R_alloc | apply Kd.R_drewN | apply Kd.R_drew)); exact HO_4.out)⟩; have n1_ : Aside0 (Kd.R Kd.bool 4 wr w.heap.size (fun _ => True) v213 x5_2) := ⟨by rw [← hq_]; exact (by (with_reducible repeat (first | apply Kd.R_alloc | apply Kd.R_drewN | apply Kd.R_drew)); exact HO_5.out)⟩; have n2_ : Aside0 (Below w.heap.size w wr) := ⟨by rw [← hq_]; exact (by repeat (first | (with_reducible first | exact HB.out | apply below_alloc | apply pw_below_drewN | apply below_drew1) | exact HB.out))⟩; clear HO_4 HO_5 HB hq_; have HO_4 := n0_; have HO_5 := n1_; have HB := n2_; clear n0_ n1_ n2_)); have p217 : 0 ≤ (x6_2 : Int) := of_decide_eq_true (by first | (with_reducible assumption) | assumption); have q217 : x6_2 < (t201.length : Int) := of_decide_eq_true (by first | (with_reducible assumption) | assumption); obtain ⟨ad217, e217, hx217_0⟩ := Kd.at_int (Kd.R_reads' HO_4.out).2.2 x6_2 p217 q217; obtain rfl : ad215 = ad217 := (by injection e217); replace p217 := eq_true p217; replace q217 := eq_true q217; obtain ⟨Ao48, co48, eo48⟩ := Kd.R_slice HO_5.out; subst eo48; have p218 : 0 ≤ ((rd t201 x6_2) : Int) := of_decide_eq_true (by first | (with_reducible assumption) | assumption); have q218 : (rd t201 x6_2) < (x5_2.length : Int) := of_decide_eq_true (by first | (with_reducible assumption) | assumption); obtain ⟨ad218, e218, hx218_0⟩ := Kd.at_bool (Kd.R_reads' HO_5.out).2.2 (rd t201 x6_2) p218 q218; (try rw [← Nbq33.out] at hx218_0); cases e218; replace p218 := eq_true p218; replace q218 := eq_true q218; have p222 : 0 ≤ (x6_2 : Int) := of_decide_eq_true (by first | (with_reducible assumption) | assumption); have q222 : x6_2 < (t201.length : Int) := of_decide_eq_true (by first | (with_reducible assumption) | assumption); obtain ⟨ad222, e222, hx222_0⟩ := Kd.at_int (Kd.R_reads' HO_4.out).2.2 x6_2 p222 q222; obtain rfl : ad215 = ad222 := (by injection e222); replace p222 := eq_true p222; replace q222 := eq_true q222; have p46 : 0 ≤ ((rd t201 x6_2) : Int) := of_decide_eq_true (by first | (with_reducible assumption) | assumption); have q46 : ((rd t201 x6_2) : Int) < ((x5_2.length : Int) : Int) := of_decide_eq_true (by first | (with_reducible assumption) | assumption); obtain ⟨go46, co46, eo46, gb46, gl46, cl46, HG46⟩ := Kd.R_form HO_5.out (by omega); (first | cases eo46 | (injection eo46 with ea_ en_ ec_; (first | subst ea_ | (injection ea_ with ea_; subst ea_)); subst ec_; clear en_)); have GB46 := Aside0.mk gb46; have GG46 := Aside0.mk HG46; clear gb46 gl46 HG46; (first | simp only [add_plain] at hx218_0 | skip); obtain ⟨hx46_0, hf46_0⟩ := Kd.R_celln false HO_5.out ((rd t201 x6_2) : Int) p46 q46; replace p46 := eq_true p46; replace q46 := eq_true q46; obtain ⟨hy49_, hz49_⟩ := Kd.R_celln false HO_5.out ((rd t201 x6_2) : Int) (of_decide_eq_true (by first | (with_reducible assumption) | assumption)) (of_decide_eq_true (by first | (with_reducible assumption) | assumption)); have HP49 := Kd.R_putg HO_5.out ((rd t201 x6_2) : Int) true) | ((with_reducible refine gate_store (t := 4) (p := 74) rfl ?_); refine store_event (t := 4) (p := 74) (v := ?vo_w50) (w1 := (wr.setCell ⟨go46, ((rd t201 x6_2) : Int).toNat, none⟩ (.bool true))) ?hg ?ho ?hn ?hr ?_; (case ho => rfl); (case hg => rfl); (case hn => rfl); (case hr => first | (go_simp; done) | (go_simp; rfl)); intro w50 hw; have hg : wr.grownBy w50 (some go46) := (by rw [hw]; exact HP49.2); have hp_ : Kd.R Kd.bool 4 w50 w.heap.size (fun _ => True) (.slice (some ⟨go46, 0, none⟩) x5_2.length co48) y223 := (by rw [hw, Ny223.out]; exact HP49.1); clear HP49; have n0_ := Aside0.mk (Kd.R_over' (v := (.slice (some ⟨go46, 0, none⟩) x5_2.length co48)) (by (with_reducible repeat (first | apply Kd.R_alloc | apply Kd.R_drewN | apply Kd.R_drew)); exact HO_4.out) (Kd.R_typed HO_5.out) (by decide) hg); have n1_ := Aside0.mk (hp_); have n2_ := Aside0.mk ((by rw [hw]; exact below_set (HB.out) GB46.out : Below w.heap.size w w50)); clear HO_4; clear HO_5; clear HB; have HO_4 := n0_; have HO_5 := n1_; have HB := n2_; clear n0_ n1_ n2_; clear hg hw hp_))
                                go_roundg k2
                                case measure => have := HJ4.out; have := HK2.out; omega
                                case rel => exact ⟨(y223), (wrap64 (x6_2 + 1)), (by first | rfl | (simp; done) | (simp [*]; done)), H', ⟨by have := HJ4.out; have := HK2.out; omega⟩, ⟨by (with_reducible repeat (first | apply Kd.R_alloc | apply Kd.R_drewN | apply Kd.R_drew)); exact HO_4.out⟩, ⟨by (with_reducible repeat (first | apply Kd.R_alloc | apply Kd.R_drewN | apply Kd.R_drew)); exact HO_5.out⟩, ⟨by repeat (first | (with_reducible first | exact HB.out | apply below_alloc | apply pw_below_drewN | apply below_drew1) | exact HB.out)⟩⟩
                          · rw [if_neg c32] at H
                            exact absurd H (by simp)
                        · rw [if_neg c31] at H
                          exact absurd H (by simp)
                      · replace c30 := Bool.eq_false_iff.mpr c30
                        subst c30
                        have H1 : (some false) = some r := by rw [if_neg (show ¬ (false = true) by decide)] at H; exact H
                        clear H
                        have H := H1
                        clear H1
                        obtain rfl := Option.some.inj H
                        obtain ⟨Ao51, co51, eo51⟩ := Kd.R_slice HO_4.out
                        subst eo51
                        have p215 : 0 ≤ (x6_2 : Int) := of_decide_eq_true (by first | (with_reducible assumption) | assumption)
                        have q215 : x6_2 < (t201.length : Int) := of_decide_eq_true (by first | (with_reducible assumption) | assumption)
                        obtain ⟨ad215, e215, hx215_0⟩ := Kd.at_int (Kd.R_reads' HO_4.out).2.2 x6_2 p215 q215
                        cases e215
                        replace p215 := eq_true p215
                        replace q215 := eq_true q215
                        go_wp2_with (first | ((with_reducible refine gate_callee (f := 30) rfl ?_); refine goesL_ (some 42) rfl rfl Try.func30 (by kernel_rfl) rfl #[.int .i64 (rd t201 x6_2), .int .i64 0, .int .i64 (wrap64 (t200 - 1))] rfl (by (try simp only [List.map_toArray, List.map_cons, List.map_nil]); first | done | rfl | (simp only [List.length_drop, List.length_take]; rfl)) ?_; (with_reducible refine (laws_wiIn.calls (rd t201 x6_2) 0 (wrap64 (t200 - 1)) false _ A29.out).mono ?_); rintro e w' ⟨rfl, ⟨nd, rfl⟩⟩; refine ⟨_, rfl, ?_⟩))
                        go_ret
                        exact ⟨by first | rfl | (simp [errW_none, errW_some] <;> rfl) | (simp [*, errW_none, errW_some] <;> rfl), by repeat (first | (with_reducible first | exact HB.out | apply below_alloc | apply pw_below_drewN | apply below_drew1) | exact HB.out)⟩
                    · rw [if_neg c28] at H
                      exact absurd H (by simp)
                  · rw [if_neg c27] at H
                    have c27b0 : decide (x6_2 < (t201.length : Int)) = false := decide_eq_false c27
                    clear c27
                    obtain rfl := Option.some.inj H
                    obtain ⟨Ao52, co52, eo52⟩ := Kd.R_slice HO_4.out
                    subst eo52
                    go_wp2
                    go_ret
                    exact ⟨by first | rfl | (simp [errW_none, errW_some] <;> rfl) | (simp [*, errW_none, errW_some] <;> rfl), by repeat (first | (with_reducible first | exact HB.out | apply below_alloc | apply pw_below_drewN | apply below_drew1) | exact HB.out)⟩
            · rw [if_neg c24] at H
              exact absurd H (by simp)
          · rw [if_neg c23] at H
            exact absurd H (by simp)

/-- THE ONE PURE STATEMENT of laws_FnWovenRows: yours. -/
def laws_FnWovenRows.Pure : Prop := ∀ (l0 : List Int), l0.length ≤ maxLen → l0.length * 1 ≤ 140737488351232 → (∀ x ∈ l0, (Lit.int .u8 x).wf = true) → ∃ k, laws_FnWovenRows.f k l0 = some true
theorem laws_FnWovenRows.walk (P : laws_FnWovenRows.Pure) (a0 : Option Addr) (len0 cap0 : Nat) (z0 : List Int) (w : World) (w0 : (a0 = none ∧ len0 = 0 ∧ cap0 = 0 ∧ z0 = []) ∨ ∃ x, a0 = some x ∧ len0 ≤ cap0 ∧ cap0 ≤ maxLen ∧ z0.length = cap0 ∧ (∀ i, i < z0.length → w.cell? (x.add i) = some (.int .u8 (z0.getD i 0))) ∧ ∀ n ∈ z0, (Lit.int .u8 n).wf = true) (y0 : len0 * 1 ≤ 140737488351232) :
    Calls Try.prog 8 #[.slice a0 len0 cap0] w fun e w' => e = .returned (.bool true) ∧ Below w.heap.size w w' := by
  obtain ⟨l0, rfl, hr0, hm0, hw0, hc0⟩ := ReadsInt.ofRowC w0
  obtain ⟨k, h⟩ := P l0 hm0 y0 hw0
  refine (laws_FnWovenRows.calls k _ _ l0 true w (Kd.C_of_reads (d := (0 : Int)) (h1 := fun _ => rfl) hr0) hc0 h).mono ?_
  rintro e w' ⟨rfl, hd⟩
  exact ⟨rfl, hd⟩

end Go.Proofs.Yteikopjhekhchaa.P
