-- Several texts of this session in one (wip/merge.py).
import Derived.Test.YtjcamejbdcaokaaF00
import Derived.Test.YtjcamejbdcaokaaF74
import Derived.Test.YtjcamejbdcaokaaF75
import Derived.Test.YtjcamejbdcaokaaF77
import Derived.Test.YtjcamejbdcaokaaF114
import Derived.Test.YtjcamejbdcaokaaGFnRowGetF115
-- Written by a program of this session (wip/myprint.py) through the print of the kit: not trusted, Lean checks it.
namespace Go.Proofs.Ytjcamejbdcaokaa.P
open Go.RowKit Go.Proofs.YtjcamejbdcaokaaW.PrintWords Go.Proofs.YtjcamejbdcaokaaW.PrintLast Go.Proofs.YtjcamejbdcaokaaW.PrintMore
attribute [local go_sem] max2_int min2_int max_two min_two max_three min_three max_four min_four   -- for this text's walks alone
set_option linter.unusedVariables false
set_option linter.unusedSimpArgs false

/-! ### spec_DrawRowGet: function 44 -/
def spec_DrawRowGet.f (k : Nat) (l0 : List Int) : Option (ByteArray × Int × Int) := (spec_l1Open.f l0).bind fun bt746 => ((spec_DrawRowPut.f k l0).bind fun bt749 => ((spec_RowPut.f k bt749.1 bt749.2).bind fun t753 => ((spec_l1Rd_pick.f k bt746.1 bt746.2 5).bind fun bt754 => (if bt754.1 = 0 then ((spec_l14Text.f k bt746.1 bt754.2).bind fun bt756 => ((some (([0, 0, 0, 1, (-1)] : List Int) : List Int)).bind fun y758 => ((spec_l1Rd_pick.f k bt746.1 bt756.2 5).bind fun bt761 => (if 0 ≤ bt761.1 then (if bt761.1 < (y758.length : Int) then (some (bt756.1, bt749.2, wrap64 ((bt749.1.length : Int) + (rd y758 bt761.1)))) else (none)) else (none))))) else ((some (([0, 0, 0, 1, (-1)] : List Int) : List Int)).bind fun y764 => ((spec_l1Rd_pick.f k bt746.1 bt754.2 5).bind fun bt767 => (if 0 ≤ bt767.1 then (if bt767.1 < (y764.length : Int) then (some (t753, bt749.2, wrap64 ((bt749.1.length : Int) + (rd y764 bt767.1)))) else (none)) else (none))))))))
theorem spec_DrawRowGet.mono : ∀ a0 k, LeO (spec_DrawRowGet.f k a0) (spec_DrawRowGet.f (k + 1) a0) := by
  intro a0 k
  unfold spec_DrawRowGet.f
  repeat' first
      | (with_reducible exact spec_DrawRowPut.mono _ _)
      | (with_reducible exact spec_RowPut.mono _ _ _)
      | (with_reducible exact spec_l14Text.mono _ _ _)
      | (with_reducible exact spec_l1Rd_pick.mono _ _ _ _)
      | (with_reducible exact LeO.refl _)
      | (with_reducible exact LeO.none _)
      | (with_reducible refine LeO.ite ?_ ?_)
      | (with_reducible refine LeO.bind ?_ (fun _ => ?_))
      | exact spec_DrawRowPut.mono _ _
      | exact spec_RowPut.mono _ _ _
      | exact spec_l14Text.mono _ _ _
      | exact spec_l1Rd_pick.mono _ _ _ _
      | exact LeO.none _
      | refine LeO.ite ?_ ?_
      | refine LeO.bind ?_ (fun _ => ?_)
def spec_DrawRowGet.T6 : Bool × List (List Nat × List Nat) := (true, [([], []), ([], []), ([], []), ([2], [2]), ([], []), ([], []), ([5], [5]), ([4, 6], [4, 6]), ([7], [7]), ([3, 8], [3, 8]), ([0, 6, 0], [0]), ([1, 10, 0, 1, 10], [1]), ([9, 11, 0, 1, 2, 3, 4, 5, 6, 7, 8, 9, 10, 11], [9])])
def spec_DrawRowGet.B6 : List Nat := [0, 0, 0, 4, 0, 0, 32, 112, 240, 508, 97, 1123, 4095]
theorem spec_DrawRowGet.tab6 : rtab .any (opsOf Try.f44 6) = spec_DrawRowGet.T6 := by kernel_rfl
theorem spec_DrawRowGet.bits6 : waitsOk spec_DrawRowGet.T6.2 spec_DrawRowGet.B6 = true := by kernel_rfl
set_option maxHeartbeats 8000000 in
set_option maxRecDepth 100000 in
theorem spec_DrawRowGet.calls (k : Nat) (A0 : Option Addr) (c0 : Nat) (l0 : List Int) (r1 : ByteArray) (r2 : Int) (r3 : Int) (w : World) (hr0 : Kd.C (Kd.int .u8) w A0 l0.length l0) (hc0 : l0.length ≤ c0) (h : spec_DrawRowGet.f k l0 = some (r1, r2, r3)) :
    Calls Try.prog 44 #[.slice A0 l0.length c0] w fun e w' => e = .returned (.tuple #[.string r1, .int .i64 r2, .int .i64 r3]) ∧ Below w.heap.size w w' := by
  have HR0 := Aside0.mk hr0
  have HC0 := Aside0.mk hc0
  clear hr0 hc0
  have HB := Aside0.mk (Below.refl w.heap.size w)
  have H : ((spec_l1Open.f l0).bind fun bt746 => ((spec_DrawRowPut.f k l0).bind fun bt749 => ((spec_RowPut.f k bt749.1 bt749.2).bind fun t753 => ((spec_l1Rd_pick.f k bt746.1 bt746.2 5).bind fun bt754 => (if bt754.1 = 0 then ((spec_l14Text.f k bt746.1 bt754.2).bind fun bt756 => ((some (([0, 0, 0, 1, (-1)] : List Int) : List Int)).bind fun y758 => ((spec_l1Rd_pick.f k bt746.1 bt756.2 5).bind fun bt761 => (if 0 ≤ bt761.1 then (if bt761.1 < (y758.length : Int) then (some (bt756.1, bt749.2, wrap64 ((bt749.1.length : Int) + (rd y758 bt761.1)))) else (none)) else (none))))) else ((some (([0, 0, 0, 1, (-1)] : List Int) : List Int)).bind fun y764 => ((spec_l1Rd_pick.f k bt746.1 bt754.2 5).bind fun bt767 => (if 0 ≤ bt767.1 then (if bt767.1 < (y764.length : Int) then (some (t753, bt749.2, wrap64 ((bt749.1.length : Int) + (rd y764 bt767.1)))) else (none)) else (none))))))))) = some (r1, r2, r3) := h
  clear h
  replace H := Option.bind_eq_some_iff.mp H
  obtain ⟨⟨t746, t747⟩, A20, H⟩ := H
  replace H : ((spec_DrawRowPut.f k l0).bind fun bt749 => ((spec_RowPut.f k bt749.1 bt749.2).bind fun t753 => ((spec_l1Rd_pick.f k t746 t747 5).bind fun bt754 => (if bt754.1 = 0 then ((spec_l14Text.f k t746 bt754.2).bind fun bt756 => ((some (([0, 0, 0, 1, (-1)] : List Int) : List Int)).bind fun y758 => ((spec_l1Rd_pick.f k t746 bt756.2 5).bind fun bt761 => (if 0 ≤ bt761.1 then (if bt761.1 < (y758.length : Int) then (some (bt756.1, bt749.2, wrap64 ((bt749.1.length : Int) + (rd y758 bt761.1)))) else (none)) else (none))))) else ((some (([0, 0, 0, 1, (-1)] : List Int) : List Int)).bind fun y764 => ((spec_l1Rd_pick.f k t746 bt754.2 5).bind fun bt767 => (if 0 ≤ bt767.1 then (if bt767.1 < (y764.length : Int) then (some (t753, bt749.2, wrap64 ((bt749.1.length : Int) + (rd y764 bt767.1)))) else (none)) else (none)))))))) = some (r1, r2, r3) := H
  have A2 := Aside0.mk A20
  clear A20
  replace H := Option.bind_eq_some_iff.mp H
  obtain ⟨⟨t749, t750⟩, A30, H⟩ := H
  replace H : ((spec_RowPut.f k t749 t750).bind fun t753 => ((spec_l1Rd_pick.f k t746 t747 5).bind fun bt754 => (if bt754.1 = 0 then ((spec_l14Text.f k t746 bt754.2).bind fun bt756 => ((some (([0, 0, 0, 1, (-1)] : List Int) : List Int)).bind fun y758 => ((spec_l1Rd_pick.f k t746 bt756.2 5).bind fun bt761 => (if 0 ≤ bt761.1 then (if bt761.1 < (y758.length : Int) then (some (bt756.1, t750, wrap64 ((t749.length : Int) + (rd y758 bt761.1)))) else (none)) else (none))))) else ((some (([0, 0, 0, 1, (-1)] : List Int) : List Int)).bind fun y764 => ((spec_l1Rd_pick.f k t746 bt754.2 5).bind fun bt767 => (if 0 ≤ bt767.1 then (if bt767.1 < (y764.length : Int) then (some (t753, t750, wrap64 ((t749.length : Int) + (rd y764 bt767.1)))) else (none)) else (none))))))) = some (r1, r2, r3) := H
  have A3 := Aside0.mk A30
  clear A30
  replace H := Option.bind_eq_some_iff.mp H
  obtain ⟨t753, A40, H⟩ := H
  replace H : ((spec_l1Rd_pick.f k t746 t747 5).bind fun bt754 => (if bt754.1 = 0 then ((spec_l14Text.f k t746 bt754.2).bind fun bt756 => ((some (([0, 0, 0, 1, (-1)] : List Int) : List Int)).bind fun y758 => ((spec_l1Rd_pick.f k t746 bt756.2 5).bind fun bt761 => (if 0 ≤ bt761.1 then (if bt761.1 < (y758.length : Int) then (some (bt756.1, t750, wrap64 ((t749.length : Int) + (rd y758 bt761.1)))) else (none)) else (none))))) else ((some (([0, 0, 0, 1, (-1)] : List Int) : List Int)).bind fun y764 => ((spec_l1Rd_pick.f k t746 bt754.2 5).bind fun bt767 => (if 0 ≤ bt767.1 then (if bt767.1 < (y764.length : Int) then (some (t753, t750, wrap64 ((t749.length : Int) + (rd y764 bt767.1)))) else (none)) else (none)))))) = some (r1, r2, r3) := H
  have A4 := Aside0.mk A40
  clear A40
  replace H := Option.bind_eq_some_iff.mp H
  obtain ⟨⟨t754, t755⟩, A50, H⟩ := H
  replace H : (if t754 = 0 then ((spec_l14Text.f k t746 t755).bind fun bt756 => ((some (([0, 0, 0, 1, (-1)] : List Int) : List Int)).bind fun y758 => ((spec_l1Rd_pick.f k t746 bt756.2 5).bind fun bt761 => (if 0 ≤ bt761.1 then (if bt761.1 < (y758.length : Int) then (some (bt756.1, t750, wrap64 ((t749.length : Int) + (rd y758 bt761.1)))) else (none)) else (none))))) else ((some (([0, 0, 0, 1, (-1)] : List Int) : List Int)).bind fun y764 => ((spec_l1Rd_pick.f k t746 t755 5).bind fun bt767 => (if 0 ≤ bt767.1 then (if bt767.1 < (y764.length : Int) then (some (t753, t750, wrap64 ((t749.length : Int) + (rd y764 bt767.1)))) else (none)) else (none))))) = some (r1, r2, r3) := H
  have A5 := Aside0.mk A50
  clear A50
  by_cases c6 : t754 = 0
  · rw [if_pos c6] at H
    have c6b0 : (t754 == 0) = true := beq_iff_eq.mpr c6
    have c6b1 : (t754 != 0) = false := bne_eq_false_iff_eq.mpr c6
    clear c6
    replace H := Option.bind_eq_some_iff.mp H
    obtain ⟨⟨t756, t757⟩, A70, H⟩ := H
    replace H : ((some (([0, 0, 0, 1, (-1)] : List Int) : List Int)).bind fun y758 => ((spec_l1Rd_pick.f k t746 t757 5).bind fun bt761 => (if 0 ≤ bt761.1 then (if bt761.1 < (y758.length : Int) then (some (t756, t750, wrap64 ((t749.length : Int) + (rd y758 bt761.1)))) else (none)) else (none)))) = some (r1, r2, r3) := H
    have A7 := Aside0.mk A70
    clear A70
    obtain ⟨y758, hy758⟩ : ∃ y_ : List Int, y_ = (([0, 0, 0, 1, (-1)] : List Int)) := ⟨_, rfl⟩
    replace H : ((spec_l1Rd_pick.f k t746 t757 5).bind fun bt761 => (if 0 ≤ bt761.1 then (if bt761.1 < (y758.length : Int) then (some (t756, t750, wrap64 ((t749.length : Int) + (rd y758 bt761.1)))) else (none)) else (none))) = some (r1, r2, r3) := by first | (rw [hy758]; with_reducible exact H) | (have H2_ := (Option.bind_some _ _).symm.trans H; rw [hy758]; with_reducible exact H2_) | (have H2_ := (Option.bind_some _ _).symm.trans H; with_reducible exact H2_) | with_reducible exact H | (rw [hy758]; exact H) | exact H
    have Ny758 := Aside0.mk hy758
    clear hy758
    replace H := Option.bind_eq_some_iff.mp H
    obtain ⟨⟨t761, t762⟩, A80, H⟩ := H
    replace H : (if 0 ≤ t761 then (if t761 < (y758.length : Int) then (some (t756, t750, wrap64 ((t749.length : Int) + (rd y758 t761)))) else (none)) else (none)) = some (r1, r2, r3) := H
    have A8 := Aside0.mk A80
    clear A80
    by_cases c9 : 0 ≤ t761
    · rw [if_pos c9] at H
      have c9b0 : decide (0 ≤ t761) = true := decide_eq_true c9
      clear c9
      by_cases c10 : t761 < (y758.length : Int)
      · rw [if_pos c10] at H
        have c10b0 : decide (t761 < (y758.length : Int)) = true := decide_eq_true c10
        clear c10
        simp only [Option.some.injEq, Prod.mk.injEq] at H
        obtain ⟨rfl, rfl, rfl⟩ := H
        go_enter Try.func44, Try.ntmps44
        try go_wp2_with (first | ((with_reducible refine gate_callee (f := 74) rfl ?_); refine goesL_ (some 10) rfl rfl Try.func74 (by kernel_rfl) rfl #[.slice A0 l0.length c0] rfl (by (try simp only [List.map_toArray, List.map_cons, List.map_nil]); first | done | rfl | (simp only [List.length_drop, List.length_take]; rfl)) ?_; (with_reducible refine (spec_l1Open.calls _ _ l0 t746 t747 w _ ?side1 ?side2 ?side3 A2.out).mono ?_); (case side1 => repeat (first | (with_reducible first | exact HB.out | apply below_alloc | apply pw_below_drewN | apply below_drew1) | exact HB.out)); (case side2 => exact HR0.out); (case side3 => exact HC0.out); rintro e w11 ⟨g748, rfl, hi, hb, hb2⟩; refine ⟨_, rfl, ?_⟩; have n0_ := Aside0.mk (hb); have n1_ := Aside0.mk (hi); clear HB; have HB := n0_; have HI748 := n1_; clear n0_ n1_; (try clear hb); (try clear hb2); (try clear hk); (try clear hi)) | ((with_reducible refine gate_callee (f := 114) rfl ?_); refine goesL_ (some 13) rfl rfl Try.func114 (by kernel_rfl) rfl #[.slice A0 l0.length c0] rfl (by (try simp only [List.map_toArray, List.map_cons, List.map_nil]); first | done | rfl | (simp only [List.length_drop, List.length_take]; rfl)) ?_; (with_reducible refine (spec_DrawRowPut.calls k _ _ l0 t749 t750 _ ?side1 ?side2 A3.out).mono ?_); (case side1 => repeat (first | exact (Kd.C_below HR0.out HB.out) | (with_reducible refine Kd.C_alloc ?_ _) | (with_reducible refine Kd.C_drewN ?_ _) | (with_reducible refine Kd.C_drew ?_))); (case side2 => exact HC0.out); rintro e w12 ⟨v751, rfl, ho0, hb⟩; refine ⟨_, rfl, ?_⟩; have n0_ := Aside0.mk (Kd.R_lower ho0 (below_size (by repeat (first | (with_reducible first | exact HB.out | apply below_alloc | apply pw_below_drewN | apply below_drew1 | refine below_set ?_ (IsS149.ge HI748.out)) | exact HB.out)))); have n1_ := Aside0.mk (IsS149.below (by repeat (first | (with_reducible first | exact HI748.out | apply IsS149.alloc | apply IsS149.drewN | apply IsS149.drew | apply IsS149.set_1) | exact HI748.out)) hb); have n2_ := Aside0.mk (below_step (by repeat (first | (with_reducible first | exact HB.out | apply below_alloc | apply pw_below_drewN | apply below_drew1 | refine below_set ?_ (IsS149.ge HI748.out)) | exact HB.out)) hb); clear HI748; clear HB; have HO752 := n0_; have HI748 := n1_; have HB := n2_; clear n0_ n1_ n2_; (try clear hb); (try clear hb2); (try clear hk); (try clear hi); (try clear ho0); obtain ⟨Ao13, co13, eo13⟩ := Kd.R_slice HO752.out; subst eo13) | ((with_reducible refine gate_callee (f := 115) rfl ?_); refine goesL_ (some 18) rfl rfl Try.func115 (by kernel_rfl) rfl #[.slice Ao13 t749.length co13, .int .i64 t750] rfl (by (try simp only [List.map_toArray, List.map_cons, List.map_nil]); first | done | rfl | (simp only [List.length_drop, List.length_take]; rfl)) ?_; (with_reducible refine (spec_RowPut.calls k _ _ t749 t750 t753 _ ?side1 ?side2 A4.out).mono ?_); (case side1 => repeat (first | exact (Kd.R_reads' HO752.out).2.2 | (with_reducible refine Kd.C_alloc ?_ _) | (with_reducible refine Kd.C_drewN ?_ _) | (with_reducible refine Kd.C_drew ?_))); (case side2 => exact (Kd.R_reads' HO752.out).2.1); rintro e w14 ⟨rfl, hb⟩; refine ⟨_, rfl, ?_⟩; have n0_ := Aside0.mk (Kd.R_below (by (with_reducible repeat (first | apply Kd.R_alloc | apply Kd.R_drewN | apply Kd.R_drew)); exact HO752.out) hb); have n1_ := Aside0.mk (IsS149.below (by repeat (first | (with_reducible first | exact HI748.out | apply IsS149.alloc | apply IsS149.drewN | apply IsS149.drew | apply IsS149.set_1) | exact HI748.out)) hb); have n2_ := Aside0.mk (below_step (by repeat (first | (with_reducible first | exact HB.out | apply below_alloc | apply pw_below_drewN | apply below_drew1 | refine below_set ?_ (IsS149.ge HI748.out)) | exact HB.out)) hb); clear HO752; clear HI748; clear HB; have HO752 := n0_; have HI748 := n1_; have HB := n2_; clear n0_ n1_ n2_; (try clear hb); (try clear hb2); (try clear hk); (try clear hi)) | ((with_reducible refine gate_callee (f := 75) rfl ?_); refine goesL_ (some 20) rfl rfl Try.func75 (by kernel_rfl) rfl #[.pointer (some ⟨g748, 0, none⟩), .int .i64 5] rfl (by (try simp only [List.map_toArray, List.map_cons, List.map_nil]); first | done | rfl | (simp only [List.length_drop, List.length_take]; rfl)) ?_; (with_reducible refine (spec_l1Rd_pick.calls k g748 t746 t747 5 t754 t755 w _ ?side1 ?side2 A5.out).mono ?_); (case side1 => repeat (first | (with_reducible first | exact HI748.out | apply IsS149.alloc | apply IsS149.drewN | apply IsS149.drew | apply IsS149.set_1) | exact HI748.out)); (case side2 => repeat (first | (with_reducible first | exact HB.out | apply below_alloc | apply pw_below_drewN | apply below_drew1 | refine below_set ?_ (IsS149.ge HI748.out)) | exact HB.out)); rintro e w15 ⟨rfl, hi, hb, hk⟩; refine ⟨_, rfl, ?_⟩; have n0_ := Aside0.mk (Kd.R_mono (Kd.R_keep (IsS149.apart (show IsS149 w _ g748 t746 t747 from by repeat (first | (with_reducible first | exact HI748.out | apply IsS149.alloc | apply IsS149.drewN | apply IsS149.drew | apply IsS149.set_1) | exact HI748.out)) (by (with_reducible repeat (first | apply Kd.R_alloc | apply Kd.R_drewN | apply Kd.R_drew)); exact HO752.out) (by decide)) hk (fun _ h => h.2)) (fun _ h => h.1)); have n1_ := Aside0.mk (hb); have n2_ := Aside0.mk (hi); clear HO752; clear HB; clear HI748; have HO752 := n0_; have HB := n1_; have HI748 := n2_; clear n0_ n1_ n2_; (try clear hb); (try clear hb2); (try clear hk); (try clear hi)) | ((with_reducible refine gate_callee (f := 77) rfl ?_); refine goesL_ (some 23) rfl rfl Try.func77 (by kernel_rfl) rfl #[.pointer (some ⟨g748, 0, none⟩)] rfl (by (try simp only [List.map_toArray, List.map_cons, List.map_nil]); first | done | rfl | (simp only [List.length_drop, List.length_take]; rfl)) ?_; (with_reducible refine (spec_l14Text.calls k g748 t746 t755 t756 t757 w _ ?side1 ?side2 A7.out).mono ?_); (case side1 => repeat (first | (with_reducible first | exact HI748.out | apply IsS149.alloc | apply IsS149.drewN | apply IsS149.drew | apply IsS149.set_1) | exact HI748.out)); (case side2 => repeat (first | (with_reducible first | exact HB.out | apply below_alloc | apply pw_below_drewN | apply below_drew1 | refine below_set ?_ (IsS149.ge HI748.out)) | exact HB.out)); rintro e w16 ⟨rfl, hi, hb, hk⟩; refine ⟨_, rfl, ?_⟩; have n0_ := Aside0.mk (Kd.R_mono (Kd.R_keep (IsS149.apart (show IsS149 w _ g748 t746 t755 from by repeat (first | (with_reducible first | exact HI748.out | apply IsS149.alloc | apply IsS149.drewN | apply IsS149.drew | apply IsS149.set_1) | exact HI748.out)) (by (with_reducible repeat (first | apply Kd.R_alloc | apply Kd.R_drewN | apply Kd.R_drew)); exact HO752.out) (by decide)) hk (fun _ h => h.2)) (fun _ h => h.1)); have n1_ := Aside0.mk (hb); have n2_ := Aside0.mk (hi); clear HO752; clear HB; clear HI748; have HO752 := n0_; have HB := n1_; have HI748 := n2_; clear n0_ n1_ n2_; (try clear hb); (try clear hb2); (try clear hk); (try clear hi)))
        have pi763 : (0 ≤ (t761 : Int)) = True := eq_true (of_decide_eq_true (by first | (with_reducible assumption) | assumption))
        have qi763 : (t761 < (y758.length : Int)) = True := eq_true (of_decide_eq_true (by first | (with_reducible assumption) | assumption))
        have n0_ := Aside0.mk (Kd.R_drew HO752.out)
        have n1_ := Aside0.mk (IsS149.drew HI748.out)
        have n2_ := Aside0.mk (below_drew1 HB.out)
        clear HO752
        clear HI748
        clear HB
        have HO752 := n0_
        have HI748 := n1_
        have HB := n2_
        clear n0_ n1_ n2_
        refine start_ (n := 13) (S := fun w' => True) (ds := []) #[false, false, false, false, false, false, false, false, false, false, false, false, false] (by kernel_rfl) rfl rfl trivial (fun hHeld => ?_); refine with_tabW spec_DrawRowGet.tab6 spec_DrawRowGet.bits6 (fun HT_ HW_ => ?_)
        generalize w16.drew = w17 at HO752 HI748 HB hHeld ⊢
        refine pure_ (i := 0) (N := some 24) (v := ?_) (a' := ?_) #[true, false, false, false, false, false, false, false, false, false, false, false, false] rfl rfl (any_of HT_.out (by kernel_rfl)) (fun _ _ _ h => h) (Or.inl ⟨by rfl, ?_⟩) ?_ ?_
        rotate_left
        · intro w'
          go_simp
          with_reducible rfl
        rotate_left
        · simp only [Act.put, List.setIfInBounds_toArray, List.set_cons_zero, List.set_cons_succ, i64_w, i32_w]
          rfl
        refine pure_ (i := 1) (N := some 25) (v := ?_) (a' := ?_) #[true, true, false, false, false, false, false, false, false, false, false, false, false] rfl rfl (any_of HT_.out (by kernel_rfl)) (fun _ _ _ h => h) (Or.inl ⟨by rfl, ?_⟩) ?_ ?_
        rotate_left
        · intro w'
          go_simp
          with_reducible rfl
        rotate_left
        · simp only [Act.put, List.setIfInBounds_toArray, List.set_cons_zero, List.set_cons_succ, i64_w, i32_w]
          rfl
        refine pure_ (i := 2) (N := some 26) (v := ?_) (a' := ?_) #[true, true, true, false, false, false, false, false, false, false, false, false, false] rfl rfl (any_of HT_.out (by kernel_rfl)) (fun _ _ _ h => h) (Or.inl ⟨by rfl, ?_⟩) ?_ ?_
        rotate_left
        · intro w'
          go_simp
          with_reducible rfl
        rotate_left
        · simp only [Act.put, List.setIfInBounds_toArray, List.set_cons_zero, List.set_cons_succ, i64_w, i32_w]
          rfl
        refine pure_ (i := 5) (N := some 29) (v := ?_) (a' := ?_) #[true, true, true, false, false, true, false, false, false, false, false, false, false] rfl rfl (any_of HT_.out (by kernel_rfl)) (fun _ _ _ h => h) (Or.inl ⟨by rfl, ?_⟩) ?_ ?_
        rotate_left
        · intro w'
          go_simp
          with_reducible rfl
        rotate_left
        · simp only [Act.put, List.setIfInBounds_toArray, List.set_cons_zero, List.set_cons_succ, i64_w, i32_w]
          rfl
        refine inv_at [3, 4, 6, 7, 8, 9, 10, 11, 12] (fun a0_ b a w' => ∃ (v759 : Value) (adz_v759 : Addr) (m7_ : Value), a = putSel a0_ b [(3, 27, .int .i64 (t749.length : Int)), (4, 28, v759), (6, 30, .int .i64 t761), (7, 31, m7_), (8, 32, .int .i64 (rd y758 t761)), (9, 33, .int .i64 (wrap64 ((t749.length : Int) + (rd y758 t761)))), (10, 2, .string t756), (11, 3, .int .i64 t750), (12, 4, .int .i64 (wrap64 ((t749.length : Int) + (rd y758 t761))))] ∧ (Kd.R (Kd.int .i64) 3 w' w.heap.size (fun _ => True) (.slice Ao13 t749.length co13) t749) ∧ (b 6 = false → IsS149 w w' g748 t746 t757) ∧ (Below w.heap.size w w') ∧ (b 4 = true → Kd.R (Kd.int .i64) 3 w' w.heap.size (fun k_ => some k_ ≠ (.slice Ao13 t749.length co13 : Value).ownBlock) v759 y758) ∧ (b 4 = true → ∃ c_, (v759 : Value) = .slice (some adz_v759) y758.length c_) ∧ (b 6 = true → IsS149 w w' g748 t746 t762) ∧ (b 7 = true → (m7_ : Value) = .pointer (some (adz_v759.add (t761).toNat)))) HT_.out HW_.out (by kernel_rfl) (by kernel_rfl) ?_ ?_ ?_
        · exact ⟨.bool false, ⟨0, 0, none⟩, .bool false, by simp only [putSel, Bool.false_eq_true, if_false], HO752.out, fun _ => HI748.out, HB.out, fun h_ => absurd h_ (by decide), fun h_ => absurd h_ (by decide), fun h_ => absurd h_ (by decide), fun h_ => absurd h_ (by decide)⟩
        · skip
          clear HB HI748 HO752
          refine steps_cons ?_ ?_
          · rintro b a w' ⟨v759, adz_v759, m7_, ha, Q_HO752, Q_HI748, Q_HB, Q_HO760, Q_HA_HO760, Q_HI748_e6, Q_X7_⟩ hb_ hon hoff
            refine ⟨_, rfl, fun K hK => ?_⟩
            have e26 : a.tmps[26]? = some (.slice Ao13 t749.length co13) := by rw [ha]; exact (putSel_off rfl).trans rfl
            replace ha := Aside0.mk ha
            have HO752 := Aside0.mk Q_HO752
            have HB := Aside0.mk Q_HB
            refine value_ (w1 := w') (v := .int .i64 (t749.length : Int)) (by rfl) rfl ?_ ?_
            · go_simp
              (try simp only [i64_w])
              try rfl
            refine hK.out _ _ ⟨v759, adz_v759, m7_, (by rw [ha.out]; exact putSel_upk 0 hb_ rfl rfl rfl), Q_HO752, Q_HI748, Q_HB, Q_HO760, Q_HA_HO760, Q_HI748_e6, Q_X7_⟩
          refine steps_cons ?_ ?_
          · rintro b a w' ⟨v759, adz_v759, m7_, ha, Q_HO752, Q_HI748, Q_HB, Q_HO760, Q_HA_HO760, Q_HI748_e6, Q_X7_⟩ hb_ hon hoff
            refine ⟨_, rfl, fun K hK => ?_⟩
            replace ha := Aside0.mk ha
            have HO752 := Aside0.mk Q_HO752
            have HB := Aside0.mk Q_HB
            refine Kd.R_lit_step (Kd.int .i64) _ 3 ?hg (N := 28) ?hd (xs := ([0, 0, 0, 1, (-1)] : List Int)) (inner := [.int .i64 0, .int .i64 0, .int .i64 0, .int .i64 1, .int .i64 (-1)]) (ok := fun _ => True) (okp := fun _ => True) ?hr ?hp (fun _ hk => hk) trivial (Below.refl _ _) (Nat.le_refl _) (by simp) ?_; (case hd => rfl); (case hg => rfl); (case hr => first | (go_simp; done) | (go_simp; rfl)); (case hp => exact (Reps.one (show Kd.M (Kd.int .i64) _ _ _ 0 [.int .i64 0] from rfl) (Reps.one (show Kd.M (Kd.int .i64) _ _ _ 0 [.int .i64 0] from rfl) (Reps.one (show Kd.M (Kd.int .i64) _ _ _ 0 [.int .i64 0] from rfl) (Reps.one (show Kd.M (Kd.int .i64) _ _ _ 1 [.int .i64 1] from rfl) (Reps.one (show Kd.M (Kd.int .i64) _ _ _ (-1) [.int .i64 (-1)] from rfl) (Reps.none _ _)))))))
            intro v759 w18 ho19 hb hg_ hnew_
            clear hg_ hnew_
            (first | rw [← Ny758.out] at ho19 | (simp only [Int.reduceToNat] at ho19; rw [← Ny758.out] at ho19))
            have n0_ := Aside0.mk (Kd.R_elder' (by (with_reducible repeat (first | apply Kd.R_alloc | apply Kd.R_drewN | apply Kd.R_drew)); exact HO752.out) (Kd.R_base ho19) hb)
            have n1_ := Aside0.mk (Kd.R_lower (Kd.R_new' ho19 (Kd.R_lt (by (with_reducible repeat (first | apply Kd.R_alloc | apply Kd.R_drewN | apply Kd.R_drew)); exact HO752.out))) (below_size (by repeat (first | (with_reducible first | exact HB.out | apply below_alloc | apply pw_below_drewN | apply below_drew1) | exact HB.out))))
            have n3_ := Aside0.mk (below_step (by repeat (first | (with_reducible first | exact HB.out | apply below_alloc | apply pw_below_drewN | apply below_drew1) | exact HB.out)) hb)
            have z_HI748 := fun (h0_ : b 6 = false) => (show IsS149 w w18 g748 t746 t757 from by first | exact (IsS149.below (by repeat (first | (with_reducible first | exact (Q_HI748 h0_) | apply IsS149.alloc | apply IsS149.drewN | apply IsS149.drew | apply IsS149.set_1) | exact (Q_HI748 h0_))) hb))
            have z_HI748_e6 := fun (h0_ : b 6 = true) => (show IsS149 w w18 g748 t746 t762 from by first | exact (IsS149.below (by repeat (first | (with_reducible first | exact (Q_HI748_e6 h0_) | apply IsS149.alloc | apply IsS149.drewN | apply IsS149.drew | apply IsS149.set_1) | exact (Q_HI748_e6 h0_))) hb))
            clear HO752
            clear HB
            have HO752 := n0_
            have HO760 := n1_
            have HB := n3_
            clear n0_ n1_ n3_
            clear hb ho19
            obtain ⟨Ao20, co20, eo20⟩ := Kd.R_slice HO760.out
            subst eo20
            obtain ⟨ado20, fo20, _⟩ := Kd.at_int (Kd.R_reads' HO760.out).2.2 0 (by decide) (by rw [Ny758.out]; simp)
            cases fo20
            refine hK.out _ _ ⟨.slice (some ado20) y758.length co20, ado20, m7_, (by rw [ha.out]; exact putSel_upk 1 hb_ rfl rfl rfl), (by (with_reducible repeat (first | apply Kd.R_alloc | apply Kd.R_drewN | apply Kd.R_drew)); exact Kd.R_mono HO752.out (fun _ hk => by first | exact hk.2 | trivial)), z_HI748, (by repeat (first | (with_reducible first | exact HB.out | apply below_alloc | apply pw_below_drewN | apply below_drew1) | exact HB.out)), fun _ => (by (with_reducible repeat (first | apply Kd.R_alloc | apply Kd.R_drewN | apply Kd.R_drew)); exact Kd.R_mono HO760.out (fun _ hk => by first | exact hk.2 | trivial)), fun _ => ⟨_, rfl⟩, z_HI748_e6, fun h0_ => absurd ((hoff 7 (by kernel_rfl)).symm.trans h0_) (by decide)⟩
          refine steps_cons ?_ ?_
          · rintro b a w' ⟨v759, adz_v759, m7_, ha, Q_HO752, Q_HI748, Q_HB, Q_HO760, Q_HA_HO760, Q_HI748_e6, Q_X7_⟩ hb_ hon hoff
            refine ⟨_, rfl, fun K hK => ?_⟩
            have e29 : a.tmps[29]? = some (.pointer (some ⟨g748, 0, none⟩)) := by rw [ha]; exact (putSel_off rfl).trans rfl
            replace ha := Aside0.mk ha
            have HO752 := Aside0.mk Q_HO752
            have HI748 := Aside0.mk (Q_HI748 hb_)
            have HB := Aside0.mk Q_HB
            refine goes_ Try.func75 (by kernel_rfl) rfl #[.pointer (some ⟨g748, 0, none⟩), .int .i64 5] (by rfl) rfl rfl (by first | (simp only [List.map_toArray, List.map_cons, List.map_nil, Act.eval, Array.getD_eq_getD_getElem?, Option.getD_some, e29]; done) | (simp only [List.map_toArray, List.map_cons, List.map_nil, Act.eval, Array.getD_eq_getD_getElem?, Option.getD_some, e29]; rfl)) ?_
            with_reducible refine (spec_l1Rd_pick.calls k g748 t746 t757 5 t761 t762 w _ ?side1 ?side2 A8.out).mono ?_
            (case side1 => repeat (first | (with_reducible first | exact HI748.out | apply IsS149.alloc | apply IsS149.drewN | apply IsS149.drew | apply IsS149.set_1) | exact HI748.out))
            (case side2 => repeat (first | (with_reducible first | exact HB.out | apply below_alloc | apply pw_below_drewN | apply below_drew1 | refine below_set ?_ (IsS149.ge HI748.out)) | exact HB.out))
            rintro e w18 ⟨rfl, hi, hb, hk⟩
            refine ⟨_, rfl, ?_⟩
            have n0_ := Aside0.mk (Kd.R_mono (Kd.R_keep (IsS149.apart (show IsS149 w _ g748 t746 t757 from by repeat (first | (with_reducible first | exact HI748.out | apply IsS149.alloc | apply IsS149.drewN | apply IsS149.drew | apply IsS149.set_1) | exact HI748.out)) (by (with_reducible repeat (first | apply Kd.R_alloc | apply Kd.R_drewN | apply Kd.R_drew)); exact HO752.out) (by decide)) hk (fun _ h => h.2)) (fun _ h => h.1))
            have n1_ := Aside0.mk (hb)
            have n2_ := Aside0.mk (hi)
            have z_HO760 := fun (h0_ : b 4 = true) => (show Kd.R (Kd.int .i64) 3 w18 w.heap.size (fun k_ => some k_ ≠ (.slice Ao13 t749.length co13 : Value).ownBlock) v759 y758 from by first | exact (Kd.R_mono (Kd.R_keep (IsS149.apart (show IsS149 w _ g748 t746 t757 from by repeat (first | (with_reducible first | exact HI748.out | apply IsS149.alloc | apply IsS149.drewN | apply IsS149.drew | apply IsS149.set_1) | exact HI748.out)) (by (with_reducible repeat (first | apply Kd.R_alloc | apply Kd.R_drewN | apply Kd.R_drew)); exact (Q_HO760 h0_)) (by decide)) hk (fun _ h => h.2)) (fun _ h => h.1)) | exact Kd.R_mono (Kd.R_mono (Kd.R_keep (IsS149.apart (show IsS149 w _ g748 t746 t757 from by repeat (first | (with_reducible first | exact HI748.out | apply IsS149.alloc | apply IsS149.drewN | apply IsS149.drew | apply IsS149.set_1) | exact HI748.out)) (by (with_reducible repeat (first | apply Kd.R_alloc | apply Kd.R_drewN | apply Kd.R_drew)); exact (Q_HO760 h0_)) (by decide)) hk (fun _ h => h.2)) (fun _ h => h.1)) (fun _ h_ => by first | trivial | exact h_ | exact h_.1))
            clear HO752
            clear HB
            clear HI748
            have HO752 := n0_
            have HB := n1_
            have HI748 := n2_
            clear n0_ n1_ n2_
            (try clear hb)
            (try clear hb2)
            (try clear hk)
            (try clear hi)
            refine hK.out _ _ ⟨v759, adz_v759, m7_, (by rw [ha.out]; exact putSel_upk 2 hb_ rfl rfl rfl), (by (with_reducible repeat (first | apply Kd.R_alloc | apply Kd.R_drewN | apply Kd.R_drew)); exact HO752.out), fun h0_ => absurd ((up_self b 6).symm.trans h0_) (by decide), (by repeat (first | (with_reducible first | exact HB.out | apply below_alloc | apply pw_below_drewN | apply below_drew1 | refine below_set ?_ (IsS149.ge HI748.out)) | exact HB.out)), z_HO760, Q_HA_HO760, fun _ => (by repeat (first | (with_reducible first | exact HI748.out | apply IsS149.alloc | apply IsS149.drewN | apply IsS149.drew | apply IsS149.set_1) | exact HI748.out)), fun h0_ => absurd ((hoff 7 (by kernel_rfl)).symm.trans h0_) (by decide)⟩
          refine steps_cons ?_ ?_
          · rintro b a w' ⟨v759, adz_v759, m7_, ha, Q_HO752, Q_HI748, Q_HB, Q_HO760, Q_HA_HO760, Q_HI748_e6, Q_X7_⟩ hb_ hon hoff
            refine ⟨_, rfl, fun K hK => ?_⟩
            have e28 : a.tmps[28]? = some (v759) := by rw [ha]; exact putSel_on (e := (4, 28, v759)) 1 rfl rfl (hon 4 (by kernel_rfl)) rfl
            have e30 : a.tmps[30]? = some (.int .i64 t761) := by rw [ha]; exact putSel_on (e := (6, 30, .int .i64 t761)) 2 rfl rfl (hon 6 (by kernel_rfl)) rfl
            replace ha := Aside0.mk ha
            have HO752 := Aside0.mk Q_HO752
            have HB := Aside0.mk Q_HB
            have HO760 := Aside0.mk (Q_HO760 (hon 4 (by kernel_rfl)))
            have HA_HO760 := Aside0.mk (Q_HA_HO760 (hon 4 (by kernel_rfl)))
            have HI748 := Aside0.mk (Q_HI748_e6 (hon 6 (by kernel_rfl)))
            obtain ⟨c_, hv_⟩ := HA_HO760.out
            rw [hv_] at e28
            refine value_ (w1 := w') (v := .pointer (some (adz_v759.add (t761).toNat))) (by rfl) rfl ?_ ?_
            · go_simp
              (try simp only [i64_w])
              try rfl
            refine hK.out _ _ ⟨v759, adz_v759, (.pointer (some (adz_v759.add (t761).toNat))), (by rw [ha.out]; exact putSel_upk 3 hb_ rfl rfl rfl), Q_HO752, fun h0_ => absurd ((hon 6 (by kernel_rfl)).symm.trans h0_) (by decide), Q_HB, Q_HO760, Q_HA_HO760, Q_HI748_e6, fun _ => rfl⟩
          refine steps_cons ?_ ?_
          · rintro b a w' ⟨v759, adz_v759, m7_, ha, Q_HO752, Q_HI748, Q_HB, Q_HO760, Q_HA_HO760, Q_HI748_e6, Q_X7_⟩ hb_ hon hoff
            refine ⟨_, rfl, fun K hK => ?_⟩
            have e31 : a.tmps[31]? = some (m7_) := by rw [ha]; exact putSel_on (e := (7, 31, m7_)) 3 rfl rfl (hon 7 (by kernel_rfl)) rfl
            rw [Q_X7_ (hon 7 (by kernel_rfl))] at e31
            replace ha := Aside0.mk ha
            have HO752 := Aside0.mk Q_HO752
            have HB := Aside0.mk Q_HB
            have HO760 := Aside0.mk (Q_HO760 (hon 4 (by kernel_rfl)))
            have HA_HO760 := Aside0.mk (Q_HA_HO760 (hon 4 (by kernel_rfl)))
            have HI748 := Aside0.mk (Q_HI748_e6 (hon 6 (by kernel_rfl)))
            obtain ⟨c_, hv_⟩ := HA_HO760.out
            have hF_ := HO760.out
            rw [hv_] at hF_
            obtain ⟨ad_, ea_, hx_⟩ := Kd.at_int (Kd.R_reads' hF_).2.2 t761 (of_eq_true pi763) (of_eq_true qi763)
            cases ea_
            refine value_ (w1 := w') (v := .int .i64 (rd y758 t761)) (by rfl) rfl ?_ ?_
            · go_simp
              (try simp only [i64_w])
              try rfl
            refine hK.out _ _ ⟨v759, adz_v759, m7_, (by rw [ha.out]; exact putSel_upk 4 hb_ rfl rfl rfl), Q_HO752, fun h0_ => absurd ((hon 6 (by kernel_rfl)).symm.trans h0_) (by decide), Q_HB, Q_HO760, Q_HA_HO760, Q_HI748_e6, Q_X7_⟩
          refine steps_cons ?_ ?_
          · rintro b a w' ⟨v759, adz_v759, m7_, ha, Q_HO752, Q_HI748, Q_HB, Q_HO760, Q_HA_HO760, Q_HI748_e6, Q_X7_⟩ hb_ hon hoff
            refine ⟨_, rfl, fun K hK => ?_⟩
            have e27 : a.tmps[27]? = some (.int .i64 (t749.length : Int)) := by rw [ha]; exact putSel_on (e := (3, 27, .int .i64 (t749.length : Int))) 0 rfl rfl (hon 3 (by kernel_rfl)) rfl
            have e32 : a.tmps[32]? = some (.int .i64 (rd y758 t761)) := by rw [ha]; exact putSel_on (e := (8, 32, .int .i64 (rd y758 t761))) 4 rfl rfl (hon 8 (by kernel_rfl)) rfl
            replace ha := Aside0.mk ha
            have HO752 := Aside0.mk Q_HO752
            have HB := Aside0.mk Q_HB
            have HO760 := Aside0.mk (Q_HO760 (hon 4 (by kernel_rfl)))
            have HA_HO760 := Aside0.mk (Q_HA_HO760 (hon 4 (by kernel_rfl)))
            have HI748 := Aside0.mk (Q_HI748_e6 (hon 6 (by kernel_rfl)))
            refine value_ (w1 := w') (v := .int .i64 (wrap64 ((t749.length : Int) + (rd y758 t761)))) (by rfl) rfl ?_ ?_
            · go_simp
              (try simp only [i64_w])
              try rfl
            refine hK.out _ _ ⟨v759, adz_v759, m7_, (by rw [ha.out]; exact putSel_upk 5 hb_ rfl rfl rfl), Q_HO752, fun h0_ => absurd ((hon 6 (by kernel_rfl)).symm.trans h0_) (by decide), Q_HB, Q_HO760, Q_HA_HO760, Q_HI748_e6, Q_X7_⟩
          refine steps_cons ?_ ?_
          · rintro b a w' ⟨v759, adz_v759, m7_, ha, Q_HO752, Q_HI748, Q_HB, Q_HO760, Q_HA_HO760, Q_HI748_e6, Q_X7_⟩ hb_ hon hoff
            refine ⟨_, rfl, fun K hK => ?_⟩
            have e24 : a.tmps[24]? = some (.string t756) := by rw [ha]; exact (putSel_off rfl).trans rfl
            replace ha := Aside0.mk ha
            have HO752 := Aside0.mk Q_HO752
            have HB := Aside0.mk Q_HB
            have HI748 := Aside0.mk (Q_HI748_e6 (hon 6 (by kernel_rfl)))
            refine value_ (w1 := w') (v := .string t756) (by rfl) rfl ?_ ?_
            · go_simp
              (try simp only [i64_w])
              try rfl
            refine hK.out _ _ ⟨v759, adz_v759, m7_, (by rw [ha.out]; exact putSel_upk 6 hb_ rfl rfl rfl), Q_HO752, fun h0_ => absurd ((hon 6 (by kernel_rfl)).symm.trans h0_) (by decide), Q_HB, Q_HO760, Q_HA_HO760, Q_HI748_e6, Q_X7_⟩
          refine steps_cons ?_ ?_
          · rintro b a w' ⟨v759, adz_v759, m7_, ha, Q_HO752, Q_HI748, Q_HB, Q_HO760, Q_HA_HO760, Q_HI748_e6, Q_X7_⟩ hb_ hon hoff
            refine ⟨_, rfl, fun K hK => ?_⟩
            have e25 : a.tmps[25]? = some (.int .i64 t750) := by rw [ha]; exact (putSel_off rfl).trans rfl
            replace ha := Aside0.mk ha
            have HO752 := Aside0.mk Q_HO752
            have HB := Aside0.mk Q_HB
            have HI748 := Aside0.mk (Q_HI748_e6 (hon 6 (by kernel_rfl)))
            refine value_ (w1 := w') (v := .int .i64 t750) (by rfl) rfl ?_ ?_
            · go_simp
              (try simp only [i64_w])
              try rfl
            refine hK.out _ _ ⟨v759, adz_v759, m7_, (by rw [ha.out]; exact putSel_upk 7 hb_ rfl rfl rfl), Q_HO752, fun h0_ => absurd ((hon 6 (by kernel_rfl)).symm.trans h0_) (by decide), Q_HB, Q_HO760, Q_HA_HO760, Q_HI748_e6, Q_X7_⟩
          refine steps_cons ?_ ?_
          · rintro b a w' ⟨v759, adz_v759, m7_, ha, Q_HO752, Q_HI748, Q_HB, Q_HO760, Q_HA_HO760, Q_HI748_e6, Q_X7_⟩ hb_ hon hoff
            refine ⟨_, rfl, fun K hK => ?_⟩
            have e33 : a.tmps[33]? = some (.int .i64 (wrap64 ((t749.length : Int) + (rd y758 t761)))) := by rw [ha]; exact putSel_on (e := (9, 33, .int .i64 (wrap64 ((t749.length : Int) + (rd y758 t761))))) 5 rfl rfl (hon 9 (by kernel_rfl)) rfl
            replace ha := Aside0.mk ha
            have HO752 := Aside0.mk Q_HO752
            have HB := Aside0.mk Q_HB
            have HO760 := Aside0.mk (Q_HO760 (hon 4 (by kernel_rfl)))
            have HA_HO760 := Aside0.mk (Q_HA_HO760 (hon 4 (by kernel_rfl)))
            have HI748 := Aside0.mk (Q_HI748_e6 (hon 6 (by kernel_rfl)))
            refine value_ (w1 := w') (v := .int .i64 (wrap64 ((t749.length : Int) + (rd y758 t761)))) (by rfl) rfl ?_ ?_
            · go_simp
              (try simp only [i64_w])
              try rfl
            refine hK.out _ _ ⟨v759, adz_v759, m7_, (by rw [ha.out]; exact putSel_upk 8 hb_ rfl rfl rfl), Q_HO752, fun h0_ => absurd ((hon 6 (by kernel_rfl)).symm.trans h0_) (by decide), Q_HB, Q_HO760, Q_HA_HO760, Q_HI748_e6, Q_X7_⟩
          exact steps_nil
        rintro b a w22 hall ⟨v759, adz_v759, m7_, ha, Q_HO752, Q_HI748, Q_HB, Q_HO760, Q_HA_HO760, Q_HI748_e6, Q_X7_⟩
        clear HB HI748 HO752
        have hb3_ := hall 3 (by kernel_rfl)
        have hb4_ := hall 4 (by kernel_rfl)
        have hb6_ := hall 6 (by kernel_rfl)
        have hb7_ := hall 7 (by kernel_rfl)
        have hb8_ := hall 8 (by kernel_rfl)
        have hb9_ := hall 9 (by kernel_rfl)
        have hb10_ := hall 10 (by kernel_rfl)
        have hb11_ := hall 11 (by kernel_rfl)
        have hb12_ := hall 12 (by kernel_rfl)
        subst ha
        obtain rfl := Q_X7_ hb7_
        simp only [putSel, hb3_, hb4_, hb6_, hb7_, hb8_, hb9_, hb10_, hb11_, hb12_, if_true, Act.put, List.setIfInBounds_toArray, List.set_cons_zero, List.set_cons_succ]
        have HO752 := Aside0.mk Q_HO752
        clear Q_HO752
        clear Q_HI748
        have HB := Aside0.mk Q_HB
        clear Q_HB
        have HO760 := Aside0.mk (Q_HO760 hb4_)
        clear Q_HO760
        have HA_HO760 := Aside0.mk (Q_HA_HO760 hb4_)
        clear Q_HA_HO760
        have HI748 := Aside0.mk (Q_HI748_e6 hb6_)
        clear Q_HI748_e6
        clear hall hb3_ hb4_ hb6_ hb7_ hb8_ hb9_ hb10_ hb11_ hb12_
        obtain ⟨co23, eo23⟩ := HA_HO760.out
        clear HA_HO760
        subst eo23
        try go_wp2
        go_ret3
        exact ⟨by first | rfl | (simp [errW_none, errW_some] <;> rfl) | (simp [*, errW_none, errW_some] <;> rfl), by repeat (first | (with_reducible first | exact HB.out | apply below_alloc | apply pw_below_drewN | apply below_drew1 | refine below_set ?_ (IsS149.ge HI748.out)) | exact HB.out)⟩
      · rw [if_neg c10] at H
        exact absurd H (by simp)
    · rw [if_neg c9] at H
      exact absurd H (by simp)
  · rw [if_neg c6] at H
    have c6b0 : (t754 == 0) = false := beq_eq_false_iff_ne.mpr c6
    have c6b1 : (t754 != 0) = true := bne_iff_ne.mpr c6
    obtain ⟨y764, hy764⟩ : ∃ y_ : List Int, y_ = (([0, 0, 0, 1, (-1)] : List Int)) := ⟨_, rfl⟩
    replace H : ((spec_l1Rd_pick.f k t746 t755 5).bind fun bt767 => (if 0 ≤ bt767.1 then (if bt767.1 < (y764.length : Int) then (some (t753, t750, wrap64 ((t749.length : Int) + (rd y764 bt767.1)))) else (none)) else (none))) = some (r1, r2, r3) := by first | (rw [hy764]; with_reducible exact H) | (have H2_ := (Option.bind_some _ _).symm.trans H; rw [hy764]; with_reducible exact H2_) | (have H2_ := (Option.bind_some _ _).symm.trans H; with_reducible exact H2_) | with_reducible exact H | (rw [hy764]; exact H) | exact H
    have Ny764 := Aside0.mk hy764
    clear hy764
    replace H := Option.bind_eq_some_iff.mp H
    obtain ⟨⟨t767, t768⟩, A240, H⟩ := H
    replace H : (if 0 ≤ t767 then (if t767 < (y764.length : Int) then (some (t753, t750, wrap64 ((t749.length : Int) + (rd y764 t767)))) else (none)) else (none)) = some (r1, r2, r3) := H
    have A24 := Aside0.mk A240
    clear A240
    by_cases c25 : 0 ≤ t767
    · rw [if_pos c25] at H
      have c25b0 : decide (0 ≤ t767) = true := decide_eq_true c25
      clear c25
      by_cases c26 : t767 < (y764.length : Int)
      · rw [if_pos c26] at H
        have c26b0 : decide (t767 < (y764.length : Int)) = true := decide_eq_true c26
        clear c26
        simp only [Option.some.injEq, Prod.mk.injEq] at H
        obtain ⟨rfl, rfl, rfl⟩ := H
        go_enter Try.func44, Try.ntmps44
        try go_wp2_with (first | ((with_reducible refine gate_callee (f := 74) rfl ?_); refine goesL_ (some 10) rfl rfl Try.func74 (by kernel_rfl) rfl #[.slice A0 l0.length c0] rfl (by (try simp only [List.map_toArray, List.map_cons, List.map_nil]); first | done | rfl | (simp only [List.length_drop, List.length_take]; rfl)) ?_; (with_reducible refine (spec_l1Open.calls _ _ l0 t746 t747 w _ ?side1 ?side2 ?side3 A2.out).mono ?_); (case side1 => repeat (first | (with_reducible first | exact HB.out | apply below_alloc | apply pw_below_drewN | apply below_drew1) | exact HB.out)); (case side2 => exact HR0.out); (case side3 => exact HC0.out); rintro e w27 ⟨g748, rfl, hi, hb, hb2⟩; refine ⟨_, rfl, ?_⟩; have n0_ := Aside0.mk (hb); have n1_ := Aside0.mk (hi); clear HB; have HB := n0_; have HI748 := n1_; clear n0_ n1_; (try clear hb); (try clear hb2); (try clear hk); (try clear hi)) | ((with_reducible refine gate_callee (f := 114) rfl ?_); refine goesL_ (some 13) rfl rfl Try.func114 (by kernel_rfl) rfl #[.slice A0 l0.length c0] rfl (by (try simp only [List.map_toArray, List.map_cons, List.map_nil]); first | done | rfl | (simp only [List.length_drop, List.length_take]; rfl)) ?_; (with_reducible refine (spec_DrawRowPut.calls k _ _ l0 t749 t750 _ ?side1 ?side2 A3.out).mono ?_); (case side1 => repeat (first | exact (Kd.C_below HR0.out HB.out) | (with_reducible refine Kd.C_alloc ?_ _) | (with_reducible refine Kd.C_drewN ?_ _) | (with_reducible refine Kd.C_drew ?_))); (case side2 => exact HC0.out); rintro e w28 ⟨v751, rfl, ho0, hb⟩; refine ⟨_, rfl, ?_⟩; have n0_ := Aside0.mk (Kd.R_lower ho0 (below_size (by repeat (first | (with_reducible first | exact HB.out | apply below_alloc | apply pw_below_drewN | apply below_drew1 | refine below_set ?_ (IsS149.ge HI748.out)) | exact HB.out)))); have n1_ := Aside0.mk (IsS149.below (by repeat (first | (with_reducible first | exact HI748.out | apply IsS149.alloc | apply IsS149.drewN | apply IsS149.drew | apply IsS149.set_1) | exact HI748.out)) hb); have n2_ := Aside0.mk (below_step (by repeat (first | (with_reducible first | exact HB.out | apply below_alloc | apply pw_below_drewN | apply below_drew1 | refine below_set ?_ (IsS149.ge HI748.out)) | exact HB.out)) hb); clear HI748; clear HB; have HO752 := n0_; have HI748 := n1_; have HB := n2_; clear n0_ n1_ n2_; (try clear hb); (try clear hb2); (try clear hk); (try clear hi); (try clear ho0); obtain ⟨Ao29, co29, eo29⟩ := Kd.R_slice HO752.out; subst eo29) | ((with_reducible refine gate_callee (f := 115) rfl ?_); refine goesL_ (some 18) rfl rfl Try.func115 (by kernel_rfl) rfl #[.slice Ao29 t749.length co29, .int .i64 t750] rfl (by (try simp only [List.map_toArray, List.map_cons, List.map_nil]); first | done | rfl | (simp only [List.length_drop, List.length_take]; rfl)) ?_; (with_reducible refine (spec_RowPut.calls k _ _ t749 t750 t753 _ ?side1 ?side2 A4.out).mono ?_); (case side1 => repeat (first | exact (Kd.R_reads' HO752.out).2.2 | (with_reducible refine Kd.C_alloc ?_ _) | (with_reducible refine Kd.C_drewN ?_ _) | (with_reducible refine Kd.C_drew ?_))); (case side2 => exact (Kd.R_reads' HO752.out).2.1); rintro e w30 ⟨rfl, hb⟩; refine ⟨_, rfl, ?_⟩; have n0_ := Aside0.mk (Kd.R_below (by (with_reducible repeat (first | apply Kd.R_alloc | apply Kd.R_drewN | apply Kd.R_drew)); exact HO752.out) hb); have n1_ := Aside0.mk (IsS149.below (by repeat (first | (with_reducible first | exact HI748.out | apply IsS149.alloc | apply IsS149.drewN | apply IsS149.drew | apply IsS149.set_1) | exact HI748.out)) hb); have n2_ := Aside0.mk (below_step (by repeat (first | (with_reducible first | exact HB.out | apply below_alloc | apply pw_below_drewN | apply below_drew1 | refine below_set ?_ (IsS149.ge HI748.out)) | exact HB.out)) hb); clear HO752; clear HI748; clear HB; have HO752 := n0_; have HI748 := n1_; have HB := n2_; clear n0_ n1_ n2_; (try clear hb); (try clear hb2); (try clear hk); (try clear hi)) | ((with_reducible refine gate_callee (f := 75) rfl ?_); refine goesL_ (some 20) rfl rfl Try.func75 (by kernel_rfl) rfl #[.pointer (some ⟨g748, 0, none⟩), .int .i64 5] rfl (by (try simp only [List.map_toArray, List.map_cons, List.map_nil]); first | done | rfl | (simp only [List.length_drop, List.length_take]; rfl)) ?_; (with_reducible refine (spec_l1Rd_pick.calls k g748 t746 t747 5 t754 t755 w _ ?side1 ?side2 A5.out).mono ?_); (case side1 => repeat (first | (with_reducible first | exact HI748.out | apply IsS149.alloc | apply IsS149.drewN | apply IsS149.drew | apply IsS149.set_1) | exact HI748.out)); (case side2 => repeat (first | (with_reducible first | exact HB.out | apply below_alloc | apply pw_below_drewN | apply below_drew1 | refine below_set ?_ (IsS149.ge HI748.out)) | exact HB.out)); rintro e w31 ⟨rfl, hi, hb, hk⟩; refine ⟨_, rfl, ?_⟩; have n0_ := Aside0.mk (Kd.R_mono (Kd.R_keep (IsS149.apart (show IsS149 w _ g748 t746 t747 from by repeat (first | (with_reducible first | exact HI748.out | apply IsS149.alloc | apply IsS149.drewN | apply IsS149.drew | apply IsS149.set_1) | exact HI748.out)) (by (with_reducible repeat (first | apply Kd.R_alloc | apply Kd.R_drewN | apply Kd.R_drew)); exact HO752.out) (by decide)) hk (fun _ h => h.2)) (fun _ h => h.1)); have n1_ := Aside0.mk (hb); have n2_ := Aside0.mk (hi); clear HO752; clear HB; clear HI748; have HO752 := n0_; have HB := n1_; have HI748 := n2_; clear n0_ n1_ n2_; (try clear hb); (try clear hb2); (try clear hk); (try clear hi)))
        have pi769 : (0 ≤ (t767 : Int)) = True := eq_true (of_decide_eq_true (by first | (with_reducible assumption) | assumption))
        have qi769 : (t767 < (y764.length : Int)) = True := eq_true (of_decide_eq_true (by first | (with_reducible assumption) | assumption))
        have n0_ := Aside0.mk (Kd.R_drew HO752.out)
        have n1_ := Aside0.mk (IsS149.drew HI748.out)
        have n2_ := Aside0.mk (below_drew1 HB.out)
        clear HO752
        clear HI748
        clear HB
        have HO752 := n0_
        have HI748 := n1_
        have HB := n2_
        clear n0_ n1_ n2_
        refine start_ (n := 13) (S := fun w' => True) (ds := []) #[false, false, false, false, false, false, false, false, false, false, false, false, false] (by kernel_rfl) rfl rfl trivial (fun hHeld => ?_); refine with_tabW spec_DrawRowGet.tab6 spec_DrawRowGet.bits6 (fun HT_ HW_ => ?_)
        generalize w31.drew = w32 at HO752 HI748 HB hHeld ⊢
        refine pure_ (i := 0) (N := some 24) (v := ?_) (a' := ?_) #[true, false, false, false, false, false, false, false, false, false, false, false, false] rfl rfl (any_of HT_.out (by kernel_rfl)) (fun _ _ _ h => h) (Or.inl ⟨by rfl, ?_⟩) ?_ ?_
        rotate_left
        · intro w'
          go_simp
          with_reducible rfl
        rotate_left
        · simp only [Act.put, List.setIfInBounds_toArray, List.set_cons_zero, List.set_cons_succ, i64_w, i32_w]
          rfl
        refine pure_ (i := 1) (N := some 25) (v := ?_) (a' := ?_) #[true, true, false, false, false, false, false, false, false, false, false, false, false] rfl rfl (any_of HT_.out (by kernel_rfl)) (fun _ _ _ h => h) (Or.inl ⟨by rfl, ?_⟩) ?_ ?_
        rotate_left
        · intro w'
          go_simp
          with_reducible rfl
        rotate_left
        · simp only [Act.put, List.setIfInBounds_toArray, List.set_cons_zero, List.set_cons_succ, i64_w, i32_w]
          rfl
        refine pure_ (i := 2) (N := some 26) (v := ?_) (a' := ?_) #[true, true, true, false, false, false, false, false, false, false, false, false, false] rfl rfl (any_of HT_.out (by kernel_rfl)) (fun _ _ _ h => h) (Or.inl ⟨by rfl, ?_⟩) ?_ ?_
        rotate_left
        · intro w'
          go_simp
          with_reducible rfl
        rotate_left
        · simp only [Act.put, List.setIfInBounds_toArray, List.set_cons_zero, List.set_cons_succ, i64_w, i32_w]
          rfl
        refine pure_ (i := 5) (N := some 29) (v := ?_) (a' := ?_) #[true, true, true, false, false, true, false, false, false, false, false, false, false] rfl rfl (any_of HT_.out (by kernel_rfl)) (fun _ _ _ h => h) (Or.inl ⟨by rfl, ?_⟩) ?_ ?_
        rotate_left
        · intro w'
          go_simp
          with_reducible rfl
        rotate_left
        · simp only [Act.put, List.setIfInBounds_toArray, List.set_cons_zero, List.set_cons_succ, i64_w, i32_w]
          rfl
        refine inv_at [3, 4, 6, 7, 8, 9, 10, 11, 12] (fun a0_ b a w' => ∃ (v765 : Value) (adz_v765 : Addr) (m7_ : Value), a = putSel a0_ b [(3, 27, .int .i64 (t749.length : Int)), (4, 28, v765), (6, 30, .int .i64 t767), (7, 31, m7_), (8, 32, .int .i64 (rd y764 t767)), (9, 33, .int .i64 (wrap64 ((t749.length : Int) + (rd y764 t767)))), (10, 2, .string t753), (11, 3, .int .i64 t750), (12, 4, .int .i64 (wrap64 ((t749.length : Int) + (rd y764 t767))))] ∧ (Kd.R (Kd.int .i64) 3 w' w.heap.size (fun _ => True) (.slice Ao29 t749.length co29) t749) ∧ (b 6 = false → IsS149 w w' g748 t746 t755) ∧ (Below w.heap.size w w') ∧ (b 4 = true → Kd.R (Kd.int .i64) 3 w' w.heap.size (fun k_ => some k_ ≠ (.slice Ao29 t749.length co29 : Value).ownBlock) v765 y764) ∧ (b 4 = true → ∃ c_, (v765 : Value) = .slice (some adz_v765) y764.length c_) ∧ (b 6 = true → IsS149 w w' g748 t746 t768) ∧ (b 7 = true → (m7_ : Value) = .pointer (some (adz_v765.add (t767).toNat)))) HT_.out HW_.out (by kernel_rfl) (by kernel_rfl) ?_ ?_ ?_
        · exact ⟨.bool false, ⟨0, 0, none⟩, .bool false, by simp only [putSel, Bool.false_eq_true, if_false], HO752.out, fun _ => HI748.out, HB.out, fun h_ => absurd h_ (by decide), fun h_ => absurd h_ (by decide), fun h_ => absurd h_ (by decide), fun h_ => absurd h_ (by decide)⟩
        · skip
          clear HB HI748 HO752
          refine steps_cons ?_ ?_
          · rintro b a w' ⟨v765, adz_v765, m7_, ha, Q_HO752, Q_HI748, Q_HB, Q_HO766, Q_HA_HO766, Q_HI748_e6, Q_X7_⟩ hb_ hon hoff
            refine ⟨_, rfl, fun K hK => ?_⟩
            have e26 : a.tmps[26]? = some (.slice Ao29 t749.length co29) := by rw [ha]; exact (putSel_off rfl).trans rfl
            replace ha := Aside0.mk ha
            have HO752 := Aside0.mk Q_HO752
            have HB := Aside0.mk Q_HB
            refine value_ (w1 := w') (v := .int .i64 (t749.length : Int)) (by rfl) rfl ?_ ?_
            · go_simp
              (try simp only [i64_w])
              try rfl
            refine hK.out _ _ ⟨v765, adz_v765, m7_, (by rw [ha.out]; exact putSel_upk 0 hb_ rfl rfl rfl), Q_HO752, Q_HI748, Q_HB, Q_HO766, Q_HA_HO766, Q_HI748_e6, Q_X7_⟩
          refine steps_cons ?_ ?_
          · rintro b a w' ⟨v765, adz_v765, m7_, ha, Q_HO752, Q_HI748, Q_HB, Q_HO766, Q_HA_HO766, Q_HI748_e6, Q_X7_⟩ hb_ hon hoff
            refine ⟨_, rfl, fun K hK => ?_⟩
            replace ha := Aside0.mk ha
            have HO752 := Aside0.mk Q_HO752
            have HB := Aside0.mk Q_HB
            refine Kd.R_lit_step (Kd.int .i64) _ 3 ?hg (N := 28) ?hd (xs := ([0, 0, 0, 1, (-1)] : List Int)) (inner := [.int .i64 0, .int .i64 0, .int .i64 0, .int .i64 1, .int .i64 (-1)]) (ok := fun _ => True) (okp := fun _ => True) ?hr ?hp (fun _ hk => hk) trivial (Below.refl _ _) (Nat.le_refl _) (by simp) ?_; (case hd => rfl); (case hg => rfl); (case hr => first | (go_simp; done) | (go_simp; rfl)); (case hp => exact (Reps.one (show Kd.M (Kd.int .i64) _ _ _ 0 [.int .i64 0] from rfl) (Reps.one (show Kd.M (Kd.int .i64) _ _ _ 0 [.int .i64 0] from rfl) (Reps.one (show Kd.M (Kd.int .i64) _ _ _ 0 [.int .i64 0] from rfl) (Reps.one (show Kd.M (Kd.int .i64) _ _ _ 1 [.int .i64 1] from rfl) (Reps.one (show Kd.M (Kd.int .i64) _ _ _ (-1) [.int .i64 (-1)] from rfl) (Reps.none _ _)))))))
            intro v765 w33 ho34 hb hg_ hnew_
            clear hg_ hnew_
            (first | rw [← Ny764.out] at ho34 | (simp only [Int.reduceToNat] at ho34; rw [← Ny764.out] at ho34))
            have n0_ := Aside0.mk (Kd.R_elder' (by (with_reducible repeat (first | apply Kd.R_alloc | apply Kd.R_drewN | apply Kd.R_drew)); exact HO752.out) (Kd.R_base ho34) hb)
            have n1_ := Aside0.mk (Kd.R_lower (Kd.R_new' ho34 (Kd.R_lt (by (with_reducible repeat (first | apply Kd.R_alloc | apply Kd.R_drewN | apply Kd.R_drew)); exact HO752.out))) (below_size (by repeat (first | (with_reducible first | exact HB.out | apply below_alloc | apply pw_below_drewN | apply below_drew1) | exact HB.out))))
            have n3_ := Aside0.mk (below_step (by repeat (first | (with_reducible first | exact HB.out | apply below_alloc | apply pw_below_drewN | apply below_drew1) | exact HB.out)) hb)
            have z_HI748 := fun (h0_ : b 6 = false) => (show IsS149 w w33 g748 t746 t755 from by first | exact (IsS149.below (by repeat (first | (with_reducible first | exact (Q_HI748 h0_) | apply IsS149.alloc | apply IsS149.drewN | apply IsS149.drew | apply IsS149.set_1) | exact (Q_HI748 h0_))) hb))
            have z_HI748_e6 := fun (h0_ : b 6 = true) => (show IsS149 w w33 g748 t746 t768 from by first | exact (IsS149.below (by repeat (first | (with_reducible first | exact (Q_HI748_e6 h0_) | apply IsS149.alloc | apply IsS149.drewN | apply IsS149.drew | apply IsS149.set_1) | exact (Q_HI748_e6 h0_))) hb))
            clear HO752
            clear HB
            have HO752 := n0_
            have HO766 := n1_
            have HB := n3_
            clear n0_ n1_ n3_
            clear hb ho34
            obtain ⟨Ao35, co35, eo35⟩ := Kd.R_slice HO766.out
            subst eo35
            obtain ⟨ado35, fo35, _⟩ := Kd.at_int (Kd.R_reads' HO766.out).2.2 0 (by decide) (by rw [Ny764.out]; simp)
            cases fo35
            refine hK.out _ _ ⟨.slice (some ado35) y764.length co35, ado35, m7_, (by rw [ha.out]; exact putSel_upk 1 hb_ rfl rfl rfl), (by (with_reducible repeat (first | apply Kd.R_alloc | apply Kd.R_drewN | apply Kd.R_drew)); exact Kd.R_mono HO752.out (fun _ hk => by first | exact hk.2 | trivial)), z_HI748, (by repeat (first | (with_reducible first | exact HB.out | apply below_alloc | apply pw_below_drewN | apply below_drew1) | exact HB.out)), fun _ => (by (with_reducible repeat (first | apply Kd.R_alloc | apply Kd.R_drewN | apply Kd.R_drew)); exact Kd.R_mono HO766.out (fun _ hk => by first | exact hk.2 | trivial)), fun _ => ⟨_, rfl⟩, z_HI748_e6, fun h0_ => absurd ((hoff 7 (by kernel_rfl)).symm.trans h0_) (by decide)⟩
          refine steps_cons ?_ ?_
          · rintro b a w' ⟨v765, adz_v765, m7_, ha, Q_HO752, Q_HI748, Q_HB, Q_HO766, Q_HA_HO766, Q_HI748_e6, Q_X7_⟩ hb_ hon hoff
            refine ⟨_, rfl, fun K hK => ?_⟩
            have e29 : a.tmps[29]? = some (.pointer (some ⟨g748, 0, none⟩)) := by rw [ha]; exact (putSel_off rfl).trans rfl
            replace ha := Aside0.mk ha
            have HO752 := Aside0.mk Q_HO752
            have HI748 := Aside0.mk (Q_HI748 hb_)
            have HB := Aside0.mk Q_HB
            refine goes_ Try.func75 (by kernel_rfl) rfl #[.pointer (some ⟨g748, 0, none⟩), .int .i64 5] (by rfl) rfl rfl (by first | (simp only [List.map_toArray, List.map_cons, List.map_nil, Act.eval, Array.getD_eq_getD_getElem?, Option.getD_some, e29]; done) | (simp only [List.map_toArray, List.map_cons, List.map_nil, Act.eval, Array.getD_eq_getD_getElem?, Option.getD_some, e29]; rfl)) ?_
            with_reducible refine (spec_l1Rd_pick.calls k g748 t746 t755 5 t767 t768 w _ ?side1 ?side2 A24.out).mono ?_
            (case side1 => repeat (first | (with_reducible first | exact HI748.out | apply IsS149.alloc | apply IsS149.drewN | apply IsS149.drew | apply IsS149.set_1) | exact HI748.out))
            (case side2 => repeat (first | (with_reducible first | exact HB.out | apply below_alloc | apply pw_below_drewN | apply below_drew1 | refine below_set ?_ (IsS149.ge HI748.out)) | exact HB.out))
            rintro e w33 ⟨rfl, hi, hb, hk⟩
            refine ⟨_, rfl, ?_⟩
            have n0_ := Aside0.mk (Kd.R_mono (Kd.R_keep (IsS149.apart (show IsS149 w _ g748 t746 t755 from by repeat (first | (with_reducible first | exact HI748.out | apply IsS149.alloc | apply IsS149.drewN | apply IsS149.drew | apply IsS149.set_1) | exact HI748.out)) (by (with_reducible repeat (first | apply Kd.R_alloc | apply Kd.R_drewN | apply Kd.R_drew)); exact HO752.out) (by decide)) hk (fun _ h => h.2)) (fun _ h => h.1))
            have n1_ := Aside0.mk (hb)
            have n2_ := Aside0.mk (hi)
            have z_HO766 := fun (h0_ : b 4 = true) => (show Kd.R (Kd.int .i64) 3 w33 w.heap.size (fun k_ => some k_ ≠ (.slice Ao29 t749.length co29 : Value).ownBlock) v765 y764 from by first | exact (Kd.R_mono (Kd.R_keep (IsS149.apart (show IsS149 w _ g748 t746 t755 from by repeat (first | (with_reducible first | exact HI748.out | apply IsS149.alloc | apply IsS149.drewN | apply IsS149.drew | apply IsS149.set_1) | exact HI748.out)) (by (with_reducible repeat (first | apply Kd.R_alloc | apply Kd.R_drewN | apply Kd.R_drew)); exact (Q_HO766 h0_)) (by decide)) hk (fun _ h => h.2)) (fun _ h => h.1)) | exact Kd.R_mono (Kd.R_mono (Kd.R_keep (IsS149.apart (show IsS149 w _ g748 t746 t755 from by repeat (first | (with_reducible first | exact HI748.out | apply IsS149.alloc | apply IsS149.drewN | apply IsS149.drew | apply IsS149.set_1) | exact HI748.out)) (by (with_reducible repeat (first | apply Kd.R_alloc | apply Kd.R_drewN | apply Kd.R_drew)); exact (Q_HO766 h0_)) (by decide)) hk (fun _ h => h.2)) (fun _ h => h.1)) (fun _ h_ => by first | trivial | exact h_ | exact h_.1))
            clear HO752
            clear HB
            clear HI748
            have HO752 := n0_
            have HB := n1_
            have HI748 := n2_
            clear n0_ n1_ n2_
            (try clear hb)
            (try clear hb2)
            (try clear hk)
            (try clear hi)
            refine hK.out _ _ ⟨v765, adz_v765, m7_, (by rw [ha.out]; exact putSel_upk 2 hb_ rfl rfl rfl), (by (with_reducible repeat (first | apply Kd.R_alloc | apply Kd.R_drewN | apply Kd.R_drew)); exact HO752.out), fun h0_ => absurd ((up_self b 6).symm.trans h0_) (by decide), (by repeat (first | (with_reducible first | exact HB.out | apply below_alloc | apply pw_below_drewN | apply below_drew1 | refine below_set ?_ (IsS149.ge HI748.out)) | exact HB.out)), z_HO766, Q_HA_HO766, fun _ => (by repeat (first | (with_reducible first | exact HI748.out | apply IsS149.alloc | apply IsS149.drewN | apply IsS149.drew | apply IsS149.set_1) | exact HI748.out)), fun h0_ => absurd ((hoff 7 (by kernel_rfl)).symm.trans h0_) (by decide)⟩
          refine steps_cons ?_ ?_
          · rintro b a w' ⟨v765, adz_v765, m7_, ha, Q_HO752, Q_HI748, Q_HB, Q_HO766, Q_HA_HO766, Q_HI748_e6, Q_X7_⟩ hb_ hon hoff
            refine ⟨_, rfl, fun K hK => ?_⟩
            have e28 : a.tmps[28]? = some (v765) := by rw [ha]; exact putSel_on (e := (4, 28, v765)) 1 rfl rfl (hon 4 (by kernel_rfl)) rfl
            have e30 : a.tmps[30]? = some (.int .i64 t767) := by rw [ha]; exact putSel_on (e := (6, 30, .int .i64 t767)) 2 rfl rfl (hon 6 (by kernel_rfl)) rfl
            replace ha := Aside0.mk ha
            have HO752 := Aside0.mk Q_HO752
            have HB := Aside0.mk Q_HB
            have HO766 := Aside0.mk (Q_HO766 (hon 4 (by kernel_rfl)))
            have HA_HO766 := Aside0.mk (Q_HA_HO766 (hon 4 (by kernel_rfl)))
            have HI748 := Aside0.mk (Q_HI748_e6 (hon 6 (by kernel_rfl)))
            obtain ⟨c_, hv_⟩ := HA_HO766.out
            rw [hv_] at e28
            refine value_ (w1 := w') (v := .pointer (some (adz_v765.add (t767).toNat))) (by rfl) rfl ?_ ?_
            · go_simp
              (try simp only [i64_w])
              try rfl
            refine hK.out _ _ ⟨v765, adz_v765, (.pointer (some (adz_v765.add (t767).toNat))), (by rw [ha.out]; exact putSel_upk 3 hb_ rfl rfl rfl), Q_HO752, fun h0_ => absurd ((hon 6 (by kernel_rfl)).symm.trans h0_) (by decide), Q_HB, Q_HO766, Q_HA_HO766, Q_HI748_e6, fun _ => rfl⟩
          refine steps_cons ?_ ?_
          · rintro b a w' ⟨v765, adz_v765, m7_, ha, Q_HO752, Q_HI748, Q_HB, Q_HO766, Q_HA_HO766, Q_HI748_e6, Q_X7_⟩ hb_ hon hoff
            refine ⟨_, rfl, fun K hK => ?_⟩
            have e31 : a.tmps[31]? = some (m7_) := by rw [ha]; exact putSel_on (e := (7, 31, m7_)) 3 rfl rfl (hon 7 (by kernel_rfl)) rfl
            rw [Q_X7_ (hon 7 (by kernel_rfl))] at e31
            replace ha := Aside0.mk ha
            have HO752 := Aside0.mk Q_HO752
            have HB := Aside0.mk Q_HB
            have HO766 := Aside0.mk (Q_HO766 (hon 4 (by kernel_rfl)))
            have HA_HO766 := Aside0.mk (Q_HA_HO766 (hon 4 (by kernel_rfl)))
            have HI748 := Aside0.mk (Q_HI748_e6 (hon 6 (by kernel_rfl)))
            obtain ⟨c_, hv_⟩ := HA_HO766.out
            have hF_ := HO766.out
            rw [hv_] at hF_
            obtain ⟨ad_, ea_, hx_⟩ := Kd.at_int (Kd.R_reads' hF_).2.2 t767 (of_eq_true pi769) (of_eq_true qi769)
            cases ea_
            refine value_ (w1 := w') (v := .int .i64 (rd y764 t767)) (by rfl) rfl ?_ ?_
            · go_simp
              (try simp only [i64_w])
              try rfl
            refine hK.out _ _ ⟨v765, adz_v765, m7_, (by rw [ha.out]; exact putSel_upk 4 hb_ rfl rfl rfl), Q_HO752, fun h0_ => absurd ((hon 6 (by kernel_rfl)).symm.trans h0_) (by decide), Q_HB, Q_HO766, Q_HA_HO766, Q_HI748_e6, Q_X7_⟩
          refine steps_cons ?_ ?_
          · rintro b a w' ⟨v765, adz_v765, m7_, ha, Q_HO752, Q_HI748, Q_HB, Q_HO766, Q_HA_HO766, Q_HI748_e6, Q_X7_⟩ hb_ hon hoff
            refine ⟨_, rfl, fun K hK => ?_⟩
            have e27 : a.tmps[27]? = some (.int .i64 (t749.length : Int)) := by rw [ha]; exact putSel_on (e := (3, 27, .int .i64 (t749.length : Int))) 0 rfl rfl (hon 3 (by kernel_rfl)) rfl
            have e32 : a.tmps[32]? = some (.int .i64 (rd y764 t767)) := by rw [ha]; exact putSel_on (e := (8, 32, .int .i64 (rd y764 t767))) 4 rfl rfl (hon 8 (by kernel_rfl)) rfl
            replace ha := Aside0.mk ha
            have HO752 := Aside0.mk Q_HO752
            have HB := Aside0.mk Q_HB
            have HO766 := Aside0.mk (Q_HO766 (hon 4 (by kernel_rfl)))
            have HA_HO766 := Aside0.mk (Q_HA_HO766 (hon 4 (by kernel_rfl)))
            have HI748 := Aside0.mk (Q_HI748_e6 (hon 6 (by kernel_rfl)))
            refine value_ (w1 := w') (v := .int .i64 (wrap64 ((t749.length : Int) + (rd y764 t767)))) (by rfl) rfl ?_ ?_
            · go_simp
              (try simp only [i64_w])
              try rfl
            refine hK.out _ _ ⟨v765, adz_v765, m7_, (by rw [ha.out]; exact putSel_upk 5 hb_ rfl rfl rfl), Q_HO752, fun h0_ => absurd ((hon 6 (by kernel_rfl)).symm.trans h0_) (by decide), Q_HB, Q_HO766, Q_HA_HO766, Q_HI748_e6, Q_X7_⟩
          refine steps_cons ?_ ?_
          · rintro b a w' ⟨v765, adz_v765, m7_, ha, Q_HO752, Q_HI748, Q_HB, Q_HO766, Q_HA_HO766, Q_HI748_e6, Q_X7_⟩ hb_ hon hoff
            refine ⟨_, rfl, fun K hK => ?_⟩
            have e24 : a.tmps[24]? = some (.string t753) := by rw [ha]; exact (putSel_off rfl).trans rfl
            replace ha := Aside0.mk ha
            have HO752 := Aside0.mk Q_HO752
            have HB := Aside0.mk Q_HB
            have HI748 := Aside0.mk (Q_HI748_e6 (hon 6 (by kernel_rfl)))
            refine value_ (w1 := w') (v := .string t753) (by rfl) rfl ?_ ?_
            · go_simp
              (try simp only [i64_w])
              try rfl
            refine hK.out _ _ ⟨v765, adz_v765, m7_, (by rw [ha.out]; exact putSel_upk 6 hb_ rfl rfl rfl), Q_HO752, fun h0_ => absurd ((hon 6 (by kernel_rfl)).symm.trans h0_) (by decide), Q_HB, Q_HO766, Q_HA_HO766, Q_HI748_e6, Q_X7_⟩
          refine steps_cons ?_ ?_
          · rintro b a w' ⟨v765, adz_v765, m7_, ha, Q_HO752, Q_HI748, Q_HB, Q_HO766, Q_HA_HO766, Q_HI748_e6, Q_X7_⟩ hb_ hon hoff
            refine ⟨_, rfl, fun K hK => ?_⟩
            have e25 : a.tmps[25]? = some (.int .i64 t750) := by rw [ha]; exact (putSel_off rfl).trans rfl
            replace ha := Aside0.mk ha
            have HO752 := Aside0.mk Q_HO752
            have HB := Aside0.mk Q_HB
            have HI748 := Aside0.mk (Q_HI748_e6 (hon 6 (by kernel_rfl)))
            refine value_ (w1 := w') (v := .int .i64 t750) (by rfl) rfl ?_ ?_
            · go_simp
              (try simp only [i64_w])
              try rfl
            refine hK.out _ _ ⟨v765, adz_v765, m7_, (by rw [ha.out]; exact putSel_upk 7 hb_ rfl rfl rfl), Q_HO752, fun h0_ => absurd ((hon 6 (by kernel_rfl)).symm.trans h0_) (by decide), Q_HB, Q_HO766, Q_HA_HO766, Q_HI748_e6, Q_X7_⟩
          refine steps_cons ?_ ?_
          · rintro b a w' ⟨v765, adz_v765, m7_, ha, Q_HO752, Q_HI748, Q_HB, Q_HO766, Q_HA_HO766, Q_HI748_e6, Q_X7_⟩ hb_ hon hoff
            refine ⟨_, rfl, fun K hK => ?_⟩
            have e33 : a.tmps[33]? = some (.int .i64 (wrap64 ((t749.length : Int) + (rd y764 t767)))) := by rw [ha]; exact putSel_on (e := (9, 33, .int .i64 (wrap64 ((t749.length : Int) + (rd y764 t767))))) 5 rfl rfl (hon 9 (by kernel_rfl)) rfl
            replace ha := Aside0.mk ha
            have HO752 := Aside0.mk Q_HO752
            have HB := Aside0.mk Q_HB
            have HO766 := Aside0.mk (Q_HO766 (hon 4 (by kernel_rfl)))
            have HA_HO766 := Aside0.mk (Q_HA_HO766 (hon 4 (by kernel_rfl)))
            have HI748 := Aside0.mk (Q_HI748_e6 (hon 6 (by kernel_rfl)))
            refine value_ (w1 := w') (v := .int .i64 (wrap64 ((t749.length : Int) + (rd y764 t767)))) (by rfl) rfl ?_ ?_
            · go_simp
              (try simp only [i64_w])
              try rfl
            refine hK.out _ _ ⟨v765, adz_v765, m7_, (by rw [ha.out]; exact putSel_upk 8 hb_ rfl rfl rfl), Q_HO752, fun h0_ => absurd ((hon 6 (by kernel_rfl)).symm.trans h0_) (by decide), Q_HB, Q_HO766, Q_HA_HO766, Q_HI748_e6, Q_X7_⟩
          exact steps_nil
        rintro b a w37 hall ⟨v765, adz_v765, m7_, ha, Q_HO752, Q_HI748, Q_HB, Q_HO766, Q_HA_HO766, Q_HI748_e6, Q_X7_⟩
        clear HB HI748 HO752
        have hb3_ := hall 3 (by kernel_rfl)
        have hb4_ := hall 4 (by kernel_rfl)
        have hb6_ := hall 6 (by kernel_rfl)
        have hb7_ := hall 7 (by kernel_rfl)
        have hb8_ := hall 8 (by kernel_rfl)
        have hb9_ := hall 9 (by kernel_rfl)
        have hb10_ := hall 10 (by kernel_rfl)
        have hb11_ := hall 11 (by kernel_rfl)
        have hb12_ := hall 12 (by kernel_rfl)
        subst ha
        obtain rfl := Q_X7_ hb7_
        simp only [putSel, hb3_, hb4_, hb6_, hb7_, hb8_, hb9_, hb10_, hb11_, hb12_, if_true, Act.put, List.setIfInBounds_toArray, List.set_cons_zero, List.set_cons_succ]
        have HO752 := Aside0.mk Q_HO752
        clear Q_HO752
        clear Q_HI748
        have HB := Aside0.mk Q_HB
        clear Q_HB
        have HO766 := Aside0.mk (Q_HO766 hb4_)
        clear Q_HO766
        have HA_HO766 := Aside0.mk (Q_HA_HO766 hb4_)
        clear Q_HA_HO766
        have HI748 := Aside0.mk (Q_HI748_e6 hb6_)
        clear Q_HI748_e6
        clear hall hb3_ hb4_ hb6_ hb7_ hb8_ hb9_ hb10_ hb11_ hb12_
        obtain ⟨co38, eo38⟩ := HA_HO766.out
        clear HA_HO766
        subst eo38
        try go_wp2
        go_ret3
        exact ⟨by first | rfl | (simp [errW_none, errW_some] <;> rfl) | (simp [*, errW_none, errW_some] <;> rfl), by repeat (first | (with_reducible first | exact HB.out | apply below_alloc | apply pw_below_drewN | apply below_drew1 | refine below_set ?_ (IsS149.ge HI748.out)) | exact HB.out)⟩
      · rw [if_neg c26] at H
        exact absurd H (by simp)
    · rw [if_neg c25] at H
      exact absurd H (by simp)

end Go.Proofs.Ytjcamejbdcaokaa.P
