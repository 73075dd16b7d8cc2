/- Texts of one law put together (wip/merge2.py). -/
import Derived.Test.YtgdbinifnhfcjaaMFnRle0
import Derived.Test.YtgdbinifnhfcjaaMFnRle21
import Derived.Test.YtgdbinifnhfcjaaMFnRle14
import Derived.Test.YtgdbinifnhfcjaaMFnRle19
import Derived.Test.YtgdbinifnhfcjaaMFnRle15
import Derived.Test.YtgdbinifnhfcjaaMFnRle16
-- Written by a program of this session (wip/myprint.py) through the print of the kit: not trusted, Lean checks it.
namespace Go.Proofs.Ytgdbinifnhfcjaa.P
open Go.RowKit Go.Proofs.YtgdbinifnhfcjaaW.PrintWords Go.Proofs.YtgdbinifnhfcjaaW.PrintLast Go.Proofs.YtgdbinifnhfcjaaW.PrintMore
attribute [local go_sem] max2_int min2_int max_two min_two max_three min_three max_four min_four   -- for this text's walks alone
set_option linter.unusedVariables false
set_option linter.unusedSimpArgs false

/-! ### spec_DrawRleGet: function 17 -/
def spec_DrawRleGet.j0 : Nat → List (List Int) → ByteArray → Int → List Int → Int → Option (ByteArray × Int × Int)
  | 0, _, _, _, _, _ => none
  | k + 1, x6, x7, x8, x256000, x256001 => (spec_l1Rd_pick.f k x256000 x256001 7).bind fun bt262 => (if bt262.1 = 0 then ((spec_l14Bend.f k x256000 bt262.2 x7).bind fun bt264 => (some (bt264.1, x8, (x6.length : Int)))) else (if bt262.1 = 1 then ((spec_l1Rd_pick.f k x256000 bt262.2 3).bind fun bt266 => ((spec_l1Rd_pick.f k x256000 bt266.2 3).bind fun bt268 => (some (x7, wrap64 ((wrap64 (x8 + bt266.1)) - 1), wrap64 ((wrap64 ((x6.length : Int) + bt268.1)) - 1))))) else (if bt262.1 = 2 then ((spec_l1Rd_pick.f k x256000 bt262.2 2).bind fun bt273 => ((spec_l1Rd_pick.f k x256000 bt273.2 3).bind fun bt275 => (some (strOfNums (([0, 3, 1, 2, 3, 0, 0, 2, 1, 1, 2, 9, 0, 1] : List Int)), wrap64 (5 + bt273.1), wrap64 (1 + bt275.1))))) else (if bt262.1 = 3 then ((spec_l1Rd_pick.f k x256000 bt262.2 (wrap64 ((x7.size : Int) + 1))).bind fun bt277 => (if 0 ≤ bt277.1 then (if bt277.1 ≤ (x7.size : Int) then (some (x7.extract 0 (bt277.1 : Int).toNat, x8, (x6.length : Int))) else (none)) else (none))) else (some (x7, x8, (x6.length : Int)))))))
def spec_DrawRleGet.f (k : Nat) (l0 : List Int) : Option (ByteArray × Int × Int) := (spec_l1Open.f l0).bind fun bt253 => ((spec_l14Rows.f k bt253.1 bt253.2).bind fun bt256 => ((spec_RlePut.f k bt256.1).bind fun t260 => (if (bt256.1.length : Int) > 0 then (if 0 < (bt256.1.length : Int) then (spec_DrawRleGet.j0 k bt256.1 t260 ((rd_L1 bt256.1 0).length : Int) bt253.1 bt256.2) else (none)) else (spec_DrawRleGet.j0 k bt256.1 t260 0 bt253.1 bt256.2))))
theorem spec_DrawRleGet.mono_l : ∀ k, (∀ y0 y1 y2 y3 y4, LeO (spec_DrawRleGet.j0 k y0 y1 y2 y3 y4) (spec_DrawRleGet.j0 (k + 1) y0 y1 y2 y3 y4))
  | 0 => fun _ _ _ _ _ r h => by simp [spec_DrawRleGet.j0] at h
  | k + 1 => by
    have ih0 := spec_DrawRleGet.mono_l k
    · intro y0 y1 y2 y3 y4
      unfold spec_DrawRleGet.j0
      repeat' first
      | (with_reducible exact ih0 _ _ _ _ _)
      | (with_reducible exact spec_RlePut.mono _ _)
      | (with_reducible exact spec_l14Bend.mono _ _ _ _)
      | (with_reducible exact spec_l14Rows.mono _ _ _)
      | (with_reducible exact spec_l1Rd_pick.mono _ _ _ _)
      | (with_reducible exact LeO.refl _)
      | (with_reducible exact LeO.none _)
      | (with_reducible refine LeO.ite ?_ ?_)
      | (with_reducible refine LeO.bind ?_ (fun _ => ?_))
      | exact ih0 _ _ _ _ _
      | exact spec_RlePut.mono _ _
      | exact spec_l14Bend.mono _ _ _ _
      | exact spec_l14Rows.mono _ _ _
      | exact spec_l1Rd_pick.mono _ _ _ _
      | exact LeO.none _
      | refine LeO.ite ?_ ?_
      | refine LeO.bind ?_ (fun _ => ?_)
theorem spec_DrawRleGet.mono : ∀ a0 k, LeO (spec_DrawRleGet.f k a0) (spec_DrawRleGet.f (k + 1) a0) := by
  intro a0 k
  have ih0 := spec_DrawRleGet.mono_l k
  unfold spec_DrawRleGet.f
  repeat' first
      | (with_reducible exact ih0 _ _ _ _ _)
      | (with_reducible exact spec_RlePut.mono _ _)
      | (with_reducible exact spec_l14Bend.mono _ _ _ _)
      | (with_reducible exact spec_l14Rows.mono _ _ _)
      | (with_reducible exact spec_l1Rd_pick.mono _ _ _ _)
      | (with_reducible exact LeO.refl _)
      | (with_reducible exact LeO.none _)
      | (with_reducible refine LeO.ite ?_ ?_)
      | (with_reducible refine LeO.bind ?_ (fun _ => ?_))
      | exact ih0 _ _ _ _ _
      | exact spec_RlePut.mono _ _
      | exact spec_l14Bend.mono _ _ _ _
      | exact spec_l14Rows.mono _ _ _
      | exact spec_l1Rd_pick.mono _ _ _ _
      | exact LeO.none _
      | refine LeO.ite ?_ ?_
      | refine LeO.bind ?_ (fun _ => ?_)
def spec_DrawRleGet.T13 : Bool × List (List Nat × List Nat) := (true, [([], []), ([0], [0]), ([], []), ([2], [2]), ([3], [3]), ([], []), ([5, 3], [5]), ([6], [6]), ([1, 6, 0, 1], [1]), ([4, 8, 0, 1, 2, 3, 4, 8], [4]), ([7, 9, 0, 1, 2, 3, 4, 5, 6, 7, 8, 9], [7])])
def spec_DrawRleGet.B13 : List Nat := [0, 1, 0, 4, 12, 0, 44, 108, 111, 383, 1023]
theorem spec_DrawRleGet.tab13 : rtab .any (opsOf Try.f17 13) = spec_DrawRleGet.T13 := by kernel_rfl
theorem spec_DrawRleGet.bits13 : waitsOk spec_DrawRleGet.T13.2 spec_DrawRleGet.B13 = true := by kernel_rfl
set_option maxHeartbeats 8000000 in
set_option maxRecDepth 100000 in
theorem spec_DrawRleGet.calls (k : Nat) (A0 : Option Addr) (c0 : Nat) (l0 : List Int) (r1 : ByteArray) (r2 : Int) (r3 : Int) (w : World) (hr0 : Kd.C (Kd.int .u8) w A0 l0.length l0) (hc0 : l0.length ≤ c0) (h : spec_DrawRleGet.f k l0 = some (r1, r2, r3)) :
    Calls Try.prog 17 #[.slice A0 l0.length c0] w fun e w' => e = .returned (.tuple #[.string r1, .int .i64 r2, .int .i64 r3]) ∧ Below w.heap.size w w' := by
  have HR0 := Aside0.mk hr0
  have HC0 := Aside0.mk hc0
  clear hr0 hc0
  have HB := Aside0.mk (Below.refl w.heap.size w)
  have H : ((spec_l1Open.f l0).bind fun bt253 => ((spec_l14Rows.f k bt253.1 bt253.2).bind fun bt256 => ((spec_RlePut.f k bt256.1).bind fun t260 => (if (bt256.1.length : Int) > 0 then (if 0 < (bt256.1.length : Int) then (spec_DrawRleGet.j0 k bt256.1 t260 ((rd_L1 bt256.1 0).length : Int) bt253.1 bt256.2) else (none)) else (spec_DrawRleGet.j0 k bt256.1 t260 0 bt253.1 bt256.2))))) = some (r1, r2, r3) := h
  clear h
  replace H := Option.bind_eq_some_iff.mp H
  obtain ⟨⟨t253, t254⟩, A20, H⟩ := H
  replace H : ((spec_l14Rows.f k t253 t254).bind fun bt256 => ((spec_RlePut.f k bt256.1).bind fun t260 => (if (bt256.1.length : Int) > 0 then (if 0 < (bt256.1.length : Int) then (spec_DrawRleGet.j0 k bt256.1 t260 ((rd_L1 bt256.1 0).length : Int) t253 bt256.2) else (none)) else (spec_DrawRleGet.j0 k bt256.1 t260 0 t253 bt256.2)))) = some (r1, r2, r3) := H
  have A2 := Aside0.mk A20
  clear A20
  replace H := Option.bind_eq_some_iff.mp H
  obtain ⟨⟨t256, t259⟩, A30, H⟩ := H
  replace H : ((spec_RlePut.f k t256).bind fun t260 => (if (t256.length : Int) > 0 then (if 0 < (t256.length : Int) then (spec_DrawRleGet.j0 k t256 t260 ((rd_L1 t256 0).length : Int) t253 t259) else (none)) else (spec_DrawRleGet.j0 k t256 t260 0 t253 t259))) = some (r1, r2, r3) := H
  have A3 := Aside0.mk A30
  clear A30
  replace H := Option.bind_eq_some_iff.mp H
  obtain ⟨t260, A40, H⟩ := H
  replace H : (if (t256.length : Int) > 0 then (if 0 < (t256.length : Int) then (spec_DrawRleGet.j0 k t256 t260 ((rd_L1 t256 0).length : Int) t253 t259) else (none)) else (spec_DrawRleGet.j0 k t256 t260 0 t253 t259)) = some (r1, r2, r3) := H
  have A4 := Aside0.mk A40
  clear A40
  have HC5 := Aside0.mk H
  clear H
  go_enter Try.func17, Try.ntmps17
  go_upto_if 17 with (first | ((with_reducible refine gate_callee (f := 50) rfl ?_); refine goesL_ (some 10) rfl rfl Try.func50 (by kernel_rfl) rfl #[.slice A0 l0.length c0] rfl (by (try simp only [List.map_toArray, List.map_cons, List.map_nil]); first | done | rfl | (simp only [List.length_drop, List.length_take]; rfl)) ?_; (with_reducible refine (spec_l1Open.calls _ _ l0 t253 t254 w _ ?side1 ?side2 ?side3 A2.out).mono ?_); (case side1 => repeat (first | (with_reducible first | exact HB.out | apply below_alloc | apply pw_below_drewN | apply below_drew1) | exact HB.out)); (case side2 => exact HR0.out); (case side3 => exact HC0.out); rintro e w6 ⟨g255, rfl, hi, hb, hb2⟩; refine ⟨_, rfl, ?_⟩; have n0_ := Aside0.mk (hb); have n1_ := Aside0.mk (hi); clear HB; have HB := n0_; have HI255 := n1_; clear n0_ n1_; (try clear hb); (try clear hb2); (try clear hk); (try clear hi)) | ((with_reducible refine gate_callee (f := 51) rfl ?_); refine goesL_ (some 12) rfl rfl Try.func51 (by kernel_rfl) rfl #[.pointer (some ⟨g255, 0, none⟩)] rfl (by (try simp only [List.map_toArray, List.map_cons, List.map_nil]); first | done | rfl | (simp only [List.length_drop, List.length_take]; rfl)) ?_; (with_reducible refine (spec_l14Rows.calls k g255 t253 t254 t256 t259 w _ ?side1 ?side2 A3.out).mono ?_); (case side1 => repeat (first | (with_reducible first | exact HI255.out | apply IsS104.alloc | apply IsS104.drewN | apply IsS104.drew | apply IsS104.set_1) | exact HI255.out)); (case side2 => repeat (first | (with_reducible first | exact HB.out | apply below_alloc | apply pw_below_drewN | apply below_drew1 | refine below_set ?_ (IsS104.ge HI255.out)) | exact HB.out)); rintro e w7 ⟨v257, rfl, ho0, hi, hb, hk⟩; refine ⟨_, rfl, ?_⟩; have n0_ := Aside0.mk (Kd.N_lower (Kd.N_mono (ok' := fun k_ => k_ ≠ g255) ho0 (fun k_ hk_ => (IsS104.fresh (by repeat (first | (with_reducible first | exact HI255.out | apply IsS104.alloc | apply IsS104.drewN | apply IsS104.drew | apply IsS104.set_1) | exact HI255.out)) k_ hk_))) (below_size (by repeat (first | (with_reducible first | exact HB.out | apply below_alloc | apply pw_below_drewN | apply below_drew1 | refine below_set ?_ (IsS104.ge HI255.out)) | exact HB.out)))); have n1_ := Aside0.mk (hb); have n2_ := Aside0.mk (hi); clear HB; clear HI255; have HO258 := n0_; have HB := n1_; have HI255 := n2_; clear n0_ n1_ n2_; (try clear hb); (try clear hb2); (try clear hk); (try clear hi); (try clear ho0); obtain ⟨Ao8, co8, eo8⟩ := Kd.N_slice HO258.out; subst eo8) | ((with_reducible refine gate_callee (f := 22) rfl ?_); refine goesL_ (some 14) rfl rfl Try.func22 (by kernel_rfl) rfl #[.slice Ao8 t256.length co8] rfl (by (try simp only [List.map_toArray, List.map_cons, List.map_nil]); first | done | rfl | (simp only [List.length_drop, List.length_take]; rfl)) ?_; (with_reducible refine (spec_RlePut.calls k _ _ t256 t260 _ ?side1 ?side2 A4.out).mono ?_); (case side1 => repeat (first | exact (Kd.N_reads' HO258.out).2.2 | (with_reducible refine Kd.C_alloc ?_ _) | (with_reducible refine Kd.C_drewN ?_ _) | (with_reducible refine Kd.C_drew ?_))); (case side2 => exact (Kd.N_reads' HO258.out).2.1); rintro e w9 ⟨rfl, hb⟩; refine ⟨_, rfl, ?_⟩; have n0_ := Aside0.mk (Kd.N_below (by (with_reducible repeat (first | apply Kd.N_alloc | apply Kd.N_drewN | apply Kd.N_drew)); exact HO258.out) hb); have n1_ := Aside0.mk (IsS104.below (by repeat (first | (with_reducible first | exact HI255.out | apply IsS104.alloc | apply IsS104.drewN | apply IsS104.drew | apply IsS104.set_1) | exact HI255.out)) hb); have n2_ := Aside0.mk (below_step (by repeat (first | (with_reducible first | exact HB.out | apply below_alloc | apply pw_below_drewN | apply below_drew1 | refine below_set ?_ (IsS104.ge HI255.out)) | exact HB.out)) hb); clear HO258; clear HI255; clear HB; have HO258 := n0_; have HI255 := n1_; have HB := n2_; clear n0_ n1_ n2_; (try clear hb); (try clear hb2); (try clear hk); (try clear hi)))
  (try simp only [Act.put, List.setIfInBounds_toArray, List.set_cons_zero, List.set_cons_succ])
  go_cut [8] (fun v8 wc => ∃ (kq : Nat) (x8_4 : Int), v8 = .int .i64 x8_4 ∧ Aside0 (spec_DrawRleGet.j0 kq t256 t260 x8_4 t253 t259 = some (r1, r2, r3)) ∧ Aside0 (kq ≤ k) ∧ Aside0 (Kd.N (Kd.slice 3 (Kd.int .i64)) 31 wc w.heap.size (fun k_ => k_ ≠ g255) (.slice Ao8 t256.length co8) t256) ∧ Aside0 (IsS104 w wc g255 t253 t259) ∧ Aside0 (Below w.heap.size w wc))
  case first =>
    have H := HC5.out
    clear HC5
    by_cases c10 : (t256.length : Int) > 0
    · rw [if_pos c10] at H
      have c10b0 : decide (0 < (t256.length : Int)) = true := decide_eq_true c10
      have c10b1 : decide (0 < t256.length) = true := decide_eq_true (by omega)
      clear c10
      (first | rw [c10b0] | rw [c10b1] | simp only [c10b1] | (simp only [i64_w, i32_w]; rw [c10b0]) | skip)
      by_cases c11 : 0 < (t256.length : Int)
      · rw [if_pos c11] at H
        have c11b0 : decide (0 < (t256.length : Int)) = true := decide_eq_true c11
        have c11b1 : decide (0 < t256.length) = true := decide_eq_true (by omega)
        clear c11
        have H' := Aside0.mk H
        clear H
        have p261 : 0 ≤ (0 : Int) := (by omega)
        have q261 : 0 < (t256.length : Int) := of_decide_eq_true (by first | (with_reducible assumption) | assumption)
        obtain ⟨ad261, A261_0, c261_0, e261, hx261_0, hl261_0, hi261_0⟩ := at_L1 (Kd.N_reads' HO258.out).2.2 0 p261 q261
        cases e261
        obtain ⟨ce261, hce261, hMe261, hcc261⟩ := Kd.N_get HO258.out [] 0 p261 (by first | exact q261 | exact of_decide_eq_true (by first | (with_reducible assumption) | assumption) | (have e_ := (Kd.N_reads' HO258.out).1; omega))
        obtain ⟨ua261_0, uc261_0, rfl, ul261_0, ge261_0⟩ := Kd.FK_slice_open hMe261
        have hv261_0 := hcc261 0 _ rfl
        rw [Nat.add_zero, show ((Kd.slice 3 (Kd.int .i64))).sz = 1 from rfl, Nat.mul_one] at hv261_0
        replace hv261_0 := Option.some.inj (hv261_0.symm.trans hx261_0)
        injection hv261_0 with hva_ hvn_ hvc_
        rw [hva_] at ge261_0
        rw [hvc_] at ul261_0
        have HL261_0 := Aside0.mk (show Kd.V (Kd.int .i64) 3 _ w.heap.size _ _ (rd_L1 t256 0) from Kd.V_mk ul261_0 ge261_0)
        clear hva_ hvn_ hvc_ ge261_0 ul261_0
        clear hcc261 hce261
        have qi261 : (0 < t256.length) = True := eq_true (by omega)
        (try rw [show ((0 : Int)).toNat = 0 from rfl] at hx261_0)
        (try rw [Addr.add_zero'] at hx261_0)
        have HR261_0 := Aside0.mk hi261_0
        have HC261_0 := Aside0.mk hl261_0
        clear hi261_0 hl261_0
        replace p261 := eq_true p261
        replace q261 := eq_true q261
        go_wp2
        go_meet
        case rel => exact ⟨_, (((rd_L1 t256 0).length : Int)), (by first | rfl | (simp; done) | (simp [*]; done)), H', ⟨by first | omega | exact Nat.le_refl _⟩, ⟨by (with_reducible repeat (first | apply Kd.N_alloc | apply Kd.N_drewN | apply Kd.N_drew)); exact HO258.out⟩, ⟨by repeat (first | (with_reducible first | exact HI255.out | apply IsS104.alloc | apply IsS104.drewN | apply IsS104.drew | apply IsS104.set_1) | exact HI255.out)⟩, ⟨by repeat (first | (with_reducible first | exact HB.out | apply below_alloc | apply pw_below_drewN | apply below_drew1 | refine below_set ?_ (IsS104.ge HI255.out)) | exact HB.out)⟩⟩
      · rw [if_neg c11] at H
        exact absurd H (by simp)
    · rw [if_neg c10] at H
      have c10b0 : decide (0 < (t256.length : Int)) = false := decide_eq_false c10
      have c10b1 : decide (0 < t256.length) = false := decide_eq_false (by omega)
      clear c10
      (first | rw [c10b0] | rw [c10b1] | simp only [c10b1] | (simp only [i64_w, i32_w]; rw [c10b0]) | skip)
      have H' := Aside0.mk H
      clear H
      go_wp2
      go_meet
      case rel => exact ⟨_, (0), (by first | rfl | (simp; done) | (simp [*]; done)), H', ⟨by first | omega | exact Nat.le_refl _⟩, ⟨by (with_reducible repeat (first | apply Kd.N_alloc | apply Kd.N_drewN | apply Kd.N_drew)); exact HO258.out⟩, ⟨by repeat (first | (with_reducible first | exact HI255.out | apply IsS104.alloc | apply IsS104.drewN | apply IsS104.drew | apply IsS104.set_1) | exact HI255.out)⟩, ⟨by repeat (first | (with_reducible first | exact HB.out | apply below_alloc | apply pw_below_drewN | apply below_drew1 | refine below_set ?_ (IsS104.ge HI255.out)) | exact HB.out)⟩⟩
  case rest =>
    clear HC5
    try clear c1
    try clear c2
    try clear p2
    try clear q2
    try clear hx2
    try clear qi2
    try clear c5
    try clear c10
    try clear c10b0
    try clear c10b1
    try clear c11
    try clear c11b0
    try clear c11b1
    try clear hx261_0
    try clear p261
    try clear q261
    obtain ⟨kq, x8_4, rfl, HA, HJ4, HO_6, HI255, HB⟩ := hcut
    cases kq with
    | zero => exact absurd HA.out (by simp [spec_DrawRleGet.j0])
    | succ kj4 =>
      have H := HA.out
      clear HA
      simp only [spec_DrawRleGet.j0] at H
      replace H := Option.bind_eq_some_iff.mp H
      obtain ⟨⟨t262, t263⟩, A120, H⟩ := H
      replace H : (if t262 = 0 then ((spec_l14Bend.f kj4 t253 t263 t260).bind fun bt264 => (some (bt264.1, x8_4, (t256.length : Int)))) else (if t262 = 1 then ((spec_l1Rd_pick.f kj4 t253 t263 3).bind fun bt266 => ((spec_l1Rd_pick.f kj4 t253 bt266.2 3).bind fun bt268 => (some (t260, wrap64 ((wrap64 (x8_4 + bt266.1)) - 1), wrap64 ((wrap64 ((t256.length : Int) + bt268.1)) - 1))))) else (if t262 = 2 then ((spec_l1Rd_pick.f kj4 t253 t263 2).bind fun bt273 => ((spec_l1Rd_pick.f kj4 t253 bt273.2 3).bind fun bt275 => (some (strOfNums (([0, 3, 1, 2, 3, 0, 0, 2, 1, 1, 2, 9, 0, 1] : List Int)), wrap64 (5 + bt273.1), wrap64 (1 + bt275.1))))) else (if t262 = 3 then ((spec_l1Rd_pick.f kj4 t253 t263 (wrap64 ((t260.size : Int) + 1))).bind fun bt277 => (if 0 ≤ bt277.1 then (if bt277.1 ≤ (t260.size : Int) then (some (t260.extract 0 (bt277.1 : Int).toNat, x8_4, (t256.length : Int))) else (none)) else (none))) else (some (t260, x8_4, (t256.length : Int))))))) = some (r1, r2, r3) := H
      have A12 := Aside0.mk A120
      clear A120
      by_cases c13 : t262 = 0
      · rw [if_pos c13] at H
        have c13b0 : (t262 == 0) = true := beq_iff_eq.mpr c13
        have c13b1 : (t262 != 0) = false := bne_eq_false_iff_eq.mpr c13
        clear c13
        replace H := Option.bind_eq_some_iff.mp H
        obtain ⟨⟨t264, t265⟩, A140, H⟩ := H
        replace H : (some (t264, x8_4, (t256.length : Int))) = some (r1, r2, r3) := H
        have A14 := Aside0.mk A140
        clear A140
        simp only [Option.some.injEq, Prod.mk.injEq] at H
        obtain ⟨rfl, rfl, rfl⟩ := H
        go_wp2_with (first | ((with_reducible refine gate_callee (f := 52) rfl ?_); refine goesL_ (some 23) rfl rfl Try.func52 (by kernel_rfl) rfl #[.pointer (some ⟨g255, 0, none⟩), .int .i64 7] rfl (by (try simp only [List.map_toArray, List.map_cons, List.map_nil]); first | done | rfl | (simp only [List.length_drop, List.length_take]; rfl)) ?_; (with_reducible refine (spec_l1Rd_pick.calls kj4 g255 t253 t259 7 t262 t263 w _ ?side1 ?side2 A12.out).mono ?_); (case side1 => repeat (first | (with_reducible first | exact HI255.out | apply IsS104.alloc | apply IsS104.drewN | apply IsS104.drew | apply IsS104.set_1) | exact HI255.out)); (case side2 => repeat (first | (with_reducible first | exact HB.out | apply below_alloc | apply pw_below_drewN | apply below_drew1 | refine below_set ?_ (IsS104.ge HI255.out)) | exact HB.out)); rintro e w15 ⟨rfl, hi, hb, hk⟩; refine ⟨_, rfl, ?_⟩; have n0_ := Aside0.mk (Kd.N_mono (Kd.N_keep (Kd.N_mono (ok := fun k_ => k_ ≠ g255) (by (with_reducible repeat (first | apply Kd.N_alloc | apply Kd.N_drewN | apply Kd.N_drew)); exact HO_6.out) (fun k_ hk_ => (⟨hk_, hk_⟩ : _ ∧ k_ ≠ g255))) hk (fun _ h => h.2)) (fun _ h => h.1)); have n1_ := Aside0.mk (hb); have n2_ := Aside0.mk (hi); clear HO_6; clear HB; clear HI255; have HO_6 := n0_; have HB := n1_; have HI255 := n2_; clear n0_ n1_ n2_; (try clear hb); (try clear hb2); (try clear hk); (try clear hi)) | ((with_reducible refine gate_callee (f := 53) rfl ?_); refine goesL_ (some 28) rfl rfl Try.func53 (by kernel_rfl) rfl #[.pointer (some ⟨g255, 0, none⟩), .string t260] rfl (by (try simp only [List.map_toArray, List.map_cons, List.map_nil]); first | done | rfl | (simp only [List.length_drop, List.length_take]; rfl)) ?_; (with_reducible refine (spec_l14Bend.calls kj4 g255 t253 t263 t260 t264 t265 w _ ?side1 ?side2 A14.out).mono ?_); (case side1 => repeat (first | (with_reducible first | exact HI255.out | apply IsS104.alloc | apply IsS104.drewN | apply IsS104.drew | apply IsS104.set_1) | exact HI255.out)); (case side2 => repeat (first | (with_reducible first | exact HB.out | apply below_alloc | apply pw_below_drewN | apply below_drew1 | refine below_set ?_ (IsS104.ge HI255.out)) | exact HB.out)); rintro e w16 ⟨rfl, hi, hb, hk⟩; refine ⟨_, rfl, ?_⟩; have n0_ := Aside0.mk (Kd.N_mono (Kd.N_keep (Kd.N_mono (ok := fun k_ => k_ ≠ g255) (by (with_reducible repeat (first | apply Kd.N_alloc | apply Kd.N_drewN | apply Kd.N_drew)); exact HO_6.out) (fun k_ hk_ => (⟨hk_, hk_⟩ : _ ∧ k_ ≠ g255))) hk (fun _ h => h.2)) (fun _ h => h.1)); have n1_ := Aside0.mk (hb); have n2_ := Aside0.mk (hi); clear HO_6; clear HB; clear HI255; have HO_6 := n0_; have HB := n1_; have HI255 := n2_; clear n0_ n1_ n2_; (try clear hb); (try clear hb2); (try clear hk); (try clear hi)))
        go_ret3
        exact ⟨by first | rfl | (simp [errW_none, errW_some] <;> rfl) | (simp [*, errW_none, errW_some] <;> rfl), by repeat (first | (with_reducible first | exact HB.out | apply below_alloc | apply pw_below_drewN | apply below_drew1 | refine below_set ?_ (IsS104.ge HI255.out)) | exact HB.out)⟩
      · rw [if_neg c13] at H
        have c13b0 : (t262 == 0) = false := beq_eq_false_iff_ne.mpr c13
        have c13b1 : (t262 != 0) = true := bne_iff_ne.mpr c13
        by_cases c17 : t262 = 1
        · rw [if_pos c17] at H
          have c17b0 : (t262 == 1) = true := beq_iff_eq.mpr c17
          have c17b1 : (t262 != 1) = false := bne_eq_false_iff_eq.mpr c17
          clear c17
          replace H := Option.bind_eq_some_iff.mp H
          obtain ⟨⟨t266, t267⟩, A180, H⟩ := H
          replace H : ((spec_l1Rd_pick.f kj4 t253 t267 3).bind fun bt268 => (some (t260, wrap64 ((wrap64 (x8_4 + t266)) - 1), wrap64 ((wrap64 ((t256.length : Int) + bt268.1)) - 1)))) = some (r1, r2, r3) := H
          have A18 := Aside0.mk A180
          clear A180
          replace H := Option.bind_eq_some_iff.mp H
          obtain ⟨⟨t268, t269⟩, A190, H⟩ := H
          replace H : (some (t260, wrap64 ((wrap64 (x8_4 + t266)) - 1), wrap64 ((wrap64 ((t256.length : Int) + t268)) - 1))) = some (r1, r2, r3) := H
          have A19 := Aside0.mk A190
          clear A190
          simp only [Option.some.injEq, Prod.mk.injEq] at H
          obtain ⟨rfl, rfl, rfl⟩ := H
          go_wp2_with (first | ((with_reducible refine gate_callee (f := 52) rfl ?_); refine goesL_ (some 23) rfl rfl Try.func52 (by kernel_rfl) rfl #[.pointer (some ⟨g255, 0, none⟩), .int .i64 7] rfl (by (try simp only [List.map_toArray, List.map_cons, List.map_nil]); first | done | rfl | (simp only [List.length_drop, List.length_take]; rfl)) ?_; (with_reducible refine (spec_l1Rd_pick.calls kj4 g255 t253 t259 7 t262 t263 w _ ?side1 ?side2 A12.out).mono ?_); (case side1 => repeat (first | (with_reducible first | exact HI255.out | apply IsS104.alloc | apply IsS104.drewN | apply IsS104.drew | apply IsS104.set_1) | exact HI255.out)); (case side2 => repeat (first | (with_reducible first | exact HB.out | apply below_alloc | apply pw_below_drewN | apply below_drew1 | refine below_set ?_ (IsS104.ge HI255.out)) | exact HB.out)); rintro e w20 ⟨rfl, hi, hb, hk⟩; refine ⟨_, rfl, ?_⟩; have n0_ := Aside0.mk (Kd.N_mono (Kd.N_keep (Kd.N_mono (ok := fun k_ => k_ ≠ g255) (by (with_reducible repeat (first | apply Kd.N_alloc | apply Kd.N_drewN | apply Kd.N_drew)); exact HO_6.out) (fun k_ hk_ => (⟨hk_, hk_⟩ : _ ∧ k_ ≠ g255))) hk (fun _ h => h.2)) (fun _ h => h.1)); have n1_ := Aside0.mk (hb); have n2_ := Aside0.mk (hi); clear HO_6; clear HB; clear HI255; have HO_6 := n0_; have HB := n1_; have HI255 := n2_; clear n0_ n1_ n2_; (try clear hb); (try clear hb2); (try clear hk); (try clear hi)) | ((with_reducible refine gate_callee (f := 52) rfl ?_); refine goesL_ (some 34) rfl rfl Try.func52 (by kernel_rfl) rfl #[.pointer (some ⟨g255, 0, none⟩), .int .i64 3] rfl (by (try simp only [List.map_toArray, List.map_cons, List.map_nil]); first | done | rfl | (simp only [List.length_drop, List.length_take]; rfl)) ?_; (with_reducible refine (spec_l1Rd_pick.calls kj4 g255 t253 t263 3 t266 t267 w _ ?side1 ?side2 A18.out).mono ?_); (case side1 => repeat (first | (with_reducible first | exact HI255.out | apply IsS104.alloc | apply IsS104.drewN | apply IsS104.drew | apply IsS104.set_1) | exact HI255.out)); (case side2 => repeat (first | (with_reducible first | exact HB.out | apply below_alloc | apply pw_below_drewN | apply below_drew1 | refine below_set ?_ (IsS104.ge HI255.out)) | exact HB.out)); rintro e w21 ⟨rfl, hi, hb, hk⟩; refine ⟨_, rfl, ?_⟩; have n0_ := Aside0.mk (Kd.N_mono (Kd.N_keep (Kd.N_mono (ok := fun k_ => k_ ≠ g255) (by (with_reducible repeat (first | apply Kd.N_alloc | apply Kd.N_drewN | apply Kd.N_drew)); exact HO_6.out) (fun k_ hk_ => (⟨hk_, hk_⟩ : _ ∧ k_ ≠ g255))) hk (fun _ h => h.2)) (fun _ h => h.1)); have n1_ := Aside0.mk (hb); have n2_ := Aside0.mk (hi); clear HO_6; clear HB; clear HI255; have HO_6 := n0_; have HB := n1_; have HI255 := n2_; clear n0_ n1_ n2_; (try clear hb); (try clear hb2); (try clear hk); (try clear hi)) | ((with_reducible refine gate_callee (f := 52) rfl ?_); refine goesL_ (some 40) rfl rfl Try.func52 (by kernel_rfl) rfl #[.pointer (some ⟨g255, 0, none⟩), .int .i64 3] rfl (by (try simp only [List.map_toArray, List.map_cons, List.map_nil]); first | done | rfl | (simp only [List.length_drop, List.length_take]; rfl)) ?_; (with_reducible refine (spec_l1Rd_pick.calls kj4 g255 t253 t267 3 t268 t269 w _ ?side1 ?side2 A19.out).mono ?_); (case side1 => repeat (first | (with_reducible first | exact HI255.out | apply IsS104.alloc | apply IsS104.drewN | apply IsS104.drew | apply IsS104.set_1) | exact HI255.out)); (case side2 => repeat (first | (with_reducible first | exact HB.out | apply below_alloc | apply pw_below_drewN | apply below_drew1 | refine below_set ?_ (IsS104.ge HI255.out)) | exact HB.out)); rintro e w22 ⟨rfl, hi, hb, hk⟩; refine ⟨_, rfl, ?_⟩; have n0_ := Aside0.mk (Kd.N_mono (Kd.N_keep (Kd.N_mono (ok := fun k_ => k_ ≠ g255) (by (with_reducible repeat (first | apply Kd.N_alloc | apply Kd.N_drewN | apply Kd.N_drew)); exact HO_6.out) (fun k_ hk_ => (⟨hk_, hk_⟩ : _ ∧ k_ ≠ g255))) hk (fun _ h => h.2)) (fun _ h => h.1)); have n1_ := Aside0.mk (hb); have n2_ := Aside0.mk (hi); clear HO_6; clear HB; clear HI255; have HO_6 := n0_; have HB := n1_; have HI255 := n2_; clear n0_ n1_ n2_; (try clear hb); (try clear hb2); (try clear hk); (try clear hi)))
          go_ret3
          exact ⟨by first | rfl | (simp [errW_none, errW_some] <;> rfl) | (simp [*, errW_none, errW_some] <;> rfl), by repeat (first | (with_reducible first | exact HB.out | apply below_alloc | apply pw_below_drewN | apply below_drew1 | refine below_set ?_ (IsS104.ge HI255.out)) | exact HB.out)⟩
        · rw [if_neg c17] at H
          have c17b0 : (t262 == 1) = false := beq_eq_false_iff_ne.mpr c17
          have c17b1 : (t262 != 1) = true := bne_iff_ne.mpr c17
          by_cases c23 : t262 = 2
          · rw [if_pos c23] at H
            have c23b0 : (t262 == 2) = true := beq_iff_eq.mpr c23
            have c23b1 : (t262 != 2) = false := bne_eq_false_iff_eq.mpr c23
            clear c23
            obtain ⟨y270, hy270⟩ : ∃ y_ : List Int, y_ = (([0, 3, 1, 2, 3, 0, 0, 2, 1, 1, 2, 9, 0, 1] : List Int)) := ⟨_, rfl⟩
            replace H : ((spec_l1Rd_pick.f kj4 t253 t263 2).bind fun bt273 => ((spec_l1Rd_pick.f kj4 t253 bt273.2 3).bind fun bt275 => (some (strOfNums y270, wrap64 (5 + bt273.1), wrap64 (1 + bt275.1))))) = some (r1, r2, r3) := by first | (rw [hy270]; with_reducible exact H) | (have H2_ := (Option.bind_some _ _).symm.trans H; rw [hy270]; with_reducible exact H2_) | (have H2_ := (Option.bind_some _ _).symm.trans H; with_reducible exact H2_) | with_reducible exact H | (rw [hy270]; exact H) | exact H
            have Ny270 := Aside0.mk hy270
            clear hy270
            replace H := Option.bind_eq_some_iff.mp H
            obtain ⟨⟨t273, t274⟩, A240, H⟩ := H
            replace H : ((spec_l1Rd_pick.f kj4 t253 t274 3).bind fun bt275 => (some (strOfNums y270, wrap64 (5 + t273), wrap64 (1 + bt275.1)))) = some (r1, r2, r3) := H
            have A24 := Aside0.mk A240
            clear A240
            replace H := Option.bind_eq_some_iff.mp H
            obtain ⟨⟨t275, t276⟩, A250, H⟩ := H
            replace H : (some (strOfNums y270, wrap64 (5 + t273), wrap64 (1 + t275))) = some (r1, r2, r3) := H
            have A25 := Aside0.mk A250
            clear A250
            simp only [Option.some.injEq, Prod.mk.injEq] at H
            obtain ⟨rfl, rfl, rfl⟩ := H
            try go_wp2_with (first | ((with_reducible refine gate_callee (f := 52) rfl ?_); refine goesL_ (some 23) rfl rfl Try.func52 (by kernel_rfl) rfl #[.pointer (some ⟨g255, 0, none⟩), .int .i64 7] rfl (by (try simp only [List.map_toArray, List.map_cons, List.map_nil]); first | done | rfl | (simp only [List.length_drop, List.length_take]; rfl)) ?_; (with_reducible refine (spec_l1Rd_pick.calls kj4 g255 t253 t259 7 t262 t263 w _ ?side1 ?side2 A12.out).mono ?_); (case side1 => repeat (first | (with_reducible first | exact HI255.out | apply IsS104.alloc | apply IsS104.drewN | apply IsS104.drew | apply IsS104.set_1) | exact HI255.out)); (case side2 => repeat (first | (with_reducible first | exact HB.out | apply below_alloc | apply pw_below_drewN | apply below_drew1 | refine below_set ?_ (IsS104.ge HI255.out)) | exact HB.out)); rintro e w26 ⟨rfl, hi, hb, hk⟩; refine ⟨_, rfl, ?_⟩; have n0_ := Aside0.mk (Kd.N_mono (Kd.N_keep (Kd.N_mono (ok := fun k_ => k_ ≠ g255) (by (with_reducible repeat (first | apply Kd.N_alloc | apply Kd.N_drewN | apply Kd.N_drew)); exact HO_6.out) (fun k_ hk_ => (⟨hk_, hk_⟩ : _ ∧ k_ ≠ g255))) hk (fun _ h => h.2)) (fun _ h => h.1)); have n1_ := Aside0.mk (hb); have n2_ := Aside0.mk (hi); clear HO_6; clear HB; clear HI255; have HO_6 := n0_; have HB := n1_; have HI255 := n2_; clear n0_ n1_ n2_; (try clear hb); (try clear hb2); (try clear hk); (try clear hi)))
            have n0_ := Aside0.mk (Kd.N_drew HO_6.out)
            have n1_ := Aside0.mk (IsS104.drew HI255.out)
            have n2_ := Aside0.mk (below_drew1 HB.out)
            clear HO_6
            clear HI255
            clear HB
            have HO_6 := n0_
            have HI255 := n1_
            have HB := n2_
            clear n0_ n1_ n2_
            refine start_ (n := 11) (S := fun w' => True) (ds := []) #[false, false, false, false, false, false, false, false, false, false, false] (by kernel_rfl) rfl rfl trivial (fun hHeld => ?_); refine with_tabW spec_DrawRleGet.tab13 spec_DrawRleGet.bits13 (fun HT_ HW_ => ?_)
            generalize w26.drew = w27 at HO_6 HI255 HB hHeld ⊢
            refine pure_ (i := 2) (N := some 47) (v := ?_) (a' := ?_) #[false, false, true, false, false, false, false, false, false, false, false] rfl rfl (any_of HT_.out (by kernel_rfl)) (fun _ _ _ h => h) (Or.inl ⟨by rfl, ?_⟩) ?_ ?_
            rotate_left
            · intro w'
              go_simp
              with_reducible rfl
            rotate_left
            · simp only [Act.put, List.setIfInBounds_toArray, List.set_cons_zero, List.set_cons_succ, i64_w, i32_w]
              rfl
            refine pure_ (i := 5) (N := some 50) (v := ?_) (a' := ?_) #[false, false, true, false, false, true, false, false, false, false, false] rfl rfl (any_of HT_.out (by kernel_rfl)) (fun _ _ _ h => h) (Or.inl ⟨by rfl, ?_⟩) ?_ ?_
            rotate_left
            · intro w'
              go_simp
              with_reducible rfl
            rotate_left
            · simp only [Act.put, List.setIfInBounds_toArray, List.set_cons_zero, List.set_cons_succ, i64_w, i32_w]
              rfl
            refine join_ (σ := Value) 3 #[true, true, true, true, true, true, true, true, false, false, false] (fun s_ => [(45, s_), (46, .string (strOfNums y270)), (48, .int .i64 t273), (51, .int .i64 t275), (49, .int .i64 (wrap64 (5 + t273))), (52, .int .i64 (wrap64 (1 + t275)))]) (fun s_ w' => (Kd.R (Kd.int .u8) 5 w' w.heap.size (fun _ => True) s_ y270) ∧ (Kd.N (Kd.slice 3 (Kd.int .i64)) 31 w' w.heap.size (fun k_ => some k_ ≠ (s_ : Value).ownBlock ∧ k_ ≠ g255) (.slice Ao8 t256.length co8) t256) ∧ (IsS104 w w' g255 t253 t276) ∧ (Below w.heap.size w w')) ?_ ?_
            rotate_left
            · intro hJ0_1_3_6
              refine join_ (σ := Value) 5 #[true, true, true, true, true, true, false, false, false, false, false] (fun s_ => [(45, s_), (46, .string (strOfNums y270)), (48, .int .i64 t273), (49, .int .i64 (wrap64 (5 + t273)))]) (fun s_ w' => (Kd.R (Kd.int .u8) 5 w' w.heap.size (fun _ => True) s_ y270) ∧ (Kd.N (Kd.slice 3 (Kd.int .i64)) 31 w' w.heap.size (fun k_ => some k_ ≠ (s_ : Value).ownBlock ∧ k_ ≠ g255) (.slice Ao8 t256.length co8) t256) ∧ (IsS104 w w' g255 t253 t274) ∧ (Below w.heap.size w w')) ?_ ?_
              rotate_left
              · intro hJ0_1_3
                refine join_ (σ := Value) 4 #[true, false, true, true, true, true, true, true, false, false, false] (fun s_ => [(45, s_), (48, .int .i64 t273), (51, .int .i64 t275), (49, .int .i64 (wrap64 (5 + t273))), (52, .int .i64 (wrap64 (1 + t275)))]) (fun s_ w' => (Kd.R (Kd.int .u8) 5 w' w.heap.size (fun _ => True) s_ y270) ∧ (Kd.N (Kd.slice 3 (Kd.int .i64)) 31 w' w.heap.size (fun k_ => some k_ ≠ (s_ : Value).ownBlock ∧ k_ ≠ g255) (.slice Ao8 t256.length co8) t256) ∧ (IsS104 w w' g255 t253 t276) ∧ (Below w.heap.size w w')) ?_ ?_
                rotate_left
                · intro hJ0_3_6
                  refine join_ (σ := Value) 7 #[true, true, true, false, false, true, false, false, false, false, false] (fun s_ => [(45, s_), (46, .string (strOfNums y270))]) (fun s_ w' => (Kd.R (Kd.int .u8) 5 w' w.heap.size (fun _ => True) s_ y270) ∧ (Kd.N (Kd.slice 3 (Kd.int .i64)) 31 w' w.heap.size (fun k_ => some k_ ≠ (s_ : Value).ownBlock ∧ k_ ≠ g255) (.slice Ao8 t256.length co8) t256) ∧ (IsS104 w w' g255 t253 t263) ∧ (Below w.heap.size w w')) ?_ ?_
                  rotate_left
                  · intro hJ0_1
                    refine join_ (σ := Value) 6 #[true, false, true, true, true, true, false, false, false, false, false] (fun s_ => [(45, s_), (48, .int .i64 t273), (49, .int .i64 (wrap64 (5 + t273)))]) (fun s_ w' => (Kd.R (Kd.int .u8) 5 w' w.heap.size (fun _ => True) s_ y270) ∧ (Kd.N (Kd.slice 3 (Kd.int .i64)) 31 w' w.heap.size (fun k_ => some k_ ≠ (s_ : Value).ownBlock ∧ k_ ≠ g255) (.slice Ao8 t256.length co8) t256) ∧ (IsS104 w w' g255 t253 t274) ∧ (Below w.heap.size w w')) ?_ ?_
                    rotate_left
                    · intro hJ0_3
                      refine join_ (σ := Unit) 5 #[false, false, true, true, true, true, true, true, false, false, false] (fun s_ => [(48, .int .i64 t273), (51, .int .i64 t275), (49, .int .i64 (wrap64 (5 + t273))), (52, .int .i64 (wrap64 (1 + t275)))]) (fun s_ w' => (Kd.N (Kd.slice 3 (Kd.int .i64)) 31 w' w.heap.size (fun k_ => k_ ≠ g255) (.slice Ao8 t256.length co8) t256) ∧ (IsS104 w w' g255 t253 t276) ∧ (Below w.heap.size w w')) ?_ ?_
                      rotate_left
                      · intro hJ3_6
                        refine join_ (σ := Value) 8 #[true, false, true, false, false, true, false, false, false, false, false] (fun s_ => [(45, s_)]) (fun s_ w' => (Kd.R (Kd.int .u8) 5 w' w.heap.size (fun _ => True) s_ y270) ∧ (Kd.N (Kd.slice 3 (Kd.int .i64)) 31 w' w.heap.size (fun k_ => some k_ ≠ (s_ : Value).ownBlock ∧ k_ ≠ g255) (.slice Ao8 t256.length co8) t256) ∧ (IsS104 w w' g255 t253 t263) ∧ (Below w.heap.size w w')) ?_ ?_
                        rotate_left
                        · intro hJ0
                          refine join_ (σ := Unit) 7 #[false, false, true, true, true, true, false, false, false, false, false] (fun s_ => [(48, .int .i64 t273), (49, .int .i64 (wrap64 (5 + t273)))]) (fun s_ w' => (Kd.N (Kd.slice 3 (Kd.int .i64)) 31 w' w.heap.size (fun k_ => k_ ≠ g255) (.slice Ao8 t256.length co8) t256) ∧ (IsS104 w w' g255 t253 t274) ∧ (Below w.heap.size w w')) ?_ ?_
                          rotate_left
                          · intro hJ3
                            refine two_ (i := 0) (j := 3) (Ni := some 45) (Nj := some 48) #[true, false, true, false, false, true, false, false, false, false, false] #[false, false, true, true, false, true, false, false, false, false, false] rfl rfl rfl rfl (two_of HT_.out (by kernel_rfl)) (by decide) (by decide) (fun K hK => ?_) (fun K hK => ?_)
                            · skip
                              refine Kd.R_lit_step (Kd.int .u8) _ 5 ?hg (N := 45) ?hd (xs := ([0, 3, 1, 2, 3, 0, 0, 2, 1, 1, 2, 9, 0, 1] : List Int)) (inner := [.int .u8 0, .int .u8 3, .int .u8 1, .int .u8 2, .int .u8 3, .int .u8 0, .int .u8 0, .int .u8 2, .int .u8 1, .int .u8 1, .int .u8 2, .int .u8 9, .int .u8 0, .int .u8 1]) (ok := fun _ => True) (okp := fun _ => True) ?hr ?hp (fun _ hk => hk) trivial (Below.refl _ _) (Nat.le_refl _) (by simp) ?_; (case hd => rfl); (case hg => rfl); (case hr => first | (go_simp; done) | (go_simp; rfl)); (case hp => exact (Reps.one (show Kd.M (Kd.int .u8) _ _ _ 0 [.int .u8 0] from rfl) (Reps.one (show Kd.M (Kd.int .u8) _ _ _ 3 [.int .u8 3] from rfl) (Reps.one (show Kd.M (Kd.int .u8) _ _ _ 1 [.int .u8 1] from rfl) (Reps.one (show Kd.M (Kd.int .u8) _ _ _ 2 [.int .u8 2] from rfl) (Reps.one (show Kd.M (Kd.int .u8) _ _ _ 3 [.int .u8 3] from rfl) (Reps.one (show Kd.M (Kd.int .u8) _ _ _ 0 [.int .u8 0] from rfl) (Reps.one (show Kd.M (Kd.int .u8) _ _ _ 0 [.int .u8 0] from rfl) (Reps.one (show Kd.M (Kd.int .u8) _ _ _ 2 [.int .u8 2] from rfl) (Reps.one (show Kd.M (Kd.int .u8) _ _ _ 1 [.int .u8 1] from rfl) (Reps.one (show Kd.M (Kd.int .u8) _ _ _ 1 [.int .u8 1] from rfl) (Reps.one (show Kd.M (Kd.int .u8) _ _ _ 2 [.int .u8 2] from rfl) (Reps.one (show Kd.M (Kd.int .u8) _ _ _ 9 [.int .u8 9] from rfl) (Reps.one (show Kd.M (Kd.int .u8) _ _ _ 0 [.int .u8 0] from rfl) (Reps.one (show Kd.M (Kd.int .u8) _ _ _ 1 [.int .u8 1] from rfl) (Reps.none _ _))))))))))))))))
                              intro v271 w28 ho29 hb hg_ hnew_
                              clear hg_ hnew_
                              (first | rw [← Ny270.out] at ho29 | (simp only [Int.reduceToNat] at ho29; rw [← Ny270.out] at ho29))
                              have n0_ := Aside0.mk (Kd.N_elder' (by (with_reducible repeat (first | apply Kd.N_alloc | apply Kd.N_drewN | apply Kd.N_drew)); exact HO_6.out) (Kd.R_base ho29) hb)
                              have n1_ := Aside0.mk (Kd.R_lower ho29 (below_size (by repeat (first | (with_reducible first | exact HB.out | apply below_alloc | apply pw_below_drewN | apply below_drew1 | refine below_set ?_ (IsS104.ge HI255.out)) | exact HB.out))))
                              have n2_ := Aside0.mk (IsS104.below (by repeat (first | (with_reducible first | exact HI255.out | apply IsS104.alloc | apply IsS104.drewN | apply IsS104.drew | apply IsS104.set_1) | exact HI255.out)) hb)
                              have n3_ := Aside0.mk (below_step (by repeat (first | (with_reducible first | exact HB.out | apply below_alloc | apply pw_below_drewN | apply below_drew1 | refine below_set ?_ (IsS104.ge HI255.out)) | exact HB.out)) hb)
                              clear HO_6
                              clear HI255
                              clear HB
                              have HO_6 := n0_
                              have HO272 := n1_
                              have HI255 := n2_
                              have HB := n3_
                              clear n0_ n1_ n2_ n3_
                              clear hb ho29
                              refine hK.out _ _ trivial (fun hHeld => ?_)
                              clear hK K
                              refine norm_ (a' := ?_) ?_ ?_
                              rotate_left
                              · show Act.put _ (some 45) _ = _
                                simp only [Act.put, List.setIfInBounds_toArray, List.set_cons_zero, List.set_cons_succ, i64_w, i32_w]
                                rfl
                              exact norm_ (by first | (simp only [putAll, Act.put, List.setIfInBounds_toArray, List.set_cons_zero, List.set_cons_succ]; done) | (simp only [putAll, Act.put, List.setIfInBounds_toArray, List.set_cons_zero, List.set_cons_succ]; rfl)) (hJ0 (v271) _ ⟨(by (with_reducible repeat (first | apply Kd.R_alloc | apply Kd.R_drewN | apply Kd.R_drew)); exact HO272.out), (by (with_reducible repeat (first | apply Kd.N_alloc | apply Kd.N_drewN | apply Kd.N_drew)); exact Kd.N_mono HO_6.out (fun _ hk => ⟨hk.2, hk.1⟩)), (by repeat (first | (with_reducible first | exact HI255.out | apply IsS104.alloc | apply IsS104.drewN | apply IsS104.drew | apply IsS104.set_1) | exact HI255.out)), (by repeat (first | (with_reducible first | exact HB.out | apply below_alloc | apply pw_below_drewN | apply below_drew1 | refine below_set ?_ (IsS104.ge HI255.out)) | exact HB.out))⟩)
                            · skip
                              refine goes_ Try.func52 (by kernel_rfl) rfl #[.pointer (some ⟨g255, 0, none⟩), .int .i64 2] (by rfl) rfl rfl (by (try simp only [List.map_toArray, List.map_cons, List.map_nil]); first | done | rfl | (simp only [List.length_drop, List.length_take]; rfl)) ?_
                              with_reducible refine (spec_l1Rd_pick.calls kj4 g255 t253 t263 2 t273 t274 w _ ?side1 ?side2 A24.out).mono ?_
                              (case side1 => repeat (first | (with_reducible first | exact HI255.out | apply IsS104.alloc | apply IsS104.drewN | apply IsS104.drew | apply IsS104.set_1) | exact HI255.out))
                              (case side2 => repeat (first | (with_reducible first | exact HB.out | apply below_alloc | apply pw_below_drewN | apply below_drew1 | refine below_set ?_ (IsS104.ge HI255.out)) | exact HB.out))
                              rintro e w28 ⟨rfl, hi, hb, hk⟩
                              refine ⟨_, rfl, ?_⟩
                              have n0_ := Aside0.mk (Kd.N_mono (Kd.N_keep (Kd.N_mono (ok := fun k_ => k_ ≠ g255) (by (with_reducible repeat (first | apply Kd.N_alloc | apply Kd.N_drewN | apply Kd.N_drew)); exact HO_6.out) (fun k_ hk_ => (⟨hk_, hk_⟩ : _ ∧ k_ ≠ g255))) hk (fun _ h => h.2)) (fun _ h => h.1))
                              have n1_ := Aside0.mk (hb)
                              have n2_ := Aside0.mk (hi)
                              clear HO_6
                              clear HB
                              clear HI255
                              have HO_6 := n0_
                              have HB := n1_
                              have HI255 := n2_
                              clear n0_ n1_ n2_
                              (try clear hb)
                              (try clear hb2)
                              (try clear hk)
                              (try clear hi)
                              refine hK.out _ _ trivial (fun hHeld => ?_)
                              clear hK K
                              refine norm_ (a' := ?_) ?_ ?_
                              rotate_left
                              · show Act.put _ (some 48) _ = _
                                simp only [Act.put, List.setIfInBounds_toArray, List.set_cons_zero, List.set_cons_succ, i64_w, i32_w]
                                rfl
                              refine pure_ (i := 4) (N := some 49) (v := ?_) (a' := ?_) #[false, false, true, true, true, true, false, false, false, false, false] rfl rfl (any_of HT_.out (by kernel_rfl)) (fun _ _ _ h => h) (Or.inl ⟨by rfl, ?_⟩) ?_ ?_
                              rotate_left
                              · intro w'
                                go_simp
                                with_reducible rfl
                              rotate_left
                              · simp only [Act.put, List.setIfInBounds_toArray, List.set_cons_zero, List.set_cons_succ, i64_w, i32_w]
                                rfl
                              exact norm_ (by first | (simp only [putAll, Act.put, List.setIfInBounds_toArray, List.set_cons_zero, List.set_cons_succ]; done) | (simp only [putAll, Act.put, List.setIfInBounds_toArray, List.set_cons_zero, List.set_cons_succ]; rfl)) (hJ3 () _ ⟨(by (with_reducible repeat (first | apply Kd.N_alloc | apply Kd.N_drewN | apply Kd.N_drew)); exact HO_6.out), (by repeat (first | (with_reducible first | exact HI255.out | apply IsS104.alloc | apply IsS104.drewN | apply IsS104.drew | apply IsS104.set_1) | exact HI255.out)), (by repeat (first | (with_reducible first | exact HB.out | apply below_alloc | apply pw_below_drewN | apply below_drew1 | refine below_set ?_ (IsS104.ge HI255.out)) | exact HB.out))⟩)
                          · skip
                            rintro _ w29 ⟨h0_, h1_, h2_⟩
                            have n0_ : Aside0 (Kd.N (Kd.slice 3 (Kd.int .i64)) 31 w29 w.heap.size (fun k_ => k_ ≠ g255) (.slice Ao8 t256.length co8) t256) := ⟨h0_⟩
                            have n1_ : Aside0 (IsS104 w w29 g255 t253 t274) := ⟨h1_⟩
                            have n2_ : Aside0 (Below w.heap.size w w29) := ⟨h2_⟩
                            clear HO_6
                            clear HI255
                            clear HB
                            clear h0_ h1_ h2_
                            have HO_6 := n0_
                            have HI255 := n1_
                            have HB := n2_
                            clear n0_ n1_ n2_
                            have hHeld := trivial
                            refine norm_ (a' := ?_) ?_ ?_
                            rotate_left
                            · simp only [putAll, Act.put, List.setIfInBounds_toArray, List.set_cons_zero, List.set_cons_succ]
                              rfl
                            refine two_ (i := 0) (j := 6) (Ni := some 45) (Nj := some 51) #[true, false, true, true, true, true, false, false, false, false, false] #[false, false, true, true, true, true, true, false, false, false, false] rfl rfl rfl rfl (two_of HT_.out (by kernel_rfl)) (by decide) (by decide) (fun K hK => ?_) (fun K hK => ?_)
                            · skip
                              refine Kd.R_lit_step (Kd.int .u8) _ 5 ?hg (N := 45) ?hd (xs := ([0, 3, 1, 2, 3, 0, 0, 2, 1, 1, 2, 9, 0, 1] : List Int)) (inner := [.int .u8 0, .int .u8 3, .int .u8 1, .int .u8 2, .int .u8 3, .int .u8 0, .int .u8 0, .int .u8 2, .int .u8 1, .int .u8 1, .int .u8 2, .int .u8 9, .int .u8 0, .int .u8 1]) (ok := fun _ => True) (okp := fun _ => True) ?hr ?hp (fun _ hk => hk) trivial (Below.refl _ _) (Nat.le_refl _) (by simp) ?_; (case hd => rfl); (case hg => rfl); (case hr => first | (go_simp; done) | (go_simp; rfl)); (case hp => exact (Reps.one (show Kd.M (Kd.int .u8) _ _ _ 0 [.int .u8 0] from rfl) (Reps.one (show Kd.M (Kd.int .u8) _ _ _ 3 [.int .u8 3] from rfl) (Reps.one (show Kd.M (Kd.int .u8) _ _ _ 1 [.int .u8 1] from rfl) (Reps.one (show Kd.M (Kd.int .u8) _ _ _ 2 [.int .u8 2] from rfl) (Reps.one (show Kd.M (Kd.int .u8) _ _ _ 3 [.int .u8 3] from rfl) (Reps.one (show Kd.M (Kd.int .u8) _ _ _ 0 [.int .u8 0] from rfl) (Reps.one (show Kd.M (Kd.int .u8) _ _ _ 0 [.int .u8 0] from rfl) (Reps.one (show Kd.M (Kd.int .u8) _ _ _ 2 [.int .u8 2] from rfl) (Reps.one (show Kd.M (Kd.int .u8) _ _ _ 1 [.int .u8 1] from rfl) (Reps.one (show Kd.M (Kd.int .u8) _ _ _ 1 [.int .u8 1] from rfl) (Reps.one (show Kd.M (Kd.int .u8) _ _ _ 2 [.int .u8 2] from rfl) (Reps.one (show Kd.M (Kd.int .u8) _ _ _ 9 [.int .u8 9] from rfl) (Reps.one (show Kd.M (Kd.int .u8) _ _ _ 0 [.int .u8 0] from rfl) (Reps.one (show Kd.M (Kd.int .u8) _ _ _ 1 [.int .u8 1] from rfl) (Reps.none _ _))))))))))))))))
                              intro v271 w30 ho31 hb hg_ hnew_
                              clear hg_ hnew_
                              (first | rw [← Ny270.out] at ho31 | (simp only [Int.reduceToNat] at ho31; rw [← Ny270.out] at ho31))
                              have n0_ := Aside0.mk (Kd.N_elder' (by (with_reducible repeat (first | apply Kd.N_alloc | apply Kd.N_drewN | apply Kd.N_drew)); exact HO_6.out) (Kd.R_base ho31) hb)
                              have n1_ := Aside0.mk (Kd.R_lower ho31 (below_size (by repeat (first | (with_reducible first | exact HB.out | apply below_alloc | apply pw_below_drewN | apply below_drew1 | refine below_set ?_ (IsS104.ge HI255.out)) | exact HB.out))))
                              have n2_ := Aside0.mk (IsS104.below (by repeat (first | (with_reducible first | exact HI255.out | apply IsS104.alloc | apply IsS104.drewN | apply IsS104.drew | apply IsS104.set_1) | exact HI255.out)) hb)
                              have n3_ := Aside0.mk (below_step (by repeat (first | (with_reducible first | exact HB.out | apply below_alloc | apply pw_below_drewN | apply below_drew1 | refine below_set ?_ (IsS104.ge HI255.out)) | exact HB.out)) hb)
                              clear HO_6
                              clear HI255
                              clear HB
                              have HO_6 := n0_
                              have HO272 := n1_
                              have HI255 := n2_
                              have HB := n3_
                              clear n0_ n1_ n2_ n3_
                              clear hb ho31
                              refine hK.out _ _ trivial (fun hHeld => ?_)
                              clear hK K
                              refine norm_ (a' := ?_) ?_ ?_
                              rotate_left
                              · show Act.put _ (some 45) _ = _
                                simp only [Act.put, List.setIfInBounds_toArray, List.set_cons_zero, List.set_cons_succ, i64_w, i32_w]
                                rfl
                              exact norm_ (by first | (simp only [putAll, Act.put, List.setIfInBounds_toArray, List.set_cons_zero, List.set_cons_succ]; done) | (simp only [putAll, Act.put, List.setIfInBounds_toArray, List.set_cons_zero, List.set_cons_succ]; rfl)) (hJ0_3 (v271) _ ⟨(by (with_reducible repeat (first | apply Kd.R_alloc | apply Kd.R_drewN | apply Kd.R_drew)); exact HO272.out), (by (with_reducible repeat (first | apply Kd.N_alloc | apply Kd.N_drewN | apply Kd.N_drew)); exact Kd.N_mono HO_6.out (fun _ hk => ⟨hk.2, hk.1⟩)), (by repeat (first | (with_reducible first | exact HI255.out | apply IsS104.alloc | apply IsS104.drewN | apply IsS104.drew | apply IsS104.set_1) | exact HI255.out)), (by repeat (first | (with_reducible first | exact HB.out | apply below_alloc | apply pw_below_drewN | apply below_drew1 | refine below_set ?_ (IsS104.ge HI255.out)) | exact HB.out))⟩)
                            · skip
                              refine goes_ Try.func52 (by kernel_rfl) rfl #[.pointer (some ⟨g255, 0, none⟩), .int .i64 3] (by rfl) rfl rfl (by (try simp only [List.map_toArray, List.map_cons, List.map_nil]); first | done | rfl | (simp only [List.length_drop, List.length_take]; rfl)) ?_
                              with_reducible refine (spec_l1Rd_pick.calls kj4 g255 t253 t274 3 t275 t276 w _ ?side1 ?side2 A25.out).mono ?_
                              (case side1 => repeat (first | (with_reducible first | exact HI255.out | apply IsS104.alloc | apply IsS104.drewN | apply IsS104.drew | apply IsS104.set_1) | exact HI255.out))
                              (case side2 => repeat (first | (with_reducible first | exact HB.out | apply below_alloc | apply pw_below_drewN | apply below_drew1 | refine below_set ?_ (IsS104.ge HI255.out)) | exact HB.out))
                              rintro e w30 ⟨rfl, hi, hb, hk⟩
                              refine ⟨_, rfl, ?_⟩
                              have n0_ := Aside0.mk (Kd.N_mono (Kd.N_keep (Kd.N_mono (ok := fun k_ => k_ ≠ g255) (by (with_reducible repeat (first | apply Kd.N_alloc | apply Kd.N_drewN | apply Kd.N_drew)); exact HO_6.out) (fun k_ hk_ => (⟨hk_, hk_⟩ : _ ∧ k_ ≠ g255))) hk (fun _ h => h.2)) (fun _ h => h.1))
                              have n1_ := Aside0.mk (hb)
                              have n2_ := Aside0.mk (hi)
                              clear HO_6
                              clear HB
                              clear HI255
                              have HO_6 := n0_
                              have HB := n1_
                              have HI255 := n2_
                              clear n0_ n1_ n2_
                              (try clear hb)
                              (try clear hb2)
                              (try clear hk)
                              (try clear hi)
                              refine hK.out _ _ trivial (fun hHeld => ?_)
                              clear hK K
                              refine norm_ (a' := ?_) ?_ ?_
                              rotate_left
                              · show Act.put _ (some 51) _ = _
                                simp only [Act.put, List.setIfInBounds_toArray, List.set_cons_zero, List.set_cons_succ, i64_w, i32_w]
                                rfl
                              refine pure_ (i := 7) (N := some 52) (v := ?_) (a' := ?_) #[false, false, true, true, true, true, true, true, false, false, false] rfl rfl (any_of HT_.out (by kernel_rfl)) (fun _ _ _ h => h) (Or.inl ⟨by rfl, ?_⟩) ?_ ?_
                              rotate_left
                              · intro w'
                                go_simp
                                with_reducible rfl
                              rotate_left
                              · simp only [Act.put, List.setIfInBounds_toArray, List.set_cons_zero, List.set_cons_succ, i64_w, i32_w]
                                rfl
                              exact norm_ (by first | (simp only [putAll, Act.put, List.setIfInBounds_toArray, List.set_cons_zero, List.set_cons_succ]; done) | (simp only [putAll, Act.put, List.setIfInBounds_toArray, List.set_cons_zero, List.set_cons_succ]; rfl)) (hJ3_6 () _ ⟨(by (with_reducible repeat (first | apply Kd.N_alloc | apply Kd.N_drewN | apply Kd.N_drew)); exact HO_6.out), (by repeat (first | (with_reducible first | exact HI255.out | apply IsS104.alloc | apply IsS104.drewN | apply IsS104.drew | apply IsS104.set_1) | exact HI255.out)), (by repeat (first | (with_reducible first | exact HB.out | apply below_alloc | apply pw_below_drewN | apply below_drew1 | refine below_set ?_ (IsS104.ge HI255.out)) | exact HB.out))⟩)
                        · skip
                          rintro v271 w30 ⟨h0_, h1_, h2_, h3_⟩
                          have n0_ : Aside0 (Kd.R (Kd.int .u8) 5 w30 w.heap.size (fun _ => True) v271 y270) := ⟨h0_⟩
                          have n1_ : Aside0 (Kd.N (Kd.slice 3 (Kd.int .i64)) 31 w30 w.heap.size (fun k_ => some k_ ≠ (v271 : Value).ownBlock ∧ k_ ≠ g255) (.slice Ao8 t256.length co8) t256) := ⟨h1_⟩
                          have n2_ : Aside0 (IsS104 w w30 g255 t253 t263) := ⟨h2_⟩
                          have n3_ : Aside0 (Below w.heap.size w w30) := ⟨h3_⟩
                          clear HO_6
                          clear HI255
                          clear HB
                          clear h0_ h1_ h2_ h3_
                          have HO272 := n0_
                          have HO_6 := n1_
                          have HI255 := n2_
                          have HB := n3_
                          clear n0_ n1_ n2_ n3_
                          have hHeld := trivial
                          refine norm_ (a' := ?_) ?_ ?_
                          rotate_left
                          · simp only [putAll, Act.put, List.setIfInBounds_toArray, List.set_cons_zero, List.set_cons_succ]
                            rfl
                          refine two_ (i := 1) (j := 3) (Ni := some 46) (Nj := some 48) #[true, true, true, false, false, true, false, false, false, false, false] #[true, false, true, true, false, true, false, false, false, false, false] rfl rfl rfl rfl (two_of HT_.out (by kernel_rfl)) (by decide) (by decide) (fun K hK => ?_) (fun K hK => ?_)
                          · skip
                            have hcv31 := own_string (P := Try.prog) Try.underlying28 Try.underlying5 Try.underlying9 (Kd.own_of_R HO272.out)
                            refine value_ (w1 := ?_) (v := ?_) (by rfl) rfl ?_ ?_
                            rotate_left 2
                            · go_simp
                              constructor
                              · rfl
                              · rfl
                            clear hcv31
                            refine hK.out _ _ trivial (fun hHeld => ?_)
                            clear hK K
                            refine norm_ (a' := ?_) ?_ ?_
                            rotate_left
                            · show Act.put _ (some 46) _ = _
                              simp only [Act.put, List.setIfInBounds_toArray, List.set_cons_zero, List.set_cons_succ, i64_w, i32_w]
                              rfl
                            exact norm_ (by first | (simp only [putAll, Act.put, List.setIfInBounds_toArray, List.set_cons_zero, List.set_cons_succ]; done) | (simp only [putAll, Act.put, List.setIfInBounds_toArray, List.set_cons_zero, List.set_cons_succ]; rfl)) (hJ0_1 (v271) _ ⟨(by (with_reducible repeat (first | apply Kd.R_alloc | apply Kd.R_drewN | apply Kd.R_drew)); exact HO272.out), (by (with_reducible repeat (first | apply Kd.N_alloc | apply Kd.N_drewN | apply Kd.N_drew)); exact HO_6.out), (by repeat (first | (with_reducible first | exact HI255.out | apply IsS104.alloc | apply IsS104.drewN | apply IsS104.drew | apply IsS104.set_1) | exact HI255.out)), (by repeat (first | (with_reducible first | exact HB.out | apply below_alloc | apply pw_below_drewN | apply below_drew1 | refine below_set ?_ (IsS104.ge HI255.out)) | exact HB.out))⟩)
                          · skip
                            refine goes_ Try.func52 (by kernel_rfl) rfl #[.pointer (some ⟨g255, 0, none⟩), .int .i64 2] (by rfl) rfl rfl (by (try simp only [List.map_toArray, List.map_cons, List.map_nil]); first | done | rfl | (simp only [List.length_drop, List.length_take]; rfl)) ?_
                            with_reducible refine (spec_l1Rd_pick.calls kj4 g255 t253 t263 2 t273 t274 w _ ?side1 ?side2 A24.out).mono ?_
                            (case side1 => repeat (first | (with_reducible first | exact HI255.out | apply IsS104.alloc | apply IsS104.drewN | apply IsS104.drew | apply IsS104.set_1) | exact HI255.out))
                            (case side2 => repeat (first | (with_reducible first | exact HB.out | apply below_alloc | apply pw_below_drewN | apply below_drew1 | refine below_set ?_ (IsS104.ge HI255.out)) | exact HB.out))
                            rintro e w31 ⟨rfl, hi, hb, hk⟩
                            refine ⟨_, rfl, ?_⟩
                            have n0_ := Aside0.mk (Kd.N_mono (Kd.N_keep (Kd.N_mono (ok := fun k_ => (some k_ ≠ (v271 : Value).ownBlock ∧ k_ ≠ g255)) (by (with_reducible repeat (first | apply Kd.N_alloc | apply Kd.N_drewN | apply Kd.N_drew)); exact HO_6.out) (fun k_ hk_ => (⟨hk_, hk_.2⟩ : _ ∧ k_ ≠ g255))) hk (fun _ h => h.2)) (fun _ h => h.1))
                            have n1_ := Aside0.mk (Kd.R_mono (Kd.R_keep (IsS104.apart (show IsS104 w _ g255 t253 t263 from by repeat (first | (with_reducible first | exact HI255.out | apply IsS104.alloc | apply IsS104.drewN | apply IsS104.drew | apply IsS104.set_1) | exact HI255.out)) (by (with_reducible repeat (first | apply Kd.R_alloc | apply Kd.R_drewN | apply Kd.R_drew)); exact HO272.out) (by decide)) hk (fun _ h => h.2)) (fun _ h => h.1))
                            have n2_ := Aside0.mk (hb)
                            have n3_ := Aside0.mk (hi)
                            clear HO_6
                            clear HO272
                            clear HB
                            clear HI255
                            have HO_6 := n0_
                            have HO272 := n1_
                            have HB := n2_
                            have HI255 := n3_
                            clear n0_ n1_ n2_ n3_
                            (try clear hb)
                            (try clear hb2)
                            (try clear hk)
                            (try clear hi)
                            refine hK.out _ _ trivial (fun hHeld => ?_)
                            clear hK K
                            refine norm_ (a' := ?_) ?_ ?_
                            rotate_left
                            · show Act.put _ (some 48) _ = _
                              simp only [Act.put, List.setIfInBounds_toArray, List.set_cons_zero, List.set_cons_succ, i64_w, i32_w]
                              rfl
                            refine pure_ (i := 4) (N := some 49) (v := ?_) (a' := ?_) #[true, false, true, true, true, true, false, false, false, false, false] rfl rfl (any_of HT_.out (by kernel_rfl)) (fun _ _ _ h => h) (Or.inl ⟨by rfl, ?_⟩) ?_ ?_
                            rotate_left
                            · intro w'
                              go_simp
                              with_reducible rfl
                            rotate_left
                            · simp only [Act.put, List.setIfInBounds_toArray, List.set_cons_zero, List.set_cons_succ, i64_w, i32_w]
                              rfl
                            exact norm_ (by first | (simp only [putAll, Act.put, List.setIfInBounds_toArray, List.set_cons_zero, List.set_cons_succ]; done) | (simp only [putAll, Act.put, List.setIfInBounds_toArray, List.set_cons_zero, List.set_cons_succ]; rfl)) (hJ0_3 (v271) _ ⟨(by (with_reducible repeat (first | apply Kd.R_alloc | apply Kd.R_drewN | apply Kd.R_drew)); exact HO272.out), (by (with_reducible repeat (first | apply Kd.N_alloc | apply Kd.N_drewN | apply Kd.N_drew)); exact HO_6.out), (by repeat (first | (with_reducible first | exact HI255.out | apply IsS104.alloc | apply IsS104.drewN | apply IsS104.drew | apply IsS104.set_1) | exact HI255.out)), (by repeat (first | (with_reducible first | exact HB.out | apply below_alloc | apply pw_below_drewN | apply below_drew1 | refine below_set ?_ (IsS104.ge HI255.out)) | exact HB.out))⟩)
                      · skip
                        rintro _ w30 ⟨h0_, h1_, h2_⟩
                        have n0_ : Aside0 (Kd.N (Kd.slice 3 (Kd.int .i64)) 31 w30 w.heap.size (fun k_ => k_ ≠ g255) (.slice Ao8 t256.length co8) t256) := ⟨h0_⟩
                        have n1_ : Aside0 (IsS104 w w30 g255 t253 t276) := ⟨h1_⟩
                        have n2_ : Aside0 (Below w.heap.size w w30) := ⟨h2_⟩
                        clear HO_6
                        clear HI255
                        clear HB
                        clear h0_ h1_ h2_
                        have HO_6 := n0_
                        have HI255 := n1_
                        have HB := n2_
                        clear n0_ n1_ n2_
                        have hHeld := trivial
                        refine norm_ (a' := ?_) ?_ ?_
                        rotate_left
                        · simp only [putAll, Act.put, List.setIfInBounds_toArray, List.set_cons_zero, List.set_cons_succ]
                          rfl
                        refine one_ (i := 0) (N := some 45) #[true, false, true, true, true, true, true, true, false, false, false] rfl rfl (one_of HT_.out (by kernel_rfl)) (by decide) (fun K hK => ?_)
                        refine Kd.R_lit_step (Kd.int .u8) _ 5 ?hg (N := 45) ?hd (xs := ([0, 3, 1, 2, 3, 0, 0, 2, 1, 1, 2, 9, 0, 1] : List Int)) (inner := [.int .u8 0, .int .u8 3, .int .u8 1, .int .u8 2, .int .u8 3, .int .u8 0, .int .u8 0, .int .u8 2, .int .u8 1, .int .u8 1, .int .u8 2, .int .u8 9, .int .u8 0, .int .u8 1]) (ok := fun _ => True) (okp := fun _ => True) ?hr ?hp (fun _ hk => hk) trivial (Below.refl _ _) (Nat.le_refl _) (by simp) ?_; (case hd => rfl); (case hg => rfl); (case hr => first | (go_simp; done) | (go_simp; rfl)); (case hp => exact (Reps.one (show Kd.M (Kd.int .u8) _ _ _ 0 [.int .u8 0] from rfl) (Reps.one (show Kd.M (Kd.int .u8) _ _ _ 3 [.int .u8 3] from rfl) (Reps.one (show Kd.M (Kd.int .u8) _ _ _ 1 [.int .u8 1] from rfl) (Reps.one (show Kd.M (Kd.int .u8) _ _ _ 2 [.int .u8 2] from rfl) (Reps.one (show Kd.M (Kd.int .u8) _ _ _ 3 [.int .u8 3] from rfl) (Reps.one (show Kd.M (Kd.int .u8) _ _ _ 0 [.int .u8 0] from rfl) (Reps.one (show Kd.M (Kd.int .u8) _ _ _ 0 [.int .u8 0] from rfl) (Reps.one (show Kd.M (Kd.int .u8) _ _ _ 2 [.int .u8 2] from rfl) (Reps.one (show Kd.M (Kd.int .u8) _ _ _ 1 [.int .u8 1] from rfl) (Reps.one (show Kd.M (Kd.int .u8) _ _ _ 1 [.int .u8 1] from rfl) (Reps.one (show Kd.M (Kd.int .u8) _ _ _ 2 [.int .u8 2] from rfl) (Reps.one (show Kd.M (Kd.int .u8) _ _ _ 9 [.int .u8 9] from rfl) (Reps.one (show Kd.M (Kd.int .u8) _ _ _ 0 [.int .u8 0] from rfl) (Reps.one (show Kd.M (Kd.int .u8) _ _ _ 1 [.int .u8 1] from rfl) (Reps.none _ _))))))))))))))))
                        intro v271 w31 ho32 hb hg_ hnew_
                        clear hg_ hnew_
                        (first | rw [← Ny270.out] at ho32 | (simp only [Int.reduceToNat] at ho32; rw [← Ny270.out] at ho32))
                        have n0_ := Aside0.mk (Kd.N_elder' (by (with_reducible repeat (first | apply Kd.N_alloc | apply Kd.N_drewN | apply Kd.N_drew)); exact HO_6.out) (Kd.R_base ho32) hb)
                        have n1_ := Aside0.mk (Kd.R_lower ho32 (below_size (by repeat (first | (with_reducible first | exact HB.out | apply below_alloc | apply pw_below_drewN | apply below_drew1 | refine below_set ?_ (IsS104.ge HI255.out)) | exact HB.out))))
                        have n2_ := Aside0.mk (IsS104.below (by repeat (first | (with_reducible first | exact HI255.out | apply IsS104.alloc | apply IsS104.drewN | apply IsS104.drew | apply IsS104.set_1) | exact HI255.out)) hb)
                        have n3_ := Aside0.mk (below_step (by repeat (first | (with_reducible first | exact HB.out | apply below_alloc | apply pw_below_drewN | apply below_drew1 | refine below_set ?_ (IsS104.ge HI255.out)) | exact HB.out)) hb)
                        clear HO_6
                        clear HI255
                        clear HB
                        have HO_6 := n0_
                        have HO272 := n1_
                        have HI255 := n2_
                        have HB := n3_
                        clear n0_ n1_ n2_ n3_
                        clear hb ho32
                        refine hK.out _ _ trivial (fun hHeld => ?_)
                        clear hK K
                        refine norm_ (a' := ?_) ?_ ?_
                        rotate_left
                        · show Act.put _ (some 45) _ = _
                          simp only [Act.put, List.setIfInBounds_toArray, List.set_cons_zero, List.set_cons_succ, i64_w, i32_w]
                          rfl
                        exact norm_ (by first | (simp only [putAll, Act.put, List.setIfInBounds_toArray, List.set_cons_zero, List.set_cons_succ]; done) | (simp only [putAll, Act.put, List.setIfInBounds_toArray, List.set_cons_zero, List.set_cons_succ]; rfl)) (hJ0_3_6 (v271) _ ⟨(by (with_reducible repeat (first | apply Kd.R_alloc | apply Kd.R_drewN | apply Kd.R_drew)); exact HO272.out), (by (with_reducible repeat (first | apply Kd.N_alloc | apply Kd.N_drewN | apply Kd.N_drew)); exact Kd.N_mono HO_6.out (fun _ hk => ⟨hk.2, hk.1⟩)), (by repeat (first | (with_reducible first | exact HI255.out | apply IsS104.alloc | apply IsS104.drewN | apply IsS104.drew | apply IsS104.set_1) | exact HI255.out)), (by repeat (first | (with_reducible first | exact HB.out | apply below_alloc | apply pw_below_drewN | apply below_drew1 | refine below_set ?_ (IsS104.ge HI255.out)) | exact HB.out))⟩)
                    · skip
                      rintro v271 w31 ⟨h0_, h1_, h2_, h3_⟩
                      have n0_ : Aside0 (Kd.R (Kd.int .u8) 5 w31 w.heap.size (fun _ => True) v271 y270) := ⟨h0_⟩
                      have n1_ : Aside0 (Kd.N (Kd.slice 3 (Kd.int .i64)) 31 w31 w.heap.size (fun k_ => some k_ ≠ (v271 : Value).ownBlock ∧ k_ ≠ g255) (.slice Ao8 t256.length co8) t256) := ⟨h1_⟩
                      have n2_ : Aside0 (IsS104 w w31 g255 t253 t274) := ⟨h2_⟩
                      have n3_ : Aside0 (Below w.heap.size w w31) := ⟨h3_⟩
                      clear HO_6
                      clear HI255
                      clear HB
                      clear h0_ h1_ h2_ h3_
                      have HO272 := n0_
                      have HO_6 := n1_
                      have HI255 := n2_
                      have HB := n3_
                      clear n0_ n1_ n2_ n3_
                      have hHeld := trivial
                      refine norm_ (a' := ?_) ?_ ?_
                      rotate_left
                      · simp only [putAll, Act.put, List.setIfInBounds_toArray, List.set_cons_zero, List.set_cons_succ]
                        rfl
                      refine two_ (i := 1) (j := 6) (Ni := some 46) (Nj := some 51) #[true, true, true, true, true, true, false, false, false, false, false] #[true, false, true, true, true, true, true, false, false, false, false] rfl rfl rfl rfl (two_of HT_.out (by kernel_rfl)) (by decide) (by decide) (fun K hK => ?_) (fun K hK => ?_)
                      · skip
                        have hcv32 := own_string (P := Try.prog) Try.underlying28 Try.underlying5 Try.underlying9 (Kd.own_of_R HO272.out)
                        refine value_ (w1 := ?_) (v := ?_) (by rfl) rfl ?_ ?_
                        rotate_left 2
                        · go_simp
                          constructor
                          · rfl
                          · rfl
                        clear hcv32
                        refine hK.out _ _ trivial (fun hHeld => ?_)
                        clear hK K
                        refine norm_ (a' := ?_) ?_ ?_
                        rotate_left
                        · show Act.put _ (some 46) _ = _
                          simp only [Act.put, List.setIfInBounds_toArray, List.set_cons_zero, List.set_cons_succ, i64_w, i32_w]
                          rfl
                        exact norm_ (by first | (simp only [putAll, Act.put, List.setIfInBounds_toArray, List.set_cons_zero, List.set_cons_succ]; done) | (simp only [putAll, Act.put, List.setIfInBounds_toArray, List.set_cons_zero, List.set_cons_succ]; rfl)) (hJ0_1_3 (v271) _ ⟨(by (with_reducible repeat (first | apply Kd.R_alloc | apply Kd.R_drewN | apply Kd.R_drew)); exact HO272.out), (by (with_reducible repeat (first | apply Kd.N_alloc | apply Kd.N_drewN | apply Kd.N_drew)); exact HO_6.out), (by repeat (first | (with_reducible first | exact HI255.out | apply IsS104.alloc | apply IsS104.drewN | apply IsS104.drew | apply IsS104.set_1) | exact HI255.out)), (by repeat (first | (with_reducible first | exact HB.out | apply below_alloc | apply pw_below_drewN | apply below_drew1 | refine below_set ?_ (IsS104.ge HI255.out)) | exact HB.out))⟩)
                      · skip
                        refine goes_ Try.func52 (by kernel_rfl) rfl #[.pointer (some ⟨g255, 0, none⟩), .int .i64 3] (by rfl) rfl rfl (by (try simp only [List.map_toArray, List.map_cons, List.map_nil]); first | done | rfl | (simp only [List.length_drop, List.length_take]; rfl)) ?_
                        with_reducible refine (spec_l1Rd_pick.calls kj4 g255 t253 t274 3 t275 t276 w _ ?side1 ?side2 A25.out).mono ?_
                        (case side1 => repeat (first | (with_reducible first | exact HI255.out | apply IsS104.alloc | apply IsS104.drewN | apply IsS104.drew | apply IsS104.set_1) | exact HI255.out))
                        (case side2 => repeat (first | (with_reducible first | exact HB.out | apply below_alloc | apply pw_below_drewN | apply below_drew1 | refine below_set ?_ (IsS104.ge HI255.out)) | exact HB.out))
                        rintro e w32 ⟨rfl, hi, hb, hk⟩
                        refine ⟨_, rfl, ?_⟩
                        have n0_ := Aside0.mk (Kd.N_mono (Kd.N_keep (Kd.N_mono (ok := fun k_ => (some k_ ≠ (v271 : Value).ownBlock ∧ k_ ≠ g255)) (by (with_reducible repeat (first | apply Kd.N_alloc | apply Kd.N_drewN | apply Kd.N_drew)); exact HO_6.out) (fun k_ hk_ => (⟨hk_, hk_.2⟩ : _ ∧ k_ ≠ g255))) hk (fun _ h => h.2)) (fun _ h => h.1))
                        have n1_ := Aside0.mk (Kd.R_mono (Kd.R_keep (IsS104.apart (show IsS104 w _ g255 t253 t274 from by repeat (first | (with_reducible first | exact HI255.out | apply IsS104.alloc | apply IsS104.drewN | apply IsS104.drew | apply IsS104.set_1) | exact HI255.out)) (by (with_reducible repeat (first | apply Kd.R_alloc | apply Kd.R_drewN | apply Kd.R_drew)); exact HO272.out) (by decide)) hk (fun _ h => h.2)) (fun _ h => h.1))
                        have n2_ := Aside0.mk (hb)
                        have n3_ := Aside0.mk (hi)
                        clear HO_6
                        clear HO272
                        clear HB
                        clear HI255
                        have HO_6 := n0_
                        have HO272 := n1_
                        have HB := n2_
                        have HI255 := n3_
                        clear n0_ n1_ n2_ n3_
                        (try clear hb)
                        (try clear hb2)
                        (try clear hk)
                        (try clear hi)
                        refine hK.out _ _ trivial (fun hHeld => ?_)
                        clear hK K
                        refine norm_ (a' := ?_) ?_ ?_
                        rotate_left
                        · show Act.put _ (some 51) _ = _
                          simp only [Act.put, List.setIfInBounds_toArray, List.set_cons_zero, List.set_cons_succ, i64_w, i32_w]
                          rfl
                        refine pure_ (i := 7) (N := some 52) (v := ?_) (a' := ?_) #[true, false, true, true, true, true, true, true, false, false, false] rfl rfl (any_of HT_.out (by kernel_rfl)) (fun _ _ _ h => h) (Or.inl ⟨by rfl, ?_⟩) ?_ ?_
                        rotate_left
                        · intro w'
                          go_simp
                          with_reducible rfl
                        rotate_left
                        · simp only [Act.put, List.setIfInBounds_toArray, List.set_cons_zero, List.set_cons_succ, i64_w, i32_w]
                          rfl
                        exact norm_ (by first | (simp only [putAll, Act.put, List.setIfInBounds_toArray, List.set_cons_zero, List.set_cons_succ]; done) | (simp only [putAll, Act.put, List.setIfInBounds_toArray, List.set_cons_zero, List.set_cons_succ]; rfl)) (hJ0_3_6 (v271) _ ⟨(by (with_reducible repeat (first | apply Kd.R_alloc | apply Kd.R_drewN | apply Kd.R_drew)); exact HO272.out), (by (with_reducible repeat (first | apply Kd.N_alloc | apply Kd.N_drewN | apply Kd.N_drew)); exact HO_6.out), (by repeat (first | (with_reducible first | exact HI255.out | apply IsS104.alloc | apply IsS104.drewN | apply IsS104.drew | apply IsS104.set_1) | exact HI255.out)), (by repeat (first | (with_reducible first | exact HB.out | apply below_alloc | apply pw_below_drewN | apply below_drew1 | refine below_set ?_ (IsS104.ge HI255.out)) | exact HB.out))⟩)
                  · skip
                    rintro v271 w31 ⟨h0_, h1_, h2_, h3_⟩
                    have n0_ : Aside0 (Kd.R (Kd.int .u8) 5 w31 w.heap.size (fun _ => True) v271 y270) := ⟨h0_⟩
                    have n1_ : Aside0 (Kd.N (Kd.slice 3 (Kd.int .i64)) 31 w31 w.heap.size (fun k_ => some k_ ≠ (v271 : Value).ownBlock ∧ k_ ≠ g255) (.slice Ao8 t256.length co8) t256) := ⟨h1_⟩
                    have n2_ : Aside0 (IsS104 w w31 g255 t253 t263) := ⟨h2_⟩
                    have n3_ : Aside0 (Below w.heap.size w w31) := ⟨h3_⟩
                    clear HO_6
                    clear HI255
                    clear HB
                    clear h0_ h1_ h2_ h3_
                    have HO272 := n0_
                    have HO_6 := n1_
                    have HI255 := n2_
                    have HB := n3_
                    clear n0_ n1_ n2_ n3_
                    have hHeld := trivial
                    refine norm_ (a' := ?_) ?_ ?_
                    rotate_left
                    · simp only [putAll, Act.put, List.setIfInBounds_toArray, List.set_cons_zero, List.set_cons_succ]
                      rfl
                    refine one_ (i := 3) (N := some 48) #[true, true, true, true, false, true, false, false, false, false, false] rfl rfl (one_of HT_.out (by kernel_rfl)) (by decide) (fun K hK => ?_)
                    refine goes_ Try.func52 (by kernel_rfl) rfl #[.pointer (some ⟨g255, 0, none⟩), .int .i64 2] (by rfl) rfl rfl (by (try simp only [List.map_toArray, List.map_cons, List.map_nil]); first | done | rfl | (simp only [List.length_drop, List.length_take]; rfl)) ?_
                    with_reducible refine (spec_l1Rd_pick.calls kj4 g255 t253 t263 2 t273 t274 w _ ?side1 ?side2 A24.out).mono ?_
                    (case side1 => repeat (first | (with_reducible first | exact HI255.out | apply IsS104.alloc | apply IsS104.drewN | apply IsS104.drew | apply IsS104.set_1) | exact HI255.out))
                    (case side2 => repeat (first | (with_reducible first | exact HB.out | apply below_alloc | apply pw_below_drewN | apply below_drew1 | refine below_set ?_ (IsS104.ge HI255.out)) | exact HB.out))
                    rintro e w32 ⟨rfl, hi, hb, hk⟩
                    refine ⟨_, rfl, ?_⟩
                    have n0_ := Aside0.mk (Kd.N_mono (Kd.N_keep (Kd.N_mono (ok := fun k_ => (some k_ ≠ (v271 : Value).ownBlock ∧ k_ ≠ g255)) (by (with_reducible repeat (first | apply Kd.N_alloc | apply Kd.N_drewN | apply Kd.N_drew)); exact HO_6.out) (fun k_ hk_ => (⟨hk_, hk_.2⟩ : _ ∧ k_ ≠ g255))) hk (fun _ h => h.2)) (fun _ h => h.1))
                    have n1_ := Aside0.mk (Kd.R_mono (Kd.R_keep (IsS104.apart (show IsS104 w _ g255 t253 t263 from by repeat (first | (with_reducible first | exact HI255.out | apply IsS104.alloc | apply IsS104.drewN | apply IsS104.drew | apply IsS104.set_1) | exact HI255.out)) (by (with_reducible repeat (first | apply Kd.R_alloc | apply Kd.R_drewN | apply Kd.R_drew)); exact HO272.out) (by decide)) hk (fun _ h => h.2)) (fun _ h => h.1))
                    have n2_ := Aside0.mk (hb)
                    have n3_ := Aside0.mk (hi)
                    clear HO_6
                    clear HO272
                    clear HB
                    clear HI255
                    have HO_6 := n0_
                    have HO272 := n1_
                    have HB := n2_
                    have HI255 := n3_
                    clear n0_ n1_ n2_ n3_
                    (try clear hb)
                    (try clear hb2)
                    (try clear hk)
                    (try clear hi)
                    refine hK.out _ _ trivial (fun hHeld => ?_)
                    clear hK K
                    refine norm_ (a' := ?_) ?_ ?_
                    rotate_left
                    · show Act.put _ (some 48) _ = _
                      simp only [Act.put, List.setIfInBounds_toArray, List.set_cons_zero, List.set_cons_succ, i64_w, i32_w]
                      rfl
                    refine pure_ (i := 4) (N := some 49) (v := ?_) (a' := ?_) #[true, true, true, true, true, true, false, false, false, false, false] rfl rfl (any_of HT_.out (by kernel_rfl)) (fun _ _ _ h => h) (Or.inl ⟨by rfl, ?_⟩) ?_ ?_
                    rotate_left
                    · intro w'
                      go_simp
                      with_reducible rfl
                    rotate_left
                    · simp only [Act.put, List.setIfInBounds_toArray, List.set_cons_zero, List.set_cons_succ, i64_w, i32_w]
                      rfl
                    exact norm_ (by first | (simp only [putAll, Act.put, List.setIfInBounds_toArray, List.set_cons_zero, List.set_cons_succ]; done) | (simp only [putAll, Act.put, List.setIfInBounds_toArray, List.set_cons_zero, List.set_cons_succ]; rfl)) (hJ0_1_3 (v271) _ ⟨(by (with_reducible repeat (first | apply Kd.R_alloc | apply Kd.R_drewN | apply Kd.R_drew)); exact HO272.out), (by (with_reducible repeat (first | apply Kd.N_alloc | apply Kd.N_drewN | apply Kd.N_drew)); exact HO_6.out), (by repeat (first | (with_reducible first | exact HI255.out | apply IsS104.alloc | apply IsS104.drewN | apply IsS104.drew | apply IsS104.set_1) | exact HI255.out)), (by repeat (first | (with_reducible first | exact HB.out | apply below_alloc | apply pw_below_drewN | apply below_drew1 | refine below_set ?_ (IsS104.ge HI255.out)) | exact HB.out))⟩)
                · skip
                  rintro v271 w32 ⟨h0_, h1_, h2_, h3_⟩
                  have n0_ : Aside0 (Kd.R (Kd.int .u8) 5 w32 w.heap.size (fun _ => True) v271 y270) := ⟨h0_⟩
                  have n1_ : Aside0 (Kd.N (Kd.slice 3 (Kd.int .i64)) 31 w32 w.heap.size (fun k_ => some k_ ≠ (v271 : Value).ownBlock ∧ k_ ≠ g255) (.slice Ao8 t256.length co8) t256) := ⟨h1_⟩
                  have n2_ : Aside0 (IsS104 w w32 g255 t253 t276) := ⟨h2_⟩
                  have n3_ : Aside0 (Below w.heap.size w w32) := ⟨h3_⟩
                  clear HO_6
                  clear HI255
                  clear HB
                  clear h0_ h1_ h2_ h3_
                  have HO272 := n0_
                  have HO_6 := n1_
                  have HI255 := n2_
                  have HB := n3_
                  clear n0_ n1_ n2_ n3_
                  have hHeld := trivial
                  refine norm_ (a' := ?_) ?_ ?_
                  rotate_left
                  · simp only [putAll, Act.put, List.setIfInBounds_toArray, List.set_cons_zero, List.set_cons_succ]
                    rfl
                  refine one_ (i := 1) (N := some 46) #[true, true, true, true, true, true, true, true, false, false, false] rfl rfl (one_of HT_.out (by kernel_rfl)) (by decide) (fun K hK => ?_)
                  have hcv33 := own_string (P := Try.prog) Try.underlying28 Try.underlying5 Try.underlying9 (Kd.own_of_R HO272.out)
                  refine value_ (w1 := ?_) (v := ?_) (by rfl) rfl ?_ ?_
                  rotate_left 2
                  · go_simp
                    constructor
                    · rfl
                    · rfl
                  clear hcv33
                  refine hK.out _ _ trivial (fun hHeld => ?_)
                  clear hK K
                  refine norm_ (a' := ?_) ?_ ?_
                  rotate_left
                  · show Act.put _ (some 46) _ = _
                    simp only [Act.put, List.setIfInBounds_toArray, List.set_cons_zero, List.set_cons_succ, i64_w, i32_w]
                    rfl
                  exact norm_ (by first | (simp only [putAll, Act.put, List.setIfInBounds_toArray, List.set_cons_zero, List.set_cons_succ]; done) | (simp only [putAll, Act.put, List.setIfInBounds_toArray, List.set_cons_zero, List.set_cons_succ]; rfl)) (hJ0_1_3_6 (v271) _ ⟨(by (with_reducible repeat (first | apply Kd.R_alloc | apply Kd.R_drewN | apply Kd.R_drew)); exact HO272.out), (by (with_reducible repeat (first | apply Kd.N_alloc | apply Kd.N_drewN | apply Kd.N_drew)); exact HO_6.out), (by repeat (first | (with_reducible first | exact HI255.out | apply IsS104.alloc | apply IsS104.drewN | apply IsS104.drew | apply IsS104.set_1) | exact HI255.out)), (by repeat (first | (with_reducible first | exact HB.out | apply below_alloc | apply pw_below_drewN | apply below_drew1 | refine below_set ?_ (IsS104.ge HI255.out)) | exact HB.out))⟩)
              · skip
                rintro v271 w32 ⟨h0_, h1_, h2_, h3_⟩
                have n0_ : Aside0 (Kd.R (Kd.int .u8) 5 w32 w.heap.size (fun _ => True) v271 y270) := ⟨h0_⟩
                have n1_ : Aside0 (Kd.N (Kd.slice 3 (Kd.int .i64)) 31 w32 w.heap.size (fun k_ => some k_ ≠ (v271 : Value).ownBlock ∧ k_ ≠ g255) (.slice Ao8 t256.length co8) t256) := ⟨h1_⟩
                have n2_ : Aside0 (IsS104 w w32 g255 t253 t274) := ⟨h2_⟩
                have n3_ : Aside0 (Below w.heap.size w w32) := ⟨h3_⟩
                clear HO_6
                clear HI255
                clear HB
                clear h0_ h1_ h2_ h3_
                have HO272 := n0_
                have HO_6 := n1_
                have HI255 := n2_
                have HB := n3_
                clear n0_ n1_ n2_ n3_
                have hHeld := trivial
                refine norm_ (a' := ?_) ?_ ?_
                rotate_left
                · simp only [putAll, Act.put, List.setIfInBounds_toArray, List.set_cons_zero, List.set_cons_succ]
                  rfl
                refine one_ (i := 6) (N := some 51) #[true, true, true, true, true, true, true, false, false, false, false] rfl rfl (one_of HT_.out (by kernel_rfl)) (by decide) (fun K hK => ?_)
                refine goes_ Try.func52 (by kernel_rfl) rfl #[.pointer (some ⟨g255, 0, none⟩), .int .i64 3] (by rfl) rfl rfl (by (try simp only [List.map_toArray, List.map_cons, List.map_nil]); first | done | rfl | (simp only [List.length_drop, List.length_take]; rfl)) ?_
                with_reducible refine (spec_l1Rd_pick.calls kj4 g255 t253 t274 3 t275 t276 w _ ?side1 ?side2 A25.out).mono ?_
                (case side1 => repeat (first | (with_reducible first | exact HI255.out | apply IsS104.alloc | apply IsS104.drewN | apply IsS104.drew | apply IsS104.set_1) | exact HI255.out))
                (case side2 => repeat (first | (with_reducible first | exact HB.out | apply below_alloc | apply pw_below_drewN | apply below_drew1 | refine below_set ?_ (IsS104.ge HI255.out)) | exact HB.out))
                rintro e w33 ⟨rfl, hi, hb, hk⟩
                refine ⟨_, rfl, ?_⟩
                have n0_ := Aside0.mk (Kd.N_mono (Kd.N_keep (Kd.N_mono (ok := fun k_ => (some k_ ≠ (v271 : Value).ownBlock ∧ k_ ≠ g255)) (by (with_reducible repeat (first | apply Kd.N_alloc | apply Kd.N_drewN | apply Kd.N_drew)); exact HO_6.out) (fun k_ hk_ => (⟨hk_, hk_.2⟩ : _ ∧ k_ ≠ g255))) hk (fun _ h => h.2)) (fun _ h => h.1))
                have n1_ := Aside0.mk (Kd.R_mono (Kd.R_keep (IsS104.apart (show IsS104 w _ g255 t253 t274 from by repeat (first | (with_reducible first | exact HI255.out | apply IsS104.alloc | apply IsS104.drewN | apply IsS104.drew | apply IsS104.set_1) | exact HI255.out)) (by (with_reducible repeat (first | apply Kd.R_alloc | apply Kd.R_drewN | apply Kd.R_drew)); exact HO272.out) (by decide)) hk (fun _ h => h.2)) (fun _ h => h.1))
                have n2_ := Aside0.mk (hb)
                have n3_ := Aside0.mk (hi)
                clear HO_6
                clear HO272
                clear HB
                clear HI255
                have HO_6 := n0_
                have HO272 := n1_
                have HB := n2_
                have HI255 := n3_
                clear n0_ n1_ n2_ n3_
                (try clear hb)
                (try clear hb2)
                (try clear hk)
                (try clear hi)
                refine hK.out _ _ trivial (fun hHeld => ?_)
                clear hK K
                refine norm_ (a' := ?_) ?_ ?_
                rotate_left
                · show Act.put _ (some 51) _ = _
                  simp only [Act.put, List.setIfInBounds_toArray, List.set_cons_zero, List.set_cons_succ, i64_w, i32_w]
                  rfl
                refine pure_ (i := 7) (N := some 52) (v := ?_) (a' := ?_) #[true, true, true, true, true, true, true, true, false, false, false] rfl rfl (any_of HT_.out (by kernel_rfl)) (fun _ _ _ h => h) (Or.inl ⟨by rfl, ?_⟩) ?_ ?_
                rotate_left
                · intro w'
                  go_simp
                  with_reducible rfl
                rotate_left
                · simp only [Act.put, List.setIfInBounds_toArray, List.set_cons_zero, List.set_cons_succ, i64_w, i32_w]
                  rfl
                exact norm_ (by first | (simp only [putAll, Act.put, List.setIfInBounds_toArray, List.set_cons_zero, List.set_cons_succ]; done) | (simp only [putAll, Act.put, List.setIfInBounds_toArray, List.set_cons_zero, List.set_cons_succ]; rfl)) (hJ0_1_3_6 (v271) _ ⟨(by (with_reducible repeat (first | apply Kd.R_alloc | apply Kd.R_drewN | apply Kd.R_drew)); exact HO272.out), (by (with_reducible repeat (first | apply Kd.N_alloc | apply Kd.N_drewN | apply Kd.N_drew)); exact HO_6.out), (by repeat (first | (with_reducible first | exact HI255.out | apply IsS104.alloc | apply IsS104.drewN | apply IsS104.drew | apply IsS104.set_1) | exact HI255.out)), (by repeat (first | (with_reducible first | exact HB.out | apply below_alloc | apply pw_below_drewN | apply below_drew1 | refine below_set ?_ (IsS104.ge HI255.out)) | exact HB.out))⟩)
            rintro v271 w33 ⟨h0_, h1_, h2_, h3_⟩
            have n0_ : Aside0 (Kd.R (Kd.int .u8) 5 w33 w.heap.size (fun _ => True) v271 y270) := ⟨h0_⟩
            have n1_ : Aside0 (Kd.N (Kd.slice 3 (Kd.int .i64)) 31 w33 w.heap.size (fun k_ => some k_ ≠ (v271 : Value).ownBlock ∧ k_ ≠ g255) (.slice Ao8 t256.length co8) t256) := ⟨h1_⟩
            have n2_ : Aside0 (IsS104 w w33 g255 t253 t276) := ⟨h2_⟩
            have n3_ : Aside0 (Below w.heap.size w w33) := ⟨h3_⟩
            clear HO_6
            clear HI255
            clear HB
            clear h0_ h1_ h2_ h3_
            have HO272 := n0_
            have HO_6 := n1_
            have HI255 := n2_
            have HB := n3_
            clear n0_ n1_ n2_ n3_
            have hHeld := trivial
            refine norm_ (a' := ?_) ?_ ?_
            rotate_left
            · simp only [putAll, Act.put, List.setIfInBounds_toArray, List.set_cons_zero, List.set_cons_succ]
              rfl
            refine pure_ (i := 8) (N := some 2) (v := ?_) (a' := ?_) #[true, true, true, true, true, true, true, true, true, false, false] rfl rfl (any_of HT_.out (by kernel_rfl)) (fun _ _ _ h => h) (Or.inl ⟨by rfl, ?_⟩) ?_ ?_
            rotate_left
            · intro w'
              go_simp
              with_reducible rfl
            rotate_left
            · simp only [Act.put, List.setIfInBounds_toArray, List.set_cons_zero, List.set_cons_succ, i64_w, i32_w]
              rfl
            refine pure_ (i := 9) (N := some 3) (v := ?_) (a' := ?_) #[true, true, true, true, true, true, true, true, true, true, false] rfl rfl (any_of HT_.out (by kernel_rfl)) (fun _ _ _ h => h) (Or.inl ⟨by rfl, ?_⟩) ?_ ?_
            rotate_left
            · intro w'
              go_simp
              with_reducible rfl
            rotate_left
            · simp only [Act.put, List.setIfInBounds_toArray, List.set_cons_zero, List.set_cons_succ, i64_w, i32_w]
              rfl
            refine pure_ (i := 10) (N := some 4) (v := ?_) (a' := ?_) #[true, true, true, true, true, true, true, true, true, true, true] rfl rfl (any_of HT_.out (by kernel_rfl)) (fun _ _ _ h => h) (Or.inl ⟨by rfl, ?_⟩) ?_ ?_
            rotate_left
            · intro w'
              go_simp
              with_reducible rfl
            rotate_left
            · simp only [Act.put, List.setIfInBounds_toArray, List.set_cons_zero, List.set_cons_succ, i64_w, i32_w]
              rfl
            refine done_ (done_of HT_.out (by kernel_rfl)) ?_
            try go_wp2
            go_ret3
            exact ⟨by first | rfl | (simp [errW_none, errW_some] <;> rfl) | (simp [*, errW_none, errW_some] <;> rfl), by repeat (first | (with_reducible first | exact HB.out | apply below_alloc | apply pw_below_drewN | apply below_drew1 | refine below_set ?_ (IsS104.ge HI255.out)) | exact HB.out)⟩
          · rw [if_neg c23] at H
            have c23b0 : (t262 == 2) = false := beq_eq_false_iff_ne.mpr c23
            have c23b1 : (t262 != 2) = true := bne_iff_ne.mpr c23
            by_cases c34 : t262 = 3
            · rw [if_pos c34] at H
              have c34b0 : (t262 == 3) = true := beq_iff_eq.mpr c34
              have c34b1 : (t262 != 3) = false := bne_eq_false_iff_eq.mpr c34
              clear c34
              replace H := Option.bind_eq_some_iff.mp H
              obtain ⟨⟨t277, t278⟩, A350, H⟩ := H
              replace H : (if 0 ≤ t277 then (if t277 ≤ (t260.size : Int) then (some (t260.extract 0 (t277 : Int).toNat, x8_4, (t256.length : Int))) else (none)) else (none)) = some (r1, r2, r3) := H
              have A35 := Aside0.mk A350
              clear A350
              by_cases c36 : 0 ≤ t277
              · rw [if_pos c36] at H
                have c36b0 := eq_true c36
                have c36b1 : decide (0 ≤ t277) = true := decide_eq_true c36
                clear c36
                by_cases c37 : t277 ≤ (t260.size : Int)
                · rw [if_pos c37] at H
                  have c37b0 := eq_true c37
                  have c37b1 : decide (t277 ≤ (t260.size : Int)) = true := decide_eq_true c37
                  clear c37
                  simp only [Option.some.injEq, Prod.mk.injEq] at H
                  obtain ⟨rfl, rfl, rfl⟩ := H
                  go_wp2_with (first | ((with_reducible refine gate_callee (f := 52) rfl ?_); refine goesL_ (some 23) rfl rfl Try.func52 (by kernel_rfl) rfl #[.pointer (some ⟨g255, 0, none⟩), .int .i64 7] rfl (by (try simp only [List.map_toArray, List.map_cons, List.map_nil]); first | done | rfl | (simp only [List.length_drop, List.length_take]; rfl)) ?_; (with_reducible refine (spec_l1Rd_pick.calls kj4 g255 t253 t259 7 t262 t263 w _ ?side1 ?side2 A12.out).mono ?_); (case side1 => repeat (first | (with_reducible first | exact HI255.out | apply IsS104.alloc | apply IsS104.drewN | apply IsS104.drew | apply IsS104.set_1) | exact HI255.out)); (case side2 => repeat (first | (with_reducible first | exact HB.out | apply below_alloc | apply pw_below_drewN | apply below_drew1 | refine below_set ?_ (IsS104.ge HI255.out)) | exact HB.out)); rintro e w38 ⟨rfl, hi, hb, hk⟩; refine ⟨_, rfl, ?_⟩; have n0_ := Aside0.mk (Kd.N_mono (Kd.N_keep (Kd.N_mono (ok := fun k_ => k_ ≠ g255) (by (with_reducible repeat (first | apply Kd.N_alloc | apply Kd.N_drewN | apply Kd.N_drew)); exact HO_6.out) (fun k_ hk_ => (⟨hk_, hk_⟩ : _ ∧ k_ ≠ g255))) hk (fun _ h => h.2)) (fun _ h => h.1)); have n1_ := Aside0.mk (hb); have n2_ := Aside0.mk (hi); clear HO_6; clear HB; clear HI255; have HO_6 := n0_; have HB := n1_; have HI255 := n2_; clear n0_ n1_ n2_; (try clear hb); (try clear hb2); (try clear hk); (try clear hi)) | ((with_reducible refine gate_callee (f := 52) rfl ?_); refine goesL_ (some 60) rfl rfl Try.func52 (by kernel_rfl) rfl #[.pointer (some ⟨g255, 0, none⟩), .int .i64 (wrap64 ((t260.size : Int) + 1))] rfl (by (try simp only [List.map_toArray, List.map_cons, List.map_nil]); first | done | rfl | (simp only [List.length_drop, List.length_take]; rfl)) ?_; (with_reducible refine (spec_l1Rd_pick.calls kj4 g255 t253 t263 (wrap64 ((t260.size : Int) + 1)) t277 t278 w _ ?side1 ?side2 A35.out).mono ?_); (case side1 => repeat (first | (with_reducible first | exact HI255.out | apply IsS104.alloc | apply IsS104.drewN | apply IsS104.drew | apply IsS104.set_1) | exact HI255.out)); (case side2 => repeat (first | (with_reducible first | exact HB.out | apply below_alloc | apply pw_below_drewN | apply below_drew1 | refine below_set ?_ (IsS104.ge HI255.out)) | exact HB.out)); rintro e w39 ⟨rfl, hi, hb, hk⟩; refine ⟨_, rfl, ?_⟩; have n0_ := Aside0.mk (Kd.N_mono (Kd.N_keep (Kd.N_mono (ok := fun k_ => k_ ≠ g255) (by (with_reducible repeat (first | apply Kd.N_alloc | apply Kd.N_drewN | apply Kd.N_drew)); exact HO_6.out) (fun k_ hk_ => (⟨hk_, hk_⟩ : _ ∧ k_ ≠ g255))) hk (fun _ h => h.2)) (fun _ h => h.1)); have n1_ := Aside0.mk (hb); have n2_ := Aside0.mk (hi); clear HO_6; clear HB; clear HI255; have HO_6 := n0_; have HB := n1_; have HI255 := n2_; clear n0_ n1_ n2_; (try clear hb); (try clear hb2); (try clear hk); (try clear hi)))
                  go_ret3
                  exact ⟨by first | rfl | (simp [errW_none, errW_some] <;> rfl) | (simp [*, errW_none, errW_some] <;> rfl), by repeat (first | (with_reducible first | exact HB.out | apply below_alloc | apply pw_below_drewN | apply below_drew1 | refine below_set ?_ (IsS104.ge HI255.out)) | exact HB.out)⟩
                · rw [if_neg c37] at H
                  exact absurd H (by simp)
              · rw [if_neg c36] at H
                exact absurd H (by simp)
            · rw [if_neg c34] at H
              have c34b0 : (t262 == 3) = false := beq_eq_false_iff_ne.mpr c34
              have c34b1 : (t262 != 3) = true := bne_iff_ne.mpr c34
              simp only [Option.some.injEq, Prod.mk.injEq] at H
              obtain ⟨rfl, rfl, rfl⟩ := H
              go_wp2_with (first | ((with_reducible refine gate_callee (f := 52) rfl ?_); refine goesL_ (some 23) rfl rfl Try.func52 (by kernel_rfl) rfl #[.pointer (some ⟨g255, 0, none⟩), .int .i64 7] rfl (by (try simp only [List.map_toArray, List.map_cons, List.map_nil]); first | done | rfl | (simp only [List.length_drop, List.length_take]; rfl)) ?_; (with_reducible refine (spec_l1Rd_pick.calls kj4 g255 t253 t259 7 t262 t263 w _ ?side1 ?side2 A12.out).mono ?_); (case side1 => repeat (first | (with_reducible first | exact HI255.out | apply IsS104.alloc | apply IsS104.drewN | apply IsS104.drew | apply IsS104.set_1) | exact HI255.out)); (case side2 => repeat (first | (with_reducible first | exact HB.out | apply below_alloc | apply pw_below_drewN | apply below_drew1 | refine below_set ?_ (IsS104.ge HI255.out)) | exact HB.out)); rintro e w40 ⟨rfl, hi, hb, hk⟩; refine ⟨_, rfl, ?_⟩; have n0_ := Aside0.mk (Kd.N_mono (Kd.N_keep (Kd.N_mono (ok := fun k_ => k_ ≠ g255) (by (with_reducible repeat (first | apply Kd.N_alloc | apply Kd.N_drewN | apply Kd.N_drew)); exact HO_6.out) (fun k_ hk_ => (⟨hk_, hk_⟩ : _ ∧ k_ ≠ g255))) hk (fun _ h => h.2)) (fun _ h => h.1)); have n1_ := Aside0.mk (hb); have n2_ := Aside0.mk (hi); clear HO_6; clear HB; clear HI255; have HO_6 := n0_; have HB := n1_; have HI255 := n2_; clear n0_ n1_ n2_; (try clear hb); (try clear hb2); (try clear hk); (try clear hi)))
              go_ret3
              exact ⟨by first | rfl | (simp [errW_none, errW_some] <;> rfl) | (simp [*, errW_none, errW_some] <;> rfl), by repeat (first | (with_reducible first | exact HB.out | apply below_alloc | apply pw_below_drewN | apply below_drew1 | refine below_set ?_ (IsS104.ge HI255.out)) | exact HB.out)⟩

end Go.Proofs.Ytgdbinifnhfcjaa.P
