-- Written by a program of this session (wip/myprint.py) through the print of the kit: not trusted, Lean checks it.
import Derived.Test.YtjcamejbdcaokaaF00
import Derived.Test.YtjcamejbdcaokaaF20
import Derived.Test.YtjcamejbdcaokaaF21
import Derived.Test.YtjcamejbdcaokaaF22
import Derived.Test.YtjcamejbdcaokaaF23
import Derived.Test.YtjcamejbdcaokaaF24
import Derived.Test.YtjcamejbdcaokaaF25
namespace Go.Proofs.Ytjcamejbdcaokaa.P
open Go.RowKit Go.Proofs.YtjcamejbdcaokaaW.PrintWords Go.Proofs.YtjcamejbdcaokaaW.PrintLast Go.Proofs.YtjcamejbdcaokaaW.PrintMore
attribute [local go_sem] max2_int min2_int max_two min_two max_three min_three max_four min_four   -- for this text's walks alone
set_option linter.unusedVariables false
set_option linter.unusedSimpArgs false

/-! ### laws_FnBlocks: function 4 -/
mutual
def laws_FnBlocks.j0 : Nat → List Int → List Int → Bool → Option (Bool)
  | 0, _, _, _ => none
  | k + 1, x0, x1, x25 => if x25 = true then (some true) else ((spec_DrawBlocksPut.f k x0).bind fun t249 => ((impl_BlocksPut.f t249).bind fun t250 => ((spec_DrawBlocksGet.f k x1).bind fun bt251 => ((impl_BlocksGet.f k bt251.1 bt251.2).bind fun bt253 => ((spec_BlocksGet.f k bt251.1 bt251.2).bind fun bt256 => ((spec_BlocksPut.f k t249).bind fun t259 => (if t250.toList = t259.toList then (if bt253.1.toList = bt256.1.toList then (if bt253.2.1 = bt256.2.1 then (laws_FnBlocks.j1 k t249 t250 (bt253.2.2 != bt256.2.2)) else (laws_FnBlocks.j1 k t249 t250 true)) else (laws_FnBlocks.j1 k t249 t250 true)) else (laws_FnBlocks.j1 k t249 t250 true))))))))
def laws_FnBlocks.j1 : Nat → ByteArray → ByteArray → Bool → Option (Bool)
  | 0, _, _, _ => none
  | k + 1, x5, x6, x67 => if x67 = true then (some false) else (if (x5.size : Int) > 5000 then (some (x6.toList == ([] : List UInt8))) else (if 5 + x6.size ≤ 9223372036854775807 then (if ((⟨#[97, 104, 101, 97, 100]⟩ : ByteArray) ++ x6).size + 6 ≤ 9223372036854775807 then ((impl_BlocksGet.f k (((⟨#[97, 104, 101, 97, 100]⟩ : ByteArray) ++ x6) ++ (⟨#[98, 101, 104, 105, 110, 100]⟩ : ByteArray)) 5).bind fun bt260 => (if bt260.2.2 = true then (if bt260.1.toList = x5.toList then (if bt260.2.1 = (wrap64 (5 + (x6.size : Int))) then (some ((x6.size : Int) == (wrap64 ((wrap64 ((x5.size : Int) + (wrap64 (Int.tdiv (wrap64 ((x5.size : Int) + 254)) 255)))) + 1)))) else (some false)) else (some false)) else (some false))) else (none)) else (none)))
end
def laws_FnBlocks.f (k : Nat) (l0 : List Int) (l1 : List Int) : Option (Bool) := if (l0.length : Int) > 1048576 then (laws_FnBlocks.j0 k l0 l1 true) else (laws_FnBlocks.j0 k l0 l1 (decide ((l1.length : Int) > 1048576)))
theorem laws_FnBlocks.mono_l : ∀ k, (∀ y0 y1 y2, LeO (laws_FnBlocks.j0 k y0 y1 y2) (laws_FnBlocks.j0 (k + 1) y0 y1 y2)) ∧ (∀ y0 y1 y2, LeO (laws_FnBlocks.j1 k y0 y1 y2) (laws_FnBlocks.j1 (k + 1) y0 y1 y2))
  | 0 => ⟨fun _ _ _ r h => by simp [laws_FnBlocks.j0] at h, fun _ _ _ r h => by simp [laws_FnBlocks.j1] at h⟩
  | k + 1 => by
    obtain ⟨ih0, ih1⟩ := laws_FnBlocks.mono_l k
    refine ⟨?_, ?_⟩
    · intro y0 y1 y2
      unfold laws_FnBlocks.j0
      repeat' first
      | (with_reducible exact ih0 _ _ _)
      | (with_reducible exact ih1 _ _ _)
      | (with_reducible exact impl_BlocksGet.mono _ _ _)
      | (with_reducible exact spec_BlocksGet.mono _ _ _)
      | (with_reducible exact spec_BlocksPut.mono _ _)
      | (with_reducible exact spec_DrawBlocksGet.mono _ _)
      | (with_reducible exact spec_DrawBlocksPut.mono _ _)
      | (with_reducible exact LeO.refl _)
      | (with_reducible exact LeO.none _)
      | (with_reducible refine LeO.ite ?_ ?_)
      | (with_reducible refine LeO.bind ?_ (fun _ => ?_))
      | exact ih0 _ _ _
      | exact ih1 _ _ _
      | exact impl_BlocksGet.mono _ _ _
      | exact spec_BlocksGet.mono _ _ _
      | exact spec_BlocksPut.mono _ _
      | exact spec_DrawBlocksGet.mono _ _
      | exact spec_DrawBlocksPut.mono _ _
      | exact LeO.none _
      | refine LeO.ite ?_ ?_
      | refine LeO.bind ?_ (fun _ => ?_)
    · intro y0 y1 y2
      unfold laws_FnBlocks.j1
      repeat' first
      | (with_reducible exact ih0 _ _ _)
      | (with_reducible exact ih1 _ _ _)
      | (with_reducible exact impl_BlocksGet.mono _ _ _)
      | (with_reducible exact spec_BlocksGet.mono _ _ _)
      | (with_reducible exact spec_BlocksPut.mono _ _)
      | (with_reducible exact spec_DrawBlocksGet.mono _ _)
      | (with_reducible exact spec_DrawBlocksPut.mono _ _)
      | (with_reducible exact LeO.refl _)
      | (with_reducible exact LeO.none _)
      | (with_reducible refine LeO.ite ?_ ?_)
      | (with_reducible refine LeO.bind ?_ (fun _ => ?_))
      | exact ih0 _ _ _
      | exact ih1 _ _ _
      | exact impl_BlocksGet.mono _ _ _
      | exact spec_BlocksGet.mono _ _ _
      | exact spec_BlocksPut.mono _ _
      | exact spec_DrawBlocksGet.mono _ _
      | exact spec_DrawBlocksPut.mono _ _
      | exact LeO.none _
      | refine LeO.ite ?_ ?_
      | refine LeO.bind ?_ (fun _ => ?_)
theorem laws_FnBlocks.mono : ∀ a0 a1 k, LeO (laws_FnBlocks.f k a0 a1) (laws_FnBlocks.f (k + 1) a0 a1) := by
  intro a0 a1 k
  obtain ⟨ih0, ih1⟩ := laws_FnBlocks.mono_l k
  unfold laws_FnBlocks.f
  repeat' first
      | (with_reducible exact ih0 _ _ _)
      | (with_reducible exact ih1 _ _ _)
      | (with_reducible exact impl_BlocksGet.mono _ _ _)
      | (with_reducible exact spec_BlocksGet.mono _ _ _)
      | (with_reducible exact spec_BlocksPut.mono _ _)
      | (with_reducible exact spec_DrawBlocksGet.mono _ _)
      | (with_reducible exact spec_DrawBlocksPut.mono _ _)
      | (with_reducible exact LeO.refl _)
      | (with_reducible exact LeO.none _)
      | (with_reducible refine LeO.ite ?_ ?_)
      | (with_reducible refine LeO.bind ?_ (fun _ => ?_))
      | exact ih0 _ _ _
      | exact ih1 _ _ _
      | exact impl_BlocksGet.mono _ _ _
      | exact spec_BlocksGet.mono _ _ _
      | exact spec_BlocksPut.mono _ _
      | exact spec_DrawBlocksGet.mono _ _
      | exact spec_DrawBlocksPut.mono _ _
      | exact LeO.none _
      | refine LeO.ite ?_ ?_
      | refine LeO.bind ?_ (fun _ => ?_)
set_option maxHeartbeats 8000000 in
set_option maxRecDepth 100000 in
theorem laws_FnBlocks.calls (k : Nat) (A0 : Option Addr) (c0 : Nat) (l0 : List Int) (A1 : Option Addr) (c1 : Nat) (l1 : List Int) (r : Bool) (w : World) (hr0 : Kd.C (Kd.int .u8) w A0 l0.length l0) (hc0 : l0.length ≤ c0) (hr1 : Kd.C (Kd.int .u8) w A1 l1.length l1) (hc1 : l1.length ≤ c1) (h : laws_FnBlocks.f k l0 l1 = some r) :
    Calls Try.prog 4 #[.slice A0 l0.length c0, .slice A1 l1.length c1] w fun e w' => e = .returned (.bool r) ∧ Below w.heap.size w w' := by
  have HR0 := Aside0.mk hr0
  have HC0 := Aside0.mk hc0
  clear hr0 hc0
  have HR1 := Aside0.mk hr1
  have HC1 := Aside0.mk hc1
  clear hr1 hc1
  have HB := Aside0.mk (Below.refl w.heap.size w)
  have H : (if (l0.length : Int) > 1048576 then (laws_FnBlocks.j0 k l0 l1 true) else (laws_FnBlocks.j0 k l0 l1 (decide ((l1.length : Int) > 1048576)))) = some r := h
  clear h
  have HC3 := Aside0.mk H
  clear H
  go_enter Try.func4, Try.ntmps4
  go_upto_region 1 with (fail)
  go_cut [25] (fun v25 wc => ∃ (kq : Nat) (x25_2 : Bool), v25 = .bool x25_2 ∧ Aside0 (laws_FnBlocks.j0 kq l0 l1 x25_2 = some r) ∧ Aside0 (kq ≤ k) ∧ Aside0 (Below w.heap.size w wc))
  case first =>
    have H := HC3.out
    clear HC3
    by_cases c4 : (l0.length : Int) > 1048576
    · rw [if_pos c4] at H
      have c4b0 : decide (1048576 < (l0.length : Int)) = true := decide_eq_true c4
      have c4b1 : decide (1048576 < l0.length) = true := decide_eq_true (by omega)
      clear c4
      (first | rw [c4b0] | (simp only [i64_w, i32_w]; rw [c4b0]) | skip)
      have H' := Aside0.mk H
      clear H
      go_wp2
      go_meet
      case rel => exact ⟨_, (true), (by first | rfl | (simp; done) | (simp [*]; done)), H', ⟨by first | omega | exact Nat.le_refl _⟩, ⟨by repeat (first | (with_reducible first | exact HB.out | apply below_alloc | apply pw_below_drewN | apply below_drew1) | exact HB.out)⟩⟩
    · rw [if_neg c4] at H
      have c4b0 : decide (1048576 < (l0.length : Int)) = false := decide_eq_false c4
      have c4b1 : decide (1048576 < l0.length) = false := decide_eq_false (by omega)
      clear c4
      (first | rw [c4b0] | (simp only [i64_w, i32_w]; rw [c4b0]) | skip)
      have H' := Aside0.mk H
      clear H
      go_wp2
      go_meet
      case rel => exact ⟨_, (decide ((l1.length : Int) > 1048576)), (by first | rfl | (simp; done) | (simp [*]; done)), H', ⟨by first | omega | exact Nat.le_refl _⟩, ⟨by repeat (first | (with_reducible first | exact HB.out | apply below_alloc | apply pw_below_drewN | apply below_drew1) | exact HB.out)⟩⟩
  case rest =>
    clear HC3
    try clear c1
    try clear p2
    try clear c4
    try clear c4b0
    try clear c4b1
    obtain ⟨kq, x25_2, rfl, HA, HJ2, HB⟩ := hcut
    cases kq with
    | zero => exact absurd HA.out (by simp [laws_FnBlocks.j0])
    | succ kj2 =>
      have H := HA.out
      clear HA
      simp only [laws_FnBlocks.j0] at H
      by_cases c5 : x25_2 = true
      · subst c5
        have H1 : (some true) = some r := by rw [if_pos rfl] at H; exact H
        clear H
        have H := H1
        clear H1
        obtain rfl := Option.some.inj H
        go_wp2
        go_ret
        exact ⟨by first | rfl | (simp [errW_none, errW_some] <;> rfl) | (simp [*, errW_none, errW_some] <;> rfl), by repeat (first | (with_reducible first | exact HB.out | apply below_alloc | apply pw_below_drewN | apply below_drew1) | exact HB.out)⟩
      · replace c5 := Bool.eq_false_iff.mpr c5
        subst c5
        have H1 : ((spec_DrawBlocksPut.f kj2 l0).bind fun t249 => ((impl_BlocksPut.f t249).bind fun t250 => ((spec_DrawBlocksGet.f kj2 l1).bind fun bt251 => ((impl_BlocksGet.f kj2 bt251.1 bt251.2).bind fun bt253 => ((spec_BlocksGet.f kj2 bt251.1 bt251.2).bind fun bt256 => ((spec_BlocksPut.f kj2 t249).bind fun t259 => (if t250.toList = t259.toList then (if bt253.1.toList = bt256.1.toList then (if bt253.2.1 = bt256.2.1 then (laws_FnBlocks.j1 kj2 t249 t250 (bt253.2.2 != bt256.2.2)) else (laws_FnBlocks.j1 kj2 t249 t250 true)) else (laws_FnBlocks.j1 kj2 t249 t250 true)) else (laws_FnBlocks.j1 kj2 t249 t250 true)))))))) = some r := by rw [if_neg (show ¬ (false = true) by decide)] at H; exact H
        clear H
        have H := H1
        clear H1
        replace H := Option.bind_eq_some_iff.mp H
        obtain ⟨t249, A60, H⟩ := H
        replace H : ((impl_BlocksPut.f t249).bind fun t250 => ((spec_DrawBlocksGet.f kj2 l1).bind fun bt251 => ((impl_BlocksGet.f kj2 bt251.1 bt251.2).bind fun bt253 => ((spec_BlocksGet.f kj2 bt251.1 bt251.2).bind fun bt256 => ((spec_BlocksPut.f kj2 t249).bind fun t259 => (if t250.toList = t259.toList then (if bt253.1.toList = bt256.1.toList then (if bt253.2.1 = bt256.2.1 then (laws_FnBlocks.j1 kj2 t249 t250 (bt253.2.2 != bt256.2.2)) else (laws_FnBlocks.j1 kj2 t249 t250 true)) else (laws_FnBlocks.j1 kj2 t249 t250 true)) else (laws_FnBlocks.j1 kj2 t249 t250 true))))))) = some r := H
        have A6 := Aside0.mk A60
        clear A60
        replace H := Option.bind_eq_some_iff.mp H
        obtain ⟨t250, A70, H⟩ := H
        replace H : ((spec_DrawBlocksGet.f kj2 l1).bind fun bt251 => ((impl_BlocksGet.f kj2 bt251.1 bt251.2).bind fun bt253 => ((spec_BlocksGet.f kj2 bt251.1 bt251.2).bind fun bt256 => ((spec_BlocksPut.f kj2 t249).bind fun t259 => (if t250.toList = t259.toList then (if bt253.1.toList = bt256.1.toList then (if bt253.2.1 = bt256.2.1 then (laws_FnBlocks.j1 kj2 t249 t250 (bt253.2.2 != bt256.2.2)) else (laws_FnBlocks.j1 kj2 t249 t250 true)) else (laws_FnBlocks.j1 kj2 t249 t250 true)) else (laws_FnBlocks.j1 kj2 t249 t250 true)))))) = some r := H
        have A7 := Aside0.mk A70
        clear A70
        replace H := Option.bind_eq_some_iff.mp H
        obtain ⟨⟨t251, t252⟩, A80, H⟩ := H
        replace H : ((impl_BlocksGet.f kj2 t251 t252).bind fun bt253 => ((spec_BlocksGet.f kj2 t251 t252).bind fun bt256 => ((spec_BlocksPut.f kj2 t249).bind fun t259 => (if t250.toList = t259.toList then (if bt253.1.toList = bt256.1.toList then (if bt253.2.1 = bt256.2.1 then (laws_FnBlocks.j1 kj2 t249 t250 (bt253.2.2 != bt256.2.2)) else (laws_FnBlocks.j1 kj2 t249 t250 true)) else (laws_FnBlocks.j1 kj2 t249 t250 true)) else (laws_FnBlocks.j1 kj2 t249 t250 true))))) = some r := H
        have A8 := Aside0.mk A80
        clear A80
        replace H := Option.bind_eq_some_iff.mp H
        obtain ⟨⟨t253, t254, t255⟩, A90, H⟩ := H
        replace H : ((spec_BlocksGet.f kj2 t251 t252).bind fun bt256 => ((spec_BlocksPut.f kj2 t249).bind fun t259 => (if t250.toList = t259.toList then (if t253.toList = bt256.1.toList then (if t254 = bt256.2.1 then (laws_FnBlocks.j1 kj2 t249 t250 (t255 != bt256.2.2)) else (laws_FnBlocks.j1 kj2 t249 t250 true)) else (laws_FnBlocks.j1 kj2 t249 t250 true)) else (laws_FnBlocks.j1 kj2 t249 t250 true)))) = some r := H
        have A9 := Aside0.mk A90
        clear A90
        replace H := Option.bind_eq_some_iff.mp H
        obtain ⟨⟨t256, t257, t258⟩, A100, H⟩ := H
        replace H : ((spec_BlocksPut.f kj2 t249).bind fun t259 => (if t250.toList = t259.toList then (if t253.toList = t256.toList then (if t254 = t257 then (laws_FnBlocks.j1 kj2 t249 t250 (t255 != t258)) else (laws_FnBlocks.j1 kj2 t249 t250 true)) else (laws_FnBlocks.j1 kj2 t249 t250 true)) else (laws_FnBlocks.j1 kj2 t249 t250 true))) = some r := H
        have A10 := Aside0.mk A100
        clear A100
        have HC11 := Aside0.mk H
        clear H
        go_upto_region 8 with (first | ((with_reducible refine gate_callee (f := 20) rfl ?_); refine goesL_ (some 27) rfl rfl Try.func20 (by kernel_rfl) rfl #[.slice A0 l0.length c0] rfl (by (try simp only [List.map_toArray, List.map_cons, List.map_nil]); first | done | rfl | (simp only [List.length_drop, List.length_take]; rfl)) ?_; (with_reducible refine (spec_DrawBlocksPut.calls kj2 _ _ l0 t249 _ ?side1 ?side2 A6.out).mono ?_); (case side1 => repeat (first | exact (Kd.C_below HR0.out HB.out) | (with_reducible refine Kd.C_alloc ?_ _) | (with_reducible refine Kd.C_drewN ?_ _) | (with_reducible refine Kd.C_drew ?_))); (case side2 => exact HC0.out); rintro e w12 ⟨rfl, hb⟩; refine ⟨_, rfl, ?_⟩; have n0_ := Aside0.mk (below_step (by repeat (first | (with_reducible first | exact HB.out | apply below_alloc | apply pw_below_drewN | apply below_drew1) | exact HB.out)) hb); clear HB; have HB := n0_; clear n0_; (try clear hb); (try clear hb2); (try clear hk); (try clear hi)) | ((with_reducible refine gate_callee (f := 21) rfl ?_); refine goesL_ (some 29) rfl rfl Try.func21 (by kernel_rfl) rfl #[.string t249] rfl (by (try simp only [List.map_toArray, List.map_cons, List.map_nil]); first | done | rfl | (simp only [List.length_drop, List.length_take]; rfl)) ?_; (with_reducible refine (impl_BlocksPut.calls t249 t250 _ A7.out).mono ?_); rintro e w13 ⟨rfl, hb⟩; refine ⟨_, rfl, ?_⟩; have n0_ := Aside0.mk (below_step (by repeat (first | (with_reducible first | exact HB.out | apply below_alloc | apply pw_below_drewN | apply below_drew1) | exact HB.out)) hb); clear HB; have HB := n0_; clear n0_; (try clear hb); (try clear hb2); (try clear hk); (try clear hi)) | ((with_reducible refine gate_callee (f := 22) rfl ?_); refine goesL_ (some 32) rfl rfl Try.func22 (by kernel_rfl) rfl #[.slice A1 l1.length c1] rfl (by (try simp only [List.map_toArray, List.map_cons, List.map_nil]); first | done | rfl | (simp only [List.length_drop, List.length_take]; rfl)) ?_; (with_reducible refine (spec_DrawBlocksGet.calls kj2 _ _ l1 t251 t252 _ ?side1 ?side2 A8.out).mono ?_); (case side1 => repeat (first | exact (Kd.C_below HR1.out HB.out) | (with_reducible refine Kd.C_alloc ?_ _) | (with_reducible refine Kd.C_drewN ?_ _) | (with_reducible refine Kd.C_drew ?_))); (case side2 => exact HC1.out); rintro e w14 ⟨rfl, hb⟩; refine ⟨_, rfl, ?_⟩; have n0_ := Aside0.mk (below_step (by repeat (first | (with_reducible first | exact HB.out | apply below_alloc | apply pw_below_drewN | apply below_drew1) | exact HB.out)) hb); clear HB; have HB := n0_; clear n0_; (try clear hb); (try clear hb2); (try clear hk); (try clear hi)) | ((with_reducible refine gate_callee (f := 23) rfl ?_); refine goesL_ (some 38) rfl rfl Try.func23 (by kernel_rfl) rfl #[.string t251, .int .i64 t252] rfl (by (try simp only [List.map_toArray, List.map_cons, List.map_nil]); first | done | rfl | (simp only [List.length_drop, List.length_take]; rfl)) ?_; (with_reducible refine (impl_BlocksGet.calls kj2 t251 t252 t253 t254 t255 _ A9.out).mono ?_); rintro e w' ⟨rfl, ⟨nd, rfl⟩⟩; refine ⟨_, rfl, ?_⟩) | ((with_reducible refine gate_callee (f := 24) rfl ?_); refine goesL_ (some 45) rfl rfl Try.func24 (by kernel_rfl) rfl #[.string t251, .int .i64 t252] rfl (by (try simp only [List.map_toArray, List.map_cons, List.map_nil]); first | done | rfl | (simp only [List.length_drop, List.length_take]; rfl)) ?_; (with_reducible refine (spec_BlocksGet.calls kj2 t251 t252 t256 t257 t258 _ A10.out).mono ?_); rintro e w' ⟨rfl, ⟨nd, rfl⟩⟩; refine ⟨_, rfl, ?_⟩))
        (try simp only [Act.put, List.setIfInBounds_toArray, List.set_cons_zero, List.set_cons_succ])
        go_cut [67] (fun v67 wc => ∃ (kq : Nat) (x67_10 : Bool), v67 = .bool x67_10 ∧ Aside0 (laws_FnBlocks.j1 kq t249 t250 x67_10 = some r) ∧ Aside0 (kq ≤ kj2) ∧ Aside0 (Below w.heap.size w wc))
        case first =>
          have H := HC11.out
          clear HC11
          replace H := Option.bind_eq_some_iff.mp H
          obtain ⟨t259, A150, H⟩ := H
          replace H : (if t250.toList = t259.toList then (if t253.toList = t256.toList then (if t254 = t257 then (laws_FnBlocks.j1 kj2 t249 t250 (t255 != t258)) else (laws_FnBlocks.j1 kj2 t249 t250 true)) else (laws_FnBlocks.j1 kj2 t249 t250 true)) else (laws_FnBlocks.j1 kj2 t249 t250 true)) = some r := H
          have A15 := Aside0.mk A150
          clear A150
          by_cases c16 : t250.toList = t259.toList
          · rw [if_pos c16] at H
            have c16b0 : (t250.toList == t259.toList) = true := beq_iff_eq.mpr c16
            have c16b1 : (t250.toList != t259.toList) = false := bne_eq_false_iff_eq.mpr c16
            clear c16
            (first | rw [c16b0] | (simp only [i64_w, i32_w]; rw [c16b0]) | skip)
            by_cases c17 : t253.toList = t256.toList
            · rw [if_pos c17] at H
              have c17b0 : (t253.toList == t256.toList) = true := beq_iff_eq.mpr c17
              have c17b1 : (t253.toList != t256.toList) = false := bne_eq_false_iff_eq.mpr c17
              clear c17
              by_cases c18 : t254 = t257
              · rw [if_pos c18] at H
                have c18b0 : (t254 == t257) = true := beq_iff_eq.mpr c18
                have c18b1 : (t254 != t257) = false := bne_eq_false_iff_eq.mpr c18
                clear c18
                have H' := Aside0.mk H
                clear H
                go_wp2_with (first | ((with_reducible refine gate_callee (f := 25) rfl ?_); refine goesL_ (some 51) rfl rfl Try.func25 (by kernel_rfl) rfl #[.string t249] rfl (by (try simp only [List.map_toArray, List.map_cons, List.map_nil]); first | done | rfl | (simp only [List.length_drop, List.length_take]; rfl)) ?_; (with_reducible refine (spec_BlocksPut.calls kj2 t249 t259 _ A15.out).mono ?_); rintro e w19 ⟨rfl, hb⟩; refine ⟨_, rfl, ?_⟩; have n0_ := Aside0.mk (below_step (by repeat (first | (with_reducible first | exact HB.out | apply below_alloc | apply pw_below_drewN | apply below_drew1) | exact HB.out)) hb); clear HB; have HB := n0_; clear n0_; (try clear hb); (try clear hb2); (try clear hk); (try clear hi)))
                go_meet
                case rel => exact ⟨_, ((t255 != t258)), (by first | rfl | (simp; done) | (simp [*]; done)), H', ⟨by have := HJ2.out; first | omega | exact Nat.le_refl _⟩, ⟨by repeat (first | (with_reducible first | exact HB.out | apply below_alloc | apply pw_below_drewN | apply below_drew1) | exact HB.out)⟩⟩
              · rw [if_neg c18] at H
                have c18b0 : (t254 == t257) = false := beq_eq_false_iff_ne.mpr c18
                have c18b1 : (t254 != t257) = true := bne_iff_ne.mpr c18
                have H' := Aside0.mk H
                clear H
                go_wp2_with (first | ((with_reducible refine gate_callee (f := 25) rfl ?_); refine goesL_ (some 51) rfl rfl Try.func25 (by kernel_rfl) rfl #[.string t249] rfl (by (try simp only [List.map_toArray, List.map_cons, List.map_nil]); first | done | rfl | (simp only [List.length_drop, List.length_take]; rfl)) ?_; (with_reducible refine (spec_BlocksPut.calls kj2 t249 t259 _ A15.out).mono ?_); rintro e w20 ⟨rfl, hb⟩; refine ⟨_, rfl, ?_⟩; have n0_ := Aside0.mk (below_step (by repeat (first | (with_reducible first | exact HB.out | apply below_alloc | apply pw_below_drewN | apply below_drew1) | exact HB.out)) hb); clear HB; have HB := n0_; clear n0_; (try clear hb); (try clear hb2); (try clear hk); (try clear hi)))
                go_meet
                case rel => exact ⟨_, (true), (by first | rfl | (simp; done) | (simp [*]; done)), H', ⟨by have := HJ2.out; first | omega | exact Nat.le_refl _⟩, ⟨by repeat (first | (with_reducible first | exact HB.out | apply below_alloc | apply pw_below_drewN | apply below_drew1) | exact HB.out)⟩⟩
            · rw [if_neg c17] at H
              have c17b0 : (t253.toList == t256.toList) = false := beq_eq_false_iff_ne.mpr c17
              have c17b1 : (t253.toList != t256.toList) = true := bne_iff_ne.mpr c17
              have H' := Aside0.mk H
              clear H
              go_wp2_with (first | ((with_reducible refine gate_callee (f := 25) rfl ?_); refine goesL_ (some 51) rfl rfl Try.func25 (by kernel_rfl) rfl #[.string t249] rfl (by (try simp only [List.map_toArray, List.map_cons, List.map_nil]); first | done | rfl | (simp only [List.length_drop, List.length_take]; rfl)) ?_; (with_reducible refine (spec_BlocksPut.calls kj2 t249 t259 _ A15.out).mono ?_); rintro e w21 ⟨rfl, hb⟩; refine ⟨_, rfl, ?_⟩; have n0_ := Aside0.mk (below_step (by repeat (first | (with_reducible first | exact HB.out | apply below_alloc | apply pw_below_drewN | apply below_drew1) | exact HB.out)) hb); clear HB; have HB := n0_; clear n0_; (try clear hb); (try clear hb2); (try clear hk); (try clear hi)))
              go_meet
              case rel => exact ⟨_, (true), (by first | rfl | (simp; done) | (simp [*]; done)), H', ⟨by have := HJ2.out; first | omega | exact Nat.le_refl _⟩, ⟨by repeat (first | (with_reducible first | exact HB.out | apply below_alloc | apply pw_below_drewN | apply below_drew1) | exact HB.out)⟩⟩
          · rw [if_neg c16] at H
            have c16b0 : (t250.toList == t259.toList) = false := beq_eq_false_iff_ne.mpr c16
            have c16b1 : (t250.toList != t259.toList) = true := bne_iff_ne.mpr c16
            (first | rw [c16b0] | (simp only [i64_w, i32_w]; rw [c16b0]) | skip)
            have H' := Aside0.mk H
            clear H
            go_wp2_with (first | ((with_reducible refine gate_callee (f := 25) rfl ?_); refine goesL_ (some 51) rfl rfl Try.func25 (by kernel_rfl) rfl #[.string t249] rfl (by (try simp only [List.map_toArray, List.map_cons, List.map_nil]); first | done | rfl | (simp only [List.length_drop, List.length_take]; rfl)) ?_; (with_reducible refine (spec_BlocksPut.calls kj2 t249 t259 _ A15.out).mono ?_); rintro e w22 ⟨rfl, hb⟩; refine ⟨_, rfl, ?_⟩; have n0_ := Aside0.mk (below_step (by repeat (first | (with_reducible first | exact HB.out | apply below_alloc | apply pw_below_drewN | apply below_drew1) | exact HB.out)) hb); clear HB; have HB := n0_; clear n0_; (try clear hb); (try clear hb2); (try clear hk); (try clear hi)))
            go_meet
            case rel => exact ⟨_, (true), (by first | rfl | (simp; done) | (simp [*]; done)), H', ⟨by have := HJ2.out; first | omega | exact Nat.le_refl _⟩, ⟨by repeat (first | (with_reducible first | exact HB.out | apply below_alloc | apply pw_below_drewN | apply below_drew1) | exact HB.out)⟩⟩
        case rest =>
          clear HC11
          try clear c1
          try clear c2
          try clear p2
          try clear c4
          try clear c4b0
          try clear c4b1
          try clear c5
          try clear c16
          try clear c16b0
          try clear c16b1
          try clear c17
          try clear c17b0
          try clear c17b1
          try clear c18
          try clear c18b0
          try clear c18b1
          try clear c20
          try clear c21
          try clear c22
          try clear p2
          obtain ⟨kq, x67_10, rfl, HA, HJ10, HB⟩ := hcut
          cases kq with
          | zero => exact absurd HA.out (by simp [laws_FnBlocks.j1])
          | succ kj10 =>
            have H := HA.out
            clear HA
            simp only [laws_FnBlocks.j1] at H
            by_cases c23 : x67_10 = true
            · subst c23
              have H1 : (some false) = some r := by rw [if_pos rfl] at H; exact H
              clear H
              have H := H1
              clear H1
              obtain rfl := Option.some.inj H
              go_wp2
              go_ret
              exact ⟨by first | rfl | (simp [errW_none, errW_some] <;> rfl) | (simp [*, errW_none, errW_some] <;> rfl), by repeat (first | (with_reducible first | exact HB.out | apply below_alloc | apply pw_below_drewN | apply below_drew1) | exact HB.out)⟩
            · replace c23 := Bool.eq_false_iff.mpr c23
              subst c23
              have H1 : (if (t249.size : Int) > 5000 then (some (t250.toList == ([] : List UInt8))) else (if 5 + t250.size ≤ 9223372036854775807 then (if ((⟨#[97, 104, 101, 97, 100]⟩ : ByteArray) ++ t250).size + 6 ≤ 9223372036854775807 then ((impl_BlocksGet.f kj10 (((⟨#[97, 104, 101, 97, 100]⟩ : ByteArray) ++ t250) ++ (⟨#[98, 101, 104, 105, 110, 100]⟩ : ByteArray)) 5).bind fun bt260 => (if bt260.2.2 = true then (if bt260.1.toList = t249.toList then (if bt260.2.1 = (wrap64 (5 + (t250.size : Int))) then (some ((t250.size : Int) == (wrap64 ((wrap64 ((t249.size : Int) + (wrap64 (Int.tdiv (wrap64 ((t249.size : Int) + 254)) 255)))) + 1)))) else (some false)) else (some false)) else (some false))) else (none)) else (none))) = some r := by rw [if_neg (show ¬ (false = true) by decide)] at H; exact H
              clear H
              have H := H1
              clear H1
              by_cases c24 : (t249.size : Int) > 5000
              · rw [if_pos c24] at H
                have c24b0 : decide (5000 < (t249.size : Int)) = true := decide_eq_true c24
                have c24b1 : decide (5000 < t249.size) = true := decide_eq_true (by omega)
                clear c24
                obtain rfl := Option.some.inj H
                go_wp2
                go_ret
                exact ⟨by first | rfl | (simp [errW_none, errW_some] <;> rfl) | (simp [*, errW_none, errW_some] <;> rfl), by repeat (first | (with_reducible first | exact HB.out | apply below_alloc | apply pw_below_drewN | apply below_drew1) | exact HB.out)⟩
              · rw [if_neg c24] at H
                have c24b0 : decide (5000 < (t249.size : Int)) = false := decide_eq_false c24
                have c24b1 : decide (5000 < t249.size) = false := decide_eq_false (by omega)
                clear c24
                by_cases c25 : 5 + t250.size ≤ 9223372036854775807
                · rw [if_pos c25] at H
                  have c25b0 := eq_true c25
                  have c25b1 : decide (5 + t250.size ≤ 9223372036854775807) = true := decide_eq_true c25
                  try have c25b2 : (9223372036854775807 < 5 + t250.size) = False := eq_false (Nat.not_lt.2 c25)
                  by_cases c26 : ((⟨#[97, 104, 101, 97, 100]⟩ : ByteArray) ++ t250).size + 6 ≤ 9223372036854775807
                  · rw [if_pos c26] at H
                    have c26b0 := eq_true c26
                    have c26b1 : decide (((⟨#[97, 104, 101, 97, 100]⟩ : ByteArray) ++ t250).size + 6 ≤ 9223372036854775807) = true := decide_eq_true c26
                    try have c26b2 : (9223372036854775807 < ((⟨#[97, 104, 101, 97, 100]⟩ : ByteArray) ++ t250).size + 6) = False := eq_false (Nat.not_lt.2 c26)
                    have c26b3 : (9223372036854775807 < 5 + t250.size + 6) = False := eq_false (by have h_ := c26; rw [ByteArray.size_append, show (⟨#[97, 104, 101, 97, 100]⟩ : ByteArray).size = 5 from rfl] at h_; omega)
                    replace H := Option.bind_eq_some_iff.mp H
                    obtain ⟨⟨t260, t261, t262⟩, A270, H⟩ := H
                    replace H : (if t262 = true then (if t260.toList = t249.toList then (if t261 = (wrap64 (5 + (t250.size : Int))) then (some ((t250.size : Int) == (wrap64 ((wrap64 ((t249.size : Int) + (wrap64 (Int.tdiv (wrap64 ((t249.size : Int) + 254)) 255)))) + 1)))) else (some false)) else (some false)) else (some false)) = some r := H
                    have A27 := Aside0.mk A270
                    clear A270
                    by_cases c28 : t262 = true
                    · subst c28
                      have H1 : (if t260.toList = t249.toList then (if t261 = (wrap64 (5 + (t250.size : Int))) then (some ((t250.size : Int) == (wrap64 ((wrap64 ((t249.size : Int) + (wrap64 (Int.tdiv (wrap64 ((t249.size : Int) + 254)) 255)))) + 1)))) else (some false)) else (some false)) = some r := by rw [if_pos rfl] at H; exact H
                      clear H
                      have H := H1
                      clear H1
                      by_cases c29 : t260.toList = t249.toList
                      · rw [if_pos c29] at H
                        have c29b0 : (t260.toList == t249.toList) = true := beq_iff_eq.mpr c29
                        have c29b1 : (t260.toList != t249.toList) = false := bne_eq_false_iff_eq.mpr c29
                        clear c29
                        by_cases c30 : t261 = (wrap64 (5 + (t250.size : Int)))
                        · rw [if_pos c30] at H
                          have c30b0 : (t261 == (wrap64 (5 + (t250.size : Int)))) = true := beq_iff_eq.mpr c30
                          have c30c : (t261 = 5 + (t250.size : Int)) = True := eq_true (by have h_ := c25; have e_ : wrap64 (5 + (t250.size : Int)) = 5 + (t250.size : Int) := (by unfold wrap64; omega); rw [← e_]; exact c30)
                          have c30b1 : (t261 != (wrap64 (5 + (t250.size : Int)))) = false := bne_eq_false_iff_eq.mpr c30
                          clear c30
                          obtain rfl := Option.some.inj H
                          go_wp2_with (first | ((with_reducible refine gate_callee (f := 23) rfl ?_); refine goesL_ (some 77) rfl rfl Try.func23 (by kernel_rfl) rfl #[.string (((⟨#[97, 104, 101, 97, 100]⟩ : ByteArray) ++ t250) ++ (⟨#[98, 101, 104, 105, 110, 100]⟩ : ByteArray)), .int .i64 5] rfl (by (try simp only [List.map_toArray, List.map_cons, List.map_nil]); first | done | rfl | (simp only [List.length_drop, List.length_take]; rfl)) ?_; (with_reducible refine (impl_BlocksGet.calls kj10 (((⟨#[97, 104, 101, 97, 100]⟩ : ByteArray) ++ t250) ++ (⟨#[98, 101, 104, 105, 110, 100]⟩ : ByteArray)) 5 t260 t261 true _ A27.out).mono ?_); rintro e w' ⟨rfl, ⟨nd, rfl⟩⟩; refine ⟨_, rfl, ?_⟩))
                          go_ret
                          exact ⟨by first | rfl | (simp [errW_none, errW_some] <;> rfl) | (simp [*, errW_none, errW_some] <;> rfl), by repeat (first | (with_reducible first | exact HB.out | apply below_alloc | apply pw_below_drewN | apply below_drew1) | exact HB.out)⟩
                        · rw [if_neg c30] at H
                          have c30b0 : (t261 == (wrap64 (5 + (t250.size : Int)))) = false := beq_eq_false_iff_ne.mpr c30
                          have c30c : (t261 = 5 + (t250.size : Int)) = False := eq_false (by have h_ := c25; have e_ : wrap64 (5 + (t250.size : Int)) = 5 + (t250.size : Int) := (by unfold wrap64; omega); rw [← e_]; exact c30)
                          have c30b1 : (t261 != (wrap64 (5 + (t250.size : Int)))) = true := bne_iff_ne.mpr c30
                          obtain rfl := Option.some.inj H
                          go_wp2_with (first | ((with_reducible refine gate_callee (f := 23) rfl ?_); refine goesL_ (some 77) rfl rfl Try.func23 (by kernel_rfl) rfl #[.string (((⟨#[97, 104, 101, 97, 100]⟩ : ByteArray) ++ t250) ++ (⟨#[98, 101, 104, 105, 110, 100]⟩ : ByteArray)), .int .i64 5] rfl (by (try simp only [List.map_toArray, List.map_cons, List.map_nil]); first | done | rfl | (simp only [List.length_drop, List.length_take]; rfl)) ?_; (with_reducible refine (impl_BlocksGet.calls kj10 (((⟨#[97, 104, 101, 97, 100]⟩ : ByteArray) ++ t250) ++ (⟨#[98, 101, 104, 105, 110, 100]⟩ : ByteArray)) 5 t260 t261 true _ A27.out).mono ?_); rintro e w' ⟨rfl, ⟨nd, rfl⟩⟩; refine ⟨_, rfl, ?_⟩))
                          go_ret
                          exact ⟨by first | rfl | (simp [errW_none, errW_some] <;> rfl) | (simp [*, errW_none, errW_some] <;> rfl), by repeat (first | (with_reducible first | exact HB.out | apply below_alloc | apply pw_below_drewN | apply below_drew1) | exact HB.out)⟩
                      · rw [if_neg c29] at H
                        have c29b0 : (t260.toList == t249.toList) = false := beq_eq_false_iff_ne.mpr c29
                        have c29b1 : (t260.toList != t249.toList) = true := bne_iff_ne.mpr c29
                        obtain rfl := Option.some.inj H
                        go_wp2_with (first | ((with_reducible refine gate_callee (f := 23) rfl ?_); refine goesL_ (some 77) rfl rfl Try.func23 (by kernel_rfl) rfl #[.string (((⟨#[97, 104, 101, 97, 100]⟩ : ByteArray) ++ t250) ++ (⟨#[98, 101, 104, 105, 110, 100]⟩ : ByteArray)), .int .i64 5] rfl (by (try simp only [List.map_toArray, List.map_cons, List.map_nil]); first | done | rfl | (simp only [List.length_drop, List.length_take]; rfl)) ?_; (with_reducible refine (impl_BlocksGet.calls kj10 (((⟨#[97, 104, 101, 97, 100]⟩ : ByteArray) ++ t250) ++ (⟨#[98, 101, 104, 105, 110, 100]⟩ : ByteArray)) 5 t260 t261 true _ A27.out).mono ?_); rintro e w' ⟨rfl, ⟨nd, rfl⟩⟩; refine ⟨_, rfl, ?_⟩))
                        go_ret
                        exact ⟨by first | rfl | (simp [errW_none, errW_some] <;> rfl) | (simp [*, errW_none, errW_some] <;> rfl), by repeat (first | (with_reducible first | exact HB.out | apply below_alloc | apply pw_below_drewN | apply below_drew1) | exact HB.out)⟩
                    · replace c28 := Bool.eq_false_iff.mpr c28
                      subst c28
                      have H1 : (some false) = some r := by rw [if_neg (show ¬ (false = true) by decide)] at H; exact H
                      clear H
                      have H := H1
                      clear H1
                      obtain rfl := Option.some.inj H
                      go_wp2_with (first | ((with_reducible refine gate_callee (f := 23) rfl ?_); refine goesL_ (some 77) rfl rfl Try.func23 (by kernel_rfl) rfl #[.string (((⟨#[97, 104, 101, 97, 100]⟩ : ByteArray) ++ t250) ++ (⟨#[98, 101, 104, 105, 110, 100]⟩ : ByteArray)), .int .i64 5] rfl (by (try simp only [List.map_toArray, List.map_cons, List.map_nil]); first | done | rfl | (simp only [List.length_drop, List.length_take]; rfl)) ?_; (with_reducible refine (impl_BlocksGet.calls kj10 (((⟨#[97, 104, 101, 97, 100]⟩ : ByteArray) ++ t250) ++ (⟨#[98, 101, 104, 105, 110, 100]⟩ : ByteArray)) 5 t260 t261 false _ A27.out).mono ?_); rintro e w' ⟨rfl, ⟨nd, rfl⟩⟩; refine ⟨_, rfl, ?_⟩))
                      go_ret
                      exact ⟨by first | rfl | (simp [errW_none, errW_some] <;> rfl) | (simp [*, errW_none, errW_some] <;> rfl), by repeat (first | (with_reducible first | exact HB.out | apply below_alloc | apply pw_below_drewN | apply below_drew1) | exact HB.out)⟩
                  · rw [if_neg c26] at H
                    exact absurd H (by simp)
                · rw [if_neg c25] at H
                  exact absurd H (by simp)

/-- THE ONE PURE STATEMENT of laws_FnBlocks: yours. -/
def laws_FnBlocks.Pure : Prop := ∀ (l0 : List Int) (l1 : List Int), l0.length ≤ maxLen → l0.length * 1 ≤ 140737488351232 → (∀ x ∈ l0, (Lit.int .u8 x).wf = true) → l1.length ≤ maxLen → l1.length * 1 ≤ 140737488351232 → (∀ x ∈ l1, (Lit.int .u8 x).wf = true) → ∃ k, laws_FnBlocks.f k l0 l1 = some true
theorem laws_FnBlocks.walk (P : laws_FnBlocks.Pure) (a0 : Option Addr) (len0 cap0 : Nat) (z0 : List Int) (a1 : Option Addr) (len1 cap1 : Nat) (z1 : List Int) (w : World) (w0 : (a0 = none ∧ len0 = 0 ∧ cap0 = 0 ∧ z0 = []) ∨ ∃ x, a0 = some x ∧ len0 ≤ cap0 ∧ cap0 ≤ maxLen ∧ z0.length = cap0 ∧ (∀ i, i < z0.length → w.cell? (x.add i) = some (.int .u8 (z0.getD i 0))) ∧ ∀ n ∈ z0, (Lit.int .u8 n).wf = true) (y0 : len0 * 1 ≤ 140737488351232) (w1 : (a1 = none ∧ len1 = 0 ∧ cap1 = 0 ∧ z1 = []) ∨ ∃ x, a1 = some x ∧ len1 ≤ cap1 ∧ cap1 ≤ maxLen ∧ z1.length = cap1 ∧ (∀ i, i < z1.length → w.cell? (x.add i) = some (.int .u8 (z1.getD i 0))) ∧ ∀ n ∈ z1, (Lit.int .u8 n).wf = true) (y1 : len1 * 1 ≤ 140737488351232) :
    Calls Try.prog 4 #[.slice a0 len0 cap0, .slice a1 len1 cap1] w fun e w' => e = .returned (.bool true) ∧ Below w.heap.size w w' := by
  obtain ⟨l0, rfl, hr0, hm0, hw0, hc0⟩ := ReadsInt.ofRowC w0
  obtain ⟨l1, rfl, hr1, hm1, hw1, hc1⟩ := ReadsInt.ofRowC w1
  obtain ⟨k, h⟩ := P l0 l1 hm0 y0 hw0 hm1 y1 hw1
  refine (laws_FnBlocks.calls k _ _ l0 _ _ l1 true w (Kd.C_of_reads (d := (0 : Int)) (h1 := fun _ => rfl) hr0) hc0 (Kd.C_of_reads (d := (0 : Int)) (h1 := fun _ => rfl) hr1) hc1 h).mono ?_
  rintro e w' ⟨rfl, hd⟩
  exact ⟨rfl, hd⟩

end Go.Proofs.Ytjcamejbdcaokaa.P
