-- Written by a program of this session (wip/myprint.py) through the print of the kit: not trusted, Lean checks it.
import Derived.Test.YteikopjhekhchaaF00
import Derived.Test.YteikopjhekhchaaF63
import Derived.Test.YteikopjhekhchaaF64
import Derived.Test.YteikopjhekhchaaF68
namespace Go.Proofs.Yteikopjhekhchaa.P
open Go.RowKit Go.Proofs.YteikopjhekhchaaW.PrintWords Go.Proofs.YteikopjhekhchaaW.PrintLast Go.Proofs.YteikopjhekhchaaW.PrintMore
attribute [local go_sem] max2_int min2_int max_two min_two max_three min_three max_four min_four   -- for this text's walks alone
set_option linter.unusedVariables false
set_option linter.unusedSimpArgs false

/-! ### spec_DrawBitsPut: function 44 -/
mutual
def spec_DrawBitsPut.l0 : Nat → List (S59) → Int → List Int → Int → Option ((List (S59)) × Bool)
  | 0, _, _, _, _ => none
  | k + 1, x5, x6, x351000, x351001 => if x6 > 0 then ((spec_l1Rd_pick.f k x351000 x351001 25).bind fun bt356 => ((spec_l1Rd_pick.f k x351000 bt356.2 4096).bind fun bt358 => ((spec_l1Rd_pick.f k x351000 bt358.2 4096).bind fun bt360 => ((spec_l1Pow.f k bt356.1).bind fun t362 => (if t362 = 0 then (none) else (if x5.length < 8796093022208 then (spec_DrawBitsPut.l0 k (x5 ++ [(⟨Int.tmod (wrap64 ((wrap64 (bt358.1 * 4096)) + bt360.1)) t362, bt356.1⟩ : S59)]) (wrap64 (x6 - 1)) x351000 bt360.2) else (none))))))) else (if (x5.length : Int) > 0 then ((spec_l1Rd_pick.f k x351000 x351001 12).bind fun bt366 => (spec_DrawBitsPut.j1 k x5 (bt366.1 == 0) x351000 bt366.2)) else (spec_DrawBitsPut.j1 k x5 false x351000 x351001))
def spec_DrawBitsPut.j1 : Nat → List (S59) → Bool → List Int → Int → Option ((List (S59)) × Bool)
  | 0, _, _, _, _ => none
  | k + 1, x5, x40, x351000, x351001 => if x40 = true then ((some (([(⟨(-1), 3⟩ : S59), (⟨8, 3⟩ : S59), (⟨0, 25⟩ : S59), (⟨0, (-1)⟩ : S59)] : List (S59)) : List (S59))).bind fun y368 => ((spec_l1Rd_pick.f k x351000 x351001 4).bind fun bt371 => (if 0 ≤ bt371.1 then (if bt371.1 < (y368.length : Int) then (if 0 < (x5.length : Int) then ((spec_l1Rd_pick.f k x351000 bt371.2 2).bind fun bt375 => (some ((x5.set (0 : Int).toNat (⟨(rd_T59 y368 bt371.1).f0, (rd_T59 y368 bt371.1).f1⟩ : S59)), (bt375.1 == 0)))) else (none)) else (none)) else (none)))) else ((spec_l1Rd_pick.f k x351000 x351001 2).bind fun bt377 => (some (x5, (bt377.1 == 0))))
end
def spec_DrawBitsPut.f (k : Nat) (l0 : List Int) : Option ((List (S59)) × Bool) := (spec_l1Open.f l0).bind fun bt348 => ((spec_l1Rd_pick.f k bt348.1 bt348.2 8).bind fun bt354 => (spec_DrawBitsPut.l0 k (([] : List (S59))) bt354.1 bt348.1 bt354.2))
theorem spec_DrawBitsPut.mono_l : ∀ k, (∀ y0 y1 y2 y3, LeO (spec_DrawBitsPut.l0 k y0 y1 y2 y3) (spec_DrawBitsPut.l0 (k + 1) y0 y1 y2 y3)) ∧ (∀ y0 y1 y2 y3, LeO (spec_DrawBitsPut.j1 k y0 y1 y2 y3) (spec_DrawBitsPut.j1 (k + 1) y0 y1 y2 y3))
  | 0 => ⟨fun _ _ _ _ r h => by simp [spec_DrawBitsPut.l0] at h, fun _ _ _ _ r h => by simp [spec_DrawBitsPut.j1] at h⟩
  | k + 1 => by
    obtain ⟨ih0, ih1⟩ := spec_DrawBitsPut.mono_l k
    refine ⟨?_, ?_⟩
    · intro y0 y1 y2 y3
      unfold spec_DrawBitsPut.l0
      repeat' first
      | (with_reducible exact ih0 _ _ _ _)
      | (with_reducible exact ih1 _ _ _ _)
      | (with_reducible exact spec_l1Pow.mono _ _)
      | (with_reducible exact spec_l1Rd_pick.mono _ _ _ _)
      | (with_reducible exact LeO.refl _)
      | (with_reducible exact LeO.none _)
      | (with_reducible refine LeO.ite ?_ ?_)
      | (with_reducible refine LeO.bind ?_ (fun _ => ?_))
      | exact ih0 _ _ _ _
      | exact ih1 _ _ _ _
      | exact spec_l1Pow.mono _ _
      | exact spec_l1Rd_pick.mono _ _ _ _
      | exact LeO.none _
      | refine LeO.ite ?_ ?_
      | refine LeO.bind ?_ (fun _ => ?_)
    · intro y0 y1 y2 y3
      unfold spec_DrawBitsPut.j1
      repeat' first
      | (with_reducible exact ih0 _ _ _ _)
      | (with_reducible exact ih1 _ _ _ _)
      | (with_reducible exact spec_l1Pow.mono _ _)
      | (with_reducible exact spec_l1Rd_pick.mono _ _ _ _)
      | (with_reducible exact LeO.refl _)
      | (with_reducible exact LeO.none _)
      | (with_reducible refine LeO.ite ?_ ?_)
      | (with_reducible refine LeO.bind ?_ (fun _ => ?_))
      | exact ih0 _ _ _ _
      | exact ih1 _ _ _ _
      | exact spec_l1Pow.mono _ _
      | exact spec_l1Rd_pick.mono _ _ _ _
      | exact LeO.none _
      | refine LeO.ite ?_ ?_
      | refine LeO.bind ?_ (fun _ => ?_)
theorem spec_DrawBitsPut.mono : ∀ a0 k, LeO (spec_DrawBitsPut.f k a0) (spec_DrawBitsPut.f (k + 1) a0) := by
  intro a0 k
  obtain ⟨ih0, ih1⟩ := spec_DrawBitsPut.mono_l k
  unfold spec_DrawBitsPut.f
  repeat' first
      | (with_reducible exact ih0 _ _ _ _)
      | (with_reducible exact ih1 _ _ _ _)
      | (with_reducible exact spec_l1Pow.mono _ _)
      | (with_reducible exact spec_l1Rd_pick.mono _ _ _ _)
      | (with_reducible exact LeO.refl _)
      | (with_reducible exact LeO.none _)
      | (with_reducible refine LeO.ite ?_ ?_)
      | (with_reducible refine LeO.bind ?_ (fun _ => ?_))
      | exact ih0 _ _ _ _
      | exact ih1 _ _ _ _
      | exact spec_l1Pow.mono _ _
      | exact spec_l1Rd_pick.mono _ _ _ _
      | exact LeO.none _
      | refine LeO.ite ?_ ?_
      | refine LeO.bind ?_ (fun _ => ?_)
set_option maxHeartbeats 8000000 in
set_option maxRecDepth 100000 in
theorem spec_DrawBitsPut.calls (k : Nat) (A0 : Option Addr) (c0 : Nat) (l0 : List Int) (r1 : List (S59)) (r2 : Bool) (w : World) (hr0 : Kd.C (Kd.int .u8) w A0 l0.length l0) (hc0 : l0.length ≤ c0) (h : spec_DrawBitsPut.f k l0 = some (r1, r2)) :
    Calls Try.prog 44 #[.slice A0 l0.length c0] w fun e w' => ∃ v0_ : Value, e = .returned (.tuple #[v0_, .bool r2]) ∧ Kd.R k59 59 w' w.heap.size (fun _ => True) v0_ r1 ∧ Below w.heap.size w w' := by
  have hu59 := Try.underlying59
  have HR0 := Aside0.mk hr0
  have HC0 := Aside0.mk hc0
  clear hr0 hc0
  have HB := Aside0.mk (Below.refl w.heap.size w)
  have H : ((spec_l1Open.f l0).bind fun bt348 => ((spec_l1Rd_pick.f k bt348.1 bt348.2 8).bind fun bt354 => (spec_DrawBitsPut.l0 k (([] : List (S59))) bt354.1 bt348.1 bt354.2))) = some (r1, r2) := h
  clear h
  replace H := Option.bind_eq_some_iff.mp H
  obtain ⟨⟨t348, t349⟩, A20, H⟩ := H
  replace H : ((spec_l1Rd_pick.f k t348 t349 8).bind fun bt354 => (spec_DrawBitsPut.l0 k (([] : List (S59))) bt354.1 t348 bt354.2)) = some (r1, r2) := H
  have A2 := Aside0.mk A20
  clear A20
  obtain ⟨y351, hy351⟩ : ∃ y_ : List (S59), y_ = (([] : List (S59))) := ⟨_, rfl⟩
  replace H : ((spec_l1Rd_pick.f k t348 t349 8).bind fun bt354 => (spec_DrawBitsPut.l0 k y351 bt354.1 t348 bt354.2)) = some (r1, r2) := by first | (rw [hy351]; with_reducible exact H) | (have H2_ := (Option.bind_some _ _).symm.trans H; rw [hy351]; with_reducible exact H2_) | (have H2_ := (Option.bind_some _ _).symm.trans H; with_reducible exact H2_) | with_reducible exact H | (rw [hy351]; exact H) | exact H
  have Ny351 := Aside0.mk hy351
  clear hy351
  replace H := Option.bind_eq_some_iff.mp H
  obtain ⟨⟨t354, t355⟩, A30, H⟩ := H
  replace H : (spec_DrawBitsPut.l0 k y351 t354 t348 t355) = some (r1, r2) := H
  have A3 := Aside0.mk A30
  clear A30
  have H' := Aside0.mk H
  clear H
  go_enter Try.func44, Try.ntmps44
  go_wp2_with (first | ((with_reducible refine gate_callee (f := 63) rfl ?_); refine goesL_ (some 9) rfl rfl Try.func63 (by kernel_rfl) rfl #[.slice A0 l0.length c0] rfl (by (try simp only [List.map_toArray, List.map_cons, List.map_nil]); first | done | rfl | (simp only [List.length_drop, List.length_take]; rfl)) ?_; (with_reducible refine (spec_l1Open.calls _ _ l0 t348 t349 w _ ?side1 ?side2 ?side3 A2.out).mono ?_); (case side1 => repeat (first | (with_reducible first | exact HB.out | apply below_alloc | apply pw_below_drewN | apply below_drew1) | exact HB.out)); (case side2 => exact HR0.out); (case side3 => exact HC0.out); rintro e w4 ⟨g350, rfl, hi, hb, hb2⟩; refine ⟨_, rfl, ?_⟩; have n0_ := Aside0.mk (hb); have n1_ := Aside0.mk (hi); clear HB; have HB := n0_; have HI350 := n1_; clear n0_ n1_; (try clear hb); (try clear hb2); (try clear hk); (try clear hi)) | ((with_reducible refine gate_dst (N := 10) rfl ?_); refine Kd.R_lit k59 _ 59 ?hg (N := 10) ?hd (xs := ([] : List (S59))) (inner := []) (ok := fun _ => True) (okp := fun _ => True) ?hr ?hp (fun _ hk => hk) trivial (Below.refl _ _) (Nat.le_refl _) (by simp) ?_; (case hd => rfl); (case hg => rfl); (case hr => first | (go_simp; done) | (go_simp; rfl)); (case hp => exact (Reps.none _ _)); intro v352 w5 ho6 hb hg_ hnew_; clear hg_ hnew_; (first | rw [← Ny351.out] at ho6 | (simp only [Int.reduceToNat] at ho6; rw [← Ny351.out] at ho6)); have n0_ := Aside0.mk (Kd.R_lower ho6 (below_size (by repeat (first | (with_reducible first | exact HB.out | apply below_alloc | apply pw_below_drewN | apply below_drew1 | refine below_set ?_ (IsS103.ge HI350.out)) | exact HB.out)))); have n1_ := Aside0.mk (IsS103.below (by repeat (first | (with_reducible first | exact HI350.out | apply IsS103.alloc | apply IsS103.drewN | apply IsS103.drew | apply IsS103.set_1) | exact HI350.out)) hb); have n2_ := Aside0.mk (below_step (by repeat (first | (with_reducible first | exact HB.out | apply below_alloc | apply pw_below_drewN | apply below_drew1 | refine below_set ?_ (IsS103.ge HI350.out)) | exact HB.out)) hb); clear HI350; clear HB; have HO353 := n0_; have HI350 := n1_; have HB := n2_; clear n0_ n1_ n2_; clear hb ho6) | ((with_reducible refine gate_callee (f := 64) rfl ?_); refine goesL_ (some 12) rfl rfl Try.func64 (by kernel_rfl) rfl #[.pointer (some ⟨g350, 0, none⟩), .int .i64 8] rfl (by (try simp only [List.map_toArray, List.map_cons, List.map_nil]); first | done | rfl | (simp only [List.length_drop, List.length_take]; rfl)) ?_; (with_reducible refine (spec_l1Rd_pick.calls k g350 t348 t349 8 t354 t355 w _ ?side1 ?side2 A3.out).mono ?_); (case side1 => repeat (first | (with_reducible first | exact HI350.out | apply IsS103.alloc | apply IsS103.drewN | apply IsS103.drew | apply IsS103.set_1) | exact HI350.out)); (case side2 => repeat (first | (with_reducible first | exact HB.out | apply below_alloc | apply pw_below_drewN | apply below_drew1 | refine below_set ?_ (IsS103.ge HI350.out)) | exact HB.out)); rintro e w7 ⟨rfl, hi, hb, hk⟩; refine ⟨_, rfl, ?_⟩; have n0_ := Aside0.mk (Kd.R_mono (Kd.R_keep (IsS103.apart (show IsS103 w _ g350 t348 t349 from by repeat (first | (with_reducible first | exact HI350.out | apply IsS103.alloc | apply IsS103.drewN | apply IsS103.drew | apply IsS103.set_1) | exact HI350.out)) (by (with_reducible repeat (first | apply Kd.R_alloc | apply Kd.R_drewN | apply Kd.R_drew)); exact HO353.out) (by decide)) hk (fun _ h => h.2)) (fun _ h => h.1)); have n1_ := Aside0.mk (hb); have n2_ := Aside0.mk (hi); clear HO353; clear HB; clear HI350; have HO353 := n0_; have HB := n1_; have HI350 := n2_; clear n0_ n1_ n2_; (try clear hb); (try clear hb2); (try clear hk); (try clear hi)))
  go_loopg [5, 6] k (fun kq v5 v6 w' => ∃ (x5_1 : List (S59)) (x6_1 : Int) (x351001_1 : Int), v6 = .int .i64 x6_1 ∧ Aside0 (spec_DrawBitsPut.l0 kq x5_1 x6_1 t348 x351001_1 = some (r1, r2)) ∧ Aside0 (kq ≤ k) ∧ Aside0 (Kd.R k59 59 w' w.heap.size (fun _ => True) v5 x5_1) ∧ Aside0 (IsS103 w w' g350 t348 x351001_1) ∧ Aside0 (Below w.heap.size w w'))
  case atStart => exact ⟨(y351), (t354), (t355), (by first | rfl | (simp; done) | (simp [*]; done)), H', ⟨Nat.le_refl _⟩, ⟨by (with_reducible repeat (first | apply Kd.R_alloc | apply Kd.R_drewN | apply Kd.R_drew)); exact HO353.out⟩, ⟨by repeat (first | (with_reducible first | exact HI350.out | apply IsS103.alloc | apply IsS103.drewN | apply IsS103.drew | apply IsS103.set_1) | exact HI350.out)⟩, ⟨by repeat (first | (with_reducible first | exact HB.out | apply below_alloc | apply pw_below_drewN | apply below_drew1 | refine below_set ?_ (IsS103.ge HI350.out)) | exact HB.out)⟩⟩
  case round =>
    clear H'
    try clear p2
    try clear c4
    try clear c6
    obtain ⟨x5_1, x6_1, x351001_1, rfl, HA, HK1, HO_5, HI350, HB⟩ := hrel
    cases gk with
    | zero => exact absurd HA.out (by simp [spec_DrawBitsPut.l0])
    | succ k1 =>
      have H := HA.out
      clear HA
      simp only [spec_DrawBitsPut.l0] at H
      by_cases c8 : x6_1 > 0
      · rw [if_pos c8] at H
        have c8b0 : decide (0 < x6_1) = true := decide_eq_true c8
        clear c8
        replace H := Option.bind_eq_some_iff.mp H
        obtain ⟨⟨t356, t357⟩, A90, H⟩ := H
        replace H : ((spec_l1Rd_pick.f k1 t348 t357 4096).bind fun bt358 => ((spec_l1Rd_pick.f k1 t348 bt358.2 4096).bind fun bt360 => ((spec_l1Pow.f k1 t356).bind fun t362 => (if t362 = 0 then (none) else (if x5_1.length < 8796093022208 then (spec_DrawBitsPut.l0 k1 (x5_1 ++ [(⟨Int.tmod (wrap64 ((wrap64 (bt358.1 * 4096)) + bt360.1)) t362, t356⟩ : S59)]) (wrap64 (x6_1 - 1)) t348 bt360.2) else (none)))))) = some (r1, r2) := H
        have A9 := Aside0.mk A90
        clear A90
        replace H := Option.bind_eq_some_iff.mp H
        obtain ⟨⟨t358, t359⟩, A100, H⟩ := H
        replace H : ((spec_l1Rd_pick.f k1 t348 t359 4096).bind fun bt360 => ((spec_l1Pow.f k1 t356).bind fun t362 => (if t362 = 0 then (none) else (if x5_1.length < 8796093022208 then (spec_DrawBitsPut.l0 k1 (x5_1 ++ [(⟨Int.tmod (wrap64 ((wrap64 (t358 * 4096)) + bt360.1)) t362, t356⟩ : S59)]) (wrap64 (x6_1 - 1)) t348 bt360.2) else (none))))) = some (r1, r2) := H
        have A10 := Aside0.mk A100
        clear A100
        replace H := Option.bind_eq_some_iff.mp H
        obtain ⟨⟨t360, t361⟩, A110, H⟩ := H
        replace H : ((spec_l1Pow.f k1 t356).bind fun t362 => (if t362 = 0 then (none) else (if x5_1.length < 8796093022208 then (spec_DrawBitsPut.l0 k1 (x5_1 ++ [(⟨Int.tmod (wrap64 ((wrap64 (t358 * 4096)) + t360)) t362, t356⟩ : S59)]) (wrap64 (x6_1 - 1)) t348 t361) else (none)))) = some (r1, r2) := H
        have A11 := Aside0.mk A110
        clear A110
        replace H := Option.bind_eq_some_iff.mp H
        obtain ⟨t362, A120, H⟩ := H
        replace H : (if t362 = 0 then (none) else (if x5_1.length < 8796093022208 then (spec_DrawBitsPut.l0 k1 (x5_1 ++ [(⟨Int.tmod (wrap64 ((wrap64 (t358 * 4096)) + t360)) t362, t356⟩ : S59)]) (wrap64 (x6_1 - 1)) t348 t361) else (none))) = some (r1, r2) := H
        have A12 := Aside0.mk A120
        clear A120
        by_cases c13 : t362 = 0
        · rw [if_pos c13] at H
          exact absurd H (by simp)
        · rw [if_neg c13] at H
          have c13b0 : (t362 == 0) = false := beq_eq_false_iff_ne.mpr c13
          have c13b1 : (t362 != 0) = true := bne_iff_ne.mpr c13
          by_cases c14 : x5_1.length < 8796093022208
          · rw [if_pos c14] at H
            have LMc14 := Aside0.mk c14
            clear c14
            obtain ⟨y363, hy363⟩ : ∃ y_ : List (S59), y_ = (x5_1 ++ [(⟨Int.tmod (wrap64 ((wrap64 (t358 * 4096)) + t360)) t362, t356⟩ : S59)]) := ⟨_, rfl⟩
            replace H : (spec_DrawBitsPut.l0 k1 y363 (wrap64 (x6_1 - 1)) t348 t361) = some (r1, r2) := by first | (rw [hy363]; with_reducible exact H) | (have H2_ := (Option.bind_some _ _).symm.trans H; rw [hy363]; with_reducible exact H2_) | (have H2_ := (Option.bind_some _ _).symm.trans H; with_reducible exact H2_) | with_reducible exact H | (rw [hy363]; exact H) | exact H
            have Ny363 := Aside0.mk hy363
            clear hy363
            have H' := Aside0.mk H
            clear H
            go_wp2_with (first | ((with_reducible refine gate_callee (f := 64) rfl ?_); refine goesL_ (some 18) rfl rfl Try.func64 (by kernel_rfl) rfl #[.pointer (some ⟨g350, 0, none⟩), .int .i64 25] rfl (by (try simp only [List.map_toArray, List.map_cons, List.map_nil]); first | done | rfl | (simp only [List.length_drop, List.length_take]; rfl)) ?_; (with_reducible refine (spec_l1Rd_pick.calls k1 g350 t348 x351001_1 25 t356 t357 w _ ?side1 ?side2 A9.out).mono ?_); (case side1 => repeat (first | (with_reducible first | exact HI350.out | apply IsS103.alloc | apply IsS103.drewN | apply IsS103.drew | apply IsS103.set_1) | exact HI350.out)); (case side2 => repeat (first | (with_reducible first | exact HB.out | apply below_alloc | apply pw_below_drewN | apply below_drew1 | refine below_set ?_ (IsS103.ge HI350.out)) | exact HB.out)); rintro e w15 ⟨rfl, hi, hb, hk⟩; refine ⟨_, rfl, ?_⟩; have n0_ := Aside0.mk (Kd.R_mono (Kd.R_keep (IsS103.apart (show IsS103 w _ g350 t348 x351001_1 from by repeat (first | (with_reducible first | exact HI350.out | apply IsS103.alloc | apply IsS103.drewN | apply IsS103.drew | apply IsS103.set_1) | exact HI350.out)) (by (with_reducible repeat (first | apply Kd.R_alloc | apply Kd.R_drewN | apply Kd.R_drew)); exact HO_5.out) (by decide)) hk (fun _ h => h.2)) (fun _ h => h.1)); have n1_ := Aside0.mk (hb); have n2_ := Aside0.mk (hi); clear HO_5; clear HB; clear HI350; have HO_5 := n0_; have HB := n1_; have HI350 := n2_; clear n0_ n1_ n2_; (try clear hb); (try clear hb2); (try clear hk); (try clear hi)) | ((with_reducible refine gate_callee (f := 64) rfl ?_); refine goesL_ (some 21) rfl rfl Try.func64 (by kernel_rfl) rfl #[.pointer (some ⟨g350, 0, none⟩), .int .i64 4096] rfl (by (try simp only [List.map_toArray, List.map_cons, List.map_nil]); first | done | rfl | (simp only [List.length_drop, List.length_take]; rfl)) ?_; (with_reducible refine (spec_l1Rd_pick.calls k1 g350 t348 t357 4096 t358 t359 w _ ?side1 ?side2 A10.out).mono ?_); (case side1 => repeat (first | (with_reducible first | exact HI350.out | apply IsS103.alloc | apply IsS103.drewN | apply IsS103.drew | apply IsS103.set_1) | exact HI350.out)); (case side2 => repeat (first | (with_reducible first | exact HB.out | apply below_alloc | apply pw_below_drewN | apply below_drew1 | refine below_set ?_ (IsS103.ge HI350.out)) | exact HB.out)); rintro e w16 ⟨rfl, hi, hb, hk⟩; refine ⟨_, rfl, ?_⟩; have n0_ := Aside0.mk (Kd.R_mono (Kd.R_keep (IsS103.apart (show IsS103 w _ g350 t348 t357 from by repeat (first | (with_reducible first | exact HI350.out | apply IsS103.alloc | apply IsS103.drewN | apply IsS103.drew | apply IsS103.set_1) | exact HI350.out)) (by (with_reducible repeat (first | apply Kd.R_alloc | apply Kd.R_drewN | apply Kd.R_drew)); exact HO_5.out) (by decide)) hk (fun _ h => h.2)) (fun _ h => h.1)); have n1_ := Aside0.mk (hb); have n2_ := Aside0.mk (hi); clear HO_5; clear HB; clear HI350; have HO_5 := n0_; have HB := n1_; have HI350 := n2_; clear n0_ n1_ n2_; (try clear hb); (try clear hb2); (try clear hk); (try clear hi)) | ((with_reducible refine gate_callee (f := 64) rfl ?_); refine goesL_ (some 24) rfl rfl Try.func64 (by kernel_rfl) rfl #[.pointer (some ⟨g350, 0, none⟩), .int .i64 4096] rfl (by (try simp only [List.map_toArray, List.map_cons, List.map_nil]); first | done | rfl | (simp only [List.length_drop, List.length_take]; rfl)) ?_; (with_reducible refine (spec_l1Rd_pick.calls k1 g350 t348 t359 4096 t360 t361 w _ ?side1 ?side2 A11.out).mono ?_); (case side1 => repeat (first | (with_reducible first | exact HI350.out | apply IsS103.alloc | apply IsS103.drewN | apply IsS103.drew | apply IsS103.set_1) | exact HI350.out)); (case side2 => repeat (first | (with_reducible first | exact HB.out | apply below_alloc | apply pw_below_drewN | apply below_drew1 | refine below_set ?_ (IsS103.ge HI350.out)) | exact HB.out)); rintro e w17 ⟨rfl, hi, hb, hk⟩; refine ⟨_, rfl, ?_⟩; have n0_ := Aside0.mk (Kd.R_mono (Kd.R_keep (IsS103.apart (show IsS103 w _ g350 t348 t359 from by repeat (first | (with_reducible first | exact HI350.out | apply IsS103.alloc | apply IsS103.drewN | apply IsS103.drew | apply IsS103.set_1) | exact HI350.out)) (by (with_reducible repeat (first | apply Kd.R_alloc | apply Kd.R_drewN | apply Kd.R_drew)); exact HO_5.out) (by decide)) hk (fun _ h => h.2)) (fun _ h => h.1)); have n1_ := Aside0.mk (hb); have n2_ := Aside0.mk (hi); clear HO_5; clear HB; clear HI350; have HO_5 := n0_; have HB := n1_; have HI350 := n2_; clear n0_ n1_ n2_; (try clear hb); (try clear hb2); (try clear hk); (try clear hi)) | ((with_reducible refine gate_callee (f := 68) rfl ?_); refine goesL_ (some 27) rfl rfl Try.func68 (by kernel_rfl) rfl #[.int .i64 t356] rfl (by (try simp only [List.map_toArray, List.map_cons, List.map_nil]); first | done | rfl | (simp only [List.length_drop, List.length_take]; rfl)) ?_; (with_reducible refine (spec_l1Pow.calls k1 t356 t362 _ A12.out).mono ?_); rintro e w' ⟨rfl, ⟨nd, rfl⟩⟩; refine ⟨_, rfl, ?_⟩) | ((with_reducible refine gate_builtin (b := .append) (xs := #[.tmp 19, .tmp 31]) rfl ?_); at_builtin; refine Kd.R_append k59 (w0 := w) w.heap.size rfl (.tmp 19) (.tmp 31) 50 59 (.agg #[(.int .i64 0), (.int .i64 0)]) 16 rfl Try.underlying50 info59 rfl (by decide) (by omega) u5 x5_1 (⟨Int.tmod (wrap64 ((wrap64 (t358 * 4096)) + t360)) t362, t356⟩ : S59) [.int .i64 (Int.tmod (wrap64 ((wrap64 (t358 * 4096)) + t360)) t362), .int .i64 t356] (fun _ => True) (fun _ => False) rfl rfl ?aP (fun _ hk => hk.elim) ?aF ?aO ?aB ?aS ?aL ?_; (case aP => exact k59_mkM _ _ _ (⟨Int.tmod (wrap64 ((wrap64 (t358 * 4096)) + t360)) t362, t356⟩ : S59)); (case aB => exact (by repeat (first | (with_reducible first | exact HB.out | apply below_alloc | apply pw_below_drewN | apply below_drew1 | refine below_set ?_ (IsS103.ge HI350.out)) | exact HB.out))); (case aF => exact (fun _ _ => trivial)); (case aO => exact (by (with_reducible repeat (first | apply Kd.R_alloc | apply Kd.R_drewN | apply Kd.R_drew)); exact HO_5.out)); (case aS => exact (below_size (by repeat (first | (with_reducible first | exact HB.out | apply below_alloc | apply pw_below_drewN | apply below_drew1 | refine below_set ?_ (IsS103.ge HI350.out)) | exact HB.out)))); (case aL => have := LMc14.out; omega); intro v364 w18 ho hb hg hat; rw [← Ny363.out] at ho; have n0_ := Aside0.mk (IsS103.grown (by repeat (first | (with_reducible first | exact HI350.out | apply IsS103.alloc | apply IsS103.drewN | apply IsS103.drew | apply IsS103.set_1) | exact HI350.out)) hg (IsS103.own_ne HI350.out HO_5.out (by decide))); have n1_ := Aside0.mk (hb); have n2_ := Aside0.mk (ho); clear HI350; clear HB; clear HO_5; have HI350 := n0_; have HB := n1_; have HO365 := n2_; clear n0_ n1_ n2_; clear ho hb hg hat))
            go_roundg k1
            case measure => have := HK1.out; omega
            case rel => exact ⟨(y363), (wrap64 (x6_1 - 1)), (t361), (by first | rfl | (simp; done) | (simp [*]; done)), H', ⟨by have := HK1.out; omega⟩, ⟨by (with_reducible repeat (first | apply Kd.R_alloc | apply Kd.R_drewN | apply Kd.R_drew)); exact HO365.out⟩, ⟨by repeat (first | (with_reducible first | exact HI350.out | apply IsS103.alloc | apply IsS103.drewN | apply IsS103.drew | apply IsS103.set_1) | exact HI350.out)⟩, ⟨by repeat (first | (with_reducible first | exact HB.out | apply below_alloc | apply pw_below_drewN | apply below_drew1 | refine below_set ?_ (IsS103.ge HI350.out)) | exact HB.out)⟩⟩
          · rw [if_neg c14] at H
            exact absurd H (by simp)
      · rw [if_neg c8] at H
        have c8b0 : decide (0 < x6_1) = false := decide_eq_false c8
        clear c8
        have HC19 := Aside0.mk H
        clear H
        go_upto_region 8 with (fail)
        go_cut [40] (fun v40 wc => ∃ (kq : Nat) (x40_18 : Bool) (x351001_18 : Int), v40 = .bool x40_18 ∧ Aside0 (spec_DrawBitsPut.j1 kq x5_1 x40_18 t348 x351001_18 = some (r1, r2)) ∧ Aside0 (kq ≤ k1) ∧ Aside0 (Kd.R k59 59 wc w.heap.size (fun _ => True) u5 x5_1) ∧ Aside0 (IsS103 w wc g350 t348 x351001_18) ∧ Aside0 (Below w.heap.size w wc))
        case first =>
          have H := HC19.out
          clear HC19
          by_cases c20 : (x5_1.length : Int) > 0
          · rw [if_pos c20] at H
            have c20b0 : decide (0 < (x5_1.length : Int)) = true := decide_eq_true c20
            have c20b1 : decide (0 < x5_1.length) = true := decide_eq_true (by omega)
            clear c20
            (first | rw [c20b0] | (simp only [i64_w, i32_w]; rw [c20b0]) | skip)
            replace H := Option.bind_eq_some_iff.mp H
            obtain ⟨⟨t366, t367⟩, A210, H⟩ := H
            replace H : (spec_DrawBitsPut.j1 k1 x5_1 (t366 == 0) t348 t367) = some (r1, r2) := H
            have A21 := Aside0.mk A210
            clear A210
            have H' := Aside0.mk H
            clear H
            obtain ⟨Ao22, co22, eo22⟩ := Kd.R_slice HO_5.out
            subst eo22
            go_wp2_with (first | (go_at_call 64; (with_reducible refine (spec_l1Rd_pick.calls k1 g350 t348 x351001_1 12 t366 t367 w _ ?side1 ?side2 A21.out).mono ?_); (case side1 => repeat (first | (with_reducible first | exact HI350.out | apply IsS103.alloc | apply IsS103.drewN | apply IsS103.drew | apply IsS103.set_1) | exact HI350.out)); (case side2 => repeat (first | (with_reducible first | exact HB.out | apply below_alloc | apply pw_below_drewN | apply below_drew1 | refine below_set ?_ (IsS103.ge HI350.out)) | exact HB.out)); rintro e w23 ⟨rfl, hi, hb, hk⟩; have n0_ := Aside0.mk (Kd.R_mono (Kd.R_keep (IsS103.apart (show IsS103 w _ g350 t348 x351001_1 from by repeat (first | (with_reducible first | exact HI350.out | apply IsS103.alloc | apply IsS103.drewN | apply IsS103.drew | apply IsS103.set_1) | exact HI350.out)) (by (with_reducible repeat (first | apply Kd.R_alloc | apply Kd.R_drewN | apply Kd.R_drew)); exact HO_5.out) (by decide)) hk (fun _ h => h.2)) (fun _ h => h.1)); have n1_ := Aside0.mk (hb); have n2_ := Aside0.mk (hi); clear HO_5; clear HB; clear HI350; have HO_5 := n0_; have HB := n1_; have HI350 := n2_; clear n0_ n1_ n2_; (try clear hb); (try clear hb2); (try clear hk); (try clear hi)))
            go_meet
            case rel => exact ⟨_, ((t366 == 0)), (t367), (by first | rfl | (simp; done) | (simp [*]; done)), H', ⟨by have := HK1.out; first | omega | exact Nat.le_refl _⟩, ⟨by (with_reducible repeat (first | apply Kd.R_alloc | apply Kd.R_drewN | apply Kd.R_drew)); exact HO_5.out⟩, ⟨by repeat (first | (with_reducible first | exact HI350.out | apply IsS103.alloc | apply IsS103.drewN | apply IsS103.drew | apply IsS103.set_1) | exact HI350.out)⟩, ⟨by repeat (first | (with_reducible first | exact HB.out | apply below_alloc | apply pw_below_drewN | apply below_drew1 | refine below_set ?_ (IsS103.ge HI350.out)) | exact HB.out)⟩⟩
          · rw [if_neg c20] at H
            have c20b0 : decide (0 < (x5_1.length : Int)) = false := decide_eq_false c20
            have c20b1 : decide (0 < x5_1.length) = false := decide_eq_false (by omega)
            clear c20
            (first | rw [c20b0] | (simp only [i64_w, i32_w]; rw [c20b0]) | skip)
            have H' := Aside0.mk H
            clear H
            obtain ⟨Ao24, co24, eo24⟩ := Kd.R_slice HO_5.out
            subst eo24
            go_wp2
            go_meet
            case rel => exact ⟨_, (false), (x351001_1), (by first | rfl | (simp; done) | (simp [*]; done)), H', ⟨by have := HK1.out; first | omega | exact Nat.le_refl _⟩, ⟨by (with_reducible repeat (first | apply Kd.R_alloc | apply Kd.R_drewN | apply Kd.R_drew)); exact HO_5.out⟩, ⟨by repeat (first | (with_reducible first | exact HI350.out | apply IsS103.alloc | apply IsS103.drewN | apply IsS103.drew | apply IsS103.set_1) | exact HI350.out)⟩, ⟨by repeat (first | (with_reducible first | exact HB.out | apply below_alloc | apply pw_below_drewN | apply below_drew1 | refine below_set ?_ (IsS103.ge HI350.out)) | exact HB.out)⟩⟩
        case rest =>
          clear HC19
          try clear c1
          try clear c2
          try clear p2
          try clear c4
          try clear c6
          try clear p6
          try clear c8
          try clear c8b0
          try clear c13
          try clear c13b0
          try clear c13b1
          try clear c14
          try clear c20
          try clear c20b0
          try clear c20b1
          try clear p2
          obtain ⟨kq, x40_18, x351001_18, rfl, HA, HJ18, HO_5, HI350, HB⟩ := hcut
          cases kq with
          | zero => exact absurd HA.out (by simp [spec_DrawBitsPut.j1])
          | succ kj18 =>
            have H := HA.out
            clear HA
            simp only [spec_DrawBitsPut.j1] at H
            by_cases c25 : x40_18 = true
            · subst c25
              have H1 : ((some (([(⟨(-1), 3⟩ : S59), (⟨8, 3⟩ : S59), (⟨0, 25⟩ : S59), (⟨0, (-1)⟩ : S59)] : List (S59)) : List (S59))).bind fun y368 => ((spec_l1Rd_pick.f kj18 t348 x351001_18 4).bind fun bt371 => (if 0 ≤ bt371.1 then (if bt371.1 < (y368.length : Int) then (if 0 < (x5_1.length : Int) then ((spec_l1Rd_pick.f kj18 t348 bt371.2 2).bind fun bt375 => (some ((x5_1.set (0 : Int).toNat (⟨(rd_T59 y368 bt371.1).f0, (rd_T59 y368 bt371.1).f1⟩ : S59)), (bt375.1 == 0)))) else (none)) else (none)) else (none)))) = some (r1, r2) := by rw [if_pos rfl] at H; exact H
              clear H
              have H := H1
              clear H1
              obtain ⟨y368, hy368⟩ : ∃ y_ : List (S59), y_ = (([(⟨(-1), 3⟩ : S59), (⟨8, 3⟩ : S59), (⟨0, 25⟩ : S59), (⟨0, (-1)⟩ : S59)] : List (S59))) := ⟨_, rfl⟩
              replace H : ((spec_l1Rd_pick.f kj18 t348 x351001_18 4).bind fun bt371 => (if 0 ≤ bt371.1 then (if bt371.1 < (y368.length : Int) then (if 0 < (x5_1.length : Int) then ((spec_l1Rd_pick.f kj18 t348 bt371.2 2).bind fun bt375 => (some ((x5_1.set (0 : Int).toNat (⟨(rd_T59 y368 bt371.1).f0, (rd_T59 y368 bt371.1).f1⟩ : S59)), (bt375.1 == 0)))) else (none)) else (none)) else (none))) = some (r1, r2) := by first | (rw [hy368]; with_reducible exact H) | (have H2_ := (Option.bind_some _ _).symm.trans H; rw [hy368]; with_reducible exact H2_) | (have H2_ := (Option.bind_some _ _).symm.trans H; with_reducible exact H2_) | with_reducible exact H | (rw [hy368]; exact H) | exact H
              have Ny368 := Aside0.mk hy368
              clear hy368
              replace H := Option.bind_eq_some_iff.mp H
              obtain ⟨⟨t371, t372⟩, A260, H⟩ := H
              replace H : (if 0 ≤ t371 then (if t371 < (y368.length : Int) then (if 0 < (x5_1.length : Int) then ((spec_l1Rd_pick.f kj18 t348 t372 2).bind fun bt375 => (some ((x5_1.set (0 : Int).toNat (⟨(rd_T59 y368 t371).f0, (rd_T59 y368 t371).f1⟩ : S59)), (bt375.1 == 0)))) else (none)) else (none)) else (none)) = some (r1, r2) := H
              have A26 := Aside0.mk A260
              clear A260
              by_cases c27 : 0 ≤ t371
              · rw [if_pos c27] at H
                have c27b0 : decide (0 ≤ t371) = true := decide_eq_true c27
                clear c27
                by_cases c28 : t371 < (y368.length : Int)
                · rw [if_pos c28] at H
                  have c28b0 : decide (t371 < (y368.length : Int)) = true := decide_eq_true c28
                  clear c28
                  by_cases c29 : 0 < (x5_1.length : Int)
                  · rw [if_pos c29] at H
                    have c29b0 : decide (0 < (x5_1.length : Int)) = true := decide_eq_true c29
                    have c29b1 : decide (0 < x5_1.length) = true := decide_eq_true (by omega)
                    clear c29
                    obtain ⟨y374, hy374⟩ : ∃ y_ : List (S59), y_ = (x5_1.set (0 : Int).toNat (⟨(rd_T59 y368 t371).f0, (rd_T59 y368 t371).f1⟩ : S59)) := ⟨_, rfl⟩
                    replace H : ((spec_l1Rd_pick.f kj18 t348 t372 2).bind fun bt375 => (some (y374, (bt375.1 == 0)))) = some (r1, r2) := by first | (rw [hy374]; with_reducible exact H) | (have H2_ := (Option.bind_some _ _).symm.trans H; rw [hy374]; with_reducible exact H2_) | (have H2_ := (Option.bind_some _ _).symm.trans H; with_reducible exact H2_) | with_reducible exact H | (rw [hy374]; exact H) | exact H
                    have Ny374 := Aside0.mk hy374
                    clear hy374
                    replace H := Option.bind_eq_some_iff.mp H
                    obtain ⟨⟨t375, t376⟩, A310, H⟩ := H
                    replace H : (some (y374, (t375 == 0))) = some (r1, r2) := H
                    have A31 := Aside0.mk A310
                    clear A310
                    simp only [Option.some.injEq, Prod.mk.injEq] at H
                    obtain ⟨rfl, rfl⟩ := H
                    go_wp2_with (first | ((with_reducible refine gate_dst (N := 46) rfl ?_); refine Kd.R_lit k59 _ 59 ?hg (N := 46) ?hd (xs := ([(⟨(-1), 3⟩ : S59), (⟨8, 3⟩ : S59), (⟨0, 25⟩ : S59), (⟨0, (-1)⟩ : S59)] : List (S59))) (inner := [.int .i64 (-1), .int .i64 3, .int .i64 8, .int .i64 3, .int .i64 0, .int .i64 25, .int .i64 0, .int .i64 (-1)]) (ok := fun _ => True) (okp := fun _ => True) ?hr ?hp (fun _ hk => hk) trivial (Below.refl _ _) (Nat.le_refl _) (by simp) ?_; (case hd => rfl); (case hg => rfl); (case hr => first | (go_simp; done) | (go_simp; rfl)); (case hp => exact (Reps.c2 (show Kd.M k59 _ _ _ (⟨(-1), 3⟩ : S59) [.int .i64 (-1), .int .i64 3] from (k59_mkM _ _ _ (⟨(-1), 3⟩ : S59) )) (Reps.c2 (show Kd.M k59 _ _ _ (⟨8, 3⟩ : S59) [.int .i64 8, .int .i64 3] from (k59_mkM _ _ _ (⟨8, 3⟩ : S59) )) (Reps.c2 (show Kd.M k59 _ _ _ (⟨0, 25⟩ : S59) [.int .i64 0, .int .i64 25] from (k59_mkM _ _ _ (⟨0, 25⟩ : S59) )) (Reps.c2 (show Kd.M k59 _ _ _ (⟨0, (-1)⟩ : S59) [.int .i64 0, .int .i64 (-1)] from (k59_mkM _ _ _ (⟨0, (-1)⟩ : S59) )) (Reps.none _ _)))))); intro v369 w32 ho33 hb hg_ hnew_; clear hg_ hnew_; (first | rw [← Ny368.out] at ho33 | (simp only [Int.reduceToNat] at ho33; rw [← Ny368.out] at ho33)); have n0_ := Aside0.mk (Kd.R_elder' (by (with_reducible repeat (first | apply Kd.R_alloc | apply Kd.R_drewN | apply Kd.R_drew)); exact HO_5.out) (Kd.R_base ho33) hb); have n1_ := Aside0.mk (Kd.R_lower (Kd.R_new' ho33 (Kd.R_lt (by (with_reducible repeat (first | apply Kd.R_alloc | apply Kd.R_drewN | apply Kd.R_drew)); exact HO_5.out))) (below_size (by repeat (first | (with_reducible first | exact HB.out | apply below_alloc | apply pw_below_drewN | apply below_drew1 | refine below_set ?_ (IsS103.ge HI350.out)) | exact HB.out)))); have n2_ := Aside0.mk (IsS103.below (by repeat (first | (with_reducible first | exact HI350.out | apply IsS103.alloc | apply IsS103.drewN | apply IsS103.drew | apply IsS103.set_1) | exact HI350.out)) hb); have n3_ := Aside0.mk (below_step (by repeat (first | (with_reducible first | exact HB.out | apply below_alloc | apply pw_below_drewN | apply below_drew1 | refine below_set ?_ (IsS103.ge HI350.out)) | exact HB.out)) hb); clear HO_5; clear HI350; clear HB; have HO_5 := n0_; have HO370 := n1_; have HI350 := n2_; have HB := n3_; clear n0_ n1_ n2_ n3_; clear hb ho33) | ((with_reducible refine gate_callee (f := 64) rfl ?_); refine goesL_ (some 48) rfl rfl Try.func64 (by kernel_rfl) rfl #[.pointer (some ⟨g350, 0, none⟩), .int .i64 4] rfl (by (try simp only [List.map_toArray, List.map_cons, List.map_nil]); first | done | rfl | (simp only [List.length_drop, List.length_take]; rfl)) ?_; (with_reducible refine (spec_l1Rd_pick.calls kj18 g350 t348 x351001_18 4 t371 t372 w _ ?side1 ?side2 A26.out).mono ?_); (case side1 => repeat (first | (with_reducible first | exact HI350.out | apply IsS103.alloc | apply IsS103.drewN | apply IsS103.drew | apply IsS103.set_1) | exact HI350.out)); (case side2 => repeat (first | (with_reducible first | exact HB.out | apply below_alloc | apply pw_below_drewN | apply below_drew1 | refine below_set ?_ (IsS103.ge HI350.out)) | exact HB.out)); rintro e w34 ⟨rfl, hi, hb, hk⟩; refine ⟨_, rfl, ?_⟩; have n0_ := Aside0.mk (Kd.R_mono (Kd.R_keep (IsS103.apart (show IsS103 w _ g350 t348 x351001_18 from by repeat (first | (with_reducible first | exact HI350.out | apply IsS103.alloc | apply IsS103.drewN | apply IsS103.drew | apply IsS103.set_1) | exact HI350.out)) (by (with_reducible repeat (first | apply Kd.R_alloc | apply Kd.R_drewN | apply Kd.R_drew)); exact HO_5.out) (by decide)) hk (fun _ h => h.2)) (fun _ h => h.1)); have n1_ := Aside0.mk (Kd.R_mono (Kd.R_keep (IsS103.apart (show IsS103 w _ g350 t348 x351001_18 from by repeat (first | (with_reducible first | exact HI350.out | apply IsS103.alloc | apply IsS103.drewN | apply IsS103.drew | apply IsS103.set_1) | exact HI350.out)) (by (with_reducible repeat (first | apply Kd.R_alloc | apply Kd.R_drewN | apply Kd.R_drew)); exact HO370.out) (by decide)) hk (fun _ h => h.2)) (fun _ h => h.1)); have n2_ := Aside0.mk (hb); have n3_ := Aside0.mk (hi); clear HO_5; clear HO370; clear HB; clear HI350; have HO_5 := n0_; have HO370 := n1_; have HB := n2_; have HI350 := n3_; clear n0_ n1_ n2_ n3_; (try clear hb); (try clear hb2); (try clear hk); (try clear hi); obtain ⟨Ao35, co35, eo35⟩ := Kd.R_slice HO370.out; subst eo35; have p373 : 0 ≤ (t371 : Int) := of_decide_eq_true (by first | (with_reducible assumption) | assumption); have q373 : t371 < (y368.length : Int) := of_decide_eq_true (by first | (with_reducible assumption) | assumption); obtain ⟨ad373, e373, hx373_0, hx373_1⟩ := at_T59 (Kd.R_reads' HO370.out).2.2 t371 p373 q373; cases e373; replace p373 := eq_true p373; replace q373 := eq_true q373; have p30 : 0 ≤ (0 : Int) := (by omega); have q30 : (0 : Int) < ((x5_1.length : Int) : Int) := of_decide_eq_true (by first | (with_reducible assumption) | assumption); have qi30 : (0 < x5_1.length) = True := eq_true (by omega); obtain ⟨go30, co30, eo30, gb30, gl30, cl30, HG30⟩ := Kd.R_form HO_5.out (by omega); (first | cases eo30 | (injection eo30 with ea_ en_ ec_; (first | subst ea_ | (injection ea_ with ea_; subst ea_)); subst ec_; clear en_)); have GB30 := Aside0.mk gb30; have GG30 := Aside0.mk HG30; clear gb30 gl30 HG30; obtain ⟨ce30, hcl30, hM30, hcc30, hfr30⟩ := Kd.R_elem HO_5.out z59 (0 : Int) p30 q30; obtain rfl := k59_openM hM30; have hx30_0 : w34.cell? ⟨go30, (0 : Int).toNat * 2, none⟩ = some (.int .i64 ((rd_T59 x5_1 0).f0)) := hcc30 0 _ rfl; have hx30_1 : w34.cell? ⟨go30, (0 : Int).toNat * 2 + 1, none⟩ = some (.int .i64 ((rd_T59 x5_1 0).f1)) := hcc30 1 _ rfl; have hf30_0 : w34.frozen? ⟨go30, (0 : Int).toNat * 2, none⟩ = false := hfr30 0; have hf30_1 : w34.frozen? ⟨go30, (0 : Int).toNat * 2 + 1, none⟩ = false := hfr30 1; clear hcl30 hcc30 hfr30 hM30; (try rw [show ((0 : Int)).toNat = 0 from rfl] at hx30_0); (try simp only [Nat.reduceMul, Nat.zero_mul, Nat.zero_add, Nat.reduceAdd] at hx30_0); (try rw [show ((0 : Int)).toNat = 0 from rfl] at hf30_0); (try simp only [Nat.reduceMul, Nat.zero_mul, Nat.zero_add, Nat.reduceAdd] at hf30_0); (try rw [show ((0 : Int)).toNat = 0 from rfl] at hx30_1); (try simp only [Nat.reduceMul, Nat.zero_mul, Nat.zero_add, Nat.reduceAdd] at hx30_1); (try rw [show ((0 : Int)).toNat = 0 from rfl] at hf30_1); (try simp only [Nat.reduceMul, Nat.zero_mul, Nat.zero_add, Nat.reduceAdd] at hf30_1); replace p30 := eq_true p30; replace q30 := eq_true q30; have n_ := Aside0.mk (Kd.R_mono (ok' := (fun k_ => some k_ ≠ (.slice (some ad373) y368.length co35 : Value).ownBlock)) HO_5.out (fun k_ hk => hk.2)); clear HO_5; have HO_5 := n_; clear n_; have HX36 := Aside0.mk (show Kd.R k59 59 w34 w.heap.size (fun k_ => some k_ ≠ (.slice (some ad373) y368.length co35 : Value).ownBlock) (.slice (some ⟨go30, 0, none⟩) x5_1.length co30) x5_1 from (by (with_reducible repeat (first | apply Kd.R_alloc | apply Kd.R_drewN | apply Kd.R_drew)); exact HO_5.out)); obtain ⟨ce36, hcl36, hM36, hcc36, hfr36⟩ := Kd.R_elem HX36.out z59 (0 : Int) (by omega) (by have h_ : (0 : Int) < ((x5_1.length : Int) : Int) := of_decide_eq_true (by first | (with_reducible assumption) | assumption); first | exact h_ | (have e_ := (Kd.R_reads' HO_5.out).1; omega) | simpa using h_); obtain rfl := k59_openM hM36; have HP36 := Kd.R_seg HX36.out (0 : Int) (by omega) (by have h_ : (0 : Int) < ((x5_1.length : Int) : Int) := of_decide_eq_true (by first | (with_reducible assumption) | assumption); first | exact h_ | (have e_ := (Kd.R_reads' HO_5.out).1; omega) | simpa using h_) (seg := [.int .i64 ((rd_T59 y368 t371).f0), .int .i64 ((rd_T59 y368 t371).f1)]) (j := 0) hcl36 hcc36 (show 2 ≤ 2 from by decide) (x' := (⟨(rd_T59 y368 t371).f0, (rd_T59 y368 t371).f1⟩ : S59)) (k59_mkM _ _ _ (⟨(rd_T59 y368 t371).f0, (rd_T59 y368 t371).f1⟩ : S59) ) (fun _ hk => hk); have hx36_0 := hcc36 0 _ rfl; (try simp only [show (k59).sz = 2 from rfl, Nat.mul_one, Nat.add_zero] at hx36_0); (try rw [show ((0 : Int)).toNat = 0 from rfl] at hx36_0); (try simp only [Nat.reduceMul, Nat.zero_mul, Nat.zero_add, Nat.reduceAdd] at hx36_0); have hf36_0 := hfr36 0; (try simp only [show (k59).sz = 2 from rfl, Nat.mul_one, Nat.add_zero] at hf36_0); (try rw [show ((0 : Int)).toNat = 0 from rfl] at hf36_0); (try simp only [Nat.reduceMul, Nat.zero_mul, Nat.zero_add, Nat.reduceAdd] at hf36_0); have hx36_1 := hcc36 1 _ rfl; (try simp only [show (k59).sz = 2 from rfl, Nat.mul_one, Nat.add_zero] at hx36_1); (try rw [show ((0 : Int)).toNat = 0 from rfl] at hx36_1); (try simp only [Nat.reduceMul, Nat.zero_mul, Nat.zero_add, Nat.reduceAdd] at hx36_1); have hf36_1 := hfr36 1; (try simp only [show (k59).sz = 2 from rfl, Nat.mul_one, Nat.add_zero] at hf36_1); (try rw [show ((0 : Int)).toNat = 0 from rfl] at hf36_1); (try simp only [Nat.reduceMul, Nat.zero_mul, Nat.zero_add, Nat.reduceAdd] at hf36_1); clear hcl36 hcc36 hfr36 hM36) | ((with_reducible refine gate_store (t := 59) (p := 51) rfl ?_); refine store_event (t := 59) (p := 51) (v := ?vo_w37) (w1 := ((w34.setCell ⟨go30, 0, none⟩ (.int .i64 ((rd_T59 y368 t371).f0))).setCell ⟨go30, 1, none⟩ (.int .i64 ((rd_T59 y368 t371).f1)))) ?hg ?ho ?hn ?hr ?_; (case ho => rfl); (case hg => rfl); (case hn => rfl); (case hr => first | (go_simp; done) | (go_simp; rfl)); intro w37 hw; have hg : w34.grownBy w37 (some go30) := (by rw [hw]; exact HP36.2); have hp_ : Kd.R k59 59 w37 w.heap.size (fun k_ => some k_ ≠ (.slice (some ad373) y368.length co35 : Value).ownBlock) (.slice (some ⟨go30, 0, none⟩) x5_1.length co30) y374 := (by rw [hw, Ny374.out]; exact HP36.1); clear HP36; have n0_ := Aside0.mk (hp_); have n1_ := Aside0.mk (IsS103.grown (by repeat (first | (with_reducible first | exact HI350.out | apply IsS103.alloc | apply IsS103.drewN | apply IsS103.drew | apply IsS103.set_1) | exact HI350.out)) hg (IsS103.own_ne HI350.out HO_5.out (by decide))); have n2_ := Aside0.mk (Kd.R_after (v := (.slice (some ⟨go30, 0, none⟩) x5_1.length co30)) (v1 := (.slice (some ⟨go30, 0, none⟩) x5_1.length co30)) (ok := (fun _ => True)) (by (with_reducible repeat (first | apply Kd.R_alloc | apply Kd.R_drewN | apply Kd.R_drew)); exact HO370.out) hg (.inl rfl)); have n3_ := Aside0.mk ((by rw [hw]; exact below_set (below_set (HB.out) GB30.out) GB30.out : Below w.heap.size w w37)); clear HO_5; clear HI350; clear HO370; clear HB; have HO_5 := n0_; have HI350 := n1_; have HO370 := n2_; have HB := n3_; clear n0_ n1_ n2_ n3_; clear hg hw hp_) | ((with_reducible refine gate_callee (f := 64) rfl ?_); refine goesL_ (some 54) rfl rfl Try.func64 (by kernel_rfl) rfl #[.pointer (some ⟨g350, 0, none⟩), .int .i64 2] rfl (by (try simp only [List.map_toArray, List.map_cons, List.map_nil]); first | done | rfl | (simp only [List.length_drop, List.length_take]; rfl)) ?_; (with_reducible refine (spec_l1Rd_pick.calls kj18 g350 t348 t372 2 t375 t376 w _ ?side1 ?side2 A31.out).mono ?_); (case side1 => repeat (first | (with_reducible first | exact HI350.out | apply IsS103.alloc | apply IsS103.drewN | apply IsS103.drew | apply IsS103.set_1) | exact HI350.out)); (case side2 => repeat (first | (with_reducible first | exact HB.out | apply below_alloc | apply pw_below_drewN | apply below_drew1 | refine below_set ?_ (IsS103.ge HI350.out)) | exact HB.out)); rintro e w38 ⟨rfl, hi, hb, hk⟩; refine ⟨_, rfl, ?_⟩; have n0_ := Aside0.mk (Kd.R_mono (Kd.R_keep (IsS103.apart (show IsS103 w _ g350 t348 t372 from by repeat (first | (with_reducible first | exact HI350.out | apply IsS103.alloc | apply IsS103.drewN | apply IsS103.drew | apply IsS103.set_1) | exact HI350.out)) (by (with_reducible repeat (first | apply Kd.R_alloc | apply Kd.R_drewN | apply Kd.R_drew)); exact HO_5.out) (by decide)) hk (fun _ h => h.2)) (fun _ h => h.1)); have n1_ := Aside0.mk (Kd.R_mono (Kd.R_keep (IsS103.apart (show IsS103 w _ g350 t348 t372 from by repeat (first | (with_reducible first | exact HI350.out | apply IsS103.alloc | apply IsS103.drewN | apply IsS103.drew | apply IsS103.set_1) | exact HI350.out)) (by (with_reducible repeat (first | apply Kd.R_alloc | apply Kd.R_drewN | apply Kd.R_drew)); exact HO370.out) (by decide)) hk (fun _ h => h.2)) (fun _ h => h.1)); have n2_ := Aside0.mk (hb); have n3_ := Aside0.mk (hi); clear HO_5; clear HO370; clear HB; clear HI350; have HO_5 := n0_; have HO370 := n1_; have HB := n2_; have HI350 := n3_; clear n0_ n1_ n2_ n3_; (try clear hb); (try clear hb2); (try clear hk); (try clear hi)))
                    go_ret2
                    exact ⟨_, by first | rfl | (simp [errW_none, errW_some] <;> rfl) | (simp [*, errW_none, errW_some] <;> rfl), by (with_reducible repeat (first | apply Kd.R_alloc | apply Kd.R_drewN | apply Kd.R_drew)); exact Kd.R_mono HO_5.out (fun _ hk => trivial), by repeat (first | (with_reducible first | exact HB.out | apply below_alloc | apply pw_below_drewN | apply below_drew1 | refine below_set ?_ (IsS103.ge HI350.out)) | exact HB.out)⟩
                  · rw [if_neg c29] at H
                    exact absurd H (by simp)
                · rw [if_neg c28] at H
                  exact absurd H (by simp)
              · rw [if_neg c27] at H
                exact absurd H (by simp)
            · replace c25 := Bool.eq_false_iff.mpr c25
              subst c25
              have H1 : ((spec_l1Rd_pick.f kj18 t348 x351001_18 2).bind fun bt377 => (some (x5_1, (bt377.1 == 0)))) = some (r1, r2) := by rw [if_neg (show ¬ (false = true) by decide)] at H; exact H
              clear H
              have H := H1
              clear H1
              replace H := Option.bind_eq_some_iff.mp H
              obtain ⟨⟨t377, t378⟩, A390, H⟩ := H
              replace H : (some (x5_1, (t377 == 0))) = some (r1, r2) := H
              have A39 := Aside0.mk A390
              clear A390
              simp only [Option.some.injEq, Prod.mk.injEq] at H
              obtain ⟨rfl, rfl⟩ := H
              go_wp2_with (first | ((with_reducible refine gate_callee (f := 64) rfl ?_); refine goesL_ (some 54) rfl rfl Try.func64 (by kernel_rfl) rfl #[.pointer (some ⟨g350, 0, none⟩), .int .i64 2] rfl (by (try simp only [List.map_toArray, List.map_cons, List.map_nil]); first | done | rfl | (simp only [List.length_drop, List.length_take]; rfl)) ?_; (with_reducible refine (spec_l1Rd_pick.calls kj18 g350 t348 x351001_18 2 t377 t378 w _ ?side1 ?side2 A39.out).mono ?_); (case side1 => repeat (first | (with_reducible first | exact HI350.out | apply IsS103.alloc | apply IsS103.drewN | apply IsS103.drew | apply IsS103.set_1) | exact HI350.out)); (case side2 => repeat (first | (with_reducible first | exact HB.out | apply below_alloc | apply pw_below_drewN | apply below_drew1 | refine below_set ?_ (IsS103.ge HI350.out)) | exact HB.out)); rintro e w40 ⟨rfl, hi, hb, hk⟩; refine ⟨_, rfl, ?_⟩; have n0_ := Aside0.mk (Kd.R_mono (Kd.R_keep (IsS103.apart (show IsS103 w _ g350 t348 x351001_18 from by repeat (first | (with_reducible first | exact HI350.out | apply IsS103.alloc | apply IsS103.drewN | apply IsS103.drew | apply IsS103.set_1) | exact HI350.out)) (by (with_reducible repeat (first | apply Kd.R_alloc | apply Kd.R_drewN | apply Kd.R_drew)); exact HO_5.out) (by decide)) hk (fun _ h => h.2)) (fun _ h => h.1)); have n1_ := Aside0.mk (hb); have n2_ := Aside0.mk (hi); clear HO_5; clear HB; clear HI350; have HO_5 := n0_; have HB := n1_; have HI350 := n2_; clear n0_ n1_ n2_; (try clear hb); (try clear hb2); (try clear hk); (try clear hi)))
              go_ret2
              exact ⟨_, by first | rfl | (simp [errW_none, errW_some] <;> rfl) | (simp [*, errW_none, errW_some] <;> rfl), by (with_reducible repeat (first | apply Kd.R_alloc | apply Kd.R_drewN | apply Kd.R_drew)); exact HO_5.out, by repeat (first | (with_reducible first | exact HB.out | apply below_alloc | apply pw_below_drewN | apply below_drew1 | refine below_set ?_ (IsS103.ge HI350.out)) | exact HB.out)⟩

end Go.Proofs.Yteikopjhekhchaa.P
