-- Written by a program of this session (wip/myprint.py) through the print of the kit: not trusted, Lean checks it.
import Derived.Test.YteikopjhekhchaaF00
import Derived.Test.YteikopjhekhchaaF88
namespace Go.Proofs.Yteikopjhekhchaa.P
open Go.RowKit Go.Proofs.YteikopjhekhchaaW.PrintWords Go.Proofs.YteikopjhekhchaaW.PrintLast Go.Proofs.YteikopjhekhchaaW.PrintMore
attribute [local go_sem] max2_int min2_int max_two min_two max_three min_three max_four min_four   -- for this text's walks alone
set_option linter.unusedVariables false
set_option linter.unusedSimpArgs false

/-! ### spec_l9Passes: function 65 -/
mutual
def spec_l9Passes.j0 : Nat → Int → Int → List (S84) → Option ((List (S84)))
  | 0, _, _, _ => none
  | k + 1, x0, x1, x7 => spec_l9Passes.l0 k x0 x1 x7 (([] : List (S84))) 0
def spec_l9Passes.l0 : Nat → Int → Int → List (S84) → List (S84) → Int → Option ((List (S84)))
  | 0, _, _, _, _, _ => none
  | k + 1, x0, x1, x7, x8, x9 => if x9 < (x7.length : Int) then (if 0 ≤ x9 then (if ((rd_T84 x7 x9).f2) = 0 then (none) else (if ((rd_T84 x7 x9).f3) = 0 then (none) else (if ((rd_T84 x7 x9).f0) < x0 then (if ((rd_T84 x7 x9).f1) < x1 then (if x8.length < 2932031007402 then (spec_l9Passes.l0 k x0 x1 x7 (x8 ++ [(⟨(rd_T84 x7 x9).f0, (rd_T84 x7 x9).f1, (rd_T84 x7 x9).f2, (rd_T84 x7 x9).f3, wrap64 (Int.tdiv (wrap64 ((wrap64 ((wrap64 (x0 - ((rd_T84 x7 x9).f0))) + ((rd_T84 x7 x9).f2))) - 1)) ((rd_T84 x7 x9).f2)), wrap64 (Int.tdiv (wrap64 ((wrap64 ((wrap64 (x1 - ((rd_T84 x7 x9).f1))) + ((rd_T84 x7 x9).f3))) - 1)) ((rd_T84 x7 x9).f3))⟩ : S84)]) (wrap64 (x9 + 1))) else (none)) else (spec_l9Passes.l0 k x0 x1 x7 x8 (wrap64 (x9 + 1)))) else (spec_l9Passes.l0 k x0 x1 x7 x8 (wrap64 (x9 + 1)))))) else (none)) else (some x8)
end
def spec_l9Passes.f (k : Nat) (a0 : Int) (a1 : Int) (a2 : Bool) : Option ((List (S84))) := (spec_l9All.f).bind fun t227 => (if a2 = true then (spec_l9Passes.j0 k a0 a1 t227) else (spec_l9Passes.j0 k a0 a1 (([(⟨0, 0, 1, 1, 0, 0⟩ : S84)] : List (S84)))))
theorem spec_l9Passes.mono_l : ∀ k, (∀ y0 y1 y2, LeO (spec_l9Passes.j0 k y0 y1 y2) (spec_l9Passes.j0 (k + 1) y0 y1 y2)) ∧ (∀ y0 y1 y2 y3 y4, LeO (spec_l9Passes.l0 k y0 y1 y2 y3 y4) (spec_l9Passes.l0 (k + 1) y0 y1 y2 y3 y4))
  | 0 => ⟨fun _ _ _ r h => by simp [spec_l9Passes.j0] at h, fun _ _ _ _ _ r h => by simp [spec_l9Passes.l0] at h⟩
  | k + 1 => by
    obtain ⟨ih0, ih1⟩ := spec_l9Passes.mono_l k
    refine ⟨?_, ?_⟩
    · intro y0 y1 y2
      unfold spec_l9Passes.j0
      repeat' first
      | (with_reducible exact ih0 _ _ _)
      | (with_reducible exact ih1 _ _ _ _ _)
      | (with_reducible exact LeO.refl _)
      | (with_reducible exact LeO.none _)
      | (with_reducible refine LeO.ite ?_ ?_)
      | (with_reducible refine LeO.bind ?_ (fun _ => ?_))
      | exact ih0 _ _ _
      | exact ih1 _ _ _ _ _
      | exact LeO.none _
      | refine LeO.ite ?_ ?_
      | refine LeO.bind ?_ (fun _ => ?_)
    · intro y0 y1 y2 y3 y4
      unfold spec_l9Passes.l0
      repeat' first
      | (with_reducible exact ih0 _ _ _)
      | (with_reducible exact ih1 _ _ _ _ _)
      | (with_reducible exact LeO.refl _)
      | (with_reducible exact LeO.none _)
      | (with_reducible refine LeO.ite ?_ ?_)
      | (with_reducible refine LeO.bind ?_ (fun _ => ?_))
      | exact ih0 _ _ _
      | exact ih1 _ _ _ _ _
      | exact LeO.none _
      | refine LeO.ite ?_ ?_
      | refine LeO.bind ?_ (fun _ => ?_)
theorem spec_l9Passes.mono : ∀ a0 a1 a2 k, LeO (spec_l9Passes.f k a0 a1 a2) (spec_l9Passes.f (k + 1) a0 a1 a2) := by
  intro a0 a1 a2 k
  obtain ⟨ih0, ih1⟩ := spec_l9Passes.mono_l k
  unfold spec_l9Passes.f
  repeat' first
      | (with_reducible exact ih0 _ _ _)
      | (with_reducible exact ih1 _ _ _ _ _)
      | (with_reducible exact LeO.refl _)
      | (with_reducible exact LeO.none _)
      | (with_reducible refine LeO.ite ?_ ?_)
      | (with_reducible refine LeO.bind ?_ (fun _ => ?_))
      | exact ih0 _ _ _
      | exact ih1 _ _ _ _ _
      | exact LeO.none _
      | refine LeO.ite ?_ ?_
      | refine LeO.bind ?_ (fun _ => ?_)
theorem regen_wp {P : Program} {c : Code} {K : Exit → Act → World → Prop} {a : Act} {w : World} (Q : World → Prop) (h : Q w) (k : ∀ w', Q w' → Code.wp P c K a w') : Code.wp P c K a w := k w h
set_option maxHeartbeats 8000000 in
set_option maxRecDepth 100000 in
theorem spec_l9Passes.calls (k : Nat) (a0 : Int) (a1 : Int) (a2 : Bool) (r : List (S84)) (w : World) (h : spec_l9Passes.f k a0 a1 a2 = some r) :
    Calls Try.prog 65 #[.int .i64 a0, .int .i64 a1, .bool a2] w fun e w' => ∃ v0_ : Value, e = .returned (v0_) ∧ Kd.R k84 84 w' w.heap.size (fun _ => True) v0_ r ∧ Below w.heap.size w w' := by
  have hu84 := Try.underlying84
  have HB := Aside0.mk (Below.refl w.heap.size w)
  have H : ((spec_l9All.f).bind fun t227 => (if a2 = true then (spec_l9Passes.j0 k a0 a1 t227) else (spec_l9Passes.j0 k a0 a1 (([(⟨0, 0, 1, 1, 0, 0⟩ : S84)] : List (S84)))))) = some r := h
  clear h
  replace H := Option.bind_eq_some_iff.mp H
  obtain ⟨t227, A40, H⟩ := H
  replace H : (if a2 = true then (spec_l9Passes.j0 k a0 a1 t227) else (spec_l9Passes.j0 k a0 a1 (([(⟨0, 0, 1, 1, 0, 0⟩ : S84)] : List (S84))))) = some r := H
  have A4 := Aside0.mk A40
  clear A40
  have HC5 := Aside0.mk H
  clear H
  go_enter Try.func65, Try.ntmps65
  go_upto_if 13 with (first | ((with_reducible refine gate_callee (f := 88) rfl ?_); refine goesL_ (some 11) rfl rfl Try.func88 (by kernel_rfl) rfl #[] rfl (by (try simp only [List.map_toArray, List.map_cons, List.map_nil]); first | done | rfl | (simp only [List.length_drop, List.length_take]; rfl)) ?_; (with_reducible refine (spec_l9All.calls  t227 _ A4.out).mono ?_); rintro e w6 ⟨v228, rfl, ho0, hb⟩; refine ⟨_, rfl, ?_⟩; have n0_ := Aside0.mk (Kd.R_lower ho0 (below_size (by repeat (first | (with_reducible first | exact HB.out | apply below_alloc | apply pw_below_drewN | apply below_drew1) | exact HB.out)))); have n1_ := Aside0.mk (below_step (by repeat (first | (with_reducible first | exact HB.out | apply below_alloc | apply pw_below_drewN | apply below_drew1) | exact HB.out)) hb); clear HB; have HO229 := n0_; have HB := n1_; clear n0_ n1_; (try clear hb); (try clear hb2); (try clear hk); (try clear hi); (try clear ho0)))
  (try simp only [Act.put, List.setIfInBounds_toArray, List.set_cons_zero, List.set_cons_succ])
  go_cut [7] (fun v7 wc => ∃ (kq : Nat) (x7_4 : List (S84)), Aside0 (spec_l9Passes.j0 kq a0 a1 x7_4 = some r) ∧ Aside0 (kq ≤ k) ∧ Aside0 (Kd.R k84 84 wc w.heap.size (fun _ => True) v7 x7_4) ∧ Aside0 (Below w.heap.size w wc))
  case first =>
    have H := HC5.out
    clear HC5
    by_cases c7 : a2 = true
    · subst c7
      have H1 : (spec_l9Passes.j0 k a0 a1 t227) = some r := by rw [if_pos rfl] at H; exact H
      clear H
      have H := H1
      clear H1
      have H' := Aside0.mk H
      clear H
      go_wp2
      go_meet
      case rel => exact ⟨_, (t227), H', ⟨by first | omega | exact Nat.le_refl _⟩, ⟨by (with_reducible repeat (first | apply Kd.R_alloc | apply Kd.R_drewN | apply Kd.R_drew)); exact HO229.out⟩, ⟨by repeat (first | (with_reducible first | exact HB.out | apply below_alloc | apply pw_below_drewN | apply below_drew1) | exact HB.out)⟩⟩
    · replace c7 := Bool.eq_false_iff.mpr c7
      subst c7
      have H1 : (spec_l9Passes.j0 k a0 a1 (([(⟨0, 0, 1, 1, 0, 0⟩ : S84)] : List (S84)))) = some r := by rw [if_neg (show ¬ (false = true) by decide)] at H; exact H
      clear H
      have H := H1
      clear H1
      obtain ⟨y230, hy230⟩ : ∃ y_ : List (S84), y_ = (([(⟨0, 0, 1, 1, 0, 0⟩ : S84)] : List (S84))) := ⟨_, rfl⟩
      replace H : (spec_l9Passes.j0 k a0 a1 y230) = some r := by first | (rw [hy230]; with_reducible exact H) | (have H2_ := (Option.bind_some _ _).symm.trans H; rw [hy230]; with_reducible exact H2_) | (have H2_ := (Option.bind_some _ _).symm.trans H; with_reducible exact H2_) | with_reducible exact H | (rw [hy230]; exact H) | exact H
      have Ny230 := Aside0.mk hy230
      clear hy230
      have H' := Aside0.mk H
      clear H
      go_wp2_with (first | ((with_reducible refine gate_dst (N := 15) rfl ?_); refine Kd.R_lit k84 _ 84 ?hg (N := 15) ?hd (xs := ([(⟨0, 0, 1, 1, 0, 0⟩ : S84)] : List (S84))) (inner := [.int .i64 0, .int .i64 0, .int .i64 1, .int .i64 1, .int .i64 0, .int .i64 0]) (ok := fun _ => True) (okp := fun _ => True) ?hr ?hp (fun _ hk => hk) trivial (Below.refl _ _) (Nat.le_refl _) (by simp) ?_; (case hd => rfl); (case hg => rfl); (case hr => first | (go_simp; done) | (go_simp; rfl)); (case hp => exact (Reps.c6 (show Kd.M k84 _ _ _ (⟨0, 0, 1, 1, 0, 0⟩ : S84) [.int .i64 0, .int .i64 0, .int .i64 1, .int .i64 1, .int .i64 0, .int .i64 0] from (k84_mkM _ _ _ (⟨0, 0, 1, 1, 0, 0⟩ : S84) )) (Reps.none _ _))); intro v231 w8 ho9 hb hg_ hnew_; clear hg_ hnew_; (first | rw [← Ny230.out] at ho9 | (simp only [Int.reduceToNat] at ho9; rw [← Ny230.out] at ho9)); have n0_ := Aside0.mk (Kd.R_elder' (by (with_reducible repeat (first | apply Kd.R_alloc | apply Kd.R_drewN | apply Kd.R_drew)); exact HO229.out) (Kd.R_base ho9) hb); have n1_ := Aside0.mk (Kd.R_lower (Kd.R_new' ho9 (Kd.R_lt (by (with_reducible repeat (first | apply Kd.R_alloc | apply Kd.R_drewN | apply Kd.R_drew)); exact HO229.out))) (below_size (by repeat (first | (with_reducible first | exact HB.out | apply below_alloc | apply pw_below_drewN | apply below_drew1) | exact HB.out)))); have n2_ := Aside0.mk (below_step (by repeat (first | (with_reducible first | exact HB.out | apply below_alloc | apply pw_below_drewN | apply below_drew1) | exact HB.out)) hb); clear HO229; clear HB; have HO229 := n0_; have HO232 := n1_; have HB := n2_; clear n0_ n1_ n2_; clear hb ho9))
      go_meet
      case rel => exact ⟨_, (y230), H', ⟨by first | omega | exact Nat.le_refl _⟩, ⟨by (with_reducible repeat (first | apply Kd.R_alloc | apply Kd.R_drewN | apply Kd.R_drew)); exact Kd.R_mono HO232.out (fun _ hk => trivial)⟩, ⟨by repeat (first | (with_reducible first | exact HB.out | apply below_alloc | apply pw_below_drewN | apply below_drew1) | exact HB.out)⟩⟩
  case rest =>
    clear HC5
    try clear p2
    try clear c6
    try clear c7
    try clear c8
    obtain ⟨kq, x7_4, HA, HJ4, HO_7, HB⟩ := hcut
    cases kq with
    | zero => exact absurd HA.out (by simp [spec_l9Passes.j0])
    | succ kj4 =>
      have H := HA.out
      clear HA
      simp only [spec_l9Passes.j0] at H
      obtain ⟨y233, hy233⟩ : ∃ y_ : List (S84), y_ = (([] : List (S84))) := ⟨_, rfl⟩
      replace H : (spec_l9Passes.l0 kj4 a0 a1 x7_4 y233 0) = some r := by first | (rw [hy233]; with_reducible exact H) | (have H2_ := (Option.bind_some _ _).symm.trans H; rw [hy233]; with_reducible exact H2_) | (have H2_ := (Option.bind_some _ _).symm.trans H; with_reducible exact H2_) | with_reducible exact H | (rw [hy233]; exact H) | exact H
      have Ny233 := Aside0.mk hy233
      clear hy233
      have H' := Aside0.mk H
      clear H
      go_wp2_with (first | ((with_reducible refine gate_dst (N := 16) rfl ?_); refine Kd.R_lit k84 _ 84 ?hg (N := 16) ?hd (xs := ([] : List (S84))) (inner := []) (ok := fun _ => True) (okp := fun _ => True) ?hr ?hp (fun _ hk => hk) trivial (Below.refl _ _) (Nat.le_refl _) (by simp) ?_; (case hd => rfl); (case hg => rfl); (case hr => first | (go_simp; done) | (go_simp; rfl)); (case hp => exact (Reps.none _ _)); intro v234 w10 ho11 hb hg_ hnew_; clear hg_ hnew_; (first | rw [← Ny233.out] at ho11 | (simp only [Int.reduceToNat] at ho11; rw [← Ny233.out] at ho11)); have n0_ := Aside0.mk (Kd.R_elder' (by (with_reducible repeat (first | apply Kd.R_alloc | apply Kd.R_drewN | apply Kd.R_drew)); exact HO_7.out) (Kd.R_base ho11) hb); have n1_ := Aside0.mk (Kd.R_lower (Kd.R_new' ho11 (Kd.R_lt (by (with_reducible repeat (first | apply Kd.R_alloc | apply Kd.R_drewN | apply Kd.R_drew)); exact HO_7.out))) (below_size (by repeat (first | (with_reducible first | exact HB.out | apply below_alloc | apply pw_below_drewN | apply below_drew1) | exact HB.out)))); have n2_ := Aside0.mk (below_step (by repeat (first | (with_reducible first | exact HB.out | apply below_alloc | apply pw_below_drewN | apply below_drew1) | exact HB.out)) hb); clear HO_7; clear HB; have HO_7 := n0_; have HO235 := n1_; have HB := n2_; clear n0_ n1_ n2_; clear hb ho11))
      go_loopg [8, 9] kj4 (fun kq v8 v9 w' => ∃ (x8_2 : List (S84)) (x9_2 : Int), v9 = .int .i64 x9_2 ∧ Aside0 (spec_l9Passes.l0 kq a0 a1 x7_4 x8_2 x9_2 = some r) ∧ Aside0 (kq ≤ kj4) ∧ Aside0 (Kd.R k84 84 w' w.heap.size (fun k_ => some k_ ≠ (v8 : Value).ownBlock) u7 x7_4) ∧ Aside0 (Kd.R k84 84 w' w.heap.size (fun k_ => some k_ ≠ (u7 : Value).ownBlock) v8 x8_2) ∧ Aside0 (Below w.heap.size w w'))
      case atStart => exact ⟨(y233), (0), (by first | rfl | (simp; done) | (simp [*]; done)), H', ⟨Nat.le_refl _⟩, ⟨by (with_reducible repeat (first | apply Kd.R_alloc | apply Kd.R_drewN | apply Kd.R_drew)); exact Kd.R_mono HO_7.out (fun _ hk => hk.2)⟩, ⟨by (with_reducible repeat (first | apply Kd.R_alloc | apply Kd.R_drewN | apply Kd.R_drew)); exact Kd.R_mono HO235.out (fun _ hk => hk.2)⟩, ⟨by repeat (first | (with_reducible first | exact HB.out | apply below_alloc | apply pw_below_drewN | apply below_drew1) | exact HB.out)⟩⟩
      case round =>
        clear H'
        try clear p2
        try clear c6
        try clear c7
        try clear c8
        try clear p2
        obtain ⟨x8_2, x9_2, rfl, HA, HK2, HO_7, HO_8, HB⟩ := hrel
        cases gk with
        | zero => exact absurd HA.out (by simp [spec_l9Passes.l0])
        | succ k2 =>
          have H := HA.out
          clear HA
          simp only [spec_l9Passes.l0] at H
          by_cases c12 : x9_2 < (x7_4.length : Int)
          · rw [if_pos c12] at H
            have c12b0 : decide (x9_2 < (x7_4.length : Int)) = true := decide_eq_true c12
            clear c12
            by_cases c13 : 0 ≤ x9_2
            · rw [if_pos c13] at H
              have c13b0 : decide (0 ≤ x9_2) = true := decide_eq_true c13
              clear c13
              by_cases c14 : ((rd_T84 x7_4 x9_2).f2) = 0
              · rw [if_pos c14] at H
                exact absurd H (by simp)
              · rw [if_neg c14] at H
                have c14b0 : (((rd_T84 x7_4 x9_2).f2) == 0) = false := beq_eq_false_iff_ne.mpr c14
                have c14b1 : (((rd_T84 x7_4 x9_2).f2) != 0) = true := bne_iff_ne.mpr c14
                by_cases c15 : ((rd_T84 x7_4 x9_2).f3) = 0
                · rw [if_pos c15] at H
                  exact absurd H (by simp)
                · rw [if_neg c15] at H
                  have c15b0 : (((rd_T84 x7_4 x9_2).f3) == 0) = false := beq_eq_false_iff_ne.mpr c15
                  have c15b1 : (((rd_T84 x7_4 x9_2).f3) != 0) = true := bne_iff_ne.mpr c15
                  by_cases c16 : ((rd_T84 x7_4 x9_2).f0) < a0
                  · rw [if_pos c16] at H
                    have c16b0 : decide (((rd_T84 x7_4 x9_2).f0) < a0) = true := decide_eq_true c16
                    clear c16
                    by_cases c17 : ((rd_T84 x7_4 x9_2).f1) < a1
                    · rw [if_pos c17] at H
                      have c17b0 : decide (((rd_T84 x7_4 x9_2).f1) < a1) = true := decide_eq_true c17
                      clear c17
                      by_cases c18 : x8_2.length < 2932031007402
                      · rw [if_pos c18] at H
                        have LMc18 := Aside0.mk c18
                        clear c18
                        obtain ⟨y238, hy238⟩ : ∃ y_ : List (S84), y_ = (x8_2 ++ [(⟨(rd_T84 x7_4 x9_2).f0, (rd_T84 x7_4 x9_2).f1, (rd_T84 x7_4 x9_2).f2, (rd_T84 x7_4 x9_2).f3, wrap64 (Int.tdiv (wrap64 ((wrap64 ((wrap64 (a0 - ((rd_T84 x7_4 x9_2).f0))) + ((rd_T84 x7_4 x9_2).f2))) - 1)) ((rd_T84 x7_4 x9_2).f2)), wrap64 (Int.tdiv (wrap64 ((wrap64 ((wrap64 (a1 - ((rd_T84 x7_4 x9_2).f1))) + ((rd_T84 x7_4 x9_2).f3))) - 1)) ((rd_T84 x7_4 x9_2).f3))⟩ : S84)]) := ⟨_, rfl⟩
                        replace H : (spec_l9Passes.l0 k2 a0 a1 x7_4 y238 (wrap64 (x9_2 + 1))) = some r := by first | (rw [hy238]; with_reducible exact H) | (have H2_ := (Option.bind_some _ _).symm.trans H; rw [hy238]; with_reducible exact H2_) | (have H2_ := (Option.bind_some _ _).symm.trans H; with_reducible exact H2_) | with_reducible exact H | (rw [hy238]; exact H) | exact H
                        have Ny238 := Aside0.mk hy238
                        clear hy238
                        have H' := Aside0.mk H
                        clear H
                        obtain ⟨Ao19, co19, eo19⟩ := Kd.R_slice HO_7.out
                        subst eo19
                        have p236 : 0 ≤ (x9_2 : Int) := of_decide_eq_true (by first | (with_reducible assumption) | assumption)
                        have q236 : x9_2 < (x7_4.length : Int) := of_decide_eq_true (by first | (with_reducible assumption) | assumption)
                        obtain ⟨ad236, e236, hx236_0, hx236_1, hx236_2, hx236_3, hx236_4, hx236_5⟩ := at_T84 (Kd.R_reads' HO_7.out).2.2 x9_2 p236 q236
                        cases e236
                        replace p236 := eq_true p236
                        replace q236 := eq_true q236
                        go_upto_region 9 with ((with_reducible refine gate_dst (N := 10) rfl ?_); refine box_event ?hg (N := 10) ?hd (cs := #[.int .i64 0, .int .i64 0, .int .i64 0, .int .i64 0, .int .i64 0, .int .i64 0]) (t := 84) ?hr ?_; (case hd => rfl); (case hg => rfl); (case hr => first | (go_simp; done) | (go_simp; rfl)); intro gb237 hg w20 hbox hb; have n0_ := Aside0.mk (Kd.R_below (Kd.R_elderB (by (with_reducible repeat (first | apply Kd.R_alloc | apply Kd.R_drewN | apply Kd.R_drew)); exact HO_7.out) gb237 (Nat.le_of_eq hg.symm)) hb); have n1_ := Aside0.mk (Kd.R_below (Kd.R_elderB (by (with_reducible repeat (first | apply Kd.R_alloc | apply Kd.R_drewN | apply Kd.R_drew)); exact HO_8.out) gb237 (Nat.le_of_eq hg.symm)) hb); have n2_ := Aside0.mk (below_step (by repeat (first | (with_reducible first | exact HB.out | apply below_alloc | apply pw_below_drewN | apply below_drew1) | exact HB.out)) hb); have n3_ := Aside0.mk (hbox); have n4_ := Aside0.mk ((by rw [hg]; exact (below_size (by repeat (first | (with_reducible first | exact HB.out | apply below_alloc | apply pw_below_drewN | apply below_drew1) | exact HB.out))) : w.heap.size ≤ gb237)); have n5_ := Aside0.mk ((by rw [hg]; exact (below_size (by repeat (first | (with_reducible first | exact HB.out | apply below_alloc | apply pw_below_drewN | apply below_drew1) | exact HB.out))) : w.heap.size ≤ gb237)); clear HO_7; clear HO_8; clear HB; have HO_7 := n0_; have HO_8 := n1_; have HB := n2_; have BK237 := n3_; have GW237 := n4_; have GE237 := n5_; clear n0_ n1_ n2_ n3_ n4_ n5_; clear hb hbox hg; have hcz21_0 : w20.cell? ⟨gb237, 0, none⟩ = some (.int .i64 0) := (blk_cell BK237.out 0).trans rfl; have hcz21_1 : w20.cell? ⟨gb237, 1, none⟩ = some (.int .i64 0) := (blk_cell BK237.out 1).trans rfl; have hcz21_2 : w20.cell? ⟨gb237, 2, none⟩ = some (.int .i64 0) := (blk_cell BK237.out 2).trans rfl; have hcz21_3 : w20.cell? ⟨gb237, 3, none⟩ = some (.int .i64 0) := (blk_cell BK237.out 3).trans rfl; have hcz21_4 : w20.cell? ⟨gb237, 4, none⟩ = some (.int .i64 0) := (blk_cell BK237.out 4).trans rfl; have hcz21_5 : w20.cell? ⟨gb237, 5, none⟩ = some (.int .i64 0) := (blk_cell BK237.out 5).trans rfl; have hfz21_0 := blk_frozen BK237.out 0; have hfz21_1 := blk_frozen BK237.out 1; have hfz21_2 := blk_frozen BK237.out 2; have hfz21_3 := blk_frozen BK237.out 3; have hfz21_4 := blk_frozen BK237.out 4; have hfz21_5 := blk_frozen BK237.out 5)
                        refine regen_wp (fun w' => Kd.R k84 84 w' w.heap.size (fun k => some k ≠ (u8 : Value).ownBlock ∧ k ≠ gb237) (.slice (some ad236) x7_4.length co19) x7_4 ∧ Kd.R k84 84 w' w.heap.size (fun k => some k ≠ (.slice (some ad236) x7_4.length co19 : Value).ownBlock ∧ k ≠ gb237) u8 x8_2 ∧ Below w.heap.size w w' ∧ w'.heap[gb237]? = some (.cells #[.int .i64 ((rd_T84 x7_4 x9_2).f0), .int .i64 ((rd_T84 x7_4 x9_2).f1), .int .i64 ((rd_T84 x7_4 x9_2).f2), .int .i64 ((rd_T84 x7_4 x9_2).f3), .int .i64 ((rd_T84 x7_4 x9_2).f4), .int .i64 ((rd_T84 x7_4 x9_2).f5)] 84 (0, 0))) ⟨?_, ?_, ?_, ?_⟩ (fun wa_ hq => ?_)
                        · (repeat refine Kd.R_far ?_ (fun _ hk => hk.2) _); exact HO_7.out
                        · (repeat refine Kd.R_far ?_ (fun _ hk => hk.2) _); exact HO_8.out
                        · (repeat refine below_set ?_ GE237.out); exact HB.out
                        · exact blk_put (blk_put (blk_put (blk_put (blk_put (blk_put BK237.out 0 _ rfl) 1 _ rfl) 2 _ rfl) 3 _ rfl) 4 _ rfl) 5 _ rfl
                        clear hcz21_0 hfz21_0 hcz21_1 hfz21_1 hcz21_2 hfz21_2 hcz21_3 hfz21_3 hcz21_4 hfz21_4 hcz21_5 hfz21_5
                        clear HO_7 HO_8 HB BK237
                        obtain ⟨q7_, q8_, qb_, qk_⟩ := hq
                        have HO_7 := Aside0.mk q7_
                        have HO_8 := Aside0.mk q8_
                        have HB := Aside0.mk qb_
                        have BK237 := Aside0.mk qk_
                        clear q7_ q8_ qb_ qk_
                        have hcz21_0 : wa_.cell? ⟨gb237, 0, none⟩ = some (.int .i64 ((rd_T84 x7_4 x9_2).f0)) := (blk_cell BK237.out 0).trans rfl
                        have hcz21_1 : wa_.cell? ⟨gb237, 1, none⟩ = some (.int .i64 ((rd_T84 x7_4 x9_2).f1)) := (blk_cell BK237.out 1).trans rfl
                        have hcz21_2 : wa_.cell? ⟨gb237, 2, none⟩ = some (.int .i64 ((rd_T84 x7_4 x9_2).f2)) := (blk_cell BK237.out 2).trans rfl
                        have hcz21_3 : wa_.cell? ⟨gb237, 3, none⟩ = some (.int .i64 ((rd_T84 x7_4 x9_2).f3)) := (blk_cell BK237.out 3).trans rfl
                        have hcz21_4 : wa_.cell? ⟨gb237, 4, none⟩ = some (.int .i64 ((rd_T84 x7_4 x9_2).f4)) := (blk_cell BK237.out 4).trans rfl
                        have hcz21_5 : wa_.cell? ⟨gb237, 5, none⟩ = some (.int .i64 ((rd_T84 x7_4 x9_2).f5)) := (blk_cell BK237.out 5).trans rfl
                        have hfz21_0 := blk_frozen BK237.out 0
                        have hfz21_1 := blk_frozen BK237.out 1
                        have hfz21_2 := blk_frozen BK237.out 2
                        have hfz21_3 := blk_frozen BK237.out 3
                        have hfz21_4 := blk_frozen BK237.out 4
                        have hfz21_5 := blk_frozen BK237.out 5
                        go_upto_region 10 with (fail)
                        refine regen_wp (fun w' => Kd.R k84 84 w' w.heap.size (fun k => some k ≠ (u8 : Value).ownBlock ∧ k ≠ gb237) (.slice (some ad236) x7_4.length co19) x7_4 ∧ Kd.R k84 84 w' w.heap.size (fun k => some k ≠ (.slice (some ad236) x7_4.length co19 : Value).ownBlock ∧ k ≠ gb237) u8 x8_2 ∧ Below w.heap.size w w' ∧ w'.heap[gb237]? = some (.cells #[.int .i64 ((rd_T84 x7_4 x9_2).f0), .int .i64 ((rd_T84 x7_4 x9_2).f1), .int .i64 ((rd_T84 x7_4 x9_2).f2), .int .i64 ((rd_T84 x7_4 x9_2).f3), .int .i64 (wrap64 (Int.tdiv (wrap64 ((wrap64 ((wrap64 (a0 - ((rd_T84 x7_4 x9_2).f0))) + ((rd_T84 x7_4 x9_2).f2))) - 1)) ((rd_T84 x7_4 x9_2).f2))), .int .i64 ((rd_T84 x7_4 x9_2).f5)] 84 (0, 0))) ⟨?_, ?_, ?_, ?_⟩ (fun wb_ hq => ?_)
                        · (repeat refine Kd.R_far ?_ (fun _ hk => hk.2) _); exact HO_7.out
                        · (repeat refine Kd.R_far ?_ (fun _ hk => hk.2) _); exact HO_8.out
                        · (repeat refine below_set ?_ GE237.out); exact HB.out
                        · exact blk_put BK237.out 4 _ rfl
                        clear hcz21_0 hfz21_0 hcz21_1 hfz21_1 hcz21_2 hfz21_2 hcz21_3 hfz21_3 hcz21_4 hfz21_4 hcz21_5 hfz21_5
                        clear HO_7 HO_8 HB BK237
                        obtain ⟨q7_, q8_, qb_, qk_⟩ := hq
                        have HO_7 := Aside0.mk q7_
                        have HO_8 := Aside0.mk q8_
                        have HB := Aside0.mk qb_
                        have BK237 := Aside0.mk qk_
                        clear q7_ q8_ qb_ qk_
                        have hcz21_0 : wb_.cell? ⟨gb237, 0, none⟩ = some (.int .i64 ((rd_T84 x7_4 x9_2).f0)) := (blk_cell BK237.out 0).trans rfl
                        have hcz21_1 : wb_.cell? ⟨gb237, 1, none⟩ = some (.int .i64 ((rd_T84 x7_4 x9_2).f1)) := (blk_cell BK237.out 1).trans rfl
                        have hcz21_2 : wb_.cell? ⟨gb237, 2, none⟩ = some (.int .i64 ((rd_T84 x7_4 x9_2).f2)) := (blk_cell BK237.out 2).trans rfl
                        have hcz21_3 : wb_.cell? ⟨gb237, 3, none⟩ = some (.int .i64 ((rd_T84 x7_4 x9_2).f3)) := (blk_cell BK237.out 3).trans rfl
                        have hcz21_4 : wb_.cell? ⟨gb237, 4, none⟩ = some (.int .i64 (wrap64 (Int.tdiv (wrap64 ((wrap64 ((wrap64 (a0 - ((rd_T84 x7_4 x9_2).f0))) + ((rd_T84 x7_4 x9_2).f2))) - 1)) ((rd_T84 x7_4 x9_2).f2)))) := (blk_cell BK237.out 4).trans rfl
                        have hcz21_5 : wb_.cell? ⟨gb237, 5, none⟩ = some (.int .i64 ((rd_T84 x7_4 x9_2).f5)) := (blk_cell BK237.out 5).trans rfl
                        have hfz21_0 := blk_frozen BK237.out 0
                        have hfz21_1 := blk_frozen BK237.out 1
                        have hfz21_2 := blk_frozen BK237.out 2
                        have hfz21_3 := blk_frozen BK237.out 3
                        have hfz21_4 := blk_frozen BK237.out 4
                        have hfz21_5 := blk_frozen BK237.out 5
                        go_upto_region 11 with (fail)
                        refine regen_wp (fun w' => Kd.R k84 84 w' w.heap.size (fun k => some k ≠ (u8 : Value).ownBlock ∧ k ≠ gb237) (.slice (some ad236) x7_4.length co19) x7_4 ∧ Kd.R k84 84 w' w.heap.size (fun k => some k ≠ (.slice (some ad236) x7_4.length co19 : Value).ownBlock ∧ k ≠ gb237) u8 x8_2 ∧ Below w.heap.size w w' ∧ w'.heap[gb237]? = some (.cells #[.int .i64 ((rd_T84 x7_4 x9_2).f0), .int .i64 ((rd_T84 x7_4 x9_2).f1), .int .i64 ((rd_T84 x7_4 x9_2).f2), .int .i64 ((rd_T84 x7_4 x9_2).f3), .int .i64 (wrap64 (Int.tdiv (wrap64 ((wrap64 ((wrap64 (a0 - ((rd_T84 x7_4 x9_2).f0))) + ((rd_T84 x7_4 x9_2).f2))) - 1)) ((rd_T84 x7_4 x9_2).f2))), .int .i64 (wrap64 (Int.tdiv (wrap64 ((wrap64 ((wrap64 (a1 - ((rd_T84 x7_4 x9_2).f1))) + ((rd_T84 x7_4 x9_2).f3))) - 1)) ((rd_T84 x7_4 x9_2).f3)))] 84 (0, 0))) ⟨?_, ?_, ?_, ?_⟩ (fun wc_ hq => ?_)
                        · (repeat refine Kd.R_far ?_ (fun _ hk => hk.2) _); exact HO_7.out
                        · (repeat refine Kd.R_far ?_ (fun _ hk => hk.2) _); exact HO_8.out
                        · (repeat refine below_set ?_ GE237.out); exact HB.out
                        · exact blk_put BK237.out 5 _ rfl
                        clear hcz21_0 hfz21_0 hcz21_1 hfz21_1 hcz21_2 hfz21_2 hcz21_3 hfz21_3 hcz21_4 hfz21_4 hcz21_5 hfz21_5
                        clear HO_7 HO_8 HB BK237
                        obtain ⟨q7_, q8_, qb_, qk_⟩ := hq
                        have HO_7 := Aside0.mk q7_
                        have HO_8 := Aside0.mk q8_
                        have HB := Aside0.mk qb_
                        have BK237 := Aside0.mk qk_
                        clear q7_ q8_ qb_ qk_
                        have hcz21_0 : wc_.cell? ⟨gb237, 0, none⟩ = some (.int .i64 ((rd_T84 x7_4 x9_2).f0)) := (blk_cell BK237.out 0).trans rfl
                        have hcz21_1 : wc_.cell? ⟨gb237, 1, none⟩ = some (.int .i64 ((rd_T84 x7_4 x9_2).f1)) := (blk_cell BK237.out 1).trans rfl
                        have hcz21_2 : wc_.cell? ⟨gb237, 2, none⟩ = some (.int .i64 ((rd_T84 x7_4 x9_2).f2)) := (blk_cell BK237.out 2).trans rfl
                        have hcz21_3 : wc_.cell? ⟨gb237, 3, none⟩ = some (.int .i64 ((rd_T84 x7_4 x9_2).f3)) := (blk_cell BK237.out 3).trans rfl
                        have hcz21_4 : wc_.cell? ⟨gb237, 4, none⟩ = some (.int .i64 (wrap64 (Int.tdiv (wrap64 ((wrap64 ((wrap64 (a0 - ((rd_T84 x7_4 x9_2).f0))) + ((rd_T84 x7_4 x9_2).f2))) - 1)) ((rd_T84 x7_4 x9_2).f2)))) := (blk_cell BK237.out 4).trans rfl
                        have hcz21_5 : wc_.cell? ⟨gb237, 5, none⟩ = some (.int .i64 (wrap64 (Int.tdiv (wrap64 ((wrap64 ((wrap64 (a1 - ((rd_T84 x7_4 x9_2).f1))) + ((rd_T84 x7_4 x9_2).f3))) - 1)) ((rd_T84 x7_4 x9_2).f3)))) := (blk_cell BK237.out 5).trans rfl
                        have hfz21_0 := blk_frozen BK237.out 0
                        have hfz21_1 := blk_frozen BK237.out 1
                        have hfz21_2 := blk_frozen BK237.out 2
                        have hfz21_3 := blk_frozen BK237.out 3
                        have hfz21_4 := blk_frozen BK237.out 4
                        have hfz21_5 := blk_frozen BK237.out 5
                        go_wp2_with (first | ((with_reducible refine gate_builtin (b := .append) (xs := #[.tmp 61, .tmp 63]) rfl ?_); at_builtin; refine Kd.R_append k84 (w0 := w) w.heap.size rfl (.tmp 61) (.tmp 63) 39 84 (.agg #[(.int .i64 0), (.int .i64 0), (.int .i64 0), (.int .i64 0), (.int .i64 0), (.int .i64 0)]) 48 rfl Try.underlying39 info84 rfl (by decide) (by omega) u8 x8_2 (⟨(rd_T84 x7_4 x9_2).f0, (rd_T84 x7_4 x9_2).f1, (rd_T84 x7_4 x9_2).f2, (rd_T84 x7_4 x9_2).f3, wrap64 (Int.tdiv (wrap64 ((wrap64 ((wrap64 (a0 - ((rd_T84 x7_4 x9_2).f0))) + ((rd_T84 x7_4 x9_2).f2))) - 1)) ((rd_T84 x7_4 x9_2).f2)), wrap64 (Int.tdiv (wrap64 ((wrap64 ((wrap64 (a1 - ((rd_T84 x7_4 x9_2).f1))) + ((rd_T84 x7_4 x9_2).f3))) - 1)) ((rd_T84 x7_4 x9_2).f3))⟩ : S84) [.int .i64 ((rd_T84 x7_4 x9_2).f0), .int .i64 ((rd_T84 x7_4 x9_2).f1), .int .i64 ((rd_T84 x7_4 x9_2).f2), .int .i64 ((rd_T84 x7_4 x9_2).f3), .int .i64 (wrap64 (Int.tdiv (wrap64 ((wrap64 ((wrap64 (a0 - ((rd_T84 x7_4 x9_2).f0))) + ((rd_T84 x7_4 x9_2).f2))) - 1)) ((rd_T84 x7_4 x9_2).f2))), .int .i64 (wrap64 (Int.tdiv (wrap64 ((wrap64 ((wrap64 (a1 - ((rd_T84 x7_4 x9_2).f1))) + ((rd_T84 x7_4 x9_2).f3))) - 1)) ((rd_T84 x7_4 x9_2).f3)))] (fun k_ => some k_ ≠ (.slice (some ad236) x7_4.length co19 : Value).ownBlock ∧ k_ ≠ gb237) (fun _ => False) rfl (by first | (go_simp; done) | (go_simp; rfl)) ?aP (fun _ hk => hk.elim) ?aF ?aO ?aB ?aS ?aL ?_; (case aP => exact k84_mkM _ _ _ (⟨(rd_T84 x7_4 x9_2).f0, (rd_T84 x7_4 x9_2).f1, (rd_T84 x7_4 x9_2).f2, (rd_T84 x7_4 x9_2).f3, wrap64 (Int.tdiv (wrap64 ((wrap64 ((wrap64 (a0 - ((rd_T84 x7_4 x9_2).f0))) + ((rd_T84 x7_4 x9_2).f2))) - 1)) ((rd_T84 x7_4 x9_2).f2)), wrap64 (Int.tdiv (wrap64 ((wrap64 ((wrap64 (a1 - ((rd_T84 x7_4 x9_2).f1))) + ((rd_T84 x7_4 x9_2).f3))) - 1)) ((rd_T84 x7_4 x9_2).f3))⟩ : S84)); (case aB => exact (by repeat (first | (with_reducible first | exact HB.out | apply below_alloc | apply pw_below_drewN | apply below_drew1 | refine below_set ?_ GE237.out) | exact HB.out))); (case aF => exact (fun k_ hk => ⟨Kd.fresh' (Kd.R_lt (by (with_reducible repeat (first | apply Kd.R_alloc | apply Kd.R_drewN | apply Kd.R_drew)); exact (Kd.R_mono (Kd.R_mono HO_7.out (fun k_ hk => (⟨hk, hk.2⟩ : _ ∧ k_ ≠ gb237))) (fun _ h_ => h_.1)))) k_ hk, Kd.freshB (g := gb237) (o := .cells #[.int .i64 ((rd_T84 x7_4 x9_2).f0), .int .i64 ((rd_T84 x7_4 x9_2).f1), .int .i64 ((rd_T84 x7_4 x9_2).f2), .int .i64 ((rd_T84 x7_4 x9_2).f3), .int .i64 (wrap64 (Int.tdiv (wrap64 ((wrap64 ((wrap64 (a0 - ((rd_T84 x7_4 x9_2).f0))) + ((rd_T84 x7_4 x9_2).f2))) - 1)) ((rd_T84 x7_4 x9_2).f2))), .int .i64 (wrap64 (Int.tdiv (wrap64 ((wrap64 ((wrap64 (a1 - ((rd_T84 x7_4 x9_2).f1))) + ((rd_T84 x7_4 x9_2).f3))) - 1)) ((rd_T84 x7_4 x9_2).f3)))] 84 (0, 0)) (by (with_reducible repeat (first | refine blk_drewN ?_ _ | refine blk_drew ?_ | refine blk_alloc ?_ _)); (with_reducible repeat (first | refine blk_drewN ?_ _ | refine blk_drew ?_ | refine blk_alloc ?_ _)); (with_reducible repeat (first | refine blk_drewN ?_ _ | refine blk_drew ?_ | refine blk_alloc ?_ _)); (with_reducible repeat (first | refine blk_drewN ?_ _ | refine blk_drew ?_ | refine blk_alloc ?_ _)); (with_reducible repeat (first | refine blk_drewN ?_ _ | refine blk_drew ?_ | refine blk_alloc ?_ _)); (with_reducible repeat (first | refine blk_drewN ?_ _ | refine blk_drew ?_ | refine blk_alloc ?_ _)); (with_reducible repeat (first | refine blk_drewN ?_ _ | refine blk_drew ?_ | refine blk_alloc ?_ _)); (with_reducible repeat (first | refine blk_drewN ?_ _ | refine blk_drew ?_ | refine blk_alloc ?_ _)); (with_reducible repeat (first | refine blk_drewN ?_ _ | refine blk_drew ?_ | refine blk_alloc ?_ _)); exact BK237.out) k_ hk⟩)); (case aO => exact (by (with_reducible repeat (first | apply Kd.R_alloc | apply Kd.R_drewN | apply Kd.R_drew)); exact Kd.R_mono (Kd.R_mono HO_8.out (fun k_ hk => (⟨hk, hk.2⟩ : _ ∧ k_ ≠ gb237))) (fun _ hk => ⟨hk.1.1, hk.1.2⟩))); (case aS => exact (below_size (by repeat (first | (with_reducible first | exact HB.out | apply below_alloc | apply pw_below_drewN | apply below_drew1 | refine below_set ?_ GE237.out) | exact HB.out)))); (case aL => have := LMc18.out; omega); intro v239 w22 ho hb hg hat; rw [← Ny238.out] at ho; have n0_ := Aside0.mk (Kd.R_after (ok := (fun k_ => k_ ≠ gb237)) (by (with_reducible repeat (first | apply Kd.R_alloc | apply Kd.R_drewN | apply Kd.R_drew)); exact Kd.R_mono (Kd.R_mono HO_7.out (fun k_ hk => (⟨hk, hk.2⟩ : _ ∧ k_ ≠ gb237))) (fun _ hk => ⟨hk.1.2, hk.1.1⟩)) hg hat); have n1_ := Aside0.mk (blk_grown (g := gb237) (o := .cells #[.int .i64 ((rd_T84 x7_4 x9_2).f0), .int .i64 ((rd_T84 x7_4 x9_2).f1), .int .i64 ((rd_T84 x7_4 x9_2).f2), .int .i64 ((rd_T84 x7_4 x9_2).f3), .int .i64 (wrap64 (Int.tdiv (wrap64 ((wrap64 ((wrap64 (a0 - ((rd_T84 x7_4 x9_2).f0))) + ((rd_T84 x7_4 x9_2).f2))) - 1)) ((rd_T84 x7_4 x9_2).f2))), .int .i64 (wrap64 (Int.tdiv (wrap64 ((wrap64 ((wrap64 (a1 - ((rd_T84 x7_4 x9_2).f1))) + ((rd_T84 x7_4 x9_2).f3))) - 1)) ((rd_T84 x7_4 x9_2).f3)))] 84 (0, 0)) (by (with_reducible repeat (first | refine blk_drewN ?_ _ | refine blk_drew ?_ | refine blk_alloc ?_ _)); (with_reducible repeat (first | refine blk_drewN ?_ _ | refine blk_drew ?_ | refine blk_alloc ?_ _)); (with_reducible repeat (first | refine blk_drewN ?_ _ | refine blk_drew ?_ | refine blk_alloc ?_ _)); (with_reducible repeat (first | refine blk_drewN ?_ _ | refine blk_drew ?_ | refine blk_alloc ?_ _)); (with_reducible repeat (first | refine blk_drewN ?_ _ | refine blk_drew ?_ | refine blk_alloc ?_ _)); (with_reducible repeat (first | refine blk_drewN ?_ _ | refine blk_drew ?_ | refine blk_alloc ?_ _)); (with_reducible repeat (first | refine blk_drewN ?_ _ | refine blk_drew ?_ | refine blk_alloc ?_ _)); (with_reducible repeat (first | refine blk_drewN ?_ _ | refine blk_drew ?_ | refine blk_alloc ?_ _)); (with_reducible repeat (first | refine blk_drewN ?_ _ | refine blk_drew ?_ | refine blk_alloc ?_ _)); exact BK237.out) hg (Kd.R_away HO_8.out (fun _ hk => hk.2))); have n2_ := Aside0.mk (hb); have n3_ := Aside0.mk (ho); clear HO_7; clear BK237; clear HB; clear HO_8; have HO_7 := n0_; have BK237 := n1_; have HB := n2_; have HO240 := n3_; clear n0_ n1_ n2_ n3_; clear ho hb hg hat))
                        go_roundg k2
                        case measure => have := HJ4.out; have := HK2.out; omega
                        case rel => exact ⟨(y238), (wrap64 (x9_2 + 1)), (by first | rfl | (simp; done) | (simp [*]; done)), H', ⟨by have := HJ4.out; have := HK2.out; omega⟩, ⟨by (with_reducible repeat (first | apply Kd.R_alloc | apply Kd.R_drewN | apply Kd.R_drew)); exact Kd.R_mono HO_7.out (fun _ hk => hk.2)⟩, ⟨by (with_reducible repeat (first | apply Kd.R_alloc | apply Kd.R_drewN | apply Kd.R_drew)); exact Kd.R_mono HO240.out (fun _ hk => hk.1)⟩, ⟨by repeat (first | (with_reducible first | exact HB.out | apply below_alloc | apply pw_below_drewN | apply below_drew1 | refine below_set ?_ GE237.out) | exact HB.out)⟩⟩
                      · rw [if_neg c18] at H
                        exact absurd H (by simp)
                    · rw [if_neg c17] at H
                      have c17b0 : decide (((rd_T84 x7_4 x9_2).f1) < a1) = false := decide_eq_false c17
                      clear c17
                      have H' := Aside0.mk H
                      clear H
                      obtain ⟨Ao23, co23, eo23⟩ := Kd.R_slice HO_7.out
                      subst eo23
                      have p236 : 0 ≤ (x9_2 : Int) := of_decide_eq_true (by first | (with_reducible assumption) | assumption)
                      have q236 : x9_2 < (x7_4.length : Int) := of_decide_eq_true (by first | (with_reducible assumption) | assumption)
                      obtain ⟨ad236, e236, hx236_0, hx236_1, hx236_2, hx236_3, hx236_4, hx236_5⟩ := at_T84 (Kd.R_reads' HO_7.out).2.2 x9_2 p236 q236
                      cases e236
                      replace p236 := eq_true p236
                      replace q236 := eq_true q236
                      go_upto_region 9 with ((with_reducible refine gate_dst (N := 10) rfl ?_); refine box_event ?hg (N := 10) ?hd (cs := #[.int .i64 0, .int .i64 0, .int .i64 0, .int .i64 0, .int .i64 0, .int .i64 0]) (t := 84) ?hr ?_; (case hd => rfl); (case hg => rfl); (case hr => first | (go_simp; done) | (go_simp; rfl)); intro gb237 hg w24 hbox hb; have n0_ := Aside0.mk (Kd.R_below (Kd.R_elderB (by (with_reducible repeat (first | apply Kd.R_alloc | apply Kd.R_drewN | apply Kd.R_drew)); exact HO_7.out) gb237 (Nat.le_of_eq hg.symm)) hb); have n1_ := Aside0.mk (Kd.R_below (Kd.R_elderB (by (with_reducible repeat (first | apply Kd.R_alloc | apply Kd.R_drewN | apply Kd.R_drew)); exact HO_8.out) gb237 (Nat.le_of_eq hg.symm)) hb); have n2_ := Aside0.mk (below_step (by repeat (first | (with_reducible first | exact HB.out | apply below_alloc | apply pw_below_drewN | apply below_drew1) | exact HB.out)) hb); have n3_ := Aside0.mk (hbox); have n4_ := Aside0.mk ((by rw [hg]; exact (below_size (by repeat (first | (with_reducible first | exact HB.out | apply below_alloc | apply pw_below_drewN | apply below_drew1) | exact HB.out))) : w.heap.size ≤ gb237)); have n5_ := Aside0.mk ((by rw [hg]; exact (below_size (by repeat (first | (with_reducible first | exact HB.out | apply below_alloc | apply pw_below_drewN | apply below_drew1) | exact HB.out))) : w.heap.size ≤ gb237)); clear HO_7; clear HO_8; clear HB; have HO_7 := n0_; have HO_8 := n1_; have HB := n2_; have BK237 := n3_; have GW237 := n4_; have GE237 := n5_; clear n0_ n1_ n2_ n3_ n4_ n5_; clear hb hbox hg; have hcz25_0 : w24.cell? ⟨gb237, 0, none⟩ = some (.int .i64 0) := (blk_cell BK237.out 0).trans rfl; have hcz25_1 : w24.cell? ⟨gb237, 1, none⟩ = some (.int .i64 0) := (blk_cell BK237.out 1).trans rfl; have hcz25_2 : w24.cell? ⟨gb237, 2, none⟩ = some (.int .i64 0) := (blk_cell BK237.out 2).trans rfl; have hcz25_3 : w24.cell? ⟨gb237, 3, none⟩ = some (.int .i64 0) := (blk_cell BK237.out 3).trans rfl; have hcz25_4 : w24.cell? ⟨gb237, 4, none⟩ = some (.int .i64 0) := (blk_cell BK237.out 4).trans rfl; have hcz25_5 : w24.cell? ⟨gb237, 5, none⟩ = some (.int .i64 0) := (blk_cell BK237.out 5).trans rfl; have hfz25_0 := blk_frozen BK237.out 0; have hfz25_1 := blk_frozen BK237.out 1; have hfz25_2 := blk_frozen BK237.out 2; have hfz25_3 := blk_frozen BK237.out 3; have hfz25_4 := blk_frozen BK237.out 4; have hfz25_5 := blk_frozen BK237.out 5)
                      refine regen_wp (fun w' => Kd.R k84 84 w' w.heap.size (fun k => some k ≠ (u8 : Value).ownBlock ∧ k ≠ gb237) (.slice (some ad236) x7_4.length co23) x7_4 ∧ Kd.R k84 84 w' w.heap.size (fun k => some k ≠ (.slice (some ad236) x7_4.length co23 : Value).ownBlock ∧ k ≠ gb237) u8 x8_2 ∧ Below w.heap.size w w' ∧ w'.heap[gb237]? = some (.cells #[.int .i64 ((rd_T84 x7_4 x9_2).f0), .int .i64 ((rd_T84 x7_4 x9_2).f1), .int .i64 ((rd_T84 x7_4 x9_2).f2), .int .i64 ((rd_T84 x7_4 x9_2).f3), .int .i64 ((rd_T84 x7_4 x9_2).f4), .int .i64 ((rd_T84 x7_4 x9_2).f5)] 84 (0, 0))) ⟨?_, ?_, ?_, ?_⟩ (fun wa_ hq => ?_)
                      · (repeat refine Kd.R_far ?_ (fun _ hk => hk.2) _); exact HO_7.out
                      · (repeat refine Kd.R_far ?_ (fun _ hk => hk.2) _); exact HO_8.out
                      · (repeat refine below_set ?_ GE237.out); exact HB.out
                      · exact blk_put (blk_put (blk_put (blk_put (blk_put (blk_put BK237.out 0 _ rfl) 1 _ rfl) 2 _ rfl) 3 _ rfl) 4 _ rfl) 5 _ rfl
                      clear hcz25_0 hfz25_0 hcz25_1 hfz25_1 hcz25_2 hfz25_2 hcz25_3 hfz25_3 hcz25_4 hfz25_4 hcz25_5 hfz25_5
                      clear HO_7 HO_8 HB BK237
                      obtain ⟨q7_, q8_, qb_, qk_⟩ := hq
                      have HO_7 := Aside0.mk q7_
                      have HO_8 := Aside0.mk q8_
                      have HB := Aside0.mk qb_
                      have BK237 := Aside0.mk qk_
                      clear q7_ q8_ qb_ qk_
                      have hcz25_0 : wa_.cell? ⟨gb237, 0, none⟩ = some (.int .i64 ((rd_T84 x7_4 x9_2).f0)) := (blk_cell BK237.out 0).trans rfl
                      have hcz25_1 : wa_.cell? ⟨gb237, 1, none⟩ = some (.int .i64 ((rd_T84 x7_4 x9_2).f1)) := (blk_cell BK237.out 1).trans rfl
                      have hcz25_2 : wa_.cell? ⟨gb237, 2, none⟩ = some (.int .i64 ((rd_T84 x7_4 x9_2).f2)) := (blk_cell BK237.out 2).trans rfl
                      have hcz25_3 : wa_.cell? ⟨gb237, 3, none⟩ = some (.int .i64 ((rd_T84 x7_4 x9_2).f3)) := (blk_cell BK237.out 3).trans rfl
                      have hcz25_4 : wa_.cell? ⟨gb237, 4, none⟩ = some (.int .i64 ((rd_T84 x7_4 x9_2).f4)) := (blk_cell BK237.out 4).trans rfl
                      have hcz25_5 : wa_.cell? ⟨gb237, 5, none⟩ = some (.int .i64 ((rd_T84 x7_4 x9_2).f5)) := (blk_cell BK237.out 5).trans rfl
                      have hfz25_0 := blk_frozen BK237.out 0
                      have hfz25_1 := blk_frozen BK237.out 1
                      have hfz25_2 := blk_frozen BK237.out 2
                      have hfz25_3 := blk_frozen BK237.out 3
                      have hfz25_4 := blk_frozen BK237.out 4
                      have hfz25_5 := blk_frozen BK237.out 5
                      go_upto_region 10 with (fail)
                      refine regen_wp (fun w' => Kd.R k84 84 w' w.heap.size (fun k => some k ≠ (u8 : Value).ownBlock ∧ k ≠ gb237) (.slice (some ad236) x7_4.length co23) x7_4 ∧ Kd.R k84 84 w' w.heap.size (fun k => some k ≠ (.slice (some ad236) x7_4.length co23 : Value).ownBlock ∧ k ≠ gb237) u8 x8_2 ∧ Below w.heap.size w w' ∧ w'.heap[gb237]? = some (.cells #[.int .i64 ((rd_T84 x7_4 x9_2).f0), .int .i64 ((rd_T84 x7_4 x9_2).f1), .int .i64 ((rd_T84 x7_4 x9_2).f2), .int .i64 ((rd_T84 x7_4 x9_2).f3), .int .i64 (wrap64 (Int.tdiv (wrap64 ((wrap64 ((wrap64 (a0 - ((rd_T84 x7_4 x9_2).f0))) + ((rd_T84 x7_4 x9_2).f2))) - 1)) ((rd_T84 x7_4 x9_2).f2))), .int .i64 ((rd_T84 x7_4 x9_2).f5)] 84 (0, 0))) ⟨?_, ?_, ?_, ?_⟩ (fun wb_ hq => ?_)
                      · (repeat refine Kd.R_far ?_ (fun _ hk => hk.2) _); exact HO_7.out
                      · (repeat refine Kd.R_far ?_ (fun _ hk => hk.2) _); exact HO_8.out
                      · (repeat refine below_set ?_ GE237.out); exact HB.out
                      · exact blk_put BK237.out 4 _ rfl
                      clear hcz25_0 hfz25_0 hcz25_1 hfz25_1 hcz25_2 hfz25_2 hcz25_3 hfz25_3 hcz25_4 hfz25_4 hcz25_5 hfz25_5
                      clear HO_7 HO_8 HB BK237
                      obtain ⟨q7_, q8_, qb_, qk_⟩ := hq
                      have HO_7 := Aside0.mk q7_
                      have HO_8 := Aside0.mk q8_
                      have HB := Aside0.mk qb_
                      have BK237 := Aside0.mk qk_
                      clear q7_ q8_ qb_ qk_
                      have hcz25_0 : wb_.cell? ⟨gb237, 0, none⟩ = some (.int .i64 ((rd_T84 x7_4 x9_2).f0)) := (blk_cell BK237.out 0).trans rfl
                      have hcz25_1 : wb_.cell? ⟨gb237, 1, none⟩ = some (.int .i64 ((rd_T84 x7_4 x9_2).f1)) := (blk_cell BK237.out 1).trans rfl
                      have hcz25_2 : wb_.cell? ⟨gb237, 2, none⟩ = some (.int .i64 ((rd_T84 x7_4 x9_2).f2)) := (blk_cell BK237.out 2).trans rfl
                      have hcz25_3 : wb_.cell? ⟨gb237, 3, none⟩ = some (.int .i64 ((rd_T84 x7_4 x9_2).f3)) := (blk_cell BK237.out 3).trans rfl
                      have hcz25_4 : wb_.cell? ⟨gb237, 4, none⟩ = some (.int .i64 (wrap64 (Int.tdiv (wrap64 ((wrap64 ((wrap64 (a0 - ((rd_T84 x7_4 x9_2).f0))) + ((rd_T84 x7_4 x9_2).f2))) - 1)) ((rd_T84 x7_4 x9_2).f2)))) := (blk_cell BK237.out 4).trans rfl
                      have hcz25_5 : wb_.cell? ⟨gb237, 5, none⟩ = some (.int .i64 ((rd_T84 x7_4 x9_2).f5)) := (blk_cell BK237.out 5).trans rfl
                      have hfz25_0 := blk_frozen BK237.out 0
                      have hfz25_1 := blk_frozen BK237.out 1
                      have hfz25_2 := blk_frozen BK237.out 2
                      have hfz25_3 := blk_frozen BK237.out 3
                      have hfz25_4 := blk_frozen BK237.out 4
                      have hfz25_5 := blk_frozen BK237.out 5
                      go_upto_region 11 with (fail)
                      refine regen_wp (fun w' => Kd.R k84 84 w' w.heap.size (fun k => some k ≠ (u8 : Value).ownBlock ∧ k ≠ gb237) (.slice (some ad236) x7_4.length co23) x7_4 ∧ Kd.R k84 84 w' w.heap.size (fun k => some k ≠ (.slice (some ad236) x7_4.length co23 : Value).ownBlock ∧ k ≠ gb237) u8 x8_2 ∧ Below w.heap.size w w' ∧ w'.heap[gb237]? = some (.cells #[.int .i64 ((rd_T84 x7_4 x9_2).f0), .int .i64 ((rd_T84 x7_4 x9_2).f1), .int .i64 ((rd_T84 x7_4 x9_2).f2), .int .i64 ((rd_T84 x7_4 x9_2).f3), .int .i64 (wrap64 (Int.tdiv (wrap64 ((wrap64 ((wrap64 (a0 - ((rd_T84 x7_4 x9_2).f0))) + ((rd_T84 x7_4 x9_2).f2))) - 1)) ((rd_T84 x7_4 x9_2).f2))), .int .i64 (wrap64 (Int.tdiv (wrap64 ((wrap64 ((wrap64 (a1 - ((rd_T84 x7_4 x9_2).f1))) + ((rd_T84 x7_4 x9_2).f3))) - 1)) ((rd_T84 x7_4 x9_2).f3)))] 84 (0, 0))) ⟨?_, ?_, ?_, ?_⟩ (fun wc_ hq => ?_)
                      · (repeat refine Kd.R_far ?_ (fun _ hk => hk.2) _); exact HO_7.out
                      · (repeat refine Kd.R_far ?_ (fun _ hk => hk.2) _); exact HO_8.out
                      · (repeat refine below_set ?_ GE237.out); exact HB.out
                      · exact blk_put BK237.out 5 _ rfl
                      clear hcz25_0 hfz25_0 hcz25_1 hfz25_1 hcz25_2 hfz25_2 hcz25_3 hfz25_3 hcz25_4 hfz25_4 hcz25_5 hfz25_5
                      clear HO_7 HO_8 HB BK237
                      obtain ⟨q7_, q8_, qb_, qk_⟩ := hq
                      have HO_7 := Aside0.mk q7_
                      have HO_8 := Aside0.mk q8_
                      have HB := Aside0.mk qb_
                      have BK237 := Aside0.mk qk_
                      clear q7_ q8_ qb_ qk_
                      have hcz25_0 : wc_.cell? ⟨gb237, 0, none⟩ = some (.int .i64 ((rd_T84 x7_4 x9_2).f0)) := (blk_cell BK237.out 0).trans rfl
                      have hcz25_1 : wc_.cell? ⟨gb237, 1, none⟩ = some (.int .i64 ((rd_T84 x7_4 x9_2).f1)) := (blk_cell BK237.out 1).trans rfl
                      have hcz25_2 : wc_.cell? ⟨gb237, 2, none⟩ = some (.int .i64 ((rd_T84 x7_4 x9_2).f2)) := (blk_cell BK237.out 2).trans rfl
                      have hcz25_3 : wc_.cell? ⟨gb237, 3, none⟩ = some (.int .i64 ((rd_T84 x7_4 x9_2).f3)) := (blk_cell BK237.out 3).trans rfl
                      have hcz25_4 : wc_.cell? ⟨gb237, 4, none⟩ = some (.int .i64 (wrap64 (Int.tdiv (wrap64 ((wrap64 ((wrap64 (a0 - ((rd_T84 x7_4 x9_2).f0))) + ((rd_T84 x7_4 x9_2).f2))) - 1)) ((rd_T84 x7_4 x9_2).f2)))) := (blk_cell BK237.out 4).trans rfl
                      have hcz25_5 : wc_.cell? ⟨gb237, 5, none⟩ = some (.int .i64 (wrap64 (Int.tdiv (wrap64 ((wrap64 ((wrap64 (a1 - ((rd_T84 x7_4 x9_2).f1))) + ((rd_T84 x7_4 x9_2).f3))) - 1)) ((rd_T84 x7_4 x9_2).f3)))) := (blk_cell BK237.out 5).trans rfl
                      have hfz25_0 := blk_frozen BK237.out 0
                      have hfz25_1 := blk_frozen BK237.out 1
                      have hfz25_2 := blk_frozen BK237.out 2
                      have hfz25_3 := blk_frozen BK237.out 3
                      have hfz25_4 := blk_frozen BK237.out 4
                      have hfz25_5 := blk_frozen BK237.out 5
                      go_wp2
                      go_roundg k2
                      case measure => have := HJ4.out; have := HK2.out; omega
                      case rel => exact ⟨(x8_2), (wrap64 (x9_2 + 1)), (by first | rfl | (simp; done) | (simp [*]; done)), H', ⟨by have := HJ4.out; have := HK2.out; omega⟩, ⟨by (with_reducible repeat (first | apply Kd.R_alloc | apply Kd.R_drewN | apply Kd.R_drew)); exact Kd.R_mono (Kd.R_mono HO_7.out (fun k_ hk => (⟨hk, hk.2⟩ : _ ∧ k_ ≠ gb237))) (fun _ hk => hk.1.1)⟩, ⟨by (with_reducible repeat (first | apply Kd.R_alloc | apply Kd.R_drewN | apply Kd.R_drew)); exact Kd.R_mono (Kd.R_mono HO_8.out (fun k_ hk => (⟨hk, hk.2⟩ : _ ∧ k_ ≠ gb237))) (fun _ hk => hk.1.1)⟩, ⟨by repeat (first | (with_reducible first | exact HB.out | apply below_alloc | apply pw_below_drewN | apply below_drew1 | refine below_set ?_ GE237.out) | exact HB.out)⟩⟩
                  · rw [if_neg c16] at H
                    have c16b0 : decide (((rd_T84 x7_4 x9_2).f0) < a0) = false := decide_eq_false c16
                    clear c16
                    have H' := Aside0.mk H
                    clear H
                    obtain ⟨Ao26, co26, eo26⟩ := Kd.R_slice HO_7.out
                    subst eo26
                    have p236 : 0 ≤ (x9_2 : Int) := of_decide_eq_true (by first | (with_reducible assumption) | assumption)
                    have q236 : x9_2 < (x7_4.length : Int) := of_decide_eq_true (by first | (with_reducible assumption) | assumption)
                    obtain ⟨ad236, e236, hx236_0, hx236_1, hx236_2, hx236_3, hx236_4, hx236_5⟩ := at_T84 (Kd.R_reads' HO_7.out).2.2 x9_2 p236 q236
                    cases e236
                    replace p236 := eq_true p236
                    replace q236 := eq_true q236
                    go_upto_region 9 with ((with_reducible refine gate_dst (N := 10) rfl ?_); refine box_event ?hg (N := 10) ?hd (cs := #[.int .i64 0, .int .i64 0, .int .i64 0, .int .i64 0, .int .i64 0, .int .i64 0]) (t := 84) ?hr ?_; (case hd => rfl); (case hg => rfl); (case hr => first | (go_simp; done) | (go_simp; rfl)); intro gb237 hg w27 hbox hb; have n0_ := Aside0.mk (Kd.R_below (Kd.R_elderB (by (with_reducible repeat (first | apply Kd.R_alloc | apply Kd.R_drewN | apply Kd.R_drew)); exact HO_7.out) gb237 (Nat.le_of_eq hg.symm)) hb); have n1_ := Aside0.mk (Kd.R_below (Kd.R_elderB (by (with_reducible repeat (first | apply Kd.R_alloc | apply Kd.R_drewN | apply Kd.R_drew)); exact HO_8.out) gb237 (Nat.le_of_eq hg.symm)) hb); have n2_ := Aside0.mk (below_step (by repeat (first | (with_reducible first | exact HB.out | apply below_alloc | apply pw_below_drewN | apply below_drew1) | exact HB.out)) hb); have n3_ := Aside0.mk (hbox); have n4_ := Aside0.mk ((by rw [hg]; exact (below_size (by repeat (first | (with_reducible first | exact HB.out | apply below_alloc | apply pw_below_drewN | apply below_drew1) | exact HB.out))) : w.heap.size ≤ gb237)); have n5_ := Aside0.mk ((by rw [hg]; exact (below_size (by repeat (first | (with_reducible first | exact HB.out | apply below_alloc | apply pw_below_drewN | apply below_drew1) | exact HB.out))) : w.heap.size ≤ gb237)); clear HO_7; clear HO_8; clear HB; have HO_7 := n0_; have HO_8 := n1_; have HB := n2_; have BK237 := n3_; have GW237 := n4_; have GE237 := n5_; clear n0_ n1_ n2_ n3_ n4_ n5_; clear hb hbox hg; have hcz28_0 : w27.cell? ⟨gb237, 0, none⟩ = some (.int .i64 0) := (blk_cell BK237.out 0).trans rfl; have hcz28_1 : w27.cell? ⟨gb237, 1, none⟩ = some (.int .i64 0) := (blk_cell BK237.out 1).trans rfl; have hcz28_2 : w27.cell? ⟨gb237, 2, none⟩ = some (.int .i64 0) := (blk_cell BK237.out 2).trans rfl; have hcz28_3 : w27.cell? ⟨gb237, 3, none⟩ = some (.int .i64 0) := (blk_cell BK237.out 3).trans rfl; have hcz28_4 : w27.cell? ⟨gb237, 4, none⟩ = some (.int .i64 0) := (blk_cell BK237.out 4).trans rfl; have hcz28_5 : w27.cell? ⟨gb237, 5, none⟩ = some (.int .i64 0) := (blk_cell BK237.out 5).trans rfl; have hfz28_0 := blk_frozen BK237.out 0; have hfz28_1 := blk_frozen BK237.out 1; have hfz28_2 := blk_frozen BK237.out 2; have hfz28_3 := blk_frozen BK237.out 3; have hfz28_4 := blk_frozen BK237.out 4; have hfz28_5 := blk_frozen BK237.out 5)
                    refine regen_wp (fun w' => Kd.R k84 84 w' w.heap.size (fun k => some k ≠ (u8 : Value).ownBlock ∧ k ≠ gb237) (.slice (some ad236) x7_4.length co26) x7_4 ∧ Kd.R k84 84 w' w.heap.size (fun k => some k ≠ (.slice (some ad236) x7_4.length co26 : Value).ownBlock ∧ k ≠ gb237) u8 x8_2 ∧ Below w.heap.size w w' ∧ w'.heap[gb237]? = some (.cells #[.int .i64 ((rd_T84 x7_4 x9_2).f0), .int .i64 ((rd_T84 x7_4 x9_2).f1), .int .i64 ((rd_T84 x7_4 x9_2).f2), .int .i64 ((rd_T84 x7_4 x9_2).f3), .int .i64 ((rd_T84 x7_4 x9_2).f4), .int .i64 ((rd_T84 x7_4 x9_2).f5)] 84 (0, 0))) ⟨?_, ?_, ?_, ?_⟩ (fun wa_ hq => ?_)
                    · (repeat refine Kd.R_far ?_ (fun _ hk => hk.2) _); exact HO_7.out
                    · (repeat refine Kd.R_far ?_ (fun _ hk => hk.2) _); exact HO_8.out
                    · (repeat refine below_set ?_ GE237.out); exact HB.out
                    · exact blk_put (blk_put (blk_put (blk_put (blk_put (blk_put BK237.out 0 _ rfl) 1 _ rfl) 2 _ rfl) 3 _ rfl) 4 _ rfl) 5 _ rfl
                    clear hcz28_0 hfz28_0 hcz28_1 hfz28_1 hcz28_2 hfz28_2 hcz28_3 hfz28_3 hcz28_4 hfz28_4 hcz28_5 hfz28_5
                    clear HO_7 HO_8 HB BK237
                    obtain ⟨q7_, q8_, qb_, qk_⟩ := hq
                    have HO_7 := Aside0.mk q7_
                    have HO_8 := Aside0.mk q8_
                    have HB := Aside0.mk qb_
                    have BK237 := Aside0.mk qk_
                    clear q7_ q8_ qb_ qk_
                    have hcz28_0 : wa_.cell? ⟨gb237, 0, none⟩ = some (.int .i64 ((rd_T84 x7_4 x9_2).f0)) := (blk_cell BK237.out 0).trans rfl
                    have hcz28_1 : wa_.cell? ⟨gb237, 1, none⟩ = some (.int .i64 ((rd_T84 x7_4 x9_2).f1)) := (blk_cell BK237.out 1).trans rfl
                    have hcz28_2 : wa_.cell? ⟨gb237, 2, none⟩ = some (.int .i64 ((rd_T84 x7_4 x9_2).f2)) := (blk_cell BK237.out 2).trans rfl
                    have hcz28_3 : wa_.cell? ⟨gb237, 3, none⟩ = some (.int .i64 ((rd_T84 x7_4 x9_2).f3)) := (blk_cell BK237.out 3).trans rfl
                    have hcz28_4 : wa_.cell? ⟨gb237, 4, none⟩ = some (.int .i64 ((rd_T84 x7_4 x9_2).f4)) := (blk_cell BK237.out 4).trans rfl
                    have hcz28_5 : wa_.cell? ⟨gb237, 5, none⟩ = some (.int .i64 ((rd_T84 x7_4 x9_2).f5)) := (blk_cell BK237.out 5).trans rfl
                    have hfz28_0 := blk_frozen BK237.out 0
                    have hfz28_1 := blk_frozen BK237.out 1
                    have hfz28_2 := blk_frozen BK237.out 2
                    have hfz28_3 := blk_frozen BK237.out 3
                    have hfz28_4 := blk_frozen BK237.out 4
                    have hfz28_5 := blk_frozen BK237.out 5
                    go_upto_region 10 with (fail)
                    refine regen_wp (fun w' => Kd.R k84 84 w' w.heap.size (fun k => some k ≠ (u8 : Value).ownBlock ∧ k ≠ gb237) (.slice (some ad236) x7_4.length co26) x7_4 ∧ Kd.R k84 84 w' w.heap.size (fun k => some k ≠ (.slice (some ad236) x7_4.length co26 : Value).ownBlock ∧ k ≠ gb237) u8 x8_2 ∧ Below w.heap.size w w' ∧ w'.heap[gb237]? = some (.cells #[.int .i64 ((rd_T84 x7_4 x9_2).f0), .int .i64 ((rd_T84 x7_4 x9_2).f1), .int .i64 ((rd_T84 x7_4 x9_2).f2), .int .i64 ((rd_T84 x7_4 x9_2).f3), .int .i64 (wrap64 (Int.tdiv (wrap64 ((wrap64 ((wrap64 (a0 - ((rd_T84 x7_4 x9_2).f0))) + ((rd_T84 x7_4 x9_2).f2))) - 1)) ((rd_T84 x7_4 x9_2).f2))), .int .i64 ((rd_T84 x7_4 x9_2).f5)] 84 (0, 0))) ⟨?_, ?_, ?_, ?_⟩ (fun wb_ hq => ?_)
                    · (repeat refine Kd.R_far ?_ (fun _ hk => hk.2) _); exact HO_7.out
                    · (repeat refine Kd.R_far ?_ (fun _ hk => hk.2) _); exact HO_8.out
                    · (repeat refine below_set ?_ GE237.out); exact HB.out
                    · exact blk_put BK237.out 4 _ rfl
                    clear hcz28_0 hfz28_0 hcz28_1 hfz28_1 hcz28_2 hfz28_2 hcz28_3 hfz28_3 hcz28_4 hfz28_4 hcz28_5 hfz28_5
                    clear HO_7 HO_8 HB BK237
                    obtain ⟨q7_, q8_, qb_, qk_⟩ := hq
                    have HO_7 := Aside0.mk q7_
                    have HO_8 := Aside0.mk q8_
                    have HB := Aside0.mk qb_
                    have BK237 := Aside0.mk qk_
                    clear q7_ q8_ qb_ qk_
                    have hcz28_0 : wb_.cell? ⟨gb237, 0, none⟩ = some (.int .i64 ((rd_T84 x7_4 x9_2).f0)) := (blk_cell BK237.out 0).trans rfl
                    have hcz28_1 : wb_.cell? ⟨gb237, 1, none⟩ = some (.int .i64 ((rd_T84 x7_4 x9_2).f1)) := (blk_cell BK237.out 1).trans rfl
                    have hcz28_2 : wb_.cell? ⟨gb237, 2, none⟩ = some (.int .i64 ((rd_T84 x7_4 x9_2).f2)) := (blk_cell BK237.out 2).trans rfl
                    have hcz28_3 : wb_.cell? ⟨gb237, 3, none⟩ = some (.int .i64 ((rd_T84 x7_4 x9_2).f3)) := (blk_cell BK237.out 3).trans rfl
                    have hcz28_4 : wb_.cell? ⟨gb237, 4, none⟩ = some (.int .i64 (wrap64 (Int.tdiv (wrap64 ((wrap64 ((wrap64 (a0 - ((rd_T84 x7_4 x9_2).f0))) + ((rd_T84 x7_4 x9_2).f2))) - 1)) ((rd_T84 x7_4 x9_2).f2)))) := (blk_cell BK237.out 4).trans rfl
                    have hcz28_5 : wb_.cell? ⟨gb237, 5, none⟩ = some (.int .i64 ((rd_T84 x7_4 x9_2).f5)) := (blk_cell BK237.out 5).trans rfl
                    have hfz28_0 := blk_frozen BK237.out 0
                    have hfz28_1 := blk_frozen BK237.out 1
                    have hfz28_2 := blk_frozen BK237.out 2
                    have hfz28_3 := blk_frozen BK237.out 3
                    have hfz28_4 := blk_frozen BK237.out 4
                    have hfz28_5 := blk_frozen BK237.out 5
                    go_upto_region 11 with (fail)
                    refine regen_wp (fun w' => Kd.R k84 84 w' w.heap.size (fun k => some k ≠ (u8 : Value).ownBlock ∧ k ≠ gb237) (.slice (some ad236) x7_4.length co26) x7_4 ∧ Kd.R k84 84 w' w.heap.size (fun k => some k ≠ (.slice (some ad236) x7_4.length co26 : Value).ownBlock ∧ k ≠ gb237) u8 x8_2 ∧ Below w.heap.size w w' ∧ w'.heap[gb237]? = some (.cells #[.int .i64 ((rd_T84 x7_4 x9_2).f0), .int .i64 ((rd_T84 x7_4 x9_2).f1), .int .i64 ((rd_T84 x7_4 x9_2).f2), .int .i64 ((rd_T84 x7_4 x9_2).f3), .int .i64 (wrap64 (Int.tdiv (wrap64 ((wrap64 ((wrap64 (a0 - ((rd_T84 x7_4 x9_2).f0))) + ((rd_T84 x7_4 x9_2).f2))) - 1)) ((rd_T84 x7_4 x9_2).f2))), .int .i64 (wrap64 (Int.tdiv (wrap64 ((wrap64 ((wrap64 (a1 - ((rd_T84 x7_4 x9_2).f1))) + ((rd_T84 x7_4 x9_2).f3))) - 1)) ((rd_T84 x7_4 x9_2).f3)))] 84 (0, 0))) ⟨?_, ?_, ?_, ?_⟩ (fun wc_ hq => ?_)
                    · (repeat refine Kd.R_far ?_ (fun _ hk => hk.2) _); exact HO_7.out
                    · (repeat refine Kd.R_far ?_ (fun _ hk => hk.2) _); exact HO_8.out
                    · (repeat refine below_set ?_ GE237.out); exact HB.out
                    · exact blk_put BK237.out 5 _ rfl
                    clear hcz28_0 hfz28_0 hcz28_1 hfz28_1 hcz28_2 hfz28_2 hcz28_3 hfz28_3 hcz28_4 hfz28_4 hcz28_5 hfz28_5
                    clear HO_7 HO_8 HB BK237
                    obtain ⟨q7_, q8_, qb_, qk_⟩ := hq
                    have HO_7 := Aside0.mk q7_
                    have HO_8 := Aside0.mk q8_
                    have HB := Aside0.mk qb_
                    have BK237 := Aside0.mk qk_
                    clear q7_ q8_ qb_ qk_
                    have hcz28_0 : wc_.cell? ⟨gb237, 0, none⟩ = some (.int .i64 ((rd_T84 x7_4 x9_2).f0)) := (blk_cell BK237.out 0).trans rfl
                    have hcz28_1 : wc_.cell? ⟨gb237, 1, none⟩ = some (.int .i64 ((rd_T84 x7_4 x9_2).f1)) := (blk_cell BK237.out 1).trans rfl
                    have hcz28_2 : wc_.cell? ⟨gb237, 2, none⟩ = some (.int .i64 ((rd_T84 x7_4 x9_2).f2)) := (blk_cell BK237.out 2).trans rfl
                    have hcz28_3 : wc_.cell? ⟨gb237, 3, none⟩ = some (.int .i64 ((rd_T84 x7_4 x9_2).f3)) := (blk_cell BK237.out 3).trans rfl
                    have hcz28_4 : wc_.cell? ⟨gb237, 4, none⟩ = some (.int .i64 (wrap64 (Int.tdiv (wrap64 ((wrap64 ((wrap64 (a0 - ((rd_T84 x7_4 x9_2).f0))) + ((rd_T84 x7_4 x9_2).f2))) - 1)) ((rd_T84 x7_4 x9_2).f2)))) := (blk_cell BK237.out 4).trans rfl
                    have hcz28_5 : wc_.cell? ⟨gb237, 5, none⟩ = some (.int .i64 (wrap64 (Int.tdiv (wrap64 ((wrap64 ((wrap64 (a1 - ((rd_T84 x7_4 x9_2).f1))) + ((rd_T84 x7_4 x9_2).f3))) - 1)) ((rd_T84 x7_4 x9_2).f3)))) := (blk_cell BK237.out 5).trans rfl
                    have hfz28_0 := blk_frozen BK237.out 0
                    have hfz28_1 := blk_frozen BK237.out 1
                    have hfz28_2 := blk_frozen BK237.out 2
                    have hfz28_3 := blk_frozen BK237.out 3
                    have hfz28_4 := blk_frozen BK237.out 4
                    have hfz28_5 := blk_frozen BK237.out 5
                    go_wp2
                    go_roundg k2
                    case measure => have := HJ4.out; have := HK2.out; omega
                    case rel => exact ⟨(x8_2), (wrap64 (x9_2 + 1)), (by first | rfl | (simp; done) | (simp [*]; done)), H', ⟨by have := HJ4.out; have := HK2.out; omega⟩, ⟨by (with_reducible repeat (first | apply Kd.R_alloc | apply Kd.R_drewN | apply Kd.R_drew)); exact Kd.R_mono (Kd.R_mono HO_7.out (fun k_ hk => (⟨hk, hk.2⟩ : _ ∧ k_ ≠ gb237))) (fun _ hk => hk.1.1)⟩, ⟨by (with_reducible repeat (first | apply Kd.R_alloc | apply Kd.R_drewN | apply Kd.R_drew)); exact Kd.R_mono (Kd.R_mono HO_8.out (fun k_ hk => (⟨hk, hk.2⟩ : _ ∧ k_ ≠ gb237))) (fun _ hk => hk.1.1)⟩, ⟨by repeat (first | (with_reducible first | exact HB.out | apply below_alloc | apply pw_below_drewN | apply below_drew1 | refine below_set ?_ GE237.out) | exact HB.out)⟩⟩
            · rw [if_neg c13] at H
              exact absurd H (by simp)
          · rw [if_neg c12] at H
            have c12b0 : decide (x9_2 < (x7_4.length : Int)) = false := decide_eq_false c12
            clear c12
            obtain rfl := Option.some.inj H
            obtain ⟨Ao29, co29, eo29⟩ := Kd.R_slice HO_7.out
            subst eo29
            go_wp2
            go_ret
            exact ⟨_, by first | rfl | (simp [errW_none, errW_some] <;> rfl) | (simp [*, errW_none, errW_some] <;> rfl), by (with_reducible repeat (first | apply Kd.R_alloc | apply Kd.R_drewN | apply Kd.R_drew)); exact Kd.R_mono HO_8.out (fun _ hk => trivial), by repeat (first | (with_reducible first | exact HB.out | apply below_alloc | apply pw_below_drewN | apply below_drew1) | exact HB.out)⟩

end Go.Proofs.Yteikopjhekhchaa.P
