-- Written by a program of this session (wip/myprint.py) through the print of the kit: not trusted, Lean checks it.
import Derived.Test.YtjcamejbdcaokaaF00
namespace Go.Proofs.Ytjcamejbdcaokaa.P
open Go.RowKit Go.Proofs.YtjcamejbdcaokaaW.PrintWords Go.Proofs.YtjcamejbdcaokaaW.PrintLast Go.Proofs.YtjcamejbdcaokaaW.PrintMore
attribute [local go_sem] max2_int min2_int max_two min_two max_three min_three max_four min_four   -- for this text's walks alone
set_option linter.unusedVariables false
set_option linter.unusedSimpArgs false

/-! ### impl_tgaType: function 103 -/
mutual
def impl_tgaType.j0 : Nat → Bool → Int → Int → Int → Int → List Int → List Int → Option (Int)
  | 0, _, _, _, _, _, _, _ => none
  | k + 1, x3, x521000, x521001, x521002, x521003, x521004, x521005 => if x3 = true then (some 1) else (if x521000 = 2 then (impl_tgaType.j1 k true x521000 x521001 x521002 x521003 x521004 x521005) else (impl_tgaType.j1 k (x521000 == 3) x521000 x521001 x521002 x521003 x521004 x521005))
def impl_tgaType.j1 : Nat → Bool → Int → Int → Int → Int → List Int → List Int → Option (Int)
  | 0, _, _, _, _, _, _, _ => none
  | k + 1, x12, x521000, x521001, x521002, x521003, x521004, x521005 => if x12 = true then (some 2) else (if x521000 = 1 then (if x521001 = 8 then (some 3) else (some 0)) else (some 0))
end
def impl_tgaType.f (k : Nat) (a0_0 : Int) (a0_1 : Int) (a0_2 : Int) (a0_3 : Int) (l0_4 : List Int) (l0_5 : List Int) : Option (Int) := if a0_0 = 4 then (impl_tgaType.j0 k (a0_1 == 8) a0_0 a0_1 a0_2 a0_3 l0_4 l0_5) else (impl_tgaType.j0 k false a0_0 a0_1 a0_2 a0_3 l0_4 l0_5)
theorem impl_tgaType.mono_l : ∀ k, (∀ y0 y1 y2 y3 y4 y5 y6, LeO (impl_tgaType.j0 k y0 y1 y2 y3 y4 y5 y6) (impl_tgaType.j0 (k + 1) y0 y1 y2 y3 y4 y5 y6)) ∧ (∀ y0 y1 y2 y3 y4 y5 y6, LeO (impl_tgaType.j1 k y0 y1 y2 y3 y4 y5 y6) (impl_tgaType.j1 (k + 1) y0 y1 y2 y3 y4 y5 y6))
  | 0 => ⟨fun _ _ _ _ _ _ _ r h => by simp [impl_tgaType.j0] at h, fun _ _ _ _ _ _ _ r h => by simp [impl_tgaType.j1] at h⟩
  | k + 1 => by
    obtain ⟨ih0, ih1⟩ := impl_tgaType.mono_l k
    refine ⟨?_, ?_⟩
    · intro y0 y1 y2 y3 y4 y5 y6
      unfold impl_tgaType.j0
      repeat' first
      | (with_reducible exact ih0 _ _ _ _ _ _ _)
      | (with_reducible exact ih1 _ _ _ _ _ _ _)
      | (with_reducible exact LeO.refl _)
      | (with_reducible exact LeO.none _)
      | (with_reducible refine LeO.ite ?_ ?_)
      | (with_reducible refine LeO.bind ?_ (fun _ => ?_))
      | exact ih0 _ _ _ _ _ _ _
      | exact ih1 _ _ _ _ _ _ _
      | exact LeO.none _
      | refine LeO.ite ?_ ?_
      | refine LeO.bind ?_ (fun _ => ?_)
    · intro y0 y1 y2 y3 y4 y5 y6
      unfold impl_tgaType.j1
      repeat' first
      | (with_reducible exact ih0 _ _ _ _ _ _ _)
      | (with_reducible exact ih1 _ _ _ _ _ _ _)
      | (with_reducible exact LeO.refl _)
      | (with_reducible exact LeO.none _)
      | (with_reducible refine LeO.ite ?_ ?_)
      | (with_reducible refine LeO.bind ?_ (fun _ => ?_))
      | exact ih0 _ _ _ _ _ _ _
      | exact ih1 _ _ _ _ _ _ _
      | exact LeO.none _
      | refine LeO.ite ?_ ?_
      | refine LeO.bind ?_ (fun _ => ?_)
theorem impl_tgaType.mono : ∀ a0 a1 a2 a3 a4 a5 k, LeO (impl_tgaType.f k a0 a1 a2 a3 a4 a5) (impl_tgaType.f (k + 1) a0 a1 a2 a3 a4 a5) := by
  intro a0 a1 a2 a3 a4 a5 k
  obtain ⟨ih0, ih1⟩ := impl_tgaType.mono_l k
  unfold impl_tgaType.f
  repeat' first
      | (with_reducible exact ih0 _ _ _ _ _ _ _)
      | (with_reducible exact ih1 _ _ _ _ _ _ _)
      | (with_reducible exact LeO.refl _)
      | (with_reducible exact LeO.none _)
      | (with_reducible refine LeO.ite ?_ ?_)
      | (with_reducible refine LeO.bind ?_ (fun _ => ?_))
      | exact ih0 _ _ _ _ _ _ _
      | exact ih1 _ _ _ _ _ _ _
      | exact LeO.none _
      | refine LeO.ite ?_ ?_
      | refine LeO.bind ?_ (fun _ => ?_)
set_option maxHeartbeats 8000000 in
set_option maxRecDepth 100000 in
theorem impl_tgaType.calls (k : Nat) (a0_0 : Int) (a0_1 : Int) (a0_2 : Int) (a0_3 : Int) (A0_4 : Option Addr) (c0_4 : Nat) (l0_4 : List Int) (A0_5 : Option Addr) (c0_5 : Nat) (l0_5 : List Int) (r : Int) (w : World) (hr0_4 : Kd.C (Kd.int .i64) w A0_4 l0_4.length l0_4) (hc0_4 : l0_4.length ≤ c0_4) (hr0_5 : Kd.C (Kd.int .i64) w A0_5 l0_5.length l0_5) (hc0_5 : l0_5.length ≤ c0_5) (h : impl_tgaType.f k a0_0 a0_1 a0_2 a0_3 l0_4 l0_5 = some r) :
    Calls Try.prog 103 #[.agg #[.int .i64 a0_0, .int .i64 a0_1, .int .i64 a0_2, .int .i64 a0_3, .slice A0_4 l0_4.length c0_4, .slice A0_5 l0_5.length c0_5]] w fun e w' => e = .returned (.int .i64 r) ∧ Below w.heap.size w w' := by
  have hu47 := Try.underlying47
  have HR0_4 := Aside0.mk hr0_4
  have HC0_4 := Aside0.mk hc0_4
  clear hr0_4 hc0_4
  have HR0_5 := Aside0.mk hr0_5
  have HC0_5 := Aside0.mk hc0_5
  clear hr0_5 hc0_5
  have HB := Aside0.mk (Below.refl w.heap.size w)
  have H : (if a0_0 = 4 then (impl_tgaType.j0 k (a0_1 == 8) a0_0 a0_1 a0_2 a0_3 l0_4 l0_5) else (impl_tgaType.j0 k false a0_0 a0_1 a0_2 a0_3 l0_4 l0_5)) = some r := h
  clear h
  have HC2 := Aside0.mk H
  clear H
  go_enter Try.func103, Try.ntmps103
  go_upto_region 1 with (first | ((with_reducible refine gate_dst (N := 1) rfl ?_); refine box_event ?hg (N := 1) ?hd (cs := #[.int .i64 a0_0, .int .i64 a0_1, .int .i64 a0_2, .int .i64 a0_3, .slice A0_4 l0_4.length c0_4, .slice A0_5 l0_5.length c0_5]) (t := 47) ?hr ?_; (case hd => rfl); (case hg => rfl); (case hr => first | (go_simp; done) | (go_simp; rfl)); intro gb520 hg w3 hbox hb; have n0_ := Aside0.mk (below_step (by repeat (first | (with_reducible first | exact HB.out | apply below_alloc | apply pw_below_drewN | apply below_drew1) | exact HB.out)) hb); have n1_ := Aside0.mk (hbox); have n2_ := Aside0.mk ((by rw [hg]; exact (below_size (by repeat (first | (with_reducible first | exact HB.out | apply below_alloc | apply pw_below_drewN | apply below_drew1) | exact HB.out))) : w.heap.size ≤ gb520)); have n3_ := Aside0.mk ((by rw [hg]; exact (below_size (by repeat (first | (with_reducible first | exact HB.out | apply below_alloc | apply pw_below_drewN | apply below_drew1) | exact HB.out))) : w.heap.size ≤ gb520)); clear HB; have HB := n0_; have BK520 := n1_; have GW520 := n2_; have GE520 := n3_; clear n0_ n1_ n2_ n3_; clear hb hbox hg))
  (try simp only [Act.put, List.setIfInBounds_toArray, List.set_cons_zero, List.set_cons_succ])
  go_cut [3] (fun v3 wc => ∃ (kq : Nat) (x3_1 : Bool), v3 = .bool x3_1 ∧ Aside0 (impl_tgaType.j0 kq x3_1 a0_0 a0_1 a0_2 a0_3 l0_4 l0_5 = some r) ∧ Aside0 (kq ≤ k) ∧ Aside0 (wc.heap[gb520]? = some (.cells #[.int .i64 a0_0, .int .i64 a0_1, .int .i64 a0_2, .int .i64 a0_3, (.slice A0_4 l0_4.length c0_4), (.slice A0_5 l0_5.length c0_5)] 47 (0, 0))) ∧ Aside0 (Below w.heap.size w wc))
  case first =>
    have H := HC2.out
    clear HC2
    by_cases c4 : a0_0 = 4
    · rw [if_pos c4] at H
      have c4b0 : (a0_0 == 4) = true := beq_iff_eq.mpr c4
      have c4b1 : (a0_0 != 4) = false := bne_eq_false_iff_eq.mpr c4
      clear c4
      (first | rw [c4b0] | (simp only [i64_w, i32_w]; rw [c4b0]) | skip)
      have H' := Aside0.mk H
      clear H
      have hcz5_0 : w3.cell? ⟨gb520, 0, none⟩ = some (.int .i64 a0_0) := (blk_cell BK520.out 0).trans rfl
      have hcz5_1 : w3.cell? ⟨gb520, 1, none⟩ = some (.int .i64 a0_1) := (blk_cell BK520.out 1).trans rfl
      have hcz5_2 : w3.cell? ⟨gb520, 2, none⟩ = some (.int .i64 a0_2) := (blk_cell BK520.out 2).trans rfl
      have hcz5_3 : w3.cell? ⟨gb520, 3, none⟩ = some (.int .i64 a0_3) := (blk_cell BK520.out 3).trans rfl
      have hcz5_4 : w3.cell? ⟨gb520, 4, none⟩ = some (.slice A0_4 l0_4.length c0_4) := (blk_cell BK520.out 4).trans rfl
      have hcz5_5 : w3.cell? ⟨gb520, 5, none⟩ = some (.slice A0_5 l0_5.length c0_5) := (blk_cell BK520.out 5).trans rfl
      have hfz5_0 := blk_frozen BK520.out 0
      have hfz5_1 := blk_frozen BK520.out 1
      have hfz5_2 := blk_frozen BK520.out 2
      have hfz5_3 := blk_frozen BK520.out 3
      have hfz5_4 := blk_frozen BK520.out 4
      have hfz5_5 := blk_frozen BK520.out 5
      go_wp2
      go_meet
      case rel => exact ⟨_, ((a0_1 == 8)), (by first | rfl | (simp; done) | (simp [*]; done)), H', ⟨by first | omega | exact Nat.le_refl _⟩, ⟨by (with_reducible repeat (first | refine blk_drewN ?_ _ | refine blk_drew ?_ | refine blk_alloc ?_ _)); exact BK520.out⟩, ⟨by repeat (first | (with_reducible first | exact HB.out | apply below_alloc | apply pw_below_drewN | apply below_drew1 | refine below_set ?_ GE520.out) | exact HB.out)⟩⟩
    · rw [if_neg c4] at H
      have c4b0 : (a0_0 == 4) = false := beq_eq_false_iff_ne.mpr c4
      have c4b1 : (a0_0 != 4) = true := bne_iff_ne.mpr c4
      (first | rw [c4b0] | (simp only [i64_w, i32_w]; rw [c4b0]) | skip)
      have H' := Aside0.mk H
      clear H
      have hcz6_0 : w3.cell? ⟨gb520, 0, none⟩ = some (.int .i64 a0_0) := (blk_cell BK520.out 0).trans rfl
      have hcz6_1 : w3.cell? ⟨gb520, 1, none⟩ = some (.int .i64 a0_1) := (blk_cell BK520.out 1).trans rfl
      have hcz6_2 : w3.cell? ⟨gb520, 2, none⟩ = some (.int .i64 a0_2) := (blk_cell BK520.out 2).trans rfl
      have hcz6_3 : w3.cell? ⟨gb520, 3, none⟩ = some (.int .i64 a0_3) := (blk_cell BK520.out 3).trans rfl
      have hcz6_4 : w3.cell? ⟨gb520, 4, none⟩ = some (.slice A0_4 l0_4.length c0_4) := (blk_cell BK520.out 4).trans rfl
      have hcz6_5 : w3.cell? ⟨gb520, 5, none⟩ = some (.slice A0_5 l0_5.length c0_5) := (blk_cell BK520.out 5).trans rfl
      have hfz6_0 := blk_frozen BK520.out 0
      have hfz6_1 := blk_frozen BK520.out 1
      have hfz6_2 := blk_frozen BK520.out 2
      have hfz6_3 := blk_frozen BK520.out 3
      have hfz6_4 := blk_frozen BK520.out 4
      have hfz6_5 := blk_frozen BK520.out 5
      go_wp2
      go_meet
      case rel => exact ⟨_, (false), (by first | rfl | (simp; done) | (simp [*]; done)), H', ⟨by first | omega | exact Nat.le_refl _⟩, ⟨by (with_reducible repeat (first | refine blk_drewN ?_ _ | refine blk_drew ?_ | refine blk_alloc ?_ _)); exact BK520.out⟩, ⟨by repeat (first | (with_reducible first | exact HB.out | apply below_alloc | apply pw_below_drewN | apply below_drew1 | refine below_set ?_ GE520.out) | exact HB.out)⟩⟩
  case rest =>
    clear HC2
    try clear c1
    try clear p2
    try clear c4
    try clear c4b0
    try clear c4b1
    try clear hcz5_0
    try clear hcz5_1
    try clear hcz5_2
    try clear hcz5_3
    try clear hcz5_4
    try clear hcz5_5
    try clear hcz6_0
    try clear hcz6_1
    try clear hcz6_2
    try clear hcz6_3
    try clear hcz6_4
    try clear hcz6_5
    try clear hfz5_0
    try clear hfz5_1
    try clear hfz5_2
    try clear hfz5_3
    try clear hfz5_4
    try clear hfz5_5
    try clear hfz6_0
    try clear hfz6_1
    try clear hfz6_2
    try clear hfz6_3
    try clear hfz6_4
    try clear hfz6_5
    obtain ⟨kq, x3_1, rfl, HA, HJ1, BK520, HB⟩ := hcut
    cases kq with
    | zero => exact absurd HA.out (by simp [impl_tgaType.j0])
    | succ kj1 =>
      have H := HA.out
      clear HA
      simp only [impl_tgaType.j0] at H
      by_cases c7 : x3_1 = true
      · subst c7
        have H1 : (some 1) = some r := by rw [if_pos rfl] at H; exact H
        clear H
        have H := H1
        clear H1
        obtain rfl := Option.some.inj H
        go_wp2
        go_ret
        exact ⟨by first | rfl | (simp [errW_none, errW_some] <;> rfl) | (simp [*, errW_none, errW_some] <;> rfl), by repeat (first | (with_reducible first | exact HB.out | apply below_alloc | apply pw_below_drewN | apply below_drew1 | refine below_set ?_ GE520.out) | exact HB.out)⟩
      · replace c7 := Bool.eq_false_iff.mpr c7
        subst c7
        have H1 : (if a0_0 = 2 then (impl_tgaType.j1 kj1 true a0_0 a0_1 a0_2 a0_3 l0_4 l0_5) else (impl_tgaType.j1 kj1 (a0_0 == 3) a0_0 a0_1 a0_2 a0_3 l0_4 l0_5)) = some r := by rw [if_neg (show ¬ (false = true) by decide)] at H; exact H
        clear H
        have H := H1
        clear H1
        have HC8 := Aside0.mk H
        clear H
        go_upto_region 3 with (fail)
        go_cut [12] (fun v12 wc => ∃ (kq : Nat) (x12_7 : Bool), v12 = .bool x12_7 ∧ Aside0 (impl_tgaType.j1 kq x12_7 a0_0 a0_1 a0_2 a0_3 l0_4 l0_5 = some r) ∧ Aside0 (kq ≤ kj1) ∧ Aside0 (wc.heap[gb520]? = some (.cells #[.int .i64 a0_0, .int .i64 a0_1, .int .i64 a0_2, .int .i64 a0_3, (.slice A0_4 l0_4.length c0_4), (.slice A0_5 l0_5.length c0_5)] 47 (0, 0))) ∧ Aside0 (Below w.heap.size w wc))
        case first =>
          have H := HC8.out
          clear HC8
          by_cases c9 : a0_0 = 2
          · rw [if_pos c9] at H
            have c9b0 : (a0_0 == 2) = true := beq_iff_eq.mpr c9
            have c9b1 : (a0_0 != 2) = false := bne_eq_false_iff_eq.mpr c9
            clear c9
            (first | rw [c9b0] | (simp only [i64_w, i32_w]; rw [c9b0]) | skip)
            have H' := Aside0.mk H
            clear H
            have hcz10_0 : wc.cell? ⟨gb520, 0, none⟩ = some (.int .i64 a0_0) := (blk_cell BK520.out 0).trans rfl
            have hcz10_1 : wc.cell? ⟨gb520, 1, none⟩ = some (.int .i64 a0_1) := (blk_cell BK520.out 1).trans rfl
            have hcz10_2 : wc.cell? ⟨gb520, 2, none⟩ = some (.int .i64 a0_2) := (blk_cell BK520.out 2).trans rfl
            have hcz10_3 : wc.cell? ⟨gb520, 3, none⟩ = some (.int .i64 a0_3) := (blk_cell BK520.out 3).trans rfl
            have hcz10_4 : wc.cell? ⟨gb520, 4, none⟩ = some (.slice A0_4 l0_4.length c0_4) := (blk_cell BK520.out 4).trans rfl
            have hcz10_5 : wc.cell? ⟨gb520, 5, none⟩ = some (.slice A0_5 l0_5.length c0_5) := (blk_cell BK520.out 5).trans rfl
            have hfz10_0 := blk_frozen BK520.out 0
            have hfz10_1 := blk_frozen BK520.out 1
            have hfz10_2 := blk_frozen BK520.out 2
            have hfz10_3 := blk_frozen BK520.out 3
            have hfz10_4 := blk_frozen BK520.out 4
            have hfz10_5 := blk_frozen BK520.out 5
            go_wp2
            go_meet
            case rel => exact ⟨_, (true), (by first | rfl | (simp; done) | (simp [*]; done)), H', ⟨by have := HJ1.out; first | omega | exact Nat.le_refl _⟩, ⟨by (with_reducible repeat (first | refine blk_drewN ?_ _ | refine blk_drew ?_ | refine blk_alloc ?_ _)); exact BK520.out⟩, ⟨by repeat (first | (with_reducible first | exact HB.out | apply below_alloc | apply pw_below_drewN | apply below_drew1 | refine below_set ?_ GE520.out) | exact HB.out)⟩⟩
          · rw [if_neg c9] at H
            have c9b0 : (a0_0 == 2) = false := beq_eq_false_iff_ne.mpr c9
            have c9b1 : (a0_0 != 2) = true := bne_iff_ne.mpr c9
            (first | rw [c9b0] | (simp only [i64_w, i32_w]; rw [c9b0]) | skip)
            have H' := Aside0.mk H
            clear H
            have hcz11_0 : wc.cell? ⟨gb520, 0, none⟩ = some (.int .i64 a0_0) := (blk_cell BK520.out 0).trans rfl
            have hcz11_1 : wc.cell? ⟨gb520, 1, none⟩ = some (.int .i64 a0_1) := (blk_cell BK520.out 1).trans rfl
            have hcz11_2 : wc.cell? ⟨gb520, 2, none⟩ = some (.int .i64 a0_2) := (blk_cell BK520.out 2).trans rfl
            have hcz11_3 : wc.cell? ⟨gb520, 3, none⟩ = some (.int .i64 a0_3) := (blk_cell BK520.out 3).trans rfl
            have hcz11_4 : wc.cell? ⟨gb520, 4, none⟩ = some (.slice A0_4 l0_4.length c0_4) := (blk_cell BK520.out 4).trans rfl
            have hcz11_5 : wc.cell? ⟨gb520, 5, none⟩ = some (.slice A0_5 l0_5.length c0_5) := (blk_cell BK520.out 5).trans rfl
            have hfz11_0 := blk_frozen BK520.out 0
            have hfz11_1 := blk_frozen BK520.out 1
            have hfz11_2 := blk_frozen BK520.out 2
            have hfz11_3 := blk_frozen BK520.out 3
            have hfz11_4 := blk_frozen BK520.out 4
            have hfz11_5 := blk_frozen BK520.out 5
            go_wp2
            go_meet
            case rel => exact ⟨_, ((a0_0 == 3)), (by first | rfl | (simp; done) | (simp [*]; done)), H', ⟨by have := HJ1.out; first | omega | exact Nat.le_refl _⟩, ⟨by (with_reducible repeat (first | refine blk_drewN ?_ _ | refine blk_drew ?_ | refine blk_alloc ?_ _)); exact BK520.out⟩, ⟨by repeat (first | (with_reducible first | exact HB.out | apply below_alloc | apply pw_below_drewN | apply below_drew1 | refine below_set ?_ GE520.out) | exact HB.out)⟩⟩
        case rest =>
          clear HC8
          try clear c1
          try clear p2
          try clear c4
          try clear c4b0
          try clear c4b1
          try clear c7
          try clear c9
          try clear c9b0
          try clear c9b1
          try clear c10
          try clear hcz10_0
          try clear hcz10_1
          try clear hcz10_2
          try clear hcz10_3
          try clear hcz10_4
          try clear hcz10_5
          try clear hcz11_0
          try clear hcz11_1
          try clear hcz11_2
          try clear hcz11_3
          try clear hcz11_4
          try clear hcz11_5
          try clear hcz5_0
          try clear hcz5_1
          try clear hcz5_2
          try clear hcz5_3
          try clear hcz5_4
          try clear hcz5_5
          try clear hcz6_0
          try clear hcz6_1
          try clear hcz6_2
          try clear hcz6_3
          try clear hcz6_4
          try clear hcz6_5
          try clear hfz10_0
          try clear hfz10_1
          try clear hfz10_2
          try clear hfz10_3
          try clear hfz10_4
          try clear hfz10_5
          try clear hfz11_0
          try clear hfz11_1
          try clear hfz11_2
          try clear hfz11_3
          try clear hfz11_4
          try clear hfz11_5
          try clear hfz5_0
          try clear hfz5_1
          try clear hfz5_2
          try clear hfz5_3
          try clear hfz5_4
          try clear hfz5_5
          try clear hfz6_0
          try clear hfz6_1
          try clear hfz6_2
          try clear hfz6_3
          try clear hfz6_4
          try clear hfz6_5
          try clear p2
          obtain ⟨kq, x12_7, rfl, HA, HJ7, BK520, HB⟩ := hcut
          cases kq with
          | zero => exact absurd HA.out (by simp [impl_tgaType.j1])
          | succ kj7 =>
            have H := HA.out
            clear HA
            simp only [impl_tgaType.j1] at H
            by_cases c12 : x12_7 = true
            · subst c12
              have H1 : (some 2) = some r := by rw [if_pos rfl] at H; exact H
              clear H
              have H := H1
              clear H1
              obtain rfl := Option.some.inj H
              go_wp2
              go_ret
              exact ⟨by first | rfl | (simp [errW_none, errW_some] <;> rfl) | (simp [*, errW_none, errW_some] <;> rfl), by repeat (first | (with_reducible first | exact HB.out | apply below_alloc | apply pw_below_drewN | apply below_drew1 | refine below_set ?_ GE520.out) | exact HB.out)⟩
            · replace c12 := Bool.eq_false_iff.mpr c12
              subst c12
              have H1 : (if a0_0 = 1 then (if a0_1 = 8 then (some 3) else (some 0)) else (some 0)) = some r := by rw [if_neg (show ¬ (false = true) by decide)] at H; exact H
              clear H
              have H := H1
              clear H1
              by_cases c13 : a0_0 = 1
              · rw [if_pos c13] at H
                have c13b0 : (a0_0 == 1) = true := beq_iff_eq.mpr c13
                have c13b1 : (a0_0 != 1) = false := bne_eq_false_iff_eq.mpr c13
                clear c13
                by_cases c14 : a0_1 = 8
                · rw [if_pos c14] at H
                  have c14b0 : (a0_1 == 8) = true := beq_iff_eq.mpr c14
                  have c14b1 : (a0_1 != 8) = false := bne_eq_false_iff_eq.mpr c14
                  clear c14
                  obtain rfl := Option.some.inj H
                  have hcz15_0 : wc.cell? ⟨gb520, 0, none⟩ = some (.int .i64 a0_0) := (blk_cell BK520.out 0).trans rfl
                  have hcz15_1 : wc.cell? ⟨gb520, 1, none⟩ = some (.int .i64 a0_1) := (blk_cell BK520.out 1).trans rfl
                  have hcz15_2 : wc.cell? ⟨gb520, 2, none⟩ = some (.int .i64 a0_2) := (blk_cell BK520.out 2).trans rfl
                  have hcz15_3 : wc.cell? ⟨gb520, 3, none⟩ = some (.int .i64 a0_3) := (blk_cell BK520.out 3).trans rfl
                  have hcz15_4 : wc.cell? ⟨gb520, 4, none⟩ = some (.slice A0_4 l0_4.length c0_4) := (blk_cell BK520.out 4).trans rfl
                  have hcz15_5 : wc.cell? ⟨gb520, 5, none⟩ = some (.slice A0_5 l0_5.length c0_5) := (blk_cell BK520.out 5).trans rfl
                  have hfz15_0 := blk_frozen BK520.out 0
                  have hfz15_1 := blk_frozen BK520.out 1
                  have hfz15_2 := blk_frozen BK520.out 2
                  have hfz15_3 := blk_frozen BK520.out 3
                  have hfz15_4 := blk_frozen BK520.out 4
                  have hfz15_5 := blk_frozen BK520.out 5
                  go_wp2
                  go_ret
                  exact ⟨by first | rfl | (simp [errW_none, errW_some] <;> rfl) | (simp [*, errW_none, errW_some] <;> rfl), by repeat (first | (with_reducible first | exact HB.out | apply below_alloc | apply pw_below_drewN | apply below_drew1 | refine below_set ?_ GE520.out) | exact HB.out)⟩
                · rw [if_neg c14] at H
                  have c14b0 : (a0_1 == 8) = false := beq_eq_false_iff_ne.mpr c14
                  have c14b1 : (a0_1 != 8) = true := bne_iff_ne.mpr c14
                  obtain rfl := Option.some.inj H
                  have hcz16_0 : wc.cell? ⟨gb520, 0, none⟩ = some (.int .i64 a0_0) := (blk_cell BK520.out 0).trans rfl
                  have hcz16_1 : wc.cell? ⟨gb520, 1, none⟩ = some (.int .i64 a0_1) := (blk_cell BK520.out 1).trans rfl
                  have hcz16_2 : wc.cell? ⟨gb520, 2, none⟩ = some (.int .i64 a0_2) := (blk_cell BK520.out 2).trans rfl
                  have hcz16_3 : wc.cell? ⟨gb520, 3, none⟩ = some (.int .i64 a0_3) := (blk_cell BK520.out 3).trans rfl
                  have hcz16_4 : wc.cell? ⟨gb520, 4, none⟩ = some (.slice A0_4 l0_4.length c0_4) := (blk_cell BK520.out 4).trans rfl
                  have hcz16_5 : wc.cell? ⟨gb520, 5, none⟩ = some (.slice A0_5 l0_5.length c0_5) := (blk_cell BK520.out 5).trans rfl
                  have hfz16_0 := blk_frozen BK520.out 0
                  have hfz16_1 := blk_frozen BK520.out 1
                  have hfz16_2 := blk_frozen BK520.out 2
                  have hfz16_3 := blk_frozen BK520.out 3
                  have hfz16_4 := blk_frozen BK520.out 4
                  have hfz16_5 := blk_frozen BK520.out 5
                  go_wp2
                  go_ret
                  exact ⟨by first | rfl | (simp [errW_none, errW_some] <;> rfl) | (simp [*, errW_none, errW_some] <;> rfl), by repeat (first | (with_reducible first | exact HB.out | apply below_alloc | apply pw_below_drewN | apply below_drew1 | refine below_set ?_ GE520.out) | exact HB.out)⟩
              · rw [if_neg c13] at H
                have c13b0 : (a0_0 == 1) = false := beq_eq_false_iff_ne.mpr c13
                have c13b1 : (a0_0 != 1) = true := bne_iff_ne.mpr c13
                obtain rfl := Option.some.inj H
                have hcz17_0 : wc.cell? ⟨gb520, 0, none⟩ = some (.int .i64 a0_0) := (blk_cell BK520.out 0).trans rfl
                have hcz17_1 : wc.cell? ⟨gb520, 1, none⟩ = some (.int .i64 a0_1) := (blk_cell BK520.out 1).trans rfl
                have hcz17_2 : wc.cell? ⟨gb520, 2, none⟩ = some (.int .i64 a0_2) := (blk_cell BK520.out 2).trans rfl
                have hcz17_3 : wc.cell? ⟨gb520, 3, none⟩ = some (.int .i64 a0_3) := (blk_cell BK520.out 3).trans rfl
                have hcz17_4 : wc.cell? ⟨gb520, 4, none⟩ = some (.slice A0_4 l0_4.length c0_4) := (blk_cell BK520.out 4).trans rfl
                have hcz17_5 : wc.cell? ⟨gb520, 5, none⟩ = some (.slice A0_5 l0_5.length c0_5) := (blk_cell BK520.out 5).trans rfl
                have hfz17_0 := blk_frozen BK520.out 0
                have hfz17_1 := blk_frozen BK520.out 1
                have hfz17_2 := blk_frozen BK520.out 2
                have hfz17_3 := blk_frozen BK520.out 3
                have hfz17_4 := blk_frozen BK520.out 4
                have hfz17_5 := blk_frozen BK520.out 5
                go_wp2
                go_ret
                exact ⟨by first | rfl | (simp [errW_none, errW_some] <;> rfl) | (simp [*, errW_none, errW_some] <;> rfl), by repeat (first | (with_reducible first | exact HB.out | apply below_alloc | apply pw_below_drewN | apply below_drew1 | refine below_set ?_ GE520.out) | exact HB.out)⟩

end Go.Proofs.Ytjcamejbdcaokaa.P
