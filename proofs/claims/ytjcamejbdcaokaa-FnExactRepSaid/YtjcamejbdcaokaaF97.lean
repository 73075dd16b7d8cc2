-- Written by a program of this session (wip/myprint.py) through the print of the kit: not trusted, Lean checks it.
import Derived.Test.YtjcamejbdcaokaaF00
namespace Go.Proofs.Ytjcamejbdcaokaa.P
open Go.RowKit Go.Proofs.YtjcamejbdcaokaaW.PrintWords Go.Proofs.YtjcamejbdcaokaaW.PrintLast Go.Proofs.YtjcamejbdcaokaaW.PrintMore
attribute [local go_sem] max2_int min2_int max_two min_two max_three min_three max_four min_four   -- for this text's walks alone
set_option linter.unusedVariables false
set_option linter.unusedSimpArgs false

/-! ### spec_l11Rep: function 97 -/
def spec_l11Rep.f (a0_0 : Int) (a0_1 : Int) (a0_2 : Int) (a0_3 : Int) (l0_4 : List Int) (l0_5 : List Int) (a1 : Bool) : Option (Bool) := if a0_0 = 2 then (if a1 = true then (if a0_0 = 4 then (some (a0_1 == 8)) else (some false)) else (some true)) else (if a0_0 = 4 then (some (a0_1 == 8)) else (some false))
set_option maxHeartbeats 8000000 in
set_option maxRecDepth 100000 in
theorem spec_l11Rep.calls (a0_0 : Int) (a0_1 : Int) (a0_2 : Int) (a0_3 : Int) (A0_4 : Option Addr) (c0_4 : Nat) (l0_4 : List Int) (A0_5 : Option Addr) (c0_5 : Nat) (l0_5 : List Int) (a1 : Bool) (r : Bool) (w : World) (hr0_4 : Kd.C (Kd.int .i64) w A0_4 l0_4.length l0_4) (hc0_4 : l0_4.length ≤ c0_4) (hr0_5 : Kd.C (Kd.int .i64) w A0_5 l0_5.length l0_5) (hc0_5 : l0_5.length ≤ c0_5) (h : spec_l11Rep.f a0_0 a0_1 a0_2 a0_3 l0_4 l0_5 a1 = some r) :
    Calls Try.prog 97 #[.agg #[.int .i64 a0_0, .int .i64 a0_1, .int .i64 a0_2, .int .i64 a0_3, .slice A0_4 l0_4.length c0_4, .slice A0_5 l0_5.length c0_5], .bool a1] w fun e w' => e = .returned (.bool r) ∧ Below w.heap.size w w' := by
  have hu47 := Try.underlying47
  have HR0_4 := Aside0.mk hr0_4
  have HC0_4 := Aside0.mk hc0_4
  clear hr0_4 hc0_4
  have HR0_5 := Aside0.mk hr0_5
  have HC0_5 := Aside0.mk hc0_5
  clear hr0_5 hc0_5
  have HB := Aside0.mk (Below.refl w.heap.size w)
  have H : (if a0_0 = 2 then (if a1 = true then (if a0_0 = 4 then (some (a0_1 == 8)) else (some false)) else (some true)) else (if a0_0 = 4 then (some (a0_1 == 8)) else (some false))) = some r := h
  clear h
  by_cases c3 : a0_0 = 2
  · rw [if_pos c3] at H
    have c3b0 : (a0_0 == 2) = true := beq_iff_eq.mpr c3
    have c3b1 : (a0_0 != 2) = false := bne_eq_false_iff_eq.mpr c3
    clear c3
    by_cases c4 : a1 = true
    · subst c4
      have H1 : (if a0_0 = 4 then (some (a0_1 == 8)) else (some false)) = some r := by rw [if_pos rfl] at H; exact H
      clear H
      have H := H1
      clear H1
      by_cases c5 : a0_0 = 4
      · rw [if_pos c5] at H
        have c5b0 : (a0_0 == 4) = true := beq_iff_eq.mpr c5
        have c5b1 : (a0_0 != 4) = false := bne_eq_false_iff_eq.mpr c5
        clear c5
        obtain rfl := Option.some.inj H
        go_enter Try.func97, Try.ntmps97
        go_wp2_with (first | ((with_reducible refine gate_dst (N := 2) rfl ?_); refine box_event ?hg (N := 2) ?hd (cs := #[.int .i64 a0_0, .int .i64 a0_1, .int .i64 a0_2, .int .i64 a0_3, .slice A0_4 l0_4.length c0_4, .slice A0_5 l0_5.length c0_5]) (t := 47) ?hr ?_; (case hd => rfl); (case hg => rfl); (case hr => first | (go_simp; done) | (go_simp; rfl)); intro gb484 hg w6 hbox hb; have n0_ := Aside0.mk (below_step (by repeat (first | (with_reducible first | exact HB.out | apply below_alloc | apply pw_below_drewN | apply below_drew1) | exact HB.out)) hb); have n1_ := Aside0.mk (hbox); have n2_ := Aside0.mk ((by rw [hg]; exact (below_size (by repeat (first | (with_reducible first | exact HB.out | apply below_alloc | apply pw_below_drewN | apply below_drew1) | exact HB.out))) : w.heap.size ≤ gb484)); have n3_ := Aside0.mk ((by rw [hg]; exact (below_size (by repeat (first | (with_reducible first | exact HB.out | apply below_alloc | apply pw_below_drewN | apply below_drew1) | exact HB.out))) : w.heap.size ≤ gb484)); clear HB; have HB := n0_; have BK484 := n1_; have GW484 := n2_; have GE484 := n3_; clear n0_ n1_ n2_ n3_; clear hb hbox hg; have hcz7_0 : w6.cell? ⟨gb484, 0, none⟩ = some (.int .i64 a0_0) := (blk_cell BK484.out 0).trans rfl; have hcz7_1 : w6.cell? ⟨gb484, 1, none⟩ = some (.int .i64 a0_1) := (blk_cell BK484.out 1).trans rfl; have hcz7_2 : w6.cell? ⟨gb484, 2, none⟩ = some (.int .i64 a0_2) := (blk_cell BK484.out 2).trans rfl; have hcz7_3 : w6.cell? ⟨gb484, 3, none⟩ = some (.int .i64 a0_3) := (blk_cell BK484.out 3).trans rfl; have hcz7_4 : w6.cell? ⟨gb484, 4, none⟩ = some (.slice A0_4 l0_4.length c0_4) := (blk_cell BK484.out 4).trans rfl; have hcz7_5 : w6.cell? ⟨gb484, 5, none⟩ = some (.slice A0_5 l0_5.length c0_5) := (blk_cell BK484.out 5).trans rfl; have hfz7_0 := blk_frozen BK484.out 0; have hfz7_1 := blk_frozen BK484.out 1; have hfz7_2 := blk_frozen BK484.out 2; have hfz7_3 := blk_frozen BK484.out 3; have hfz7_4 := blk_frozen BK484.out 4; have hfz7_5 := blk_frozen BK484.out 5))
        go_ret
        exact ⟨by first | rfl | (simp [errW_none, errW_some] <;> rfl) | (simp [*, errW_none, errW_some] <;> rfl), by repeat (first | (with_reducible first | exact HB.out | apply below_alloc | apply pw_below_drewN | apply below_drew1 | refine below_set ?_ GE484.out) | exact HB.out)⟩
      · rw [if_neg c5] at H
        have c5b0 : (a0_0 == 4) = false := beq_eq_false_iff_ne.mpr c5
        have c5b1 : (a0_0 != 4) = true := bne_iff_ne.mpr c5
        obtain rfl := Option.some.inj H
        go_enter Try.func97, Try.ntmps97
        go_wp2_with (first | ((with_reducible refine gate_dst (N := 2) rfl ?_); refine box_event ?hg (N := 2) ?hd (cs := #[.int .i64 a0_0, .int .i64 a0_1, .int .i64 a0_2, .int .i64 a0_3, .slice A0_4 l0_4.length c0_4, .slice A0_5 l0_5.length c0_5]) (t := 47) ?hr ?_; (case hd => rfl); (case hg => rfl); (case hr => first | (go_simp; done) | (go_simp; rfl)); intro gb484 hg w8 hbox hb; have n0_ := Aside0.mk (below_step (by repeat (first | (with_reducible first | exact HB.out | apply below_alloc | apply pw_below_drewN | apply below_drew1) | exact HB.out)) hb); have n1_ := Aside0.mk (hbox); have n2_ := Aside0.mk ((by rw [hg]; exact (below_size (by repeat (first | (with_reducible first | exact HB.out | apply below_alloc | apply pw_below_drewN | apply below_drew1) | exact HB.out))) : w.heap.size ≤ gb484)); have n3_ := Aside0.mk ((by rw [hg]; exact (below_size (by repeat (first | (with_reducible first | exact HB.out | apply below_alloc | apply pw_below_drewN | apply below_drew1) | exact HB.out))) : w.heap.size ≤ gb484)); clear HB; have HB := n0_; have BK484 := n1_; have GW484 := n2_; have GE484 := n3_; clear n0_ n1_ n2_ n3_; clear hb hbox hg; have hcz9_0 : w8.cell? ⟨gb484, 0, none⟩ = some (.int .i64 a0_0) := (blk_cell BK484.out 0).trans rfl; have hcz9_1 : w8.cell? ⟨gb484, 1, none⟩ = some (.int .i64 a0_1) := (blk_cell BK484.out 1).trans rfl; have hcz9_2 : w8.cell? ⟨gb484, 2, none⟩ = some (.int .i64 a0_2) := (blk_cell BK484.out 2).trans rfl; have hcz9_3 : w8.cell? ⟨gb484, 3, none⟩ = some (.int .i64 a0_3) := (blk_cell BK484.out 3).trans rfl; have hcz9_4 : w8.cell? ⟨gb484, 4, none⟩ = some (.slice A0_4 l0_4.length c0_4) := (blk_cell BK484.out 4).trans rfl; have hcz9_5 : w8.cell? ⟨gb484, 5, none⟩ = some (.slice A0_5 l0_5.length c0_5) := (blk_cell BK484.out 5).trans rfl; have hfz9_0 := blk_frozen BK484.out 0; have hfz9_1 := blk_frozen BK484.out 1; have hfz9_2 := blk_frozen BK484.out 2; have hfz9_3 := blk_frozen BK484.out 3; have hfz9_4 := blk_frozen BK484.out 4; have hfz9_5 := blk_frozen BK484.out 5))
        go_ret
        exact ⟨by first | rfl | (simp [errW_none, errW_some] <;> rfl) | (simp [*, errW_none, errW_some] <;> rfl), by repeat (first | (with_reducible first | exact HB.out | apply below_alloc | apply pw_below_drewN | apply below_drew1 | refine below_set ?_ GE484.out) | exact HB.out)⟩
    · replace c4 := Bool.eq_false_iff.mpr c4
      subst c4
      have H1 : (some true) = some r := by rw [if_neg (show ¬ (false = true) by decide)] at H; exact H
      clear H
      have H := H1
      clear H1
      obtain rfl := Option.some.inj H
      go_enter Try.func97, Try.ntmps97
      go_wp2_with (first | ((with_reducible refine gate_dst (N := 2) rfl ?_); refine box_event ?hg (N := 2) ?hd (cs := #[.int .i64 a0_0, .int .i64 a0_1, .int .i64 a0_2, .int .i64 a0_3, .slice A0_4 l0_4.length c0_4, .slice A0_5 l0_5.length c0_5]) (t := 47) ?hr ?_; (case hd => rfl); (case hg => rfl); (case hr => first | (go_simp; done) | (go_simp; rfl)); intro gb484 hg w10 hbox hb; have n0_ := Aside0.mk (below_step (by repeat (first | (with_reducible first | exact HB.out | apply below_alloc | apply pw_below_drewN | apply below_drew1) | exact HB.out)) hb); have n1_ := Aside0.mk (hbox); have n2_ := Aside0.mk ((by rw [hg]; exact (below_size (by repeat (first | (with_reducible first | exact HB.out | apply below_alloc | apply pw_below_drewN | apply below_drew1) | exact HB.out))) : w.heap.size ≤ gb484)); have n3_ := Aside0.mk ((by rw [hg]; exact (below_size (by repeat (first | (with_reducible first | exact HB.out | apply below_alloc | apply pw_below_drewN | apply below_drew1) | exact HB.out))) : w.heap.size ≤ gb484)); clear HB; have HB := n0_; have BK484 := n1_; have GW484 := n2_; have GE484 := n3_; clear n0_ n1_ n2_ n3_; clear hb hbox hg; have hcz11_0 : w10.cell? ⟨gb484, 0, none⟩ = some (.int .i64 a0_0) := (blk_cell BK484.out 0).trans rfl; have hcz11_1 : w10.cell? ⟨gb484, 1, none⟩ = some (.int .i64 a0_1) := (blk_cell BK484.out 1).trans rfl; have hcz11_2 : w10.cell? ⟨gb484, 2, none⟩ = some (.int .i64 a0_2) := (blk_cell BK484.out 2).trans rfl; have hcz11_3 : w10.cell? ⟨gb484, 3, none⟩ = some (.int .i64 a0_3) := (blk_cell BK484.out 3).trans rfl; have hcz11_4 : w10.cell? ⟨gb484, 4, none⟩ = some (.slice A0_4 l0_4.length c0_4) := (blk_cell BK484.out 4).trans rfl; have hcz11_5 : w10.cell? ⟨gb484, 5, none⟩ = some (.slice A0_5 l0_5.length c0_5) := (blk_cell BK484.out 5).trans rfl; have hfz11_0 := blk_frozen BK484.out 0; have hfz11_1 := blk_frozen BK484.out 1; have hfz11_2 := blk_frozen BK484.out 2; have hfz11_3 := blk_frozen BK484.out 3; have hfz11_4 := blk_frozen BK484.out 4; have hfz11_5 := blk_frozen BK484.out 5))
      go_ret
      exact ⟨by first | rfl | (simp [errW_none, errW_some] <;> rfl) | (simp [*, errW_none, errW_some] <;> rfl), by repeat (first | (with_reducible first | exact HB.out | apply below_alloc | apply pw_below_drewN | apply below_drew1 | refine below_set ?_ GE484.out) | exact HB.out)⟩
  · rw [if_neg c3] at H
    have c3b0 : (a0_0 == 2) = false := beq_eq_false_iff_ne.mpr c3
    have c3b1 : (a0_0 != 2) = true := bne_iff_ne.mpr c3
    by_cases c12 : a0_0 = 4
    · rw [if_pos c12] at H
      have c12b0 : (a0_0 == 4) = true := beq_iff_eq.mpr c12
      have c12b1 : (a0_0 != 4) = false := bne_eq_false_iff_eq.mpr c12
      clear c12
      obtain rfl := Option.some.inj H
      go_enter Try.func97, Try.ntmps97
      go_wp2_with (first | ((with_reducible refine gate_dst (N := 2) rfl ?_); refine box_event ?hg (N := 2) ?hd (cs := #[.int .i64 a0_0, .int .i64 a0_1, .int .i64 a0_2, .int .i64 a0_3, .slice A0_4 l0_4.length c0_4, .slice A0_5 l0_5.length c0_5]) (t := 47) ?hr ?_; (case hd => rfl); (case hg => rfl); (case hr => first | (go_simp; done) | (go_simp; rfl)); intro gb484 hg w13 hbox hb; have n0_ := Aside0.mk (below_step (by repeat (first | (with_reducible first | exact HB.out | apply below_alloc | apply pw_below_drewN | apply below_drew1) | exact HB.out)) hb); have n1_ := Aside0.mk (hbox); have n2_ := Aside0.mk ((by rw [hg]; exact (below_size (by repeat (first | (with_reducible first | exact HB.out | apply below_alloc | apply pw_below_drewN | apply below_drew1) | exact HB.out))) : w.heap.size ≤ gb484)); have n3_ := Aside0.mk ((by rw [hg]; exact (below_size (by repeat (first | (with_reducible first | exact HB.out | apply below_alloc | apply pw_below_drewN | apply below_drew1) | exact HB.out))) : w.heap.size ≤ gb484)); clear HB; have HB := n0_; have BK484 := n1_; have GW484 := n2_; have GE484 := n3_; clear n0_ n1_ n2_ n3_; clear hb hbox hg; have hcz14_0 : w13.cell? ⟨gb484, 0, none⟩ = some (.int .i64 a0_0) := (blk_cell BK484.out 0).trans rfl; have hcz14_1 : w13.cell? ⟨gb484, 1, none⟩ = some (.int .i64 a0_1) := (blk_cell BK484.out 1).trans rfl; have hcz14_2 : w13.cell? ⟨gb484, 2, none⟩ = some (.int .i64 a0_2) := (blk_cell BK484.out 2).trans rfl; have hcz14_3 : w13.cell? ⟨gb484, 3, none⟩ = some (.int .i64 a0_3) := (blk_cell BK484.out 3).trans rfl; have hcz14_4 : w13.cell? ⟨gb484, 4, none⟩ = some (.slice A0_4 l0_4.length c0_4) := (blk_cell BK484.out 4).trans rfl; have hcz14_5 : w13.cell? ⟨gb484, 5, none⟩ = some (.slice A0_5 l0_5.length c0_5) := (blk_cell BK484.out 5).trans rfl; have hfz14_0 := blk_frozen BK484.out 0; have hfz14_1 := blk_frozen BK484.out 1; have hfz14_2 := blk_frozen BK484.out 2; have hfz14_3 := blk_frozen BK484.out 3; have hfz14_4 := blk_frozen BK484.out 4; have hfz14_5 := blk_frozen BK484.out 5))
      go_ret
      exact ⟨by first | rfl | (simp [errW_none, errW_some] <;> rfl) | (simp [*, errW_none, errW_some] <;> rfl), by repeat (first | (with_reducible first | exact HB.out | apply below_alloc | apply pw_below_drewN | apply below_drew1 | refine below_set ?_ GE484.out) | exact HB.out)⟩
    · rw [if_neg c12] at H
      have c12b0 : (a0_0 == 4) = false := beq_eq_false_iff_ne.mpr c12
      have c12b1 : (a0_0 != 4) = true := bne_iff_ne.mpr c12
      obtain rfl := Option.some.inj H
      go_enter Try.func97, Try.ntmps97
      go_wp2_with (first | ((with_reducible refine gate_dst (N := 2) rfl ?_); refine box_event ?hg (N := 2) ?hd (cs := #[.int .i64 a0_0, .int .i64 a0_1, .int .i64 a0_2, .int .i64 a0_3, .slice A0_4 l0_4.length c0_4, .slice A0_5 l0_5.length c0_5]) (t := 47) ?hr ?_; (case hd => rfl); (case hg => rfl); (case hr => first | (go_simp; done) | (go_simp; rfl)); intro gb484 hg w15 hbox hb; have n0_ := Aside0.mk (below_step (by repeat (first | (with_reducible first | exact HB.out | apply below_alloc | apply pw_below_drewN | apply below_drew1) | exact HB.out)) hb); have n1_ := Aside0.mk (hbox); have n2_ := Aside0.mk ((by rw [hg]; exact (below_size (by repeat (first | (with_reducible first | exact HB.out | apply below_alloc | apply pw_below_drewN | apply below_drew1) | exact HB.out))) : w.heap.size ≤ gb484)); have n3_ := Aside0.mk ((by rw [hg]; exact (below_size (by repeat (first | (with_reducible first | exact HB.out | apply below_alloc | apply pw_below_drewN | apply below_drew1) | exact HB.out))) : w.heap.size ≤ gb484)); clear HB; have HB := n0_; have BK484 := n1_; have GW484 := n2_; have GE484 := n3_; clear n0_ n1_ n2_ n3_; clear hb hbox hg; have hcz16_0 : w15.cell? ⟨gb484, 0, none⟩ = some (.int .i64 a0_0) := (blk_cell BK484.out 0).trans rfl; have hcz16_1 : w15.cell? ⟨gb484, 1, none⟩ = some (.int .i64 a0_1) := (blk_cell BK484.out 1).trans rfl; have hcz16_2 : w15.cell? ⟨gb484, 2, none⟩ = some (.int .i64 a0_2) := (blk_cell BK484.out 2).trans rfl; have hcz16_3 : w15.cell? ⟨gb484, 3, none⟩ = some (.int .i64 a0_3) := (blk_cell BK484.out 3).trans rfl; have hcz16_4 : w15.cell? ⟨gb484, 4, none⟩ = some (.slice A0_4 l0_4.length c0_4) := (blk_cell BK484.out 4).trans rfl; have hcz16_5 : w15.cell? ⟨gb484, 5, none⟩ = some (.slice A0_5 l0_5.length c0_5) := (blk_cell BK484.out 5).trans rfl; have hfz16_0 := blk_frozen BK484.out 0; have hfz16_1 := blk_frozen BK484.out 1; have hfz16_2 := blk_frozen BK484.out 2; have hfz16_3 := blk_frozen BK484.out 3; have hfz16_4 := blk_frozen BK484.out 4; have hfz16_5 := blk_frozen BK484.out 5))
      go_ret
      exact ⟨by first | rfl | (simp [errW_none, errW_some] <;> rfl) | (simp [*, errW_none, errW_some] <;> rfl), by repeat (first | (with_reducible first | exact HB.out | apply below_alloc | apply pw_below_drewN | apply below_drew1 | refine below_set ?_ GE484.out) | exact HB.out)⟩

end Go.Proofs.Ytjcamejbdcaokaa.P
