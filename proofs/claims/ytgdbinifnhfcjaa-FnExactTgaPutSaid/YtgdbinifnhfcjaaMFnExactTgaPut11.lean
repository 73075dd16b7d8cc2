/- Texts of one law put together (wip/merge2.py). -/
import Derived.Test.YtgdbinifnhfcjaaMFnExactTgaPut1
namespace Go.Proofs.Ytgdbinifnhfcjaa.P
open Go.RowKit Go.Proofs.YtgdbinifnhfcjaaW.PrintWords Go.Proofs.YtgdbinifnhfcjaaW.PrintLast Go.Proofs.YtgdbinifnhfcjaaW.PrintMore
attribute [local go_sem] max2_int min2_int max_two min_two max_three min_three max_four min_four   -- for this text's walks alone
set_option linter.unusedVariables false
set_option linter.unusedSimpArgs false
/-! ### spec_l9Flag: function 110 -/
def spec_l9Flag.f (a0 : Bool) : Option (Int) := if a0 = true then (some 1) else (some 0)
set_option maxHeartbeats 8000000 in
set_option maxRecDepth 100000 in
theorem spec_l9Flag.calls (a0 : Bool) (r : Int) (w : World) (h : spec_l9Flag.f a0 = some r) :
 Calls Try.prog 110 #[.bool a0] w fun e w' => e = .returned (.int .i64 r) ∧ Drawn0 w w' := by
 have H : (if a0 = true then (some 1) else (some 0)) = some r := h; clear h
 by_cases c2 : a0 = true
 ·subst c2; replace H := Sq.t H; obtain rfl := Option.some.inj H; go_enter Try.func110, Try.ntmps110
  go_wp2
  go_ret
  exact ⟨by first | rfl | (simp; done) | (simp [*]; done), by repeat (first | exact Drawn0.refl _ | apply Drawn0.step)⟩
 ·replace c2 := Bool.eq_false_iff.mpr c2; subst c2; replace H := Sq.f H; obtain rfl := Option.some.inj H; go_enter Try.func110, Try.ntmps110
  go_wp2
  go_ret
  exact ⟨by first | rfl | (simp; done) | (simp [*]; done), by repeat (first | exact Drawn0.refl _ | apply Drawn0.step)⟩
/-! ### spec_l11Dense: function 121 -/
def spec_l11Dense.l0 : Nat → List Int → Int → Int → Int → Int → Int → List Int → List Int → Option (List Int)
 | 0, _, _, _, _, _, _, _, _ => none
 | k + 1, x3, x4, x798000, x798001, x798002, x798003, x798004, x798005 => if x4 < (x798005.length : Int) then (if 0 ≤ x4 then (if x798000 = 3 then (if x3.length < 17592186044416 then (spec_l11Dense.l0 k (x3 ++ [wrap64 ((wrap64 (Int.tdiv (rd x798005 x4) 256)) + (wrap64 ((Int.tmod (rd x798005 x4) 256) * 16777216)))]) (wrap64 (x4 + 1)) x798000 x798001 x798002 x798003 x798004 x798005) else (none)) else (if x3.length < 17592186044416 then (spec_l11Dense.l0 k (x3 ++ [rd x798005 x4]) (wrap64 (x4 + 1)) x798000 x798001 x798002 x798003 x798004 x798005) else (none))) else (none)) else (some x3)
def spec_l11Dense.f (k : Nat) (a0_0 : Int) (a0_1 : Int) (a0_2 : Int) (a0_3 : Int) (l0_4 : List Int) (l0_5 : List Int) : Option (List Int) := spec_l11Dense.l0 k (([] : List Int)) 0 a0_0 a0_1 a0_2 a0_3 l0_4 l0_5
theorem spec_l11Dense.mono_l : ∀ k, (∀ y0 y1 y2 y3 y4 y5 y6 y7, LeO (spec_l11Dense.l0 k y0 y1 y2 y3 y4 y5 y6 y7) (spec_l11Dense.l0 (k + 1) y0 y1 y2 y3 y4 y5 y6 y7))
 | 0 => fun _ _ _ _ _ _ _ _ r h => by simp [spec_l11Dense.l0] at h
 | k + 1 => by
  have ih0 := spec_l11Dense.mono_l k
  ·intro y0 y1 y2 y3 y4 y5 y6 y7; unfold spec_l11Dense.l0
   repeat' first
   | (with_reducible exact ih0 _ _ _ _ _ _ _ _)
   | (with_reducible exact LeO.refl _)
   | (with_reducible exact LeO.none _)
   | (with_reducible refine LeO.ite ?_ ?_)
   | (with_reducible refine LeO.bind ?_ (fun _ => ?_))
   | exact ih0 _ _ _ _ _ _ _ _
   | exact LeO.none _
   | refine LeO.ite ?_ ?_
   | refine LeO.bind ?_ (fun _ => ?_)
theorem spec_l11Dense.mono : ∀ a0 a1 a2 a3 a4 a5 k, LeO (spec_l11Dense.f k a0 a1 a2 a3 a4 a5) (spec_l11Dense.f (k + 1) a0 a1 a2 a3 a4 a5) := by
 intro a0 a1 a2 a3 a4 a5 k; have ih0 := spec_l11Dense.mono_l k; unfold spec_l11Dense.f
 repeat' first
  | (with_reducible exact ih0 _ _ _ _ _ _ _ _)
  | (with_reducible exact LeO.refl _)
  | (with_reducible exact LeO.none _)
  | (with_reducible refine LeO.ite ?_ ?_)
  | (with_reducible refine LeO.bind ?_ (fun _ => ?_))
  | exact ih0 _ _ _ _ _ _ _ _
  | exact LeO.none _
  | refine LeO.ite ?_ ?_
  | refine LeO.bind ?_ (fun _ => ?_)
set_option maxHeartbeats 8000000 in
set_option maxRecDepth 100000 in
theorem spec_l11Dense.calls (k : Nat) (a0_0 : Int) (a0_1 : Int) (a0_2 : Int) (a0_3 : Int) (A0_4 : Option Addr) (c0_4 : Nat) (l0_4 : List Int) (A0_5 : Option Addr) (c0_5 : Nat) (l0_5 : List Int) (r : List Int) (w : World) (hr0_4 : Kd.C (Kd.int .i64) w A0_4 l0_4.length l0_4) (hc0_4 : l0_4.length ≤ c0_4) (hr0_5 : Kd.C (Kd.int .i64) w A0_5 l0_5.length l0_5) (hc0_5 : l0_5.length ≤ c0_5) (h : spec_l11Dense.f k a0_0 a0_1 a0_2 a0_3 l0_4 l0_5 = some r) :
 Calls Try.prog 121 #[.agg #[.int .i64 a0_0, .int .i64 a0_1, .int .i64 a0_2, .int .i64 a0_3, .slice A0_4 l0_4.length c0_4, .slice A0_5 l0_5.length c0_5]] w fun e w' => ∃ v0_ : Value, e = .returned (v0_) ∧ Kd.R (Kd.int .i64) 3 w' w.heap.size (fun _ => True) v0_ r ∧ Below w.heap.size w w' := by
 have hu40 := Try.underlying40; have HR0_4 := Aside0.mk hr0_4; have HC0_4 := Aside0.mk hc0_4; clear hr0_4 hc0_4; have HR0_5 := Aside0.mk hr0_5; have HC0_5 := Aside0.mk hc0_5; clear hr0_5 hc0_5; have HB := Aside0.mk (Below.refl w.heap.size w); have H : (spec_l11Dense.l0 k (([] : List Int)) 0 a0_0 a0_1 a0_2 a0_3 l0_4 l0_5) = some r := h; clear h; obtain ⟨y798, hy798⟩ : ∃ y_ : List Int, y_ = (([] : List Int)) := ⟨_, rfl⟩; rw [← hy798] at H; have Ny798 := Aside0.mk hy798; clear hy798; have H' := Aside0.mk H; clear H; go_enter Try.func121, Try.ntmps121
 go_wp2_with (first | ((with_reducible refine gate_dst (N := 1) rfl ?_); refine box_event ?hg (N := 1) ?hd (cs := #[.int .i64 a0_0, .int .i64 a0_1, .int .i64 a0_2, .int .i64 a0_3, .slice A0_4 l0_4.length c0_4, .slice A0_5 l0_5.length c0_5]) (t := 40) ?hr ?_; (case hd => rfl); (case hg => rfl); (case hr => first | (go_simp; done) | (go_simp; rfl)); intro gb797 hg w2 hbox hb; have n0_ := Sq.s_ HB hb; have n1_ := Aside0.mk (hbox); have n2_ := Sq.g_ HB hg; have n3_ := Sq.g_ HB hg; clear HB; have HB := n0_; have BK797 := n1_; have GW797 := n2_; have GE797 := n3_; have GO797 := Sq.o_ GE797; clear n0_ n1_ n2_ n3_; clear hb hbox hg) | ((with_reducible refine gate_dst (N := 6) rfl ?_); refine Kd.R_lit (Kd.int .i64) _ 3 ?hg (N := 6) ?hd (xs := ([] : List Int)) (inner := []) (ok := fun _ => True) (okp := fun _ => True) ?hr ?hp (fun _ hk => hk) trivial (Below.refl _ _) (Nat.le_refl _) (by simp) ?_; (case hd => rfl); (case hg => rfl); (case hr => first | (go_simp; done) | (go_simp; rfl)); (case hp => exact (Reps.none _ _)); intro v799 w3 ho4 hb hg_ hnew_; clear hg_ hnew_; (first | rw [← Ny798.out] at ho4 | (simp only [Int.reduceToNat] at ho4; rw [← Ny798.out] at ho4)); have n0_ := Aside0.mk (Kd.R_lower ho4 (below_size (Sq.ut HB))); have n1_ := Sq.b_ BK797 hb; have n2_ := Sq.us HB hb; clear BK797; clear HB; have HO800 := n0_; have BK797 := n1_; have HB := n2_; clear n0_ n1_ n2_; clear hb ho4))
 go_loopg [3, 4] k (fun kq v3 v4 w' => ∃ (x3_1 : List Int) (x4_1 : Int), v4 = .int .i64 x4_1 ∧ Aside0 (spec_l11Dense.l0 kq x3_1 x4_1 a0_0 a0_1 a0_2 a0_3 l0_4 l0_5 = some r) ∧ Aside0 (kq ≤ k) ∧ Aside0 (Kd.R (Kd.int .i64) 3 w' w.heap.size (fun _ => True) v3 x3_1) ∧ Aside0 (w'.heap[gb797]? = some (.cells #[.int .i64 a0_0, .int .i64 a0_1, .int .i64 a0_2, .int .i64 a0_3, (.slice A0_4 l0_4.length c0_4), (.slice A0_5 l0_5.length c0_5)] 40 (0, 0))) ∧ Aside0 (Below w.heap.size w w'))
 case atStart => exact ⟨(y798), (0), (by first | rfl | (simp; done) | (simp [*]; done)), H', ⟨Nat.le_refl _⟩, Sq.nn_ HO800, Sq.kk_ BK797, ⟨(Sq.ut HB)⟩⟩
 case round =>
  clear H'; try clear c1
  try clear p2
  obtain ⟨x3_1, x4_1, rfl, HA, HK1, HO_3, BK797, HB⟩ := hrel; cases gk with
  | zero => exact absurd HA.out (by simp [spec_l11Dense.l0])
  | succ k1 =>
   have H := HA.out; clear HA; simp only [spec_l11Dense.l0] at H
   by_cases c5 : x4_1 < (l0_5.length : Int)
   ·rw [if_pos c5] at H; have c5b0 : decide (x4_1 < (l0_5.length : Int)) = true := decide_eq_true c5; clear c5
    by_cases c6 : 0 ≤ x4_1
    ·rw [if_pos c6] at H; have c6b0 : decide (0 ≤ x4_1) = true := decide_eq_true c6; clear c6
     by_cases c7 : a0_0 = 3
     ·rw [if_pos c7] at H; have c7b0 : (a0_0 == 3) = true := beq_iff_eq.mpr c7; have c7b1 : (a0_0 != 3) = false := bne_eq_false_iff_eq.mpr c7; clear c7
      by_cases c8 : x3_1.length < 17592186044416
      ·rw [if_pos c8] at H; have LMc8 := Aside0.mk c8; clear c8; obtain ⟨y802, hy802⟩ : ∃ y_ : List Int, y_ = (x3_1 ++ [wrap64 ((wrap64 (Int.tdiv (rd l0_5 x4_1) 256)) + (wrap64 ((Int.tmod (rd l0_5 x4_1) 256) * 16777216)))]) := ⟨_, rfl⟩; rw [← hy802] at H; have Ny802 := Aside0.mk hy802; clear hy802; have H' := Aside0.mk H; clear H; obtain ⟨hcz9_0, hcz9_1, hcz9_2, hcz9_3, hcz9_4, hcz9_5, hfz9_0, hfz9_1, hfz9_2, hfz9_3, hfz9_4, hfz9_5⟩ := Sq.cell6 BK797; have p801 : 0 ≤ (x4_1 : Int) := of_decide_eq_true (by first | (with_reducible assumption) | assumption); have q801 : x4_1 < (l0_5.length : Int) := of_decide_eq_true (by first | (with_reducible assumption) | assumption); obtain ⟨ad801, e801, hx801_0⟩ := Kd.at_int HR0_5.out x4_1 p801 q801; cases e801; replace hx801_0 := (HB.out.cell (World.block_lt_of_cell? w _ hx801_0)).trans hx801_0; replace p801 := eq_true p801; replace q801 := eq_true q801
       go_wp2_with (first | ((with_reducible refine gate_builtin (b := .append) (xs := #[.tmp 28, .tmp 30]) rfl ?_); at_builtin; refine Kd.R_append (Kd.int .i64) (w0 := w) w.heap.size rfl (.tmp 28) (.tmp 30) 31 3 (.int .i64 0) 8 rfl Try.underlying31 info3 rfl (by decide) (by omega) u3 x3_1 (wrap64 ((wrap64 (Int.tdiv (rd l0_5 x4_1) 256)) + (wrap64 ((Int.tmod (rd l0_5 x4_1) 256) * 16777216)))) [.int .i64 (wrap64 ((wrap64 (Int.tdiv (rd l0_5 x4_1) 256)) + (wrap64 ((Int.tmod (rd l0_5 x4_1) 256) * 16777216))))] (fun _ => True) (fun _ => False) rfl rfl ?aP (fun _ hk => hk.elim) ?aF ?aO ?aB ?aS ?aL ?_; (case aP => exact rfl); (case aB => exact (Sq.ut HB)); (case aF => exact (fun _ _ => trivial)); (case aO => exact (by (with_reducible repeat (first | apply Kd.R_alloc | apply Kd.R_drewN | apply Kd.R_drew)); exact HO_3.out)); (case aS => exact (below_size (Sq.ut HB))); (case aL => have := LMc8.out; omega); intro v803 w10 ho hb hg hat; rw [← Ny802.out] at ho; have n0_ := Aside0.mk (blk_grown (g := gb797) (o := .cells #[.int .i64 a0_0, .int .i64 a0_1, .int .i64 a0_2, .int .i64 a0_3, .slice A0_4 l0_4.length c0_4, .slice (some ad801) l0_5.length c0_5] 40 (0, 0)) (by (with_reducible repeat (first | refine blk_drewN ?_ _ | refine blk_drew ?_ | refine blk_alloc ?_ _)); exact BK797.out) hg (Kd.R_ne HO_3.out BK797.out (by decide))); have n1_ := Aside0.mk (hb); have n2_ := Aside0.mk (ho); clear BK797; clear HB; clear HO_3; have BK797 := n0_; have HB := n1_; have HO804 := n2_; clear n0_ n1_ n2_; clear ho hb hg hat))
       go_roundg k1
       case measure => have := HK1.out; omega
       case rel => exact ⟨(y802), (wrap64 (x4_1 + 1)), (by first | rfl | (simp; done) | (simp [*]; done)), H', ⟨by have := HK1.out; omega⟩, Sq.nn_ HO804, Sq.kk_ BK797, ⟨(Sq.ut HB)⟩⟩
      ·rw [if_neg c8] at H; exact absurd H (by simp)
     ·rw [if_neg c7] at H; have c7b0 : (a0_0 == 3) = false := beq_eq_false_iff_ne.mpr c7; have c7b1 : (a0_0 != 3) = true := bne_iff_ne.mpr c7
      by_cases c11 : x3_1.length < 17592186044416
      ·rw [if_pos c11] at H; have LMc11 := Aside0.mk c11; clear c11; obtain ⟨y805, hy805⟩ : ∃ y_ : List Int, y_ = (x3_1 ++ [rd l0_5 x4_1]) := ⟨_, rfl⟩; rw [← hy805] at H; have Ny805 := Aside0.mk hy805; clear hy805; have H' := Aside0.mk H; clear H; obtain ⟨hcz12_0, hcz12_1, hcz12_2, hcz12_3, hcz12_4, hcz12_5, hfz12_0, hfz12_1, hfz12_2, hfz12_3, hfz12_4, hfz12_5⟩ := Sq.cell6 BK797; have p801 : 0 ≤ (x4_1 : Int) := of_decide_eq_true (by first | (with_reducible assumption) | assumption); have q801 : x4_1 < (l0_5.length : Int) := of_decide_eq_true (by first | (with_reducible assumption) | assumption); obtain ⟨ad801, e801, hx801_0⟩ := Kd.at_int HR0_5.out x4_1 p801 q801; cases e801; replace hx801_0 := (HB.out.cell (World.block_lt_of_cell? w _ hx801_0)).trans hx801_0; replace p801 := eq_true p801; replace q801 := eq_true q801
       go_wp2_with (first | ((with_reducible refine gate_builtin (b := .append) (xs := #[.tmp 28, .tmp 30]) rfl ?_); at_builtin; refine Kd.R_append (Kd.int .i64) (w0 := w) w.heap.size rfl (.tmp 28) (.tmp 30) 31 3 (.int .i64 0) 8 rfl Try.underlying31 info3 rfl (by decide) (by omega) u3 x3_1 (rd l0_5 x4_1) [.int .i64 (rd l0_5 x4_1)] (fun _ => True) (fun _ => False) rfl rfl ?aP (fun _ hk => hk.elim) ?aF ?aO ?aB ?aS ?aL ?_; (case aP => exact rfl); (case aB => exact (Sq.ut HB)); (case aF => exact (fun _ _ => trivial)); (case aO => exact (by (with_reducible repeat (first | apply Kd.R_alloc | apply Kd.R_drewN | apply Kd.R_drew)); exact HO_3.out)); (case aS => exact (below_size (Sq.ut HB))); (case aL => have := LMc11.out; omega); intro v806 w13 ho hb hg hat; rw [← Ny805.out] at ho; have n0_ := Aside0.mk (blk_grown (g := gb797) (o := .cells #[.int .i64 a0_0, .int .i64 a0_1, .int .i64 a0_2, .int .i64 a0_3, .slice A0_4 l0_4.length c0_4, .slice (some ad801) l0_5.length c0_5] 40 (0, 0)) (by (with_reducible repeat (first | refine blk_drewN ?_ _ | refine blk_drew ?_ | refine blk_alloc ?_ _)); exact BK797.out) hg (Kd.R_ne HO_3.out BK797.out (by decide))); have n1_ := Aside0.mk (hb); have n2_ := Aside0.mk (ho); clear BK797; clear HB; clear HO_3; have BK797 := n0_; have HB := n1_; have HO807 := n2_; clear n0_ n1_ n2_; clear ho hb hg hat))
       go_roundg k1
       case measure => have := HK1.out; omega
       case rel => exact ⟨(y805), (wrap64 (x4_1 + 1)), (by first | rfl | (simp; done) | (simp [*]; done)), H', ⟨by have := HK1.out; omega⟩, Sq.nn_ HO807, Sq.kk_ BK797, ⟨(Sq.ut HB)⟩⟩
      ·rw [if_neg c11] at H; exact absurd H (by simp)
    ·rw [if_neg c6] at H; exact absurd H (by simp)
   ·rw [if_neg c5] at H; have c5b0 : decide (x4_1 < (l0_5.length : Int)) = false := decide_eq_false c5; clear c5; obtain rfl := Option.some.inj H; obtain ⟨hcz14_0, hcz14_1, hcz14_2, hcz14_3, hcz14_4, hcz14_5, hfz14_0, hfz14_1, hfz14_2, hfz14_3, hfz14_4, hfz14_5⟩ := Sq.cell6 BK797; go_wp2
    go_ret
    exact ⟨_, by first | rfl | (simp [errW_none, errW_some] <;> rfl) | (simp [*, errW_none, errW_some] <;> rfl), by (with_reducible repeat (first | apply Kd.R_alloc | apply Kd.R_drewN | apply Kd.R_drew)); exact HO_3.out, (Sq.ut HB)⟩
end Go.Proofs.Ytgdbinifnhfcjaa.P
