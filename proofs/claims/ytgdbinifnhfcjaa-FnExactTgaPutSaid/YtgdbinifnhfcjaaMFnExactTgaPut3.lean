/- Texts of one law put together (wip/merge2.py). -/
import Derived.Test.YtgdbinifnhfcjaaMFnExactTgaPut1
import Derived.Test.YtgdbinifnhfcjaaMFnExactTgaPut2
namespace Go.Proofs.Ytgdbinifnhfcjaa.P
open Go.RowKit Go.Proofs.YtgdbinifnhfcjaaW.PrintWords Go.Proofs.YtgdbinifnhfcjaaW.PrintLast Go.Proofs.YtgdbinifnhfcjaaW.PrintMore
attribute [local go_sem] max2_int min2_int max_two min_two max_three min_three max_four min_four   -- for this text's walks alone
set_option linter.unusedVariables false
set_option linter.unusedSimpArgs false
/-! ### spec_l8Depth: function 104 -/
def spec_l8Depth.j0 : Nat → Int → Int → Bool → Option (Bool)
 | 0, _, _, _ => none
 | k + 1, x1, x5, x6 => if x6 = true then (if x1 = 1 then (some true) else (if x1 = 2 then (some true) else (if x1 = 4 then (some true) else (some (x1 == 8))))) else (if x5 = 2 then (some (x1 == 24)) else (if x5 = 3 then (some (x1 == 32)) else (some false)))
def spec_l8Depth.f (k : Nat) (a0 : Int) (a1 : Int) : Option (Bool) := if a0 = 1 then (spec_l8Depth.j0 k a1 a0 (a0 == 1)) else (spec_l8Depth.j0 k a1 a0 (a0 == 4))
theorem spec_l8Depth.mono_l : ∀ k, (∀ y0 y1 y2, LeO (spec_l8Depth.j0 k y0 y1 y2) (spec_l8Depth.j0 (k + 1) y0 y1 y2))
 | 0 => fun _ _ _ r h => by simp [spec_l8Depth.j0] at h
 | k + 1 => by
  have ih0 := spec_l8Depth.mono_l k
  ·intro y0 y1 y2; unfold spec_l8Depth.j0
   repeat' first
   | (with_reducible exact ih0 _ _ _)
   | (with_reducible exact LeO.refl _)
   | (with_reducible exact LeO.none _)
   | (with_reducible refine LeO.ite ?_ ?_)
   | (with_reducible refine LeO.bind ?_ (fun _ => ?_))
   | exact ih0 _ _ _
   | exact LeO.none _
   | refine LeO.ite ?_ ?_
   | refine LeO.bind ?_ (fun _ => ?_)
theorem spec_l8Depth.mono : ∀ a0 a1 k, LeO (spec_l8Depth.f k a0 a1) (spec_l8Depth.f (k + 1) a0 a1) := by
 intro a0 a1 k; have ih0 := spec_l8Depth.mono_l k; unfold spec_l8Depth.f
 repeat' first
  | (with_reducible exact ih0 _ _ _)
  | (with_reducible exact LeO.refl _)
  | (with_reducible exact LeO.none _)
  | (with_reducible refine LeO.ite ?_ ?_)
  | (with_reducible refine LeO.bind ?_ (fun _ => ?_))
  | exact ih0 _ _ _
  | exact LeO.none _
  | refine LeO.ite ?_ ?_
  | refine LeO.bind ?_ (fun _ => ?_)
set_option maxHeartbeats 8000000 in
set_option maxRecDepth 100000 in
theorem spec_l8Depth.calls (k : Nat) (a0 : Int) (a1 : Int) (r : Bool) (w : World) (h : spec_l8Depth.f k a0 a1 = some r) :
 Calls Try.prog 104 #[.int .i64 a0, .int .i64 a1] w fun e w' => e = .returned (.bool r) ∧ Drawn0 w w' := by
 have H : (if a0 = 1 then (spec_l8Depth.j0 k a1 a0 (a0 == 1)) else (spec_l8Depth.j0 k a1 a0 (a0 == 4))) = some r := h; clear h; have HC3 := Aside0.mk H; clear H; go_enter Try.func104, Try.ntmps104
 go_upto_if 6 with (fail)
 go_cut [6] (fun v6 wc => ∃ (kq : Nat) (x6_2 : Bool), v6 = .bool x6_2 ∧ Aside0 (spec_l8Depth.j0 kq a1 a0 x6_2 = some r) ∧ Aside0 (kq ≤ k) ∧ Drawn0 w wc)
 case first =>
  have H := HC3.out; clear HC3
  by_cases c4 : a0 = 1
  ·rw [if_pos c4] at H; have c4b0 : (a0 == 1) = true := beq_iff_eq.mpr c4; have c4b1 : (a0 != 1) = false := bne_eq_false_iff_eq.mpr c4; clear c4; (first | rw [c4b0] | (simp only [i64_w, i32_w]; rw [c4b0]) | skip)
   have H' := Aside0.mk H; clear H; go_wp2
   go_meet
   case rel => exact ⟨_, ((a0 == 1)), (by first | rfl | (simp; done) | (simp [*]; done)), H', ⟨by first | omega | exact Nat.le_refl _⟩, by repeat (first | exact Drawn0.refl _ | apply Drawn0.step)⟩
  ·rw [if_neg c4] at H; have c4b0 : (a0 == 1) = false := beq_eq_false_iff_ne.mpr c4; have c4b1 : (a0 != 1) = true := bne_iff_ne.mpr c4; (first | rw [c4b0] | (simp only [i64_w, i32_w]; rw [c4b0]) | skip)
   have H' := Aside0.mk H; clear H; go_wp2
   go_meet
   case rel => exact ⟨_, ((a0 == 4)), (by first | rfl | (simp; done) | (simp [*]; done)), H', ⟨by first | omega | exact Nat.le_refl _⟩, by repeat (first | exact Drawn0.refl _ | apply Drawn0.step)⟩
 case rest =>
  clear HC3; try clear c1
  try clear p2
  try clear c4
  try clear c4b0
  try clear c4b1
  obtain ⟨kq, x6_2, rfl, HA, HJ2, ⟨mc2, rfl⟩⟩ := hcut; cases kq with
  | zero => exact absurd HA.out (by simp [spec_l8Depth.j0])
  | succ kj2 =>
   have H := HA.out; clear HA; simp only [spec_l8Depth.j0] at H
   by_cases c5 : x6_2 = true
   ·subst c5; replace H := Sq.t H
    by_cases c6 : a1 = 1
    ·rw [if_pos c6] at H; have c6b0 : (a1 == 1) = true := beq_iff_eq.mpr c6; have c6b1 : (a1 != 1) = false := bne_eq_false_iff_eq.mpr c6; clear c6; obtain rfl := Option.some.inj H; go_wp2
     go_ret
     exact ⟨by first | rfl | (simp; done) | (simp [*]; done), by repeat (first | exact Drawn0.refl _ | apply Drawn0.step)⟩
    ·rw [if_neg c6] at H; have c6b0 : (a1 == 1) = false := beq_eq_false_iff_ne.mpr c6; have c6b1 : (a1 != 1) = true := bne_iff_ne.mpr c6
     by_cases c7 : a1 = 2
     ·rw [if_pos c7] at H; have c7b0 : (a1 == 2) = true := beq_iff_eq.mpr c7; have c7b1 : (a1 != 2) = false := bne_eq_false_iff_eq.mpr c7; clear c7; obtain rfl := Option.some.inj H; go_wp2
      go_ret
      exact ⟨by first | rfl | (simp; done) | (simp [*]; done), by repeat (first | exact Drawn0.refl _ | apply Drawn0.step)⟩
     ·rw [if_neg c7] at H; have c7b0 : (a1 == 2) = false := beq_eq_false_iff_ne.mpr c7; have c7b1 : (a1 != 2) = true := bne_iff_ne.mpr c7
      by_cases c8 : a1 = 4
      ·rw [if_pos c8] at H; have c8b0 : (a1 == 4) = true := beq_iff_eq.mpr c8; have c8b1 : (a1 != 4) = false := bne_eq_false_iff_eq.mpr c8; clear c8; obtain rfl := Option.some.inj H; go_wp2
       go_ret
       exact ⟨by first | rfl | (simp; done) | (simp [*]; done), by repeat (first | exact Drawn0.refl _ | apply Drawn0.step)⟩
      ·rw [if_neg c8] at H; have c8b0 : (a1 == 4) = false := beq_eq_false_iff_ne.mpr c8; have c8b1 : (a1 != 4) = true := bne_iff_ne.mpr c8; obtain rfl := Option.some.inj H; go_wp2
       go_ret
       exact ⟨by first | rfl | (simp; done) | (simp [*]; done), by repeat (first | exact Drawn0.refl _ | apply Drawn0.step)⟩
   ·replace c5 := Bool.eq_false_iff.mpr c5; subst c5; replace H := Sq.f H
    by_cases c9 : a0 = 2
    ·rw [if_pos c9] at H; have c9b0 : (a0 == 2) = true := beq_iff_eq.mpr c9; have c9b1 : (a0 != 2) = false := bne_eq_false_iff_eq.mpr c9; clear c9; obtain rfl := Option.some.inj H; go_wp2
     go_ret
     exact ⟨by first | rfl | (simp; done) | (simp [*]; done), by repeat (first | exact Drawn0.refl _ | apply Drawn0.step)⟩
    ·rw [if_neg c9] at H; have c9b0 : (a0 == 2) = false := beq_eq_false_iff_ne.mpr c9; have c9b1 : (a0 != 2) = true := bne_iff_ne.mpr c9
     by_cases c10 : a0 = 3
     ·rw [if_pos c10] at H; have c10b0 : (a0 == 3) = true := beq_iff_eq.mpr c10; have c10b1 : (a0 != 3) = false := bne_eq_false_iff_eq.mpr c10; clear c10; obtain rfl := Option.some.inj H; go_wp2
      go_ret
      exact ⟨by first | rfl | (simp; done) | (simp [*]; done), by repeat (first | exact Drawn0.refl _ | apply Drawn0.step)⟩
     ·rw [if_neg c10] at H; have c10b0 : (a0 == 3) = false := beq_eq_false_iff_ne.mpr c10; have c10b1 : (a0 != 3) = true := bne_iff_ne.mpr c10; obtain rfl := Option.some.inj H; go_wp2
      go_ret
      exact ⟨by first | rfl | (simp; done) | (simp [*]; done), by repeat (first | exact Drawn0.refl _ | apply Drawn0.step)⟩
/-! ### spec_l1Pow: function 106 -/
def spec_l1Pow.l0 : Nat → Int → Int → Int → Option (Int)
 | 0, _, _, _ => none
 | k + 1, x0, x3, x4 => if x4 < x0 then (spec_l1Pow.l0 k x0 (wrap64 (x3 * 2)) (wrap64 (x4 + 1))) else (some x3)
def spec_l1Pow.f (k : Nat) (a0 : Int) : Option (Int) := spec_l1Pow.l0 k a0 1 0
theorem spec_l1Pow.mono_l : ∀ k, (∀ y0 y1 y2, LeO (spec_l1Pow.l0 k y0 y1 y2) (spec_l1Pow.l0 (k + 1) y0 y1 y2))
 | 0 => fun _ _ _ r h => by simp [spec_l1Pow.l0] at h
 | k + 1 => by
  have ih0 := spec_l1Pow.mono_l k
  ·intro y0 y1 y2; unfold spec_l1Pow.l0
   repeat' first
   | (with_reducible exact ih0 _ _ _)
   | (with_reducible exact LeO.refl _)
   | (with_reducible exact LeO.none _)
   | (with_reducible refine LeO.ite ?_ ?_)
   | (with_reducible refine LeO.bind ?_ (fun _ => ?_))
   | exact ih0 _ _ _
   | exact LeO.none _
   | refine LeO.ite ?_ ?_
   | refine LeO.bind ?_ (fun _ => ?_)
theorem spec_l1Pow.mono : ∀ a0 k, LeO (spec_l1Pow.f k a0) (spec_l1Pow.f (k + 1) a0) := by
 intro a0 k; have ih0 := spec_l1Pow.mono_l k; unfold spec_l1Pow.f
 repeat' first
  | (with_reducible exact ih0 _ _ _)
  | (with_reducible exact LeO.refl _)
  | (with_reducible exact LeO.none _)
  | (with_reducible refine LeO.ite ?_ ?_)
  | (with_reducible refine LeO.bind ?_ (fun _ => ?_))
  | exact ih0 _ _ _
  | exact LeO.none _
  | refine LeO.ite ?_ ?_
  | refine LeO.bind ?_ (fun _ => ?_)
set_option maxHeartbeats 8000000 in
set_option maxRecDepth 100000 in
theorem spec_l1Pow.calls (k : Nat) (a0 : Int) (r : Int) (w : World) (h : spec_l1Pow.f k a0 = some r) :
 Calls Try.prog 106 #[.int .i64 a0] w fun e w' => e = .returned (.int .i64 r) ∧ Drawn0 w w' := by
 have H : (spec_l1Pow.l0 k a0 1 0) = some r := h; clear h; have H' := Aside0.mk H; clear H; go_enter Try.func106, Try.ntmps106
 go_wp2
 go_loopg [3, 4] k (fun kq v3 v4 w' => ∃ (x3_1 : Int) (x4_1 : Int), v3 = .int .i64 x3_1 ∧ v4 = .int .i64 x4_1 ∧ Aside0 (spec_l1Pow.l0 kq a0 x3_1 x4_1 = some r) ∧ Aside0 (kq ≤ k) ∧ Drawn0 w w')
 case atStart => exact ⟨(1), (0), (by first | rfl | (simp; done) | (simp [*]; done)), (by first | rfl | (simp; done) | (simp [*]; done)), H', ⟨Nat.le_refl _⟩, by repeat (first | exact Drawn0.refl _ | apply Drawn0.step)⟩
 case round =>
  clear H'; try clear c1
  obtain ⟨x3_1, x4_1, rfl, rfl, HA, HK1, ⟨m1, rfl⟩⟩ := hrel; cases gk with
  | zero => exact absurd HA.out (by simp [spec_l1Pow.l0])
  | succ k1 =>
   have H := HA.out; clear HA; simp only [spec_l1Pow.l0] at H
   by_cases c2 : x4_1 < a0
   ·rw [if_pos c2] at H; have c2b0 : decide (x4_1 < a0) = true := decide_eq_true c2; clear c2; have H' := Aside0.mk H; clear H; go_wp2
    go_roundg k1
    case measure => have := HK1.out; omega
    case rel => exact ⟨(wrap64 (x3_1 * 2)), (wrap64 (x4_1 + 1)), (by first | rfl | (simp; done) | (simp [*]; done)), (by first | rfl | (simp; done) | (simp [*]; done)), H', ⟨by have := HK1.out; omega⟩, by repeat (first | exact Drawn0.refl _ | apply Drawn0.step)⟩
   ·rw [if_neg c2] at H; have c2b0 : decide (x4_1 < a0) = false := decide_eq_false c2; clear c2; obtain rfl := Option.some.inj H; go_wp2
    go_ret
    exact ⟨by first | rfl | (simp; done) | (simp [*]; done), by repeat (first | exact Drawn0.refl _ | apply Drawn0.step)⟩
/-! ### spec_l8Colors: function 105 -/
def spec_l8Colors.l0 : Nat → Int → Int → Int → Int → Int → List Int → List Int → Option (Bool)
 | 0, _, _, _, _, _, _, _ => none
 | k + 1, x3, x326000, x326001, x326002, x326003, x326004, x326005 => if x3 < (x326004.length : Int) then (if 0 ≤ x3 then ((spec_l1In.f (rd x326004 x3) 0 16777215).bind fun t327 => (if t327 = true then (spec_l8Colors.l0 k (wrap64 (x3 + 1)) x326000 x326001 x326002 x326003 x326004 x326005) else (some false))) else (none)) else (if x326000 = 4 then ((spec_l1Pow.f k x326001).bind fun t328 => ((spec_l1In.f (x326004.length : Int) 1 t328).bind fun t329 => (some t329))) else (some ((x326004.length : Int) == 0)))
def spec_l8Colors.f (k : Nat) (a0_0 : Int) (a0_1 : Int) (a0_2 : Int) (a0_3 : Int) (l0_4 : List Int) (l0_5 : List Int) : Option (Bool) := spec_l8Colors.l0 k 0 a0_0 a0_1 a0_2 a0_3 l0_4 l0_5
theorem spec_l8Colors.mono_l : ∀ k, (∀ y0 y1 y2 y3 y4 y5 y6, LeO (spec_l8Colors.l0 k y0 y1 y2 y3 y4 y5 y6) (spec_l8Colors.l0 (k + 1) y0 y1 y2 y3 y4 y5 y6))
 | 0 => fun _ _ _ _ _ _ _ r h => by simp [spec_l8Colors.l0] at h
 | k + 1 => by
  have ih0 := spec_l8Colors.mono_l k
  ·intro y0 y1 y2 y3 y4 y5 y6; unfold spec_l8Colors.l0
   repeat' first
   | (with_reducible exact ih0 _ _ _ _ _ _ _)
   | (with_reducible exact spec_l1Pow.mono _ _)
   | (with_reducible exact LeO.refl _)
   | (with_reducible exact LeO.none _)
   | (with_reducible refine LeO.ite ?_ ?_)
   | (with_reducible refine LeO.bind ?_ (fun _ => ?_))
   | exact ih0 _ _ _ _ _ _ _
   | exact spec_l1Pow.mono _ _
   | exact LeO.none _
   | refine LeO.ite ?_ ?_
   | refine LeO.bind ?_ (fun _ => ?_)
theorem spec_l8Colors.mono : ∀ a0 a1 a2 a3 a4 a5 k, LeO (spec_l8Colors.f k a0 a1 a2 a3 a4 a5) (spec_l8Colors.f (k + 1) a0 a1 a2 a3 a4 a5) := by
 intro a0 a1 a2 a3 a4 a5 k; have ih0 := spec_l8Colors.mono_l k; unfold spec_l8Colors.f
 repeat' first
  | (with_reducible exact ih0 _ _ _ _ _ _ _)
  | (with_reducible exact spec_l1Pow.mono _ _)
  | (with_reducible exact LeO.refl _)
  | (with_reducible exact LeO.none _)
  | (with_reducible refine LeO.ite ?_ ?_)
  | (with_reducible refine LeO.bind ?_ (fun _ => ?_))
  | exact ih0 _ _ _ _ _ _ _
  | exact spec_l1Pow.mono _ _
  | exact LeO.none _
  | refine LeO.ite ?_ ?_
  | refine LeO.bind ?_ (fun _ => ?_)
set_option maxHeartbeats 8000000 in
set_option maxRecDepth 100000 in
theorem spec_l8Colors.calls (k : Nat) (a0_0 : Int) (a0_1 : Int) (a0_2 : Int) (a0_3 : Int) (A0_4 : Option Addr) (c0_4 : Nat) (l0_4 : List Int) (A0_5 : Option Addr) (c0_5 : Nat) (l0_5 : List Int) (r : Bool) (w : World) (hr0_4 : Kd.C (Kd.int .i64) w A0_4 l0_4.length l0_4) (hc0_4 : l0_4.length ≤ c0_4) (hr0_5 : Kd.C (Kd.int .i64) w A0_5 l0_5.length l0_5) (hc0_5 : l0_5.length ≤ c0_5) (h : spec_l8Colors.f k a0_0 a0_1 a0_2 a0_3 l0_4 l0_5 = some r) :
 Calls Try.prog 105 #[.agg #[.int .i64 a0_0, .int .i64 a0_1, .int .i64 a0_2, .int .i64 a0_3, .slice A0_4 l0_4.length c0_4, .slice A0_5 l0_5.length c0_5]] w fun e w' => e = .returned (.bool r) ∧ Below w.heap.size w w' := by
 have hu40 := Try.underlying40; have HR0_4 := Aside0.mk hr0_4; have HC0_4 := Aside0.mk hc0_4; clear hr0_4 hc0_4; have HR0_5 := Aside0.mk hr0_5; have HC0_5 := Aside0.mk hc0_5; clear hr0_5 hc0_5; have HB := Aside0.mk (Below.refl w.heap.size w); have H : (spec_l8Colors.l0 k 0 a0_0 a0_1 a0_2 a0_3 l0_4 l0_5) = some r := h; clear h; have H' := Aside0.mk H; clear H; go_enter Try.func105, Try.ntmps105
 go_wp2_with (first | ((with_reducible refine gate_dst (N := 1) rfl ?_); refine box_event ?hg (N := 1) ?hd (cs := #[.int .i64 a0_0, .int .i64 a0_1, .int .i64 a0_2, .int .i64 a0_3, .slice A0_4 l0_4.length c0_4, .slice A0_5 l0_5.length c0_5]) (t := 40) ?hr ?_; (case hd => rfl); (case hg => rfl); (case hr => first | (go_simp; done) | (go_simp; rfl)); intro gb325 hg w2 hbox hb; have n0_ := Sq.s_ HB hb; have n1_ := Aside0.mk (hbox); have n2_ := Sq.g_ HB hg; have n3_ := Sq.g_ HB hg; clear HB; have HB := n0_; have BK325 := n1_; have GW325 := n2_; have GE325 := n3_; have GO325 := Sq.o_ GE325; clear n0_ n1_ n2_ n3_; clear hb hbox hg))
 repeat (go_quiet (first | ((with_reducible refine gate_dst (N := 1) rfl ?_); refine box_event ?hg (N := 1) ?hd (cs := #[.int .i64 a0_0, .int .i64 a0_1, .int .i64 a0_2, .int .i64 a0_3, .slice A0_4 l0_4.length c0_4, .slice A0_5 l0_5.length c0_5]) (t := 40) ?hr ?_; (case hd => rfl); (case hg => rfl); (case hr => first | (go_simp; done) | (go_simp; rfl)); intro gb325 hg w2 hbox hb; have n0_ := Sq.s_ HB hb; have n1_ := Aside0.mk (hbox); have n2_ := Sq.g_ HB hg; have n3_ := Sq.g_ HB hg; clear HB; have HB := n0_; have BK325 := n1_; have GW325 := n2_; have GE325 := n3_; have GO325 := Sq.o_ GE325; clear n0_ n1_ n2_ n3_; clear hb hbox hg)); try go_wp2_with (first | ((with_reducible refine gate_dst (N := 1) rfl ?_); refine box_event ?hg (N := 1) ?hd (cs := #[.int .i64 a0_0, .int .i64 a0_1, .int .i64 a0_2, .int .i64 a0_3, .slice A0_4 l0_4.length c0_4, .slice A0_5 l0_5.length c0_5]) (t := 40) ?hr ?_; (case hd => rfl); (case hg => rfl); (case hr => first | (go_simp; done) | (go_simp; rfl)); intro gb325 hg w2 hbox hb; have n0_ := Sq.s_ HB hb; have n1_ := Aside0.mk (hbox); have n2_ := Sq.g_ HB hg; have n3_ := Sq.g_ HB hg; clear HB; have HB := n0_; have BK325 := n1_; have GW325 := n2_; have GE325 := n3_; have GO325 := Sq.o_ GE325; clear n0_ n1_ n2_ n3_; clear hb hbox hg)))
 go_loopg [3] k (fun kq v3 w' => ∃ (x3_1 : Int), v3 = .int .i64 x3_1 ∧ Aside0 (spec_l8Colors.l0 kq x3_1 a0_0 a0_1 a0_2 a0_3 l0_4 l0_5 = some r) ∧ Aside0 (kq ≤ k) ∧ Aside0 (w'.heap[gb325]? = some (.cells #[.int .i64 a0_0, .int .i64 a0_1, .int .i64 a0_2, .int .i64 a0_3, (.slice A0_4 l0_4.length c0_4), (.slice A0_5 l0_5.length c0_5)] 40 (0, 0))) ∧ Aside0 (Below w.heap.size w w'))
 case atStart => exact ⟨(0), (by first | rfl | (simp; done) | (simp [*]; done)), H', ⟨Nat.le_refl _⟩, Sq.kk_ BK325, ⟨(Sq.ut HB)⟩⟩
 case round =>
  clear H'; try clear c1
  try clear p2
  obtain ⟨x3_1, rfl, HA, HK1, BK325, HB⟩ := hrel; cases gk with
  | zero => exact absurd HA.out (by simp [spec_l8Colors.l0])
  | succ k1 =>
   have H := HA.out; clear HA; simp only [spec_l8Colors.l0] at H
   by_cases c3 : x3_1 < (l0_4.length : Int)
   ·rw [if_pos c3] at H; have c3b0 : decide (x3_1 < (l0_4.length : Int)) = true := decide_eq_true c3; clear c3
    by_cases c4 : 0 ≤ x3_1
    ·rw [if_pos c4] at H; have c4b0 : decide (0 ≤ x3_1) = true := decide_eq_true c4; clear c4; replace H := Option.bind_eq_some_iff.mp H; obtain ⟨t327, A50, H⟩ := H; have A5 := Aside0.mk A50; clear A50
     by_cases c6 : t327 = true
     ·subst c6; replace H := Sq.t H; have H' := Aside0.mk H; clear H; obtain ⟨hcz7_0, hcz7_1, hcz7_2, hcz7_3, hcz7_4, hcz7_5, hfz7_0, hfz7_1, hfz7_2, hfz7_3, hfz7_4, hfz7_5⟩ := Sq.cell6 BK325; have p326 : 0 ≤ (x3_1 : Int) := of_decide_eq_true (by first | (with_reducible assumption) | assumption); have q326 : x3_1 < (l0_4.length : Int) := of_decide_eq_true (by first | (with_reducible assumption) | assumption); obtain ⟨ad326, e326, hx326_0⟩ := Kd.at_int HR0_4.out x3_1 p326 q326; cases e326; replace hx326_0 := (HB.out.cell (World.block_lt_of_cell? w _ hx326_0)).trans hx326_0; replace p326 := eq_true p326; replace q326 := eq_true q326; go_wp2_with (first | (go_at_call 43; (with_reducible refine (spec_l1In.calls (rd l0_4 x3_1) 0 16777215 true _ A5.out).mono ?_); rintro e w' ⟨rfl, ⟨nd, rfl⟩⟩; (try first | exact ⟨rfl, _, World.drewN_drewN _ _ _⟩ | exact ⟨rfl, _, Eq.trans (World.drewN_drewN _ _ _) (congrArg (World.drewN _) (Nat.add_assoc _ _ _))⟩)))
      repeat (go_quiet (first | (go_at_call 43; (with_reducible refine (spec_l1In.calls (rd l0_4 x3_1) 0 16777215 true _ A5.out).mono ?_); rintro e w' ⟨rfl, ⟨nd, rfl⟩⟩; (try first | exact ⟨rfl, _, World.drewN_drewN _ _ _⟩ | exact ⟨rfl, _, Eq.trans (World.drewN_drewN _ _ _) (congrArg (World.drewN _) (Nat.add_assoc _ _ _))⟩))); try go_wp2_with (first | (go_at_call 43; (with_reducible refine (spec_l1In.calls (rd l0_4 x3_1) 0 16777215 true _ A5.out).mono ?_); rintro e w' ⟨rfl, ⟨nd, rfl⟩⟩; (try first | exact ⟨rfl, _, World.drewN_drewN _ _ _⟩ | exact ⟨rfl, _, Eq.trans (World.drewN_drewN _ _ _) (congrArg (World.drewN _) (Nat.add_assoc _ _ _))⟩))))
      go_roundg k1
      case measure => have := HK1.out; omega
      case rel => exact ⟨(wrap64 (x3_1 + 1)), (by first | rfl | (simp; done) | (simp [*]; done)), H', ⟨by have := HK1.out; omega⟩, Sq.kk_ BK325, ⟨(Sq.ut HB)⟩⟩
     ·replace c6 := Bool.eq_false_iff.mpr c6; subst c6; replace H := Sq.f H; obtain rfl := Option.some.inj H; obtain ⟨hcz8_0, hcz8_1, hcz8_2, hcz8_3, hcz8_4, hcz8_5, hfz8_0, hfz8_1, hfz8_2, hfz8_3, hfz8_4, hfz8_5⟩ := Sq.cell6 BK325; have p326 : 0 ≤ (x3_1 : Int) := of_decide_eq_true (by first | (with_reducible assumption) | assumption); have q326 : x3_1 < (l0_4.length : Int) := of_decide_eq_true (by first | (with_reducible assumption) | assumption); obtain ⟨ad326, e326, hx326_0⟩ := Kd.at_int HR0_4.out x3_1 p326 q326; cases e326; replace hx326_0 := (HB.out.cell (World.block_lt_of_cell? w _ hx326_0)).trans hx326_0; replace p326 := eq_true p326; replace q326 := eq_true q326; go_wp2_with (first | (go_at_call 43; (with_reducible refine (spec_l1In.calls (rd l0_4 x3_1) 0 16777215 false _ A5.out).mono ?_); rintro e w' ⟨rfl, ⟨nd, rfl⟩⟩; (try first | exact ⟨rfl, _, World.drewN_drewN _ _ _⟩ | exact ⟨rfl, _, Eq.trans (World.drewN_drewN _ _ _) (congrArg (World.drewN _) (Nat.add_assoc _ _ _))⟩)))
      repeat (go_quiet (first | (go_at_call 43; (with_reducible refine (spec_l1In.calls (rd l0_4 x3_1) 0 16777215 false _ A5.out).mono ?_); rintro e w' ⟨rfl, ⟨nd, rfl⟩⟩; (try first | exact ⟨rfl, _, World.drewN_drewN _ _ _⟩ | exact ⟨rfl, _, Eq.trans (World.drewN_drewN _ _ _) (congrArg (World.drewN _) (Nat.add_assoc _ _ _))⟩))); try go_wp2_with (first | (go_at_call 43; (with_reducible refine (spec_l1In.calls (rd l0_4 x3_1) 0 16777215 false _ A5.out).mono ?_); rintro e w' ⟨rfl, ⟨nd, rfl⟩⟩; (try first | exact ⟨rfl, _, World.drewN_drewN _ _ _⟩ | exact ⟨rfl, _, Eq.trans (World.drewN_drewN _ _ _) (congrArg (World.drewN _) (Nat.add_assoc _ _ _))⟩))))
      go_ret
      exact ⟨by first | rfl | (simp [errW_none, errW_some] <;> rfl) | (simp [*, errW_none, errW_some] <;> rfl), (Sq.ut HB)⟩
    ·rw [if_neg c4] at H; exact absurd H (by simp)
   ·rw [if_neg c3] at H; have c3b0 : decide (x3_1 < (l0_4.length : Int)) = false := decide_eq_false c3; clear c3
    by_cases c9 : a0_0 = 4
    ·rw [if_pos c9] at H; have c9b0 : (a0_0 == 4) = true := beq_iff_eq.mpr c9; have c9b1 : (a0_0 != 4) = false := bne_eq_false_iff_eq.mpr c9; clear c9; replace H := Option.bind_eq_some_iff.mp H; obtain ⟨t328, A100, H⟩ := H; have A10 := Aside0.mk A100; clear A100; replace H := Option.bind_eq_some_iff.mp H; obtain ⟨t329, A110, H⟩ := H; have A11 := Aside0.mk A110; clear A110; obtain rfl := Option.some.inj H; obtain ⟨hcz12_0, hcz12_1, hcz12_2, hcz12_3, hcz12_4, hcz12_5, hfz12_0, hfz12_1, hfz12_2, hfz12_3, hfz12_4, hfz12_5⟩ := Sq.cell6 BK325; go_wp2_with (first | (go_at_call 106; (with_reducible refine (spec_l1Pow.calls k1 a0_1 t328 _ A10.out).mono ?_); rintro e w' ⟨rfl, ⟨nd, rfl⟩⟩; (try first | exact ⟨rfl, _, World.drewN_drewN _ _ _⟩ | exact ⟨rfl, _, Eq.trans (World.drewN_drewN _ _ _) (congrArg (World.drewN _) (Nat.add_assoc _ _ _))⟩)) | (go_at_call 43; (with_reducible refine (spec_l1In.calls (l0_4.length : Int) 1 t328 t329 _ A11.out).mono ?_); rintro e w' ⟨rfl, ⟨nd, rfl⟩⟩; (try first | exact ⟨rfl, _, World.drewN_drewN _ _ _⟩ | exact ⟨rfl, _, Eq.trans (World.drewN_drewN _ _ _) (congrArg (World.drewN _) (Nat.add_assoc _ _ _))⟩)))
     repeat (go_quiet (first | (go_at_call 106; (with_reducible refine (spec_l1Pow.calls k1 a0_1 t328 _ A10.out).mono ?_); rintro e w' ⟨rfl, ⟨nd, rfl⟩⟩; (try first | exact ⟨rfl, _, World.drewN_drewN _ _ _⟩ | exact ⟨rfl, _, Eq.trans (World.drewN_drewN _ _ _) (congrArg (World.drewN _) (Nat.add_assoc _ _ _))⟩)) | (go_at_call 43; (with_reducible refine (spec_l1In.calls (l0_4.length : Int) 1 t328 t329 _ A11.out).mono ?_); rintro e w' ⟨rfl, ⟨nd, rfl⟩⟩; (try first | exact ⟨rfl, _, World.drewN_drewN _ _ _⟩ | exact ⟨rfl, _, Eq.trans (World.drewN_drewN _ _ _) (congrArg (World.drewN _) (Nat.add_assoc _ _ _))⟩))); try go_wp2_with (first | (go_at_call 106; (with_reducible refine (spec_l1Pow.calls k1 a0_1 t328 _ A10.out).mono ?_); rintro e w' ⟨rfl, ⟨nd, rfl⟩⟩; (try first | exact ⟨rfl, _, World.drewN_drewN _ _ _⟩ | exact ⟨rfl, _, Eq.trans (World.drewN_drewN _ _ _) (congrArg (World.drewN _) (Nat.add_assoc _ _ _))⟩)) | (go_at_call 43; (with_reducible refine (spec_l1In.calls (l0_4.length : Int) 1 t328 t329 _ A11.out).mono ?_); rintro e w' ⟨rfl, ⟨nd, rfl⟩⟩; (try first | exact ⟨rfl, _, World.drewN_drewN _ _ _⟩ | exact ⟨rfl, _, Eq.trans (World.drewN_drewN _ _ _) (congrArg (World.drewN _) (Nat.add_assoc _ _ _))⟩))))
     go_ret
     exact ⟨by first | rfl | (simp [errW_none, errW_some] <;> rfl) | (simp [*, errW_none, errW_some] <;> rfl), (Sq.ut HB)⟩
    ·rw [if_neg c9] at H; have c9b0 : (a0_0 == 4) = false := beq_eq_false_iff_ne.mpr c9; have c9b1 : (a0_0 != 4) = true := bne_iff_ne.mpr c9; obtain rfl := Option.some.inj H; obtain ⟨hcz13_0, hcz13_1, hcz13_2, hcz13_3, hcz13_4, hcz13_5, hfz13_0, hfz13_1, hfz13_2, hfz13_3, hfz13_4, hfz13_5⟩ := Sq.cell6 BK325; go_wp2
     repeat (go_quiet (fail); try go_wp2)
     go_ret
     exact ⟨by first | rfl | (simp [errW_none, errW_some] <;> rfl) | (simp [*, errW_none, errW_some] <;> rfl), (Sq.ut HB)⟩
/-! ### spec_ImageOk: function 57 -/
mutual
def spec_ImageOk.j0 : Nat → Bool → Int → Int → Int → Int → List Int → List Int → Option (Bool)
 | 0, _, _, _, _, _, _, _ => none
 | k + 1, x38, x331000, x331001, x331002, x331003, x331004, x331005 => if x38 = true then (some false) else ((spec_l1Pow.f k x331001).bind fun t335 => (if x331000 = 4 then (spec_ImageOk.j1 k (wrap64 ((x331004.length : Int) - 1)) x331000 x331001 x331002 x331003 x331004 x331005) else (spec_ImageOk.j1 k (wrap64 (t335 - 1)) x331000 x331001 x331002 x331003 x331004 x331005)))
def spec_ImageOk.j1 : Nat → Int → Int → Int → Int → Int → List Int → List Int → Option (Bool)
 | 0, _, _, _, _, _, _, _ => none
 | k + 1, x3, x331000, x331001, x331002, x331003, x331004, x331005 => spec_ImageOk.l0 k x3 0 x331000 x331001 x331002 x331003 x331004 x331005
def spec_ImageOk.l0 : Nat → Int → Int → Int → Int → Int → Int → List Int → List Int → Option (Bool)
 | 0, _, _, _, _, _, _, _, _ => none
 | k + 1, x3, x4, x331000, x331001, x331002, x331003, x331004, x331005 => if x4 < (x331005.length : Int) then (if 0 ≤ x4 then ((spec_l1In.f (rd x331005 x4) 0 x3).bind fun t337 => (if t337 = true then (spec_ImageOk.l0 k x3 (wrap64 (x4 + 1)) x331000 x331001 x331002 x331003 x331004 x331005) else (some false))) else (none)) else (some true)
end
def spec_ImageOk.f (k : Nat) (a0_0 : Int) (a0_1 : Int) (a0_2 : Int) (a0_3 : Int) (l0_4 : List Int) (l0_5 : List Int) : Option (Bool) := (spec_l8Depth.f k a0_0 a0_1).bind fun t331 => (if t331 = true then ((spec_l1In.f a0_2 1 20).bind fun t332 => (if t332 = true then ((spec_l1In.f a0_3 1 20).bind fun t333 => (if t333 = true then (if (l0_5.length : Int) = (wrap64 (a0_2 * a0_3)) then ((spec_l8Colors.f k a0_0 a0_1 a0_2 a0_3 l0_4 l0_5).bind fun t334 => (spec_ImageOk.j0 k (!t334) a0_0 a0_1 a0_2 a0_3 l0_4 l0_5)) else (spec_ImageOk.j0 k true a0_0 a0_1 a0_2 a0_3 l0_4 l0_5)) else (spec_ImageOk.j0 k true a0_0 a0_1 a0_2 a0_3 l0_4 l0_5))) else (spec_ImageOk.j0 k true a0_0 a0_1 a0_2 a0_3 l0_4 l0_5))) else (spec_ImageOk.j0 k true a0_0 a0_1 a0_2 a0_3 l0_4 l0_5))
theorem spec_ImageOk.mono_l : ∀ k, (∀ y0 y1 y2 y3 y4 y5 y6, LeO (spec_ImageOk.j0 k y0 y1 y2 y3 y4 y5 y6) (spec_ImageOk.j0 (k + 1) y0 y1 y2 y3 y4 y5 y6)) ∧ (∀ y0 y1 y2 y3 y4 y5 y6, LeO (spec_ImageOk.j1 k y0 y1 y2 y3 y4 y5 y6) (spec_ImageOk.j1 (k + 1) y0 y1 y2 y3 y4 y5 y6)) ∧ (∀ y0 y1 y2 y3 y4 y5 y6 y7, LeO (spec_ImageOk.l0 k y0 y1 y2 y3 y4 y5 y6 y7) (spec_ImageOk.l0 (k + 1) y0 y1 y2 y3 y4 y5 y6 y7))
 | 0 => ⟨fun _ _ _ _ _ _ _ r h => by simp [spec_ImageOk.j0] at h, fun _ _ _ _ _ _ _ r h => by simp [spec_ImageOk.j1] at h, fun _ _ _ _ _ _ _ _ r h => by simp [spec_ImageOk.l0] at h⟩
 | k + 1 => by
  obtain ⟨ih0, ih1, ih2⟩ := spec_ImageOk.mono_l k
  refine ⟨?_, ?_, ?_⟩
  ·intro y0 y1 y2 y3 y4 y5 y6; unfold spec_ImageOk.j0
   repeat' first
   | (with_reducible exact ih0 _ _ _ _ _ _ _)
   | (with_reducible exact ih1 _ _ _ _ _ _ _)
   | (with_reducible exact ih2 _ _ _ _ _ _ _ _)
   | (with_reducible exact spec_l1Pow.mono _ _)
   | (with_reducible exact spec_l8Colors.mono _ _ _ _ _ _ _)
   | (with_reducible exact spec_l8Depth.mono _ _ _)
   | (with_reducible exact LeO.refl _)
   | (with_reducible exact LeO.none _)
   | (with_reducible refine LeO.ite ?_ ?_)
   | (with_reducible refine LeO.bind ?_ (fun _ => ?_))
   | exact ih0 _ _ _ _ _ _ _
   | exact ih1 _ _ _ _ _ _ _
   | exact ih2 _ _ _ _ _ _ _ _
   | exact spec_l1Pow.mono _ _
   | exact spec_l8Colors.mono _ _ _ _ _ _ _
   | exact spec_l8Depth.mono _ _ _
   | exact LeO.none _
   | refine LeO.ite ?_ ?_
   | refine LeO.bind ?_ (fun _ => ?_)
  ·intro y0 y1 y2 y3 y4 y5 y6; unfold spec_ImageOk.j1
   repeat' first
   | (with_reducible exact ih0 _ _ _ _ _ _ _)
   | (with_reducible exact ih1 _ _ _ _ _ _ _)
   | (with_reducible exact ih2 _ _ _ _ _ _ _ _)
   | (with_reducible exact spec_l1Pow.mono _ _)
   | (with_reducible exact spec_l8Colors.mono _ _ _ _ _ _ _)
   | (with_reducible exact spec_l8Depth.mono _ _ _)
   | (with_reducible exact LeO.refl _)
   | (with_reducible exact LeO.none _)
   | (with_reducible refine LeO.ite ?_ ?_)
   | (with_reducible refine LeO.bind ?_ (fun _ => ?_))
   | exact ih0 _ _ _ _ _ _ _
   | exact ih1 _ _ _ _ _ _ _
   | exact ih2 _ _ _ _ _ _ _ _
   | exact spec_l1Pow.mono _ _
   | exact spec_l8Colors.mono _ _ _ _ _ _ _
   | exact spec_l8Depth.mono _ _ _
   | exact LeO.none _
   | refine LeO.ite ?_ ?_
   | refine LeO.bind ?_ (fun _ => ?_)
  ·intro y0 y1 y2 y3 y4 y5 y6 y7; unfold spec_ImageOk.l0
   repeat' first
   | (with_reducible exact ih0 _ _ _ _ _ _ _)
   | (with_reducible exact ih1 _ _ _ _ _ _ _)
   | (with_reducible exact ih2 _ _ _ _ _ _ _ _)
   | (with_reducible exact spec_l1Pow.mono _ _)
   | (with_reducible exact spec_l8Colors.mono _ _ _ _ _ _ _)
   | (with_reducible exact spec_l8Depth.mono _ _ _)
   | (with_reducible exact LeO.refl _)
   | (with_reducible exact LeO.none _)
   | (with_reducible refine LeO.ite ?_ ?_)
   | (with_reducible refine LeO.bind ?_ (fun _ => ?_))
   | exact ih0 _ _ _ _ _ _ _
   | exact ih1 _ _ _ _ _ _ _
   | exact ih2 _ _ _ _ _ _ _ _
   | exact spec_l1Pow.mono _ _
   | exact spec_l8Colors.mono _ _ _ _ _ _ _
   | exact spec_l8Depth.mono _ _ _
   | exact LeO.none _
   | refine LeO.ite ?_ ?_
   | refine LeO.bind ?_ (fun _ => ?_)
theorem spec_ImageOk.mono : ∀ a0 a1 a2 a3 a4 a5 k, LeO (spec_ImageOk.f k a0 a1 a2 a3 a4 a5) (spec_ImageOk.f (k + 1) a0 a1 a2 a3 a4 a5) := by
 intro a0 a1 a2 a3 a4 a5 k; obtain ⟨ih0, ih1, ih2⟩ := spec_ImageOk.mono_l k; unfold spec_ImageOk.f
 repeat' first
  | (with_reducible exact ih0 _ _ _ _ _ _ _)
  | (with_reducible exact ih1 _ _ _ _ _ _ _)
  | (with_reducible exact ih2 _ _ _ _ _ _ _ _)
  | (with_reducible exact spec_l1Pow.mono _ _)
  | (with_reducible exact spec_l8Colors.mono _ _ _ _ _ _ _)
  | (with_reducible exact spec_l8Depth.mono _ _ _)
  | (with_reducible exact LeO.refl _)
  | (with_reducible exact LeO.none _)
  | (with_reducible refine LeO.ite ?_ ?_)
  | (with_reducible refine LeO.bind ?_ (fun _ => ?_))
  | exact ih0 _ _ _ _ _ _ _
  | exact ih1 _ _ _ _ _ _ _
  | exact ih2 _ _ _ _ _ _ _ _
  | exact spec_l1Pow.mono _ _
  | exact spec_l8Colors.mono _ _ _ _ _ _ _
  | exact spec_l8Depth.mono _ _ _
  | exact LeO.none _
  | refine LeO.ite ?_ ?_
  | refine LeO.bind ?_ (fun _ => ?_)
set_option maxHeartbeats 8000000 in
set_option maxRecDepth 100000 in
theorem spec_ImageOk.calls (k : Nat) (a0_0 : Int) (a0_1 : Int) (a0_2 : Int) (a0_3 : Int) (A0_4 : Option Addr) (c0_4 : Nat) (l0_4 : List Int) (A0_5 : Option Addr) (c0_5 : Nat) (l0_5 : List Int) (r : Bool) (w : World) (hr0_4 : Kd.C (Kd.int .i64) w A0_4 l0_4.length l0_4) (hc0_4 : l0_4.length ≤ c0_4) (hr0_5 : Kd.C (Kd.int .i64) w A0_5 l0_5.length l0_5) (hc0_5 : l0_5.length ≤ c0_5) (h : spec_ImageOk.f k a0_0 a0_1 a0_2 a0_3 l0_4 l0_5 = some r) :
 Calls Try.prog 57 #[.agg #[.int .i64 a0_0, .int .i64 a0_1, .int .i64 a0_2, .int .i64 a0_3, .slice A0_4 l0_4.length c0_4, .slice A0_5 l0_5.length c0_5]] w fun e w' => e = .returned (.bool r) ∧ Below w.heap.size w w' := by
 have hu40 := Try.underlying40; have HR0_4 := Aside0.mk hr0_4; have HC0_4 := Aside0.mk hc0_4; clear hr0_4 hc0_4; have HR0_5 := Aside0.mk hr0_5; have HC0_5 := Aside0.mk hc0_5; clear hr0_5 hc0_5; have HB := Aside0.mk (Below.refl w.heap.size w); have H : ((spec_l8Depth.f k a0_0 a0_1).bind fun t331 => (if t331 = true then ((spec_l1In.f a0_2 1 20).bind fun t332 => (if t332 = true then ((spec_l1In.f a0_3 1 20).bind fun t333 => (if t333 = true then (if (l0_5.length : Int) = (wrap64 (a0_2 * a0_3)) then ((spec_l8Colors.f k a0_0 a0_1 a0_2 a0_3 l0_4 l0_5).bind fun t334 => (spec_ImageOk.j0 k (!t334) a0_0 a0_1 a0_2 a0_3 l0_4 l0_5)) else (spec_ImageOk.j0 k true a0_0 a0_1 a0_2 a0_3 l0_4 l0_5)) else (spec_ImageOk.j0 k true a0_0 a0_1 a0_2 a0_3 l0_4 l0_5))) else (spec_ImageOk.j0 k true a0_0 a0_1 a0_2 a0_3 l0_4 l0_5))) else (spec_ImageOk.j0 k true a0_0 a0_1 a0_2 a0_3 l0_4 l0_5))) = some r := h; clear h; have HC2 := Aside0.mk H; clear H; go_enter Try.func57, Try.ntmps57
 go_upto_region 1 with (first | ((with_reducible refine gate_dst (N := 1) rfl ?_); (try (refine gate_guard (by rfl) ?_; dsimp only)); refine box_event ?hg (N := 1) ?hd (cs := #[.int .i64 a0_0, .int .i64 a0_1, .int .i64 a0_2, .int .i64 a0_3, .slice A0_4 l0_4.length c0_4, .slice A0_5 l0_5.length c0_5]) (t := 40) ?hr ?_; (case hd => rfl); (case hg => rfl); (case hr => first | (go_simp; done) | (go_simp; rfl)); intro gb330 hg w3 hbox hb; have n0_ := Sq.s_ HB hb; have n1_ := Aside0.mk (hbox); have n2_ := Sq.g_ HB hg; have n3_ := Sq.g_ HB hg; clear HB; have HB := n0_; have BK330 := n1_; have GW330 := n2_; have GE330 := n3_; have GO330 := Sq.o_ GE330; clear n0_ n1_ n2_ n3_; clear hb hbox hg))
 (try simp only [Act.put, List.setIfInBounds_toArray, List.set_cons_zero, List.set_cons_succ])
 go_cut [38] (fun v38 wc => ∃ (kq : Nat) (x38_1 : Bool), v38 = .bool x38_1 ∧ Aside0 (spec_ImageOk.j0 kq x38_1 a0_0 a0_1 a0_2 a0_3 l0_4 l0_5 = some r) ∧ Aside0 (kq ≤ k) ∧ Aside0 (wc.heap[gb330]? = some (.cells #[.int .i64 a0_0, .int .i64 a0_1, .int .i64 a0_2, .int .i64 a0_3, (.slice A0_4 l0_4.length c0_4), (.slice A0_5 l0_5.length c0_5)] 40 (0, 0))) ∧ Aside0 (Below w.heap.size w wc))
 case first =>
  have H := HC2.out; clear HC2; replace H := Option.bind_eq_some_iff.mp H; obtain ⟨t331, A40, H⟩ := H; have A4 := Aside0.mk A40; clear A40
  by_cases c5 : t331 = true
  ·subst c5; replace H := Sq.t H; replace H := Option.bind_eq_some_iff.mp H; obtain ⟨t332, A60, H⟩ := H; have A6 := Aside0.mk A60; clear A60
   by_cases c7 : t332 = true
   ·subst c7; replace H := Sq.t H; replace H := Option.bind_eq_some_iff.mp H; obtain ⟨t333, A80, H⟩ := H; have A8 := Aside0.mk A80; clear A80
    by_cases c9 : t333 = true
    ·subst c9; replace H := Sq.t H
     by_cases c10 : (l0_5.length : Int) = (wrap64 (a0_2 * a0_3))
     ·rw [if_pos c10] at H; have c10b0 : ((l0_5.length : Int) == (wrap64 (a0_2 * a0_3))) = true := beq_iff_eq.mpr c10; have c10b1 : ((l0_5.length : Int) != (wrap64 (a0_2 * a0_3))) = false := bne_eq_false_iff_eq.mpr c10; clear c10; (first | rw [c10b0] | (simp only [i64_w, i32_w]; rw [c10b0]) | skip)
      replace H := Option.bind_eq_some_iff.mp H; obtain ⟨t334, A110, H⟩ := H; have A11 := Aside0.mk A110; clear A110; have H' := Aside0.mk H; clear H; obtain ⟨hcz12_0, hcz12_1, hcz12_2, hcz12_3, hcz12_4, hcz12_5, hfz12_0, hfz12_1, hfz12_2, hfz12_3, hfz12_4, hfz12_5⟩ := Sq.cell6 BK330; go_wp2_with (first | ((with_reducible refine gate_callee (f := 104) rfl ?_); refine goesL_ (some 9) rfl rfl Try.func104 (by kernel_rfl) rfl #[.int .i64 a0_0, .int .i64 a0_1] rfl (by (try simp only [Sq.mp]); first | done | rfl | (simp only [List.length_drop, List.length_take]; rfl)) ?_; (with_reducible refine (spec_l8Depth.calls k a0_0 a0_1 true _ A4.out).mono ?_); rintro e w' ⟨rfl, ⟨nd, rfl⟩⟩; refine ⟨_, rfl, ?_⟩) | (go_at_call 43; (with_reducible refine (spec_l1In.calls a0_2 1 20 true _ A6.out).mono ?_); rintro e w' ⟨rfl, ⟨nd, rfl⟩⟩) | (go_at_call 43; (with_reducible refine (spec_l1In.calls a0_3 1 20 true _ A8.out).mono ?_); rintro e w' ⟨rfl, ⟨nd, rfl⟩⟩) | (go_at_call 105; (with_reducible refine (spec_l8Colors.calls k a0_0 a0_1 a0_2 a0_3 _ _ l0_4 _ _ l0_5 t334 _ ?side1 ?side2 ?side3 ?side4 A11.out).mono ?_); (case side1 => repeat (first | exact (Kd.C_below HR0_4.out (Sq.ut HB)) | (with_reducible refine Kd.C_alloc ?_ _) | (with_reducible refine Kd.C_drewN ?_ _) | (with_reducible refine Kd.C_drew ?_))); (case side2 => exact HC0_4.out); (case side3 => repeat (first | exact (Kd.C_below HR0_5.out (Sq.ut HB)) | (with_reducible refine Kd.C_alloc ?_ _) | (with_reducible refine Kd.C_drewN ?_ _) | (with_reducible refine Kd.C_drew ?_))); (case side4 => exact HC0_5.out); rintro e w13 ⟨rfl, hb⟩; have n0_ := Sq.b_ BK330 hb; have n1_ := Sq.us HB hb; clear BK330; clear HB; have BK330 := n0_; have HB := n1_; clear n0_ n1_; (try clear hb); (try clear hb2); (try clear hk); (try clear hi)))
      go_meet
      case rel => exact ⟨_, (!t334), (by first | rfl | (simp; done) | (simp [*]; done)), H', ⟨by first | omega | exact Nat.le_refl _⟩, Sq.kk_ BK330, ⟨(Sq.ut HB)⟩⟩
     ·rw [if_neg c10] at H; have c10b0 : ((l0_5.length : Int) == (wrap64 (a0_2 * a0_3))) = false := beq_eq_false_iff_ne.mpr c10; have c10b1 : ((l0_5.length : Int) != (wrap64 (a0_2 * a0_3))) = true := bne_iff_ne.mpr c10; (first | rw [c10b0] | (simp only [i64_w, i32_w]; rw [c10b0]) | skip)
      have H' := Aside0.mk H; clear H; obtain ⟨hcz14_0, hcz14_1, hcz14_2, hcz14_3, hcz14_4, hcz14_5, hfz14_0, hfz14_1, hfz14_2, hfz14_3, hfz14_4, hfz14_5⟩ := Sq.cell6 BK330; go_wp2_with (first | ((with_reducible refine gate_callee (f := 104) rfl ?_); refine goesL_ (some 9) rfl rfl Try.func104 (by kernel_rfl) rfl #[.int .i64 a0_0, .int .i64 a0_1] rfl (by (try simp only [Sq.mp]); first | done | rfl | (simp only [List.length_drop, List.length_take]; rfl)) ?_; (with_reducible refine (spec_l8Depth.calls k a0_0 a0_1 true _ A4.out).mono ?_); rintro e w' ⟨rfl, ⟨nd, rfl⟩⟩; refine ⟨_, rfl, ?_⟩) | (go_at_call 43; (with_reducible refine (spec_l1In.calls a0_2 1 20 true _ A6.out).mono ?_); rintro e w' ⟨rfl, ⟨nd, rfl⟩⟩) | (go_at_call 43; (with_reducible refine (spec_l1In.calls a0_3 1 20 true _ A8.out).mono ?_); rintro e w' ⟨rfl, ⟨nd, rfl⟩⟩))
      go_meet
      case rel => exact ⟨_, (true), (by first | rfl | (simp; done) | (simp [*]; done)), H', ⟨by first | omega | exact Nat.le_refl _⟩, Sq.kk_ BK330, ⟨(Sq.ut HB)⟩⟩
    ·replace c9 := Bool.eq_false_iff.mpr c9; subst c9; replace H := Sq.f H; have H' := Aside0.mk H; clear H; obtain ⟨hcz15_0, hcz15_1, hcz15_2, hcz15_3, hcz15_4, hcz15_5, hfz15_0, hfz15_1, hfz15_2, hfz15_3, hfz15_4, hfz15_5⟩ := Sq.cell6 BK330; go_wp2_with (first | ((with_reducible refine gate_callee (f := 104) rfl ?_); refine goesL_ (some 9) rfl rfl Try.func104 (by kernel_rfl) rfl #[.int .i64 a0_0, .int .i64 a0_1] rfl (by (try simp only [Sq.mp]); first | done | rfl | (simp only [List.length_drop, List.length_take]; rfl)) ?_; (with_reducible refine (spec_l8Depth.calls k a0_0 a0_1 true _ A4.out).mono ?_); rintro e w' ⟨rfl, ⟨nd, rfl⟩⟩; refine ⟨_, rfl, ?_⟩) | (go_at_call 43; (with_reducible refine (spec_l1In.calls a0_2 1 20 true _ A6.out).mono ?_); rintro e w' ⟨rfl, ⟨nd, rfl⟩⟩) | (go_at_call 43; (with_reducible refine (spec_l1In.calls a0_3 1 20 false _ A8.out).mono ?_); rintro e w' ⟨rfl, ⟨nd, rfl⟩⟩))
     go_meet
     case rel => exact ⟨_, (true), (by first | rfl | (simp; done) | (simp [*]; done)), H', ⟨by first | omega | exact Nat.le_refl _⟩, Sq.kk_ BK330, ⟨(Sq.ut HB)⟩⟩
   ·replace c7 := Bool.eq_false_iff.mpr c7; subst c7; replace H := Sq.f H; have H' := Aside0.mk H; clear H; obtain ⟨hcz16_0, hcz16_1, hcz16_2, hcz16_3, hcz16_4, hcz16_5, hfz16_0, hfz16_1, hfz16_2, hfz16_3, hfz16_4, hfz16_5⟩ := Sq.cell6 BK330; go_wp2_with (first | ((with_reducible refine gate_callee (f := 104) rfl ?_); refine goesL_ (some 9) rfl rfl Try.func104 (by kernel_rfl) rfl #[.int .i64 a0_0, .int .i64 a0_1] rfl (by (try simp only [Sq.mp]); first | done | rfl | (simp only [List.length_drop, List.length_take]; rfl)) ?_; (with_reducible refine (spec_l8Depth.calls k a0_0 a0_1 true _ A4.out).mono ?_); rintro e w' ⟨rfl, ⟨nd, rfl⟩⟩; refine ⟨_, rfl, ?_⟩) | (go_at_call 43; (with_reducible refine (spec_l1In.calls a0_2 1 20 false _ A6.out).mono ?_); rintro e w' ⟨rfl, ⟨nd, rfl⟩⟩))
    go_meet
    case rel => exact ⟨_, (true), (by first | rfl | (simp; done) | (simp [*]; done)), H', ⟨by first | omega | exact Nat.le_refl _⟩, Sq.kk_ BK330, ⟨(Sq.ut HB)⟩⟩
  ·replace c5 := Bool.eq_false_iff.mpr c5; subst c5; replace H := Sq.f H; have H' := Aside0.mk H; clear H; obtain ⟨hcz17_0, hcz17_1, hcz17_2, hcz17_3, hcz17_4, hcz17_5, hfz17_0, hfz17_1, hfz17_2, hfz17_3, hfz17_4, hfz17_5⟩ := Sq.cell6 BK330; go_wp2_with (first | ((with_reducible refine gate_callee (f := 104) rfl ?_); refine goesL_ (some 9) rfl rfl Try.func104 (by kernel_rfl) rfl #[.int .i64 a0_0, .int .i64 a0_1] rfl (by (try simp only [Sq.mp]); first | done | rfl | (simp only [List.length_drop, List.length_take]; rfl)) ?_; (with_reducible refine (spec_l8Depth.calls k a0_0 a0_1 false _ A4.out).mono ?_); rintro e w' ⟨rfl, ⟨nd, rfl⟩⟩; refine ⟨_, rfl, ?_⟩))
   go_meet
   case rel => exact ⟨_, (true), (by first | rfl | (simp; done) | (simp [*]; done)), H', ⟨by first | omega | exact Nat.le_refl _⟩, Sq.kk_ BK330, ⟨(Sq.ut HB)⟩⟩
 case rest =>
  clear HC2; try clear c1
  try clear p2
  try clear c5
  try clear p6
  try clear c7
  try clear c9
  try clear c10
  try clear c10b0
  try clear c10b1
  try clear hcz12_0 hcz12_1 hcz12_2 hcz12_3 hcz12_4 hcz12_5 hcz14_0 hcz14_1 hcz14_2 hcz14_3 hcz14_4 hcz14_5 hcz15_0 hcz15_1 hcz15_2 hcz15_3 hcz15_4 hcz15_5 hcz16_0 hcz16_1 hcz16_2 hcz16_3 hcz16_4 hcz16_5 hcz17_0 hcz17_1 hcz17_2 hcz17_3 hcz17_4 hcz17_5 hfz12_0 hfz12_1 hfz12_2 hfz12_3 hfz12_4 hfz12_5 hfz14_0 hfz14_1 hfz14_2 hfz14_3 hfz14_4 hfz14_5 hfz15_0 hfz15_1 hfz15_2 hfz15_3 hfz15_4 hfz15_5 hfz16_0 hfz16_1 hfz16_2 hfz16_3 hfz16_4 hfz16_5 hfz17_0 hfz17_1 hfz17_2 hfz17_3 hfz17_4 hfz17_5
  obtain ⟨kq, x38_1, rfl, HA, HJ1, BK330, HB⟩ := hcut; cases kq with
  | zero => exact absurd HA.out (by simp [spec_ImageOk.j0])
  | succ kj1 =>
   have H := HA.out; clear HA; simp only [spec_ImageOk.j0] at H
   by_cases c18 : x38_1 = true
   ·subst c18; replace H := Sq.t H; obtain rfl := Option.some.inj H; go_wp2
    go_ret
    exact ⟨by first | rfl | (simp [errW_none, errW_some] <;> rfl) | (simp [*, errW_none, errW_some] <;> rfl), (Sq.ut HB)⟩
   ·replace c18 := Bool.eq_false_iff.mpr c18; subst c18; replace H := Sq.f H; replace H := Option.bind_eq_some_iff.mp H; obtain ⟨t335, A190, H⟩ := H; have A19 := Aside0.mk A190; clear A190; have HC20 := Aside0.mk H; clear H; obtain ⟨hcz21_0, hcz21_1, hcz21_2, hcz21_3, hcz21_4, hcz21_5, hfz21_0, hfz21_1, hfz21_2, hfz21_3, hfz21_4, hfz21_5⟩ := Sq.cell6 BK330; go_upto_if 45 with (first | ((with_reducible refine gate_callee (f := 106) rfl ?_); refine goesL_ (some 41) rfl rfl Try.func106 (by kernel_rfl) rfl #[.int .i64 a0_1] rfl (by (try simp only [Sq.mp]); first | done | rfl | (simp only [List.length_drop, List.length_take]; rfl)) ?_; (with_reducible refine (spec_l1Pow.calls kj1 a0_1 t335 _ A19.out).mono ?_); rintro e w' ⟨rfl, ⟨nd, rfl⟩⟩; refine ⟨_, rfl, ?_⟩))
    (try simp only [Act.put, List.setIfInBounds_toArray, List.set_cons_zero, List.set_cons_succ])
    go_cut [3] (fun v3 wc => ∃ (kq : Nat) (x3_19 : Int), v3 = .int .i64 x3_19 ∧ Aside0 (spec_ImageOk.j1 kq x3_19 a0_0 a0_1 a0_2 a0_3 l0_4 l0_5 = some r) ∧ Aside0 (kq ≤ kj1) ∧ Aside0 (wc.heap[gb330]? = some (.cells #[.int .i64 a0_0, .int .i64 a0_1, .int .i64 a0_2, .int .i64 a0_3, (.slice A0_4 l0_4.length c0_4), (.slice A0_5 l0_5.length c0_5)] 40 (0, 0))) ∧ Aside0 (Below w.heap.size w wc))
    case first =>
     have H := HC20.out; clear HC20
     by_cases c22 : a0_0 = 4
     ·rw [if_pos c22] at H; have c22b0 : (a0_0 == 4) = true := beq_iff_eq.mpr c22; have c22b1 : (a0_0 != 4) = false := bne_eq_false_iff_eq.mpr c22; clear c22; (first | rw [c22b0] | (simp only [i64_w, i32_w]; rw [c22b0]) | skip)
      have H' := Aside0.mk H; clear H; obtain ⟨hcz23_0, hcz23_1, hcz23_2, hcz23_3, hcz23_4, hcz23_5, hfz23_0, hfz23_1, hfz23_2, hfz23_3, hfz23_4, hfz23_5⟩ := Sq.cell6 BK330; go_wp2
      go_meet
      case rel => exact ⟨_, (wrap64 ((l0_4.length : Int) - 1)), (by first | rfl | (simp; done) | (simp [*]; done)), H', ⟨by have := HJ1.out; first | omega | exact Nat.le_refl _⟩, Sq.kk_ BK330, ⟨(Sq.ut HB)⟩⟩
     ·rw [if_neg c22] at H; have c22b0 : (a0_0 == 4) = false := beq_eq_false_iff_ne.mpr c22; have c22b1 : (a0_0 != 4) = true := bne_iff_ne.mpr c22; (first | rw [c22b0] | (simp only [i64_w, i32_w]; rw [c22b0]) | skip)
      have H' := Aside0.mk H; clear H; go_wp2
      go_meet
      case rel => exact ⟨_, (wrap64 (t335 - 1)), (by first | rfl | (simp; done) | (simp [*]; done)), H', ⟨by have := HJ1.out; first | omega | exact Nat.le_refl _⟩, Sq.kk_ BK330, ⟨(Sq.ut HB)⟩⟩
    case rest =>
     clear HC20; try clear c1
     try clear c2
     try clear p2
     try clear c5
     try clear p6
     try clear c7
     try clear c9
     try clear c10
     try clear c10b0
     try clear c10b1
     try clear c18
     try clear c22
     try clear c22b0
     try clear c22b1
     try clear hcz12_0 hcz12_1 hcz12_2 hcz12_3 hcz12_4 hcz12_5 hcz14_0 hcz14_1 hcz14_2 hcz14_3 hcz14_4 hcz14_5 hcz15_0 hcz15_1 hcz15_2 hcz15_3 hcz15_4 hcz15_5 hcz16_0 hcz16_1 hcz16_2 hcz16_3 hcz16_4 hcz16_5 hcz17_0 hcz17_1 hcz17_2 hcz17_3 hcz17_4 hcz17_5 hcz21_0 hcz21_1 hcz21_2 hcz21_3 hcz21_4 hcz21_5 hcz23_0 hcz23_1 hcz23_2 hcz23_3 hcz23_4 hcz23_5 hfz12_0 hfz12_1 hfz12_2 hfz12_3 hfz12_4 hfz12_5 hfz14_0 hfz14_1 hfz14_2 hfz14_3 hfz14_4 hfz14_5 hfz15_0 hfz15_1 hfz15_2 hfz15_3 hfz15_4 hfz15_5 hfz16_0 hfz16_1 hfz16_2 hfz16_3 hfz16_4 hfz16_5 hfz17_0 hfz17_1 hfz17_2 hfz17_3 hfz17_4 hfz17_5 hfz21_0 hfz21_1 hfz21_2 hfz21_3 hfz21_4 hfz21_5 hfz23_0 hfz23_1 hfz23_2 hfz23_3 hfz23_4 hfz23_5
     try clear p2
     try clear p6
     obtain ⟨kq, x3_19, rfl, HA, HJ19, BK330, HB⟩ := hcut; cases kq with
     | zero => exact absurd HA.out (by simp [spec_ImageOk.j1])
     | succ kj19 =>
      have H := HA.out; clear HA; simp only [spec_ImageOk.j1] at H; have H' := Aside0.mk H; clear H; go_wp2
      go_loopg [4] kj19 (fun kq v4 w' => ∃ (x4_3 : Int), v4 = .int .i64 x4_3 ∧ Aside0 (spec_ImageOk.l0 kq x3_19 x4_3 a0_0 a0_1 a0_2 a0_3 l0_4 l0_5 = some r) ∧ Aside0 (kq ≤ kj19) ∧ Aside0 (w'.heap[gb330]? = some (.cells #[.int .i64 a0_0, .int .i64 a0_1, .int .i64 a0_2, .int .i64 a0_3, (.slice A0_4 l0_4.length c0_4), (.slice A0_5 l0_5.length c0_5)] 40 (0, 0))) ∧ Aside0 (Below w.heap.size w w'))
      case atStart => exact ⟨(0), (by first | rfl | (simp; done) | (simp [*]; done)), H', ⟨Nat.le_refl _⟩, Sq.kk_ BK330, ⟨(Sq.ut HB)⟩⟩
      case round =>
       clear H'; try clear c1
       try clear c2
       try clear p2
       try clear c5
       try clear p6
       try clear c7
       try clear c9
       try clear c10
       try clear c10b0
       try clear c10b1
       try clear c18
       try clear c22
       try clear c22b0
       try clear c22b1
       try clear hcz12_0 hcz12_1 hcz12_2 hcz12_3 hcz12_4 hcz12_5 hcz14_0 hcz14_1 hcz14_2 hcz14_3 hcz14_4 hcz14_5 hcz15_0 hcz15_1 hcz15_2 hcz15_3 hcz15_4 hcz15_5 hcz16_0 hcz16_1 hcz16_2 hcz16_3 hcz16_4 hcz16_5 hcz17_0 hcz17_1 hcz17_2 hcz17_3 hcz17_4 hcz17_5 hcz21_0 hcz21_1 hcz21_2 hcz21_3 hcz21_4 hcz21_5 hcz23_0 hcz23_1 hcz23_2 hcz23_3 hcz23_4 hcz23_5 hfz12_0 hfz12_1 hfz12_2 hfz12_3 hfz12_4 hfz12_5 hfz14_0 hfz14_1 hfz14_2 hfz14_3 hfz14_4 hfz14_5 hfz15_0 hfz15_1 hfz15_2 hfz15_3 hfz15_4 hfz15_5 hfz16_0 hfz16_1 hfz16_2 hfz16_3 hfz16_4 hfz16_5 hfz17_0 hfz17_1 hfz17_2 hfz17_3 hfz17_4 hfz17_5 hfz21_0 hfz21_1 hfz21_2 hfz21_3 hfz21_4 hfz21_5 hfz23_0 hfz23_1 hfz23_2 hfz23_3 hfz23_4 hfz23_5
       try clear p2
       try clear p6
       obtain ⟨x4_3, rfl, HA, HK3, BK330, HB⟩ := hrel; cases gk with
       | zero => exact absurd HA.out (by simp [spec_ImageOk.l0])
       | succ k3 =>
        have H := HA.out; clear HA; simp only [spec_ImageOk.l0] at H
        by_cases c24 : x4_3 < (l0_5.length : Int)
        ·rw [if_pos c24] at H; have c24b0 : decide (x4_3 < (l0_5.length : Int)) = true := decide_eq_true c24; clear c24
         by_cases c25 : 0 ≤ x4_3
         ·rw [if_pos c25] at H; have c25b0 : decide (0 ≤ x4_3) = true := decide_eq_true c25; clear c25; replace H := Option.bind_eq_some_iff.mp H; obtain ⟨t337, A260, H⟩ := H; have A26 := Aside0.mk A260; clear A260
          by_cases c27 : t337 = true
          ·subst c27; replace H := Sq.t H; have H' := Aside0.mk H; clear H; obtain ⟨hcz28_0, hcz28_1, hcz28_2, hcz28_3, hcz28_4, hcz28_5, hfz28_0, hfz28_1, hfz28_2, hfz28_3, hfz28_4, hfz28_5⟩ := Sq.cell6 BK330; have p336 : 0 ≤ (x4_3 : Int) := of_decide_eq_true (by first | (with_reducible assumption) | assumption); have q336 : x4_3 < (l0_5.length : Int) := of_decide_eq_true (by first | (with_reducible assumption) | assumption); obtain ⟨ad336, e336, hx336_0⟩ := Kd.at_int HR0_5.out x4_3 p336 q336; cases e336; replace hx336_0 := (HB.out.cell (World.block_lt_of_cell? w _ hx336_0)).trans hx336_0; replace p336 := eq_true p336; replace q336 := eq_true q336; go_wp2_with (first | ((with_reducible refine gate_callee (f := 43) rfl ?_); refine goesL_ (some 63) rfl rfl Try.func43 (by kernel_rfl) rfl #[.int .i64 (rd l0_5 x4_3), .int .i64 0, .int .i64 x3_19] rfl (by (try simp only [Sq.mp]); first | done | rfl | (simp only [List.length_drop, List.length_take]; rfl)) ?_; (with_reducible refine (spec_l1In.calls (rd l0_5 x4_3) 0 x3_19 true _ A26.out).mono ?_); rintro e w' ⟨rfl, ⟨nd, rfl⟩⟩; refine ⟨_, rfl, ?_⟩))
           go_roundg k3
           case measure => have := HJ1.out; have := HJ19.out; have := HK3.out; omega
           case rel => exact ⟨(wrap64 (x4_3 + 1)), (by first | rfl | (simp; done) | (simp [*]; done)), H', ⟨by have := HJ1.out; have := HJ19.out; have := HK3.out; omega⟩, Sq.kk_ BK330, ⟨(Sq.ut HB)⟩⟩
          ·replace c27 := Bool.eq_false_iff.mpr c27; subst c27; replace H := Sq.f H; obtain rfl := Option.some.inj H; obtain ⟨hcz29_0, hcz29_1, hcz29_2, hcz29_3, hcz29_4, hcz29_5, hfz29_0, hfz29_1, hfz29_2, hfz29_3, hfz29_4, hfz29_5⟩ := Sq.cell6 BK330; have p336 : 0 ≤ (x4_3 : Int) := of_decide_eq_true (by first | (with_reducible assumption) | assumption); have q336 : x4_3 < (l0_5.length : Int) := of_decide_eq_true (by first | (with_reducible assumption) | assumption); obtain ⟨ad336, e336, hx336_0⟩ := Kd.at_int HR0_5.out x4_3 p336 q336; cases e336; replace hx336_0 := (HB.out.cell (World.block_lt_of_cell? w _ hx336_0)).trans hx336_0; replace p336 := eq_true p336; replace q336 := eq_true q336; go_wp2_with (first | ((with_reducible refine gate_callee (f := 43) rfl ?_); refine goesL_ (some 63) rfl rfl Try.func43 (by kernel_rfl) rfl #[.int .i64 (rd l0_5 x4_3), .int .i64 0, .int .i64 x3_19] rfl (by (try simp only [Sq.mp]); first | done | rfl | (simp only [List.length_drop, List.length_take]; rfl)) ?_; (with_reducible refine (spec_l1In.calls (rd l0_5 x4_3) 0 x3_19 false _ A26.out).mono ?_); rintro e w' ⟨rfl, ⟨nd, rfl⟩⟩; refine ⟨_, rfl, ?_⟩))
           go_ret
           exact ⟨by first | rfl | (simp [errW_none, errW_some] <;> rfl) | (simp [*, errW_none, errW_some] <;> rfl), (Sq.ut HB)⟩
         ·rw [if_neg c25] at H; exact absurd H (by simp)
        ·rw [if_neg c24] at H; have c24b0 : decide (x4_3 < (l0_5.length : Int)) = false := decide_eq_false c24; clear c24; obtain rfl := Option.some.inj H; obtain ⟨hcz30_0, hcz30_1, hcz30_2, hcz30_3, hcz30_4, hcz30_5, hfz30_0, hfz30_1, hfz30_2, hfz30_3, hfz30_4, hfz30_5⟩ := Sq.cell6 BK330; go_wp2
         go_ret
         exact ⟨by first | rfl | (simp [errW_none, errW_some] <;> rfl) | (simp [*, errW_none, errW_some] <;> rfl), (Sq.ut HB)⟩
end Go.Proofs.Ytgdbinifnhfcjaa.P
