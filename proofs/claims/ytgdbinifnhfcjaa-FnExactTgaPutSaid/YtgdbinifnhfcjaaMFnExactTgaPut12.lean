/- Texts of one law put together (wip/merge2.py). -/
import Derived.Test.YtgdbinifnhfcjaaMFnExactTgaPut1
import Derived.Test.YtgdbinifnhfcjaaMFnExactTgaPut4
import Derived.Test.YtgdbinifnhfcjaaMFnExactTgaPut5
import Derived.Test.YtgdbinifnhfcjaaMFnExactTgaPut11
import Derived.Test.YtgdbinifnhfcjaaMFnExactTgaPut6
import Derived.Test.YtgdbinifnhfcjaaMFnExactTgaPut8
namespace Go.Proofs.Ytgdbinifnhfcjaa.P
open Go.RowKit Go.Proofs.YtgdbinifnhfcjaaW.PrintWords Go.Proofs.YtgdbinifnhfcjaaW.PrintLast Go.Proofs.YtgdbinifnhfcjaaW.PrintMore
attribute [local go_sem] max2_int min2_int max_two min_two max_three min_three max_four min_four   -- for this text's walks alone
set_option linter.unusedVariables false
set_option linter.unusedSimpArgs false
/-! ### spec_l11Put: function 89 -/
mutual
def spec_l11Put.j0 : Nat → Bool → Int → Int → Int → Int → Int → Int → List Int → List Int → Option (ByteArray)
 | 0, _, _, _, _, _, _, _, _, _ => none
 | k + 1, x1, x5, x6, x809000, x809001, x809002, x809003, x809004, x809005 => if x809000 = 3 then (spec_l11Put.j1 k x1 x5 x6 40 x809000 x809001 x809002 x809003 x809004 x809005) else (spec_l11Put.j1 k x1 x5 x6 32 x809000 x809001 x809002 x809003 x809004 x809005)
def spec_l11Put.j1 : Nat → Bool → Int → Int → Int → Int → Int → Int → Int → List Int → List Int → Option (ByteArray)
 | 0, _, _, _, _, _, _, _, _, _, _ => none
 | k + 1, x1, x5, x6, x7, x809000, x809001, x809002, x809003, x809004, x809005 => (spec_l9Flag.f (decide ((x809004.length : Int) > 0))).bind fun t811 => ((some (([0, (t811) % 256, (x5) % 256] : List Int) : List Int)).bind fun y812 => ((spec_l1Num.f k 0 2 false).bind fun t815 => (if (strOfNums y812).size + t815.size ≤ 9223372036854775807 then ((spec_l1Num.f k (x809004.length : Int) 2 false).bind fun t816 => (if ((strOfNums y812) ++ t815).size + t816.size ≤ 9223372036854775807 then ((some (([(x6) % 256] : List Int) : List Int)).bind fun y817 => (if (((strOfNums y812) ++ t815) ++ t816).size + (strOfNums y817).size ≤ 9223372036854775807 then ((spec_l1Num.f k 0 4 false).bind fun t820 => (if ((((strOfNums y812) ++ t815) ++ t816) ++ (strOfNums y817)).size + t820.size ≤ 9223372036854775807 then ((spec_l1Num.f k x809002 2 false).bind fun t821 => (if (((((strOfNums y812) ++ t815) ++ t816) ++ (strOfNums y817)) ++ t820).size + t821.size ≤ 9223372036854775807 then ((spec_l1Num.f k x809003 2 false).bind fun t822 => (if ((((((strOfNums y812) ++ t815) ++ t816) ++ (strOfNums y817)) ++ t820) ++ t821).size + t822.size ≤ 9223372036854775807 then ((some (([(x809001) % 256, (x7) % 256] : List Int) : List Int)).bind fun y823 => (if (((((((strOfNums y812) ++ t815) ++ t816) ++ (strOfNums y817)) ++ t820) ++ t821) ++ t822).size + (strOfNums y823).size ≤ 9223372036854775807 then ((spec_l11Colors.f k x809004 3).bind fun t826 => (if ((((((((strOfNums y812) ++ t815) ++ t816) ++ (strOfNums y817)) ++ t820) ++ t821) ++ t822) ++ (strOfNums y823)).size + t826.size ≤ 9223372036854775807 then (if x1 = true then ((spec_l11Dense.f k x809000 x809001 x809002 x809003 x809004 x809005).bind fun t827 => ((spec_l7Run.f k t827 (wrap64 (Int.tdiv x809001 8))).bind fun t830 => (if (((((((((strOfNums y812) ++ t815) ++ t816) ++ (strOfNums y817)) ++ t820) ++ t821) ++ t822) ++ (strOfNums y823)) ++ t826).size + t830.size ≤ 9223372036854775807 then (some ((((((((((strOfNums y812) ++ t815) ++ t816) ++ (strOfNums y817)) ++ t820) ++ t821) ++ t822) ++ (strOfNums y823)) ++ t826) ++ t830)) else (none)))) else ((spec_l11Dense.f k x809000 x809001 x809002 x809003 x809004 x809005).bind fun t831 => ((spec_l11Colors.f k t831 (wrap64 (Int.tdiv x809001 8))).bind fun t834 => (if (((((((((strOfNums y812) ++ t815) ++ t816) ++ (strOfNums y817)) ++ t820) ++ t821) ++ t822) ++ (strOfNums y823)) ++ t826).size + t834.size ≤ 9223372036854775807 then (some ((((((((((strOfNums y812) ++ t815) ++ t816) ++ (strOfNums y817)) ++ t820) ++ t821) ++ t822) ++ (strOfNums y823)) ++ t826) ++ t834)) else (none))))) else (none))) else (none))) else (none))) else (none))) else (none))) else (none))) else (none))) else (none))))
end
def spec_l11Put.f (k : Nat) (a0_0 : Int) (a0_1 : Int) (a0_2 : Int) (a0_3 : Int) (l0_4 : List Int) (l0_5 : List Int) (a1 : Bool) : Option (ByteArray) := (spec_l11Tga.f k a0_0 a0_1 a0_2 a0_3 l0_4 l0_5).bind fun t809 => ((spec_l9Flag.f a1).bind fun t810 => (if (l0_4.length : Int) > 0 then (spec_l11Put.j0 k a1 (wrap64 (t809 + (wrap64 (8 * t810)))) 24 a0_0 a0_1 a0_2 a0_3 l0_4 l0_5) else (spec_l11Put.j0 k a1 (wrap64 (t809 + (wrap64 (8 * t810)))) 0 a0_0 a0_1 a0_2 a0_3 l0_4 l0_5)))
theorem spec_l11Put.mono_l : ∀ k, (∀ y0 y1 y2 y3 y4 y5 y6 y7 y8, LeO (spec_l11Put.j0 k y0 y1 y2 y3 y4 y5 y6 y7 y8) (spec_l11Put.j0 (k + 1) y0 y1 y2 y3 y4 y5 y6 y7 y8)) ∧ (∀ y0 y1 y2 y3 y4 y5 y6 y7 y8 y9, LeO (spec_l11Put.j1 k y0 y1 y2 y3 y4 y5 y6 y7 y8 y9) (spec_l11Put.j1 (k + 1) y0 y1 y2 y3 y4 y5 y6 y7 y8 y9))
 | 0 => ⟨fun _ _ _ _ _ _ _ _ _ r h => by simp [spec_l11Put.j0] at h, fun _ _ _ _ _ _ _ _ _ _ r h => by simp [spec_l11Put.j1] at h⟩
 | k + 1 => by
  obtain ⟨ih0, ih1⟩ := spec_l11Put.mono_l k
  refine ⟨?_, ?_⟩
  ·intro y0 y1 y2 y3 y4 y5 y6 y7 y8; unfold spec_l11Put.j0
   repeat' first
   | (with_reducible exact ih0 _ _ _ _ _ _ _ _ _)
   | (with_reducible exact ih1 _ _ _ _ _ _ _ _ _ _)
   | (with_reducible exact spec_l11Colors.mono _ _ _)
   | (with_reducible exact spec_l11Dense.mono _ _ _ _ _ _ _)
   | (with_reducible exact spec_l11Tga.mono _ _ _ _ _ _ _)
   | (with_reducible exact spec_l1Num.mono _ _ _ _)
   | (with_reducible exact spec_l7Run.mono _ _ _)
   | (with_reducible exact LeO.refl _)
   | (with_reducible exact LeO.none _)
   | (with_reducible refine LeO.ite ?_ ?_)
   | (with_reducible refine LeO.bind ?_ (fun _ => ?_))
   | exact ih0 _ _ _ _ _ _ _ _ _
   | exact ih1 _ _ _ _ _ _ _ _ _ _
   | exact spec_l11Colors.mono _ _ _
   | exact spec_l11Dense.mono _ _ _ _ _ _ _
   | exact spec_l11Tga.mono _ _ _ _ _ _ _
   | exact spec_l1Num.mono _ _ _ _
   | exact spec_l7Run.mono _ _ _
   | exact LeO.none _
   | refine LeO.ite ?_ ?_
   | refine LeO.bind ?_ (fun _ => ?_)
  ·intro y0 y1 y2 y3 y4 y5 y6 y7 y8 y9; unfold spec_l11Put.j1
   repeat' first
   | (with_reducible exact ih0 _ _ _ _ _ _ _ _ _)
   | (with_reducible exact ih1 _ _ _ _ _ _ _ _ _ _)
   | (with_reducible exact spec_l11Colors.mono _ _ _)
   | (with_reducible exact spec_l11Dense.mono _ _ _ _ _ _ _)
   | (with_reducible exact spec_l11Tga.mono _ _ _ _ _ _ _)
   | (with_reducible exact spec_l1Num.mono _ _ _ _)
   | (with_reducible exact spec_l7Run.mono _ _ _)
   | (with_reducible exact LeO.refl _)
   | (with_reducible exact LeO.none _)
   | (with_reducible refine LeO.ite ?_ ?_)
   | (with_reducible refine LeO.bind ?_ (fun _ => ?_))
   | exact ih0 _ _ _ _ _ _ _ _ _
   | exact ih1 _ _ _ _ _ _ _ _ _ _
   | exact spec_l11Colors.mono _ _ _
   | exact spec_l11Dense.mono _ _ _ _ _ _ _
   | exact spec_l11Tga.mono _ _ _ _ _ _ _
   | exact spec_l1Num.mono _ _ _ _
   | exact spec_l7Run.mono _ _ _
   | exact LeO.none _
   | refine LeO.ite ?_ ?_
   | refine LeO.bind ?_ (fun _ => ?_)
theorem spec_l11Put.mono : ∀ a0 a1 a2 a3 a4 a5 a6 k, LeO (spec_l11Put.f k a0 a1 a2 a3 a4 a5 a6) (spec_l11Put.f (k + 1) a0 a1 a2 a3 a4 a5 a6) := by
 intro a0 a1 a2 a3 a4 a5 a6 k; obtain ⟨ih0, ih1⟩ := spec_l11Put.mono_l k; unfold spec_l11Put.f
 repeat' first
  | (with_reducible exact ih0 _ _ _ _ _ _ _ _ _)
  | (with_reducible exact ih1 _ _ _ _ _ _ _ _ _ _)
  | (with_reducible exact spec_l11Colors.mono _ _ _)
  | (with_reducible exact spec_l11Dense.mono _ _ _ _ _ _ _)
  | (with_reducible exact spec_l11Tga.mono _ _ _ _ _ _ _)
  | (with_reducible exact spec_l1Num.mono _ _ _ _)
  | (with_reducible exact spec_l7Run.mono _ _ _)
  | (with_reducible exact LeO.refl _)
  | (with_reducible exact LeO.none _)
  | (with_reducible refine LeO.ite ?_ ?_)
  | (with_reducible refine LeO.bind ?_ (fun _ => ?_))
  | exact ih0 _ _ _ _ _ _ _ _ _
  | exact ih1 _ _ _ _ _ _ _ _ _ _
  | exact spec_l11Colors.mono _ _ _
  | exact spec_l11Dense.mono _ _ _ _ _ _ _
  | exact spec_l11Tga.mono _ _ _ _ _ _ _
  | exact spec_l1Num.mono _ _ _ _
  | exact spec_l7Run.mono _ _ _
  | exact LeO.none _
  | refine LeO.ite ?_ ?_
  | refine LeO.bind ?_ (fun _ => ?_)
def spec_l11Put.T8 : Bool × List (List Nat × List Nat) := (true, [([], []), ([0], [0]), ([1], [1]), ([2], [2]), ([3], [3]), ([4], [4]), ([], []), ([6], [6]), ([5, 7], [5, 7]), ([8], [8]), ([4], []), ([9, 10], [9, 10]), ([], []), ([12], [12]), ([13], [13]), ([14, 10], [14]), ([11, 15], [11, 15]), ([], []), ([17], [17]), ([18], [18]), ([19], [19]), ([16, 20], [16, 20]), ([21, 15, 0, 1, 2, 3, 4, 5, 6, 7, 8, 9, 10, 11, 12, 13, 14, 15, 16, 17, 18, 19, 20, 21], [21])])
def spec_l11Put.B8 : List Nat := [0, 1, 3, 7, 15, 31, 0, 64, 255, 511, 31, 2047, 0, 4096, 12288, 29727, 65535, 0, 131072, 393216, 917504, 2097151, 4194303]
theorem spec_l11Put.tab8 : rtab .any (opsOf Try.f89 8) = spec_l11Put.T8 := by kernel_rfl
theorem spec_l11Put.bits8 : waitsOk spec_l11Put.T8.2 spec_l11Put.B8 = true := by kernel_rfl
def spec_l11Put.T9 : Bool × List (List Nat × List Nat) := (true, [([], []), ([], []), ([0, 1], [0, 1]), ([], []), ([3], [3]), ([4, 1], [4]), ([2, 5], [2, 5]), ([], []), ([7], [7]), ([8, 5], [8]), ([6, 9], [6, 9]), ([], []), ([11], [11]), ([12], [12]), ([], []), ([14], [14]), ([13, 15], [13, 15]), ([16], [16]), ([10, 17], [10, 17]), ([], []), ([19], [19]), ([20, 9], [20]), ([18, 21], [18, 21]), ([22, 21, 0, 1, 2, 3, 4, 5, 6, 7, 8, 9, 10, 11, 12, 13, 14, 15, 16, 17, 18, 19, 20, 21, 22], [0, 22])])
def spec_l11Put.B9 : List Nat := [0, 0, 3, 0, 8, 26, 63, 0, 128, 442, 1023, 0, 2048, 6144, 0, 16384, 63488, 129024, 262143, 0, 524288, 1573818, 4194303, 8388607]
theorem spec_l11Put.tab9 : rtab .any (opsOf Try.f89 9) = spec_l11Put.T9 := by kernel_rfl
theorem spec_l11Put.bits9 : waitsOk spec_l11Put.T9.2 spec_l11Put.B9 = true := by kernel_rfl
def spec_l11Put.T11 : Bool × List (List Nat × List Nat) := (true, [([], []), ([], []), ([1], [1]), ([], []), ([3], [3]), ([4], [4]), ([2, 5, 2], [2, 5]), ([0, 6], [0, 6]), ([7, 6, 0, 1, 2, 3, 4, 5, 6, 7], [7])])
def spec_l11Put.B11 : List Nat := [0, 0, 2, 0, 8, 24, 62, 127, 255]
theorem spec_l11Put.tab11 : rtab .any (opsOf Try.f89 11) = spec_l11Put.T11 := by kernel_rfl
theorem spec_l11Put.bits11 : waitsOk spec_l11Put.T11.2 spec_l11Put.B11 = true := by kernel_rfl
set_option maxHeartbeats 8000000 in
set_option maxRecDepth 100000 in
theorem spec_l11Put.calls (k : Nat) (a0_0 : Int) (a0_1 : Int) (a0_2 : Int) (a0_3 : Int) (A0_4 : Option Addr) (c0_4 : Nat) (l0_4 : List Int) (A0_5 : Option Addr) (c0_5 : Nat) (l0_5 : List Int) (a1 : Bool) (r : ByteArray) (w : World) (hr0_4 : Kd.C (Kd.int .i64) w A0_4 l0_4.length l0_4) (hc0_4 : l0_4.length ≤ c0_4) (hr0_5 : Kd.C (Kd.int .i64) w A0_5 l0_5.length l0_5) (hc0_5 : l0_5.length ≤ c0_5) (h : spec_l11Put.f k a0_0 a0_1 a0_2 a0_3 l0_4 l0_5 a1 = some r) :
 Calls Try.prog 89 #[.agg #[.int .i64 a0_0, .int .i64 a0_1, .int .i64 a0_2, .int .i64 a0_3, .slice A0_4 l0_4.length c0_4, .slice A0_5 l0_5.length c0_5], .bool a1] w fun e w' => e = .returned (.string r) ∧ Below w.heap.size w w' := by
 have hu40 := Try.underlying40; have HR0_4 := Aside0.mk hr0_4; have HC0_4 := Aside0.mk hc0_4; clear hr0_4 hc0_4; have HR0_5 := Aside0.mk hr0_5; have HC0_5 := Aside0.mk hc0_5; clear hr0_5 hc0_5; have HB := Aside0.mk (Below.refl w.heap.size w); have H : ((spec_l11Tga.f k a0_0 a0_1 a0_2 a0_3 l0_4 l0_5).bind fun t809 => ((spec_l9Flag.f a1).bind fun t810 => (if (l0_4.length : Int) > 0 then (spec_l11Put.j0 k a1 (wrap64 (t809 + (wrap64 (8 * t810)))) 24 a0_0 a0_1 a0_2 a0_3 l0_4 l0_5) else (spec_l11Put.j0 k a1 (wrap64 (t809 + (wrap64 (8 * t810)))) 0 a0_0 a0_1 a0_2 a0_3 l0_4 l0_5)))) = some r := h; clear h; replace H := Option.bind_eq_some_iff.mp H; obtain ⟨t809, A30, H⟩ := H; have A3 := Aside0.mk A30; clear A30; replace H := Option.bind_eq_some_iff.mp H; obtain ⟨t810, A40, H⟩ := H; have A4 := Aside0.mk A40; clear A40; have HC5 := Aside0.mk H; clear H; go_enter Try.func89, Try.ntmps89
 go_upto_if 19 with (first | ((with_reducible refine gate_dst (N := 2) rfl ?_); refine box_event ?hg (N := 2) ?hd (cs := #[.int .i64 a0_0, .int .i64 a0_1, .int .i64 a0_2, .int .i64 a0_3, .slice A0_4 l0_4.length c0_4, .slice A0_5 l0_5.length c0_5]) (t := 40) ?hr ?_; (case hd => rfl); (case hg => rfl); (case hr => first | (go_simp; done) | (go_simp; rfl)); intro gb808 hg w6 hbox hb; have n0_ := Sq.s_ HB hb; have n1_ := Aside0.mk (hbox); have n2_ := Sq.g_ HB hg; have n3_ := Sq.g_ HB hg; clear HB; have HB := n0_; have BK808 := n1_; have GW808 := n2_; have GE808 := n3_; have GO808 := Sq.o_ GE808; clear n0_ n1_ n2_ n3_; clear hb hbox hg; obtain ⟨hcz7_0, hcz7_1, hcz7_2, hcz7_3, hcz7_4, hcz7_5, hfz7_0, hfz7_1, hfz7_2, hfz7_3, hfz7_4, hfz7_5⟩ := Sq.cell6 BK808) | ((with_reducible refine gate_callee (f := 82) rfl ?_); refine goesL_ (some 11) rfl rfl Try.func82 (by kernel_rfl) rfl #[.agg #[.int .i64 a0_0, .int .i64 a0_1, .int .i64 a0_2, .int .i64 a0_3, .slice A0_4 l0_4.length c0_4, .slice A0_5 l0_5.length c0_5]] rfl (by (try simp only [Sq.mp]); first | done | rfl | (simp only [List.length_drop, List.length_take]; rfl)) ?_; (with_reducible refine (spec_l11Tga.calls k a0_0 a0_1 a0_2 a0_3 _ _ l0_4 _ _ l0_5 t809 _ ?side1 ?side2 ?side3 ?side4 A3.out).mono ?_); (case side1 => exact Sq.i_ HR0_4 HB); (case side2 => exact HC0_4.out); (case side3 => exact Sq.i_ HR0_5 HB); (case side4 => exact HC0_5.out); rintro e w8 ⟨rfl, hb⟩; refine ⟨_, rfl, ?_⟩; have n0_ := Sq.b_ BK808 hb; have n1_ := Sq.us HB hb; clear BK808; clear HB; have BK808 := n0_; have HB := n1_; clear n0_ n1_; (try clear hb); (try clear hb2); (try clear hk); (try clear hi)) | ((with_reducible refine gate_callee (f := 110) rfl ?_); refine goesL_ (some 13) rfl rfl Try.func110 (by kernel_rfl) rfl #[.bool a1] rfl (by (try simp only [Sq.mp]); first | done | rfl | (simp only [List.length_drop, List.length_take]; rfl)) ?_; (with_reducible refine (spec_l9Flag.calls a1 t810 _ A4.out).mono ?_); rintro e w' ⟨rfl, ⟨nd, rfl⟩⟩; refine ⟨_, rfl, ?_⟩; obtain ⟨hcz9_0, hcz9_1, hcz9_2, hcz9_3, hcz9_4, hcz9_5, hfz9_0, hfz9_1, hfz9_2, hfz9_3, hfz9_4, hfz9_5⟩ := Sq.cell6 BK808))
 (try simp only [Act.put, List.setIfInBounds_toArray, List.set_cons_zero, List.set_cons_succ])
 go_cut [6] (fun v6 wc => ∃ (kq : Nat) (x6_4 : Int), v6 = .int .i64 x6_4 ∧ Aside0 (spec_l11Put.j0 kq a1 (wrap64 (t809 + (wrap64 (8 * t810)))) x6_4 a0_0 a0_1 a0_2 a0_3 l0_4 l0_5 = some r) ∧ Aside0 (kq ≤ k) ∧ Aside0 (wc.heap[gb808]? = some (.cells #[.int .i64 a0_0, .int .i64 a0_1, .int .i64 a0_2, .int .i64 a0_3, (.slice A0_4 l0_4.length c0_4), (.slice A0_5 l0_5.length c0_5)] 40 (0, 0))) ∧ Aside0 (Below w.heap.size w wc))
 case first =>
  have H := HC5.out; clear HC5
  by_cases c10 : (l0_4.length : Int) > 0
  ·rw [if_pos c10] at H; have c10b0 : decide (0 < (l0_4.length : Int)) = true := decide_eq_true c10; have c10b1 : decide (0 < l0_4.length) = true := decide_eq_true (by omega); clear c10; (first | rw [c10b0] | (simp only [i64_w, i32_w]; rw [c10b0]) | rw [c10b1] | skip)
   have H' := Aside0.mk H; clear H; go_wp2
   go_meet
   case rel => exact ⟨_, (24), (by first | rfl | (simp; done) | (simp [*]; done)), H', ⟨by first | omega | exact Nat.le_refl _⟩, Sq.kk_ BK808, ⟨(Sq.ut HB)⟩⟩
  ·rw [if_neg c10] at H; have c10b0 : decide (0 < (l0_4.length : Int)) = false := decide_eq_false c10; have c10b1 : decide (0 < l0_4.length) = false := decide_eq_false (by omega); clear c10; (first | rw [c10b0] | (simp only [i64_w, i32_w]; rw [c10b0]) | rw [c10b1] | skip)
   have H' := Aside0.mk H; clear H; go_wp2
   go_meet
   case rel => exact ⟨_, (0), (by first | rfl | (simp; done) | (simp [*]; done)), H', ⟨by first | omega | exact Nat.le_refl _⟩, Sq.kk_ BK808, ⟨(Sq.ut HB)⟩⟩
 case rest =>
  clear HC5; try clear c1
  try clear p2
  try clear p6
  try clear c8
  try clear c10
  try clear c10b0
  try clear c10b1
  try clear hcz7_0 hcz7_1 hcz7_2 hcz7_3 hcz7_4 hcz7_5 hcz9_0 hcz9_1 hcz9_2 hcz9_3 hcz9_4 hcz9_5 hfz7_0 hfz7_1 hfz7_2 hfz7_3 hfz7_4 hfz7_5 hfz9_0 hfz9_1 hfz9_2 hfz9_3 hfz9_4 hfz9_5
  obtain ⟨kq, x6_4, rfl, HA, HJ4, BK808, HB⟩ := hcut; cases kq with
  | zero => exact absurd HA.out (by simp [spec_l11Put.j0])
  | succ kj4 =>
   have H := HA.out; clear HA; simp only [spec_l11Put.j0] at H; have HC11 := Aside0.mk H; clear H; obtain ⟨hcz12_0, hcz12_1, hcz12_2, hcz12_3, hcz12_4, hcz12_5, hfz12_0, hfz12_1, hfz12_2, hfz12_3, hfz12_4, hfz12_5⟩ := Sq.cell6 BK808; go_upto_if 22 with (fail)
   go_cut [7] (fun v7 wc => ∃ (kq : Nat) (x7_10 : Int), v7 = .int .i64 x7_10 ∧ Aside0 (spec_l11Put.j1 kq a1 (wrap64 (t809 + (wrap64 (8 * t810)))) x6_4 x7_10 a0_0 a0_1 a0_2 a0_3 l0_4 l0_5 = some r) ∧ Aside0 (kq ≤ kj4) ∧ Aside0 (wc.heap[gb808]? = some (.cells #[.int .i64 a0_0, .int .i64 a0_1, .int .i64 a0_2, .int .i64 a0_3, (.slice A0_4 l0_4.length c0_4), (.slice A0_5 l0_5.length c0_5)] 40 (0, 0))) ∧ Aside0 (Below w.heap.size w wc))
   case first =>
    have H := HC11.out; clear HC11
    by_cases c13 : a0_0 = 3
    ·rw [if_pos c13] at H; have c13b0 : (a0_0 == 3) = true := beq_iff_eq.mpr c13; have c13b1 : (a0_0 != 3) = false := bne_eq_false_iff_eq.mpr c13; clear c13; (first | rw [c13b0] | (simp only [i64_w, i32_w]; rw [c13b0]) | rw [c13b1] | skip)
     have H' := Aside0.mk H; clear H; go_wp2
     go_meet
     case rel => exact ⟨_, (40), (by first | rfl | (simp; done) | (simp [*]; done)), H', ⟨by have := HJ4.out; first | omega | exact Nat.le_refl _⟩, Sq.kk_ BK808, ⟨(Sq.ut HB)⟩⟩
    ·rw [if_neg c13] at H; have c13b0 : (a0_0 == 3) = false := beq_eq_false_iff_ne.mpr c13; have c13b1 : (a0_0 != 3) = true := bne_iff_ne.mpr c13; (first | rw [c13b0] | (simp only [i64_w, i32_w]; rw [c13b0]) | rw [c13b1] | skip)
     have H' := Aside0.mk H; clear H; go_wp2
     go_meet
     case rel => exact ⟨_, (32), (by first | rfl | (simp; done) | (simp [*]; done)), H', ⟨by have := HJ4.out; first | omega | exact Nat.le_refl _⟩, Sq.kk_ BK808, ⟨(Sq.ut HB)⟩⟩
   case rest =>
    clear HC11; try clear c1
    try clear p2
    try clear p6
    try clear c8
    try clear c10
    try clear c10b0
    try clear c10b1
    try clear c11
    try clear c13
    try clear c13b0
    try clear c13b1
    try clear hcz12_0 hcz12_1 hcz12_2 hcz12_3 hcz12_4 hcz12_5 hcz7_0 hcz7_1 hcz7_2 hcz7_3 hcz7_4 hcz7_5 hcz9_0 hcz9_1 hcz9_2 hcz9_3 hcz9_4 hcz9_5 hfz12_0 hfz12_1 hfz12_2 hfz12_3 hfz12_4 hfz12_5 hfz7_0 hfz7_1 hfz7_2 hfz7_3 hfz7_4 hfz7_5 hfz9_0 hfz9_1 hfz9_2 hfz9_3 hfz9_4 hfz9_5
    try clear p2
    try clear p6
    obtain ⟨kq, x7_10, rfl, HA, HJ10, BK808, HB⟩ := hcut; cases kq with
    | zero => exact absurd HA.out (by simp [spec_l11Put.j1])
    | succ kj10 =>
     have H := HA.out; clear HA; simp only [spec_l11Put.j1] at H; replace H := Option.bind_eq_some_iff.mp H; obtain ⟨t811, A140, H⟩ := H; have A14 := Aside0.mk A140; clear A140; obtain ⟨y812, hy812⟩ : ∃ y_ : List Int, y_ = (([0, (t811) % 256, ((wrap64 (t809 + (wrap64 (8 * t810))))) % 256] : List Int)) := ⟨_, rfl⟩; replace H := Sq.y hy812 H; have Ny812 := Aside0.mk hy812; clear hy812; replace H := Option.bind_eq_some_iff.mp H; obtain ⟨t815, A150, H⟩ := H; have A15 := Aside0.mk A150; clear A150
     by_cases c16 : (strOfNums y812).size + t815.size ≤ 9223372036854775807
     ·rw [if_pos c16] at H; have c16b0 := eq_true c16; have c16b1 : decide ((strOfNums y812).size + t815.size ≤ 9223372036854775807) = true := decide_eq_true c16; try have c16b2 : (9223372036854775807 < (strOfNums y812).size + t815.size) = False := eq_false (Nat.not_lt.2 c16)
      replace H := Option.bind_eq_some_iff.mp H; obtain ⟨t816, A170, H⟩ := H; have A17 := Aside0.mk A170; clear A170
      by_cases c18 : ((strOfNums y812) ++ t815).size + t816.size ≤ 9223372036854775807
      ·rw [if_pos c18] at H; have c18b0 := eq_true c18; have c18b1 : decide (((strOfNums y812) ++ t815).size + t816.size ≤ 9223372036854775807) = true := decide_eq_true c18; try have c18b2 : (9223372036854775807 < ((strOfNums y812) ++ t815).size + t816.size) = False := eq_false (Nat.not_lt.2 c18)
       try have c18b3 := c18b2
       try simp only [ByteArray.size_append] at c18b3
       obtain ⟨y817, hy817⟩ : ∃ y_ : List Int, y_ = (([(x6_4) % 256] : List Int)) := ⟨_, rfl⟩; replace H := Sq.y hy817 H; have Ny817 := Aside0.mk hy817; clear hy817
       by_cases c19 : (((strOfNums y812) ++ t815) ++ t816).size + (strOfNums y817).size ≤ 9223372036854775807
       ·rw [if_pos c19] at H; have c19b0 := eq_true c19; have c19b1 : decide ((((strOfNums y812) ++ t815) ++ t816).size + (strOfNums y817).size ≤ 9223372036854775807) = true := decide_eq_true c19; try have c19b2 : (9223372036854775807 < (((strOfNums y812) ++ t815) ++ t816).size + (strOfNums y817).size) = False := eq_false (Nat.not_lt.2 c19)
        try have c19b3 := c19b2
        try simp only [ByteArray.size_append] at c19b3
        replace H := Option.bind_eq_some_iff.mp H; obtain ⟨t820, A200, H⟩ := H; have A20 := Aside0.mk A200; clear A200
        by_cases c21 : ((((strOfNums y812) ++ t815) ++ t816) ++ (strOfNums y817)).size + t820.size ≤ 9223372036854775807
        ·rw [if_pos c21] at H; have c21b0 := eq_true c21; have c21b1 : decide (((((strOfNums y812) ++ t815) ++ t816) ++ (strOfNums y817)).size + t820.size ≤ 9223372036854775807) = true := decide_eq_true c21; try have c21b2 : (9223372036854775807 < ((((strOfNums y812) ++ t815) ++ t816) ++ (strOfNums y817)).size + t820.size) = False := eq_false (Nat.not_lt.2 c21)
         try have c21b3 := c21b2
         try simp only [ByteArray.size_append] at c21b3
         replace H := Option.bind_eq_some_iff.mp H; obtain ⟨t821, A220, H⟩ := H; have A22 := Aside0.mk A220; clear A220
         by_cases c23 : (((((strOfNums y812) ++ t815) ++ t816) ++ (strOfNums y817)) ++ t820).size + t821.size ≤ 9223372036854775807
         ·rw [if_pos c23] at H; have c23b0 := eq_true c23; have c23b1 : decide ((((((strOfNums y812) ++ t815) ++ t816) ++ (strOfNums y817)) ++ t820).size + t821.size ≤ 9223372036854775807) = true := decide_eq_true c23; try have c23b2 : (9223372036854775807 < (((((strOfNums y812) ++ t815) ++ t816) ++ (strOfNums y817)) ++ t820).size + t821.size) = False := eq_false (Nat.not_lt.2 c23)
          try have c23b3 := c23b2
          try simp only [ByteArray.size_append] at c23b3
          replace H := Option.bind_eq_some_iff.mp H; obtain ⟨t822, A240, H⟩ := H; have A24 := Aside0.mk A240; clear A240
          by_cases c25 : ((((((strOfNums y812) ++ t815) ++ t816) ++ (strOfNums y817)) ++ t820) ++ t821).size + t822.size ≤ 9223372036854775807
          ·rw [if_pos c25] at H; have c25b0 := eq_true c25; have c25b1 : decide (((((((strOfNums y812) ++ t815) ++ t816) ++ (strOfNums y817)) ++ t820) ++ t821).size + t822.size ≤ 9223372036854775807) = true := decide_eq_true c25; try have c25b2 : (9223372036854775807 < ((((((strOfNums y812) ++ t815) ++ t816) ++ (strOfNums y817)) ++ t820) ++ t821).size + t822.size) = False := eq_false (Nat.not_lt.2 c25)
           try have c25b3 := c25b2
           try simp only [ByteArray.size_append] at c25b3
           obtain ⟨y823, hy823⟩ : ∃ y_ : List Int, y_ = (([(a0_1) % 256, (x7_10) % 256] : List Int)) := ⟨_, rfl⟩; replace H := Sq.y hy823 H; have Ny823 := Aside0.mk hy823; clear hy823
           by_cases c26 : (((((((strOfNums y812) ++ t815) ++ t816) ++ (strOfNums y817)) ++ t820) ++ t821) ++ t822).size + (strOfNums y823).size ≤ 9223372036854775807
           ·rw [if_pos c26] at H; have c26b0 := eq_true c26; have c26b1 : decide ((((((((strOfNums y812) ++ t815) ++ t816) ++ (strOfNums y817)) ++ t820) ++ t821) ++ t822).size + (strOfNums y823).size ≤ 9223372036854775807) = true := decide_eq_true c26; try have c26b2 : (9223372036854775807 < (((((((strOfNums y812) ++ t815) ++ t816) ++ (strOfNums y817)) ++ t820) ++ t821) ++ t822).size + (strOfNums y823).size) = False := eq_false (Nat.not_lt.2 c26)
            try have c26b3 := c26b2
            try simp only [ByteArray.size_append] at c26b3
            replace H := Option.bind_eq_some_iff.mp H; obtain ⟨t826, A270, H⟩ := H; have A27 := Aside0.mk A270; clear A270
            by_cases c28 : ((((((((strOfNums y812) ++ t815) ++ t816) ++ (strOfNums y817)) ++ t820) ++ t821) ++ t822) ++ (strOfNums y823)).size + t826.size ≤ 9223372036854775807
            ·rw [if_pos c28] at H; have c28b0 := eq_true c28; have c28b1 : decide (((((((((strOfNums y812) ++ t815) ++ t816) ++ (strOfNums y817)) ++ t820) ++ t821) ++ t822) ++ (strOfNums y823)).size + t826.size ≤ 9223372036854775807) = true := decide_eq_true c28; try have c28b2 : (9223372036854775807 < ((((((((strOfNums y812) ++ t815) ++ t816) ++ (strOfNums y817)) ++ t820) ++ t821) ++ t822) ++ (strOfNums y823)).size + t826.size) = False := eq_false (Nat.not_lt.2 c28)
             try have c28b3 := c28b2
             try simp only [ByteArray.size_append] at c28b3
             by_cases c29 : a1 = true
             ·subst c29; replace H := Sq.t H; replace H := Option.bind_eq_some_iff.mp H; obtain ⟨t827, A300, H⟩ := H; have A30 := Aside0.mk A300; clear A300; replace H := Option.bind_eq_some_iff.mp H; obtain ⟨t830, A310, H⟩ := H; have A31 := Aside0.mk A310; clear A310
              by_cases c32 : (((((((((strOfNums y812) ++ t815) ++ t816) ++ (strOfNums y817)) ++ t820) ++ t821) ++ t822) ++ (strOfNums y823)) ++ t826).size + t830.size ≤ 9223372036854775807
              ·rw [if_pos c32] at H; have c32b0 := eq_true c32; have c32b1 : decide ((((((((((strOfNums y812) ++ t815) ++ t816) ++ (strOfNums y817)) ++ t820) ++ t821) ++ t822) ++ (strOfNums y823)) ++ t826).size + t830.size ≤ 9223372036854775807) = true := decide_eq_true c32; try have c32b2 : (9223372036854775807 < (((((((((strOfNums y812) ++ t815) ++ t816) ++ (strOfNums y817)) ++ t820) ++ t821) ++ t822) ++ (strOfNums y823)) ++ t826).size + t830.size) = False := eq_false (Nat.not_lt.2 c32)
               try have c32b3 := c32b2
               try simp only [ByteArray.size_append] at c32b3
               obtain rfl := Option.some.inj H; try go_wp2
               have n0_ := Aside0.mk (blk_drew BK808.out); have n1_ := Aside0.mk (below_drew1 HB.out); clear BK808; clear HB; have BK808 := n0_; have HB := n1_; clear n0_ n1_; refine start_ (n := 23) (S := fun w' => Sq.C6 w' gb808 (.int .i64 a0_0) (.int .i64 a0_1) (.int .i64 a0_2) (.int .i64 a0_3) (.slice A0_4 l0_4.length c0_4) (.slice A0_5 l0_5.length c0_5)) (ds := []) #[false, false, false, false, false, false, false, false, false, false, false, false, false, false, false, false, false, false, false, false, false, false, false] (by kernel_rfl) rfl rfl (Sq.c6 BK808) (fun hHeld => ?_); refine with_tabW spec_l11Put.tab8 spec_l11Put.bits8 (fun HT_ HW_ => ?_)
               generalize wc.drew = w33 at BK808 HB hHeld ⊢; refine Sq.p_ 0 23 ?_ (Sq.b 23 1) rfl rfl HT_ (by kernel_rfl) (fun _ _ _ h => h) (Or.inl ⟨by rfl, ?_⟩) ?_ ?_ ?_
               rotate_left
               ·intro w'; go_simp; with_reducible rfl
               rotate_left
               ·simp only [Sq.put]; rfl
               refine Sq.p_ 6 29 ?_ (Sq.b 23 65) rfl rfl HT_ (by kernel_rfl) (fun _ _ _ h => h) (Or.inl ⟨by rfl, ?_⟩) ?_ ?_ ?_
               rotate_left
               ·intro w'; go_simp; with_reducible rfl
               rotate_left
               ·simp only [Sq.put]; rfl
               refine Sq.p_ 7 30 ?_ (Sq.b 23 193) rfl rfl HT_ (by kernel_rfl) (fun _ _ _ h => h) (Or.inl ⟨by rfl, ?_⟩) ?_ ?_ ?_
               rotate_left
               ·intro w'; go_simp; with_reducible rfl
               rotate_left
               ·simp only [Sq.put]; rfl
               refine Sq.p_ 12 35 ?_ (Sq.b 23 4289) rfl rfl HT_ (by kernel_rfl) (fun _ _ _ h => h) (Or.inl ⟨by rfl, ?_⟩) ?_ ?_ ?_
               rotate_left
               ·intro w'; go_simp; with_reducible rfl
               rotate_left
               ·simp only [Sq.put]; rfl
               refine Sq.p_ 17 40 ?_ (Sq.b 23 135361) rfl rfl HT_ (by kernel_rfl) (fun _ _ _ h => h) (Or.inl ⟨by rfl, ?_⟩) ?_ ?_ ?_
               rotate_left
               ·intro w'; go_simp; with_reducible rfl
               rotate_left
               ·simp only [Sq.put]; rfl
               refine Sq.p_ 18 41 ?_ (Sq.b 23 397505) rfl rfl HT_ (by kernel_rfl) (fun _ _ _ h => h) (Or.inl ⟨by rfl, ?_⟩) ?_ ?_ ?_
               rotate_left
               ·intro w'; go_simp; with_reducible rfl
               rotate_left
               ·simp only [Sq.put]; rfl
               refine Sq.k 1 24 ?_ (Sq.b 23 397507) rfl rfl HT_ HW_ (by kernel_rfl) (fun _ _ _ h => h) (Or.inl ⟨by rfl, ?_⟩) hHeld ?_ ?_ ?_
               rotate_left
               ·rintro w' ⟨s0, s1, s2, s3, s4, s5⟩; go_simp; with_reducible rfl
               rotate_left
               ·simp only [Sq.put]; rfl
               refine Sq.p_ 2 25 ?_ (Sq.b 23 397511) rfl rfl HT_ (by kernel_rfl) (fun _ _ _ h => h) (Or.inl ⟨by rfl, ?_⟩) ?_ ?_ ?_
               rotate_left
               ·intro w'; go_simp; with_reducible rfl
               rotate_left
               ·simp only [Sq.put]; rfl
               refine Sq.p_ 3 26 ?_ (Sq.b 23 397519) rfl rfl HT_ (by kernel_rfl) (fun _ _ _ h => h) (Or.inl ⟨by rfl, ?_⟩) ?_ ?_ ?_
               rotate_left
               ·intro w'; go_simp; with_reducible rfl
               rotate_left
               ·simp only [Sq.put]; rfl
               refine Sq.k 13 36 ?_ (Sq.b 23 405711) rfl rfl HT_ HW_ (by kernel_rfl) (fun _ _ _ h => h) (Or.inl ⟨by rfl, ?_⟩) hHeld ?_ ?_ ?_
               rotate_left
               ·rintro w' ⟨s0, s1, s2, s3, s4, s5⟩; go_simp; with_reducible rfl
               rotate_left
               ·simp only [Sq.put]; rfl
               refine Sq.p_ 14 37 ?_ (Sq.b 23 422095) rfl rfl HT_ (by kernel_rfl) (fun _ _ _ h => h) (Or.inl ⟨by rfl, ?_⟩) ?_ ?_ ?_
               rotate_left
               ·intro w'; go_simp; with_reducible rfl
               rotate_left
               ·simp only [Sq.put]; rfl
               refine Reg.size_ (fun N0_ hN0_ => ?_); refine Reg.mid_ #[true, true, true, true, true, true, true, true, true, true, true, true, true, true, true, true, true, true, true, true, true, false, false] [0, 1, 3, 7, 15, 31, 0, 64, 255, 511, 31, 2047, 0, 4096, 12288, 29727, 65535, 0, 131072, 393216, 917504, 2097151, 4194303] [(27, 4), (28, 5), (31, 8), (32, 9), (33, 10), (34, 11), (38, 15), (39, 16), (42, 19), (43, 20)] [4, 5, 8, 9, 10, 11, 15, 16, 19, 20] [8, 19] (Reg.sel [(4, fun v_ _ => v_ = .int .i64 t811), (5, fun v_ _ => v_ = .int .u8 ((t811) % 256)), (8, fun v_ w' => (Kd.R (Kd.int .u8) 5 w' w.heap.size (fun _ => True) v_ y812) ∧ ∀ b_, (v_ : Value).ownBlock = some b_ → N0_ ≤ b_), (9, fun v_ _ => v_ = .string (strOfNums y812)), (10, fun v_ _ => v_ = .string t815), (11, fun v_ _ => v_ = .string ((strOfNums y812) ++ t815)), (15, fun v_ _ => v_ = .string t816), (16, fun v_ _ => v_ = .string (((strOfNums y812) ++ t815) ++ t816)), (19, fun v_ w' => (Kd.R (Kd.int .u8) 5 w' w.heap.size (fun _ => True) v_ y817) ∧ ∀ b_, (v_ : Value).ownBlock = some b_ → N0_ ≤ b_), (20, fun v_ _ => v_ = .string (strOfNums y817))]) (fun w' => (Sq.C6 w' gb808 (.int .i64 a0_0) (.int .i64 a0_1) (.int .i64 a0_2) (.int .i64 a0_3) (.slice A0_4 l0_4.length c0_4) (.slice A0_5 l0_5.length c0_5)) ∧ (N0_ ≤ w'.heap.size) ∧ (w'.heap[gb808]? = some (.cells #[.int .i64 a0_0, .int .i64 a0_1, .int .i64 a0_2, .int .i64 a0_3, .slice A0_4 l0_4.length c0_4, .slice A0_5 l0_5.length c0_5] 40 (0, 0))) ∧ (Below w.heap.size w w')) 2 (by kernel_rfl) (by kernel_rfl) (by kernel_rfl) (by kernel_rfl) rfl ?hD1_ ?hG1_ ?hS1_ ?hW1_ ?hO1_ ?hE1_
               case hD1_ => exact Reg.sel_st ⟨fun _ _ _ h_ _ => h_, fun _ _ _ h_ _ => h_, fun _ _ _ h_ hb_ => ⟨Kd.R_below h_.1 hb_, h_.2⟩, fun _ _ _ h_ _ => h_, fun _ _ _ h_ _ => h_, fun _ _ _ h_ _ => h_, fun _ _ _ h_ _ => h_, fun _ _ _ h_ _ => h_, fun _ _ _ h_ hb_ => ⟨Kd.R_below h_.1 hb_, h_.2⟩, fun _ _ _ h_ _ => h_, trivial⟩
               case hG1_ =>
                rintro w1_ w2_ ⟨⟨c0_, c1_, c2_, c3_, c4_, c5_⟩, hN_, b2_, b3_⟩ hb_; exact ⟨⟨Reg.cell_step c0_ hb_, Reg.cell_step c1_ hb_, Reg.cell_step c2_ hb_, Reg.cell_step c3_ hb_, Reg.cell_step c4_ hb_, Reg.cell_step c5_ hb_⟩, Nat.le_trans hN_ (below_size hb_), (by first | exact blk_below b2_ hb_ | exact below_step b2_ hb_ | exact Kd.R_below b2_ hb_ | exact Kd.C_below b2_ hb_), (by first | exact blk_below b3_ hb_ | exact below_step b3_ hb_ | exact Kd.R_below b3_ hb_ | exact Kd.C_below b3_ hb_)⟩
               case hS1_ => exact fun _ h_ => h_.1
               case hW1_ => exact ⟨hHeld, Nat.le_of_eq hN0_, (by (with_reducible repeat (first | refine blk_drewN ?_ _ | refine blk_drew ?_ | refine blk_alloc ?_ _ | apply below_alloc | apply pw_below_drewN | apply below_drew1 | apply Kd.R_alloc | apply Kd.R_drewN | apply Kd.R_drew)); exact BK808.out), (by (with_reducible repeat (first | refine blk_drewN ?_ _ | refine blk_drew ?_ | refine blk_alloc ?_ _ | apply below_alloc | apply pw_below_drewN | apply below_drew1 | apply Kd.R_alloc | apply Kd.R_drewN | apply Kd.R_drew)); exact HB.out)⟩
               case hO1_ =>
                refine ⟨?_, ?_, ?_, ?_, ?_, ?_, ?_, ?_, ?_, ?_, trivial⟩
                ·intro o_ ho_; simp only [Sq.ge] at ho_; subst ho_; intro u_ w1_ hG_ hP_ K hK; have hN_ := hG_.2.1; clear BK808; clear HB; have BK808 := Aside0.mk hG_.2.2.1; have HB := Aside0.mk hG_.2.2.2; clear hG_; clear hP_; refine ⟨?_⟩; generalize hfr_ : Reg.frame _ _ u_ = fr_ at hK ⊢; simp only [Sq.frm] at hfr_; subst hfr_; refine goes_ Try.func110 (by kernel_rfl) rfl #[.bool (decide (0 < l0_4.length))] (by rfl) rfl rfl (by (try simp only [Sq.mp]); first | done | rfl | (simp only [List.length_drop, List.length_take]; rfl)) ?_; with_reducible refine (spec_l9Flag.calls (decide (0 < l0_4.length)) t811 _ (by have h_ := A14.out; rw [show (decide ((l0_4.length : Int) > 0)) = decide (0 < l0_4.length) from by simp] at h_; exact h_)).mono ?_
                 rintro e w' ⟨rfl, ⟨nd, rfl⟩⟩; refine ⟨_, rfl, ?_⟩; exact hK _ _ rfl (pw_below_drewN (Below.refl _ _) nd) (fun h_ => by cases h_)
                ·intro o_ ho_; simp only [Sq.ge] at ho_; subst ho_; intro u_ w1_ hG_ hP_ K hK; have hN_ := hG_.2.1; clear BK808; clear HB; have BK808 := Aside0.mk hG_.2.2.1; have HB := Aside0.mk hG_.2.2.2; clear hG_; have e4_ : u_ 4 = .int .i64 t811 := hP_ 4 (by decide) (by rfl); clear hP_; refine ⟨?_⟩; generalize hfr_ : Reg.frame _ _ u_ = fr_ at hK ⊢; simp only [Sq.frm, e4_] at hfr_; subst hfr_; clear e4_; refine value_ (w1 := ?_) (v := ?_) (by rfl) rfl ?_ ?_
                 rotate_left 2
                 ·go_simp
                  constructor
                  ·rfl
                  ·rfl
                 exact hK _ _ (by first | rfl | (simp only [i64_w, i32_w]; rfl)) (Below.refl _ _) (fun h_ => by cases h_)
                ·intro o_ ho_; simp only [Sq.ge] at ho_; subst ho_; intro u_ w1_ hG_ hP_ K hK; have hN_ := hG_.2.1; clear BK808; clear HB; have BK808 := Aside0.mk hG_.2.2.1; have HB := Aside0.mk hG_.2.2.2; clear hG_; have e4_ : u_ 4 = .int .i64 t811 := hP_ 4 (by decide) (by rfl); have e5_ : u_ 5 = .int .u8 ((t811) % 256) := hP_ 5 (by decide) (by rfl); clear hP_; refine ⟨?_⟩; generalize hfr_ : Reg.frame _ _ u_ = fr_ at hK ⊢; simp only [Sq.frm, e4_, e5_] at hfr_; subst hfr_; clear e4_ e5_; refine Kd.R_lit_step (Kd.int .u8) _ 5 ?hg (N := 31) ?hd (xs := ([0, (t811) % 256, ((wrap64 (t809 + (wrap64 (8 * t810))))) % 256] : List Int)) (inner := [.int .u8 0, .int .u8 ((t811) % 256), .int .u8 (((wrap64 (t809 + (wrap64 (8 * t810))))) % 256)]) (ok := fun _ => True) (okp := fun _ => True) ?hr ?hp (fun _ hk => hk) trivial (Below.refl _ _) (Nat.le_refl _) (by simp) ?_; (case hd => rfl); (case hg => rfl); (case hr => first | (go_simp; done) | (go_simp; rfl)); (case hp => exact (Reps.one (show Kd.M (Kd.int .u8) _ _ _ 0 [.int .u8 0] from rfl) (Reps.one (show Kd.M (Kd.int .u8) _ _ _ ((t811) % 256) [.int .u8 ((t811) % 256)] from rfl) (Reps.one (show Kd.M (Kd.int .u8) _ _ _ (((wrap64 (t809 + (wrap64 (8 * t810))))) % 256) [.int .u8 (((wrap64 (t809 + (wrap64 (8 * t810))))) % 256)] from rfl) (Reps.none _ _)))))
                 intro v813 w35 ho36 hb hg_ hnew_; (first | rw [← Ny812.out] at ho36 | (simp only [Int.reduceToNat] at ho36; rw [← Ny812.out] at ho36))
                 exact hK _ _ ⟨Kd.R_mono (Kd.R_lower ho36 (below_size HB.out)) (fun _ _ => trivial), fun b_ h_ => Nat.le_trans hN_ (Kd.R_base ho36 b_ h_)⟩ hb (fun _ b_ h_ => ⟨Kd.R_base ho36 b_ h_, Kd.R_lt ho36 b_ h_⟩)
                ·intro o_ ho_; simp only [Sq.ge] at ho_; subst ho_; intro u_ w1_ hG_ hP_ K hK; have hN_ := hG_.2.1; clear BK808; clear HB; have BK808 := Aside0.mk hG_.2.2.1; have HB := Aside0.mk hG_.2.2.2; clear hG_; have e4_ : u_ 4 = .int .i64 t811 := hP_ 4 (by decide) (by rfl); have e5_ : u_ 5 = .int .u8 ((t811) % 256) := hP_ 5 (by decide) (by rfl); obtain ⟨v813, hv8_⟩ : ∃ v_, v_ = u_ 8 := ⟨_, rfl⟩; have e8_ := hP_ 8 (by decide) (by rfl); have e8_ : (Kd.R (Kd.int .u8) 5 w1_ w.heap.size (fun _ => True) v813 y812) ∧ ∀ b_, (v813 : Value).ownBlock = some b_ → N0_ ≤ b_ := by rw [hv8_]; exact e8_
                 have HO814 := Aside0.mk e8_.1; clear e8_; clear hP_; refine ⟨?_⟩; generalize hfr_ : Reg.frame _ _ u_ = fr_ at hK ⊢; simp only [Sq.frm, e4_, e5_, ← hv8_] at hfr_; subst hfr_; clear e4_ e5_ hv8_; have hcv37 := own_string (P := Try.prog) Try.underlying28 Try.underlying5 Try.underlying9 (Kd.own_of_R HO814.out); refine value_ (w1 := ?_) (v := ?_) (by rfl) rfl ?_ ?_
                 rotate_left 2
                 ·go_simp
                  constructor
                  ·rfl
                  ·rfl
                 exact hK _ _ (by first | rfl | (simp only [i64_w, i32_w]; rfl)) (Below.refl _ _) (fun h_ => by cases h_)
                ·intro o_ ho_; simp only [Sq.ge] at ho_; subst ho_; intro u_ w1_ hG_ hP_ K hK; have hN_ := hG_.2.1; clear BK808; clear HB; have BK808 := Aside0.mk hG_.2.2.1; have HB := Aside0.mk hG_.2.2.2; clear hG_; have e4_ : u_ 4 = .int .i64 t811 := hP_ 4 (by decide) (by rfl); clear hP_; refine ⟨?_⟩; generalize hfr_ : Reg.frame _ _ u_ = fr_ at hK ⊢; simp only [Sq.frm, e4_] at hfr_; subst hfr_; clear e4_; refine goes_ Try.func109 (by kernel_rfl) rfl #[.int .i64 0, .int .i64 2, .bool false] (by rfl) rfl rfl (by (try simp only [Sq.mp]); first | done | rfl | (simp only [List.length_drop, List.length_take]; rfl)) ?_; with_reducible refine (spec_l1Num.calls kj10 0 2 false t815 _ A15.out).mono ?_
                 rintro e w35 ⟨rfl, hb⟩; refine ⟨_, rfl, ?_⟩; exact hK _ _ rfl hb (fun h_ => by cases h_)
                ·intro o_ ho_; simp only [Sq.ge] at ho_; subst ho_; intro u_ w1_ hG_ hP_ K hK; have hN_ := hG_.2.1; clear BK808; clear HB; have BK808 := Aside0.mk hG_.2.2.1; have HB := Aside0.mk hG_.2.2.2; clear hG_; have e4_ : u_ 4 = .int .i64 t811 := hP_ 4 (by decide) (by rfl); have e5_ : u_ 5 = .int .u8 ((t811) % 256) := hP_ 5 (by decide) (by rfl); obtain ⟨v813, hv8_⟩ : ∃ v_, v_ = u_ 8 := ⟨_, rfl⟩; have e8_ := hP_ 8 (by decide) (by rfl); have e8_ : (Kd.R (Kd.int .u8) 5 w1_ w.heap.size (fun _ => True) v813 y812) ∧ ∀ b_, (v813 : Value).ownBlock = some b_ → N0_ ≤ b_ := by rw [hv8_]; exact e8_
                 have e9_ : u_ 9 = .string (strOfNums y812) := hP_ 9 (by decide) (by rfl); have e10_ : u_ 10 = .string t815 := hP_ 10 (by decide) (by rfl); have HO814 := Aside0.mk e8_.1; clear e8_; clear hP_; refine ⟨?_⟩; generalize hfr_ : Reg.frame _ _ u_ = fr_ at hK ⊢; simp only [Sq.frm, e4_, e5_, ← hv8_, e9_, e10_] at hfr_; subst hfr_; clear e4_ e5_ hv8_ e9_ e10_; refine value_ (w1 := ?_) (v := ?_) (by rfl) rfl ?_ ?_
                 rotate_left 2
                 ·go_simp
                  constructor
                  ·rfl
                  ·rfl
                 exact hK _ _ (by first | rfl | (simp only [i64_w, i32_w]; rfl)) (Below.refl _ _) (fun h_ => by cases h_)
                ·intro o_ ho_; simp only [Sq.ge] at ho_; subst ho_; intro u_ w1_ hG_ hP_ K hK; have hN_ := hG_.2.1; clear BK808; clear HB; have BK808 := Aside0.mk hG_.2.2.1; have HB := Aside0.mk hG_.2.2.2; clear hG_; have e4_ : u_ 4 = .int .i64 t811 := hP_ 4 (by decide) (by rfl); have e10_ : u_ 10 = .string t815 := hP_ 10 (by decide) (by rfl); clear hP_; refine ⟨?_⟩; generalize hfr_ : Reg.frame _ _ u_ = fr_ at hK ⊢; simp only [Sq.frm, e4_, e10_] at hfr_; subst hfr_; clear e4_ e10_; refine goes_ Try.func109 (by kernel_rfl) rfl #[.int .i64 (l0_4.length : Int), .int .i64 2, .bool false] (by rfl) rfl rfl (by (try simp only [Sq.mp]); first | done | rfl | (simp only [List.length_drop, List.length_take]; rfl)) ?_; with_reducible refine (spec_l1Num.calls kj10 (l0_4.length : Int) 2 false t816 _ A17.out).mono ?_
                 rintro e w36 ⟨rfl, hb⟩; refine ⟨_, rfl, ?_⟩; exact hK _ _ rfl hb (fun h_ => by cases h_)
                ·intro o_ ho_; simp only [Sq.ge] at ho_; subst ho_; intro u_ w1_ hG_ hP_ K hK; have hN_ := hG_.2.1; clear BK808; clear HB; have BK808 := Aside0.mk hG_.2.2.1; have HB := Aside0.mk hG_.2.2.2; clear hG_; have e4_ : u_ 4 = .int .i64 t811 := hP_ 4 (by decide) (by rfl); have e5_ : u_ 5 = .int .u8 ((t811) % 256) := hP_ 5 (by decide) (by rfl); obtain ⟨v813, hv8_⟩ : ∃ v_, v_ = u_ 8 := ⟨_, rfl⟩; have e8_ := hP_ 8 (by decide) (by rfl); have e8_ : (Kd.R (Kd.int .u8) 5 w1_ w.heap.size (fun _ => True) v813 y812) ∧ ∀ b_, (v813 : Value).ownBlock = some b_ → N0_ ≤ b_ := by rw [hv8_]; exact e8_
                 have e9_ : u_ 9 = .string (strOfNums y812) := hP_ 9 (by decide) (by rfl); have e10_ : u_ 10 = .string t815 := hP_ 10 (by decide) (by rfl); have e11_ : u_ 11 = .string ((strOfNums y812) ++ t815) := hP_ 11 (by decide) (by rfl); have e15_ : u_ 15 = .string t816 := hP_ 15 (by decide) (by rfl); have HO814 := Aside0.mk e8_.1; clear e8_; clear hP_; refine ⟨?_⟩; generalize hfr_ : Reg.frame _ _ u_ = fr_ at hK ⊢; simp only [Sq.frm, e4_, e5_, ← hv8_, e9_, e10_, e11_, e15_] at hfr_; subst hfr_; clear e4_ e5_ hv8_ e9_ e10_ e11_ e15_; refine value_ (w1 := ?_) (v := ?_) (by rfl) rfl ?_ ?_
                 rotate_left 2
                 ·go_simp
                  constructor
                  ·rfl
                  ·rfl
                 exact hK _ _ (by first | rfl | (simp only [i64_w, i32_w]; rfl)) (Below.refl _ _) (fun h_ => by cases h_)
                ·intro o_ ho_; simp only [Sq.ge] at ho_; subst ho_; intro u_ w1_ hG_ hP_ K hK; have hN_ := hG_.2.1; clear BK808; clear HB; have BK808 := Aside0.mk hG_.2.2.1; have HB := Aside0.mk hG_.2.2.2; clear hG_; clear hP_; refine ⟨?_⟩; generalize hfr_ : Reg.frame _ _ u_ = fr_ at hK ⊢; simp only [Sq.frm] at hfr_; subst hfr_; refine Kd.R_lit_step (Kd.int .u8) _ 5 ?hg (N := 42) ?hd (xs := ([(x6_4) % 256] : List Int)) (inner := [.int .u8 ((x6_4) % 256)]) (ok := fun _ => True) (okp := fun _ => True) ?hr ?hp (fun _ hk => hk) trivial (Below.refl _ _) (Nat.le_refl _) (by simp) ?_; (case hd => rfl); (case hg => rfl); (case hr => first | (go_simp; done) | (go_simp; rfl)); (case hp => exact (Reps.one (show Kd.M (Kd.int .u8) _ _ _ ((x6_4) % 256) [.int .u8 ((x6_4) % 256)] from rfl) (Reps.none _ _)))
                 intro v818 w34 ho35 hb hg_ hnew_; (first | rw [← Ny817.out] at ho35 | (simp only [Int.reduceToNat] at ho35; rw [← Ny817.out] at ho35))
                 exact hK _ _ ⟨Kd.R_mono (Kd.R_lower ho35 (below_size HB.out)) (fun _ _ => trivial), fun b_ h_ => Nat.le_trans hN_ (Kd.R_base ho35 b_ h_)⟩ hb (fun _ b_ h_ => ⟨Kd.R_base ho35 b_ h_, Kd.R_lt ho35 b_ h_⟩)
                ·intro o_ ho_; simp only [Sq.ge] at ho_; subst ho_; intro u_ w1_ hG_ hP_ K hK; have hN_ := hG_.2.1; clear BK808; clear HB; have BK808 := Aside0.mk hG_.2.2.1; have HB := Aside0.mk hG_.2.2.2; clear hG_; obtain ⟨v818, hv19_⟩ : ∃ v_, v_ = u_ 19 := ⟨_, rfl⟩; have e19_ := hP_ 19 (by decide) (by rfl); have e19_ : (Kd.R (Kd.int .u8) 5 w1_ w.heap.size (fun _ => True) v818 y817) ∧ ∀ b_, (v818 : Value).ownBlock = some b_ → N0_ ≤ b_ := by rw [hv19_]; exact e19_
                 have HO819 := Aside0.mk e19_.1; clear e19_; clear hP_; refine ⟨?_⟩; generalize hfr_ : Reg.frame _ _ u_ = fr_ at hK ⊢; simp only [Sq.frm, ← hv19_] at hfr_; subst hfr_; clear hv19_; have hcv37 := own_string (P := Try.prog) Try.underlying28 Try.underlying5 Try.underlying9 (Kd.own_of_R HO819.out); refine value_ (w1 := ?_) (v := ?_) (by rfl) rfl ?_ ?_
                 rotate_left 2
                 ·go_simp
                  constructor
                  ·rfl
                  ·rfl
                 exact hK _ _ (by first | rfl | (simp only [i64_w, i32_w]; rfl)) (Below.refl _ _) (fun h_ => by cases h_)
               intro u_ w42 hG_ hQ_ hA_; obtain ⟨hS_, hN_, h2_, h3_⟩ := hG_; have e4_ : u_ 4 = .int .i64 t811 := hQ_ 4 (by decide); have e5_ : u_ 5 = .int .u8 ((t811) % 256) := hQ_ 5 (by decide); obtain ⟨v813, hv8_⟩ : ∃ v_, v_ = u_ 8 := ⟨_, rfl⟩; have e8_ := hQ_ 8 (by decide); have e8_ : (Kd.R (Kd.int .u8) 5 w42 w.heap.size (fun _ => True) v813 y812) ∧ ∀ b_, (v813 : Value).ownBlock = some b_ → N0_ ≤ b_ := by rw [hv8_]; exact e8_
               have e9_ : u_ 9 = .string (strOfNums y812) := hQ_ 9 (by decide); have e10_ : u_ 10 = .string t815 := hQ_ 10 (by decide); have e11_ : u_ 11 = .string ((strOfNums y812) ++ t815) := hQ_ 11 (by decide); have e15_ : u_ 15 = .string t816 := hQ_ 15 (by decide); have e16_ : u_ 16 = .string (((strOfNums y812) ++ t815) ++ t816) := hQ_ 16 (by decide); obtain ⟨v818, hv19_⟩ : ∃ v_, v_ = u_ 19 := ⟨_, rfl⟩; have e19_ := hQ_ 19 (by decide); have e19_ : (Kd.R (Kd.int .u8) 5 w42 w.heap.size (fun _ => True) v818 y817) ∧ ∀ b_, (v818 : Value).ownBlock = some b_ → N0_ ≤ b_ := by rw [hv19_]; exact e19_
               have e20_ : u_ 20 = .string (strOfNums y817) := hQ_ 20 (by decide); have h0_ : Kd.R (Kd.int .u8) 5 w42 w.heap.size (fun k_ => some k_ ≠ (v818 : Value).ownBlock) v813 y812 := Kd.R_mono (Kd.R_tight rfl e8_.1) (fun k_ hk_ => (by have h_ := hA_ 8 (by decide) 19 (by decide) rfl rfl (by decide); rw [← hv8_, ← hv19_] at h_; exact h_ k_ hk_.symm)); have h1_ : Kd.R (Kd.int .u8) 5 w42 w.heap.size (fun k_ => some k_ ≠ (v813 : Value).ownBlock) v818 y817 := Kd.R_mono (Kd.R_tight rfl e19_.1) (fun k_ hk_ => (by have h_ := hA_ 19 (by decide) 8 (by decide) rfl rfl (by decide); rw [← hv19_, ← hv8_] at h_; exact h_ k_ hk_.symm)); clear e8_; clear e19_; refine ⟨?_⟩; generalize hfr_ : Reg.frame _ _ u_ = fr_; simp only [Sq.frm, e4_, e5_, ← hv8_, e9_, e10_, e11_, e15_, e16_, ← hv19_, e20_] at hfr_; subst hfr_; clear hQ_ hA_ hN_ hN0_ hv8_ hv19_ e4_ e5_ e9_ e10_ e11_ e15_ e16_ e20_; have n0_ : Aside0 (Kd.R (Kd.int .u8) 5 w42 w.heap.size (fun k_ => some k_ ≠ (v818 : Value).ownBlock) v813 y812) := ⟨h0_⟩; have n1_ : Aside0 (Kd.R (Kd.int .u8) 5 w42 w.heap.size (fun k_ => some k_ ≠ (v813 : Value).ownBlock) v818 y817) := ⟨h1_⟩; have n2_ : Aside0 (w42.heap[gb808]? = some (.cells #[.int .i64 a0_0, .int .i64 a0_1, .int .i64 a0_2, .int .i64 a0_3, .slice A0_4 l0_4.length c0_4, .slice A0_5 l0_5.length c0_5] 40 (0, 0))) := ⟨h2_⟩; have n3_ : Aside0 (Below w.heap.size w w42) := ⟨h3_⟩; clear BK808; clear HB; clear h0_ h1_ h2_ h3_; have HO814 := n0_; have HO819 := n1_; have BK808 := n2_; have HB := n3_; clear n0_ n1_ n2_ n3_; have hHeld : Sq.C6 w42 gb808 (.int .i64 a0_0) (.int .i64 a0_1) (.int .i64 a0_2) (.int .i64 a0_3) (.slice A0_4 l0_4.length c0_4) (.slice A0_5 l0_5.length c0_5) := hS_; refine Sq.p_ 21 44 ?_ (Sq.b 23 4194303) rfl rfl HT_ (by kernel_rfl) (fun _ _ _ h => h) (Or.inl ⟨by rfl, ?_⟩) ?_ ?_ ?_
               rotate_left
               ·intro w'; go_simp; with_reducible rfl
               rotate_left
               ·simp only [Sq.put]; rfl
               refine Sq.p_ 22 8 ?_ (Sq.b 23 8388607) rfl rfl HT_ (by kernel_rfl) (fun _ _ _ h => h) (Or.inl ⟨by rfl, ?_⟩) ?_ ?_ ?_
               rotate_left
               ·intro w'; go_simp; with_reducible rfl
               rotate_left
               ·simp only [Sq.put]; rfl
               refine done_ (done_of HT_.out (by kernel_rfl)) ?_; try go_wp2
               have n0_ := Aside0.mk (Kd.R_drew HO814.out); have n1_ := Aside0.mk (Kd.R_drew HO819.out); have n2_ := Aside0.mk (blk_drew BK808.out); have n3_ := Aside0.mk (below_drew1 HB.out); clear HO814; clear HO819; clear BK808; clear HB; have HO814 := n0_; have HO819 := n1_; have BK808 := n2_; have HB := n3_; clear n0_ n1_ n2_ n3_; refine start_ (n := 24) (S := fun w' => Sq.C6 w' gb808 (.int .i64 a0_0) (.int .i64 a0_1) (.int .i64 a0_2) (.int .i64 a0_3) (.slice A0_4 l0_4.length c0_4) (.slice A0_5 l0_5.length c0_5)) (ds := []) #[false, false, false, false, false, false, false, false, false, false, false, false, false, false, false, false, false, false, false, false, false, false, false, false] (by kernel_rfl) rfl rfl (Sq.c6 BK808) (fun hHeld => ?_); refine with_tabW spec_l11Put.tab9 spec_l11Put.bits9 (fun HT_ HW_ => ?_)
               generalize w42.drew = w43 at HO814 HO819 BK808 HB hHeld ⊢; refine Sq.p_ 0 45 ?_ (Sq.b 24 1) rfl rfl HT_ (by kernel_rfl) (fun _ _ _ h => h) (Or.inl ⟨by rfl, ?_⟩) ?_ ?_ ?_
               rotate_left
               ·intro w'; go_simp; with_reducible rfl
               rotate_left
               ·simp only [Sq.put]; rfl
               refine Sq.p_ 3 48 ?_ (Sq.b 24 9) rfl rfl HT_ (by kernel_rfl) (fun _ _ _ h => h) (Or.inl ⟨by rfl, ?_⟩) ?_ ?_ ?_
               rotate_left
               ·intro w'; go_simp; with_reducible rfl
               rotate_left
               ·simp only [Sq.put]; rfl
               refine Sq.p_ 7 52 ?_ (Sq.b 24 137) rfl rfl HT_ (by kernel_rfl) (fun _ _ _ h => h) (Or.inl ⟨by rfl, ?_⟩) ?_ ?_ ?_
               rotate_left
               ·intro w'; go_simp; with_reducible rfl
               rotate_left
               ·simp only [Sq.put]; rfl
               refine Sq.p_ 11 56 ?_ (Sq.b 24 2185) rfl rfl HT_ (by kernel_rfl) (fun _ _ _ h => h) (Or.inl ⟨by rfl, ?_⟩) ?_ ?_ ?_
               rotate_left
               ·intro w'; go_simp; with_reducible rfl
               rotate_left
               ·simp only [Sq.put]; rfl
               refine Sq.p_ 14 59 ?_ (Sq.b 24 18569) rfl rfl HT_ (by kernel_rfl) (fun _ _ _ h => h) (Or.inl ⟨by rfl, ?_⟩) ?_ ?_ ?_
               rotate_left
               ·intro w'; go_simp; with_reducible rfl
               rotate_left
               ·simp only [Sq.put]; rfl
               refine Sq.p_ 15 60 ?_ (Sq.b 24 51337) rfl rfl HT_ (by kernel_rfl) (fun _ _ _ h => h) (Or.inl ⟨by rfl, ?_⟩) ?_ ?_ ?_
               rotate_left
               ·intro w'; go_simp; with_reducible rfl
               rotate_left
               ·simp only [Sq.put]; rfl
               refine Sq.p_ 19 64 ?_ (Sq.b 24 575625) rfl rfl HT_ (by kernel_rfl) (fun _ _ _ h => h) (Or.inl ⟨by rfl, ?_⟩) ?_ ?_ ?_
               rotate_left
               ·intro w'; go_simp; with_reducible rfl
               rotate_left
               ·simp only [Sq.put]; rfl
               refine Sq.k 4 49 ?_ (Sq.b 24 575641) rfl rfl HT_ HW_ (by kernel_rfl) (fun _ _ _ h => h) (Or.inl ⟨by rfl, ?_⟩) hHeld ?_ ?_ ?_
               rotate_left
               ·rintro w' ⟨s0, s1, s2, s3, s4, s5⟩; go_simp; with_reducible rfl
               rotate_left
               ·simp only [Sq.put]; rfl
               refine Sq.k 8 53 ?_ (Sq.b 24 575897) rfl rfl HT_ HW_ (by kernel_rfl) (fun _ _ _ h => h) (Or.inl ⟨by rfl, ?_⟩) hHeld ?_ ?_ ?_
               rotate_left
               ·rintro w' ⟨s0, s1, s2, s3, s4, s5⟩; go_simp; with_reducible rfl
               rotate_left
               ·simp only [Sq.put]; rfl
               refine Sq.k 12 57 ?_ (Sq.b 24 579993) rfl rfl HT_ HW_ (by kernel_rfl) (fun _ _ _ h => h) (Or.inl ⟨by rfl, ?_⟩) hHeld ?_ ?_ ?_
               rotate_left
               ·rintro w' ⟨s0, s1, s2, s3, s4, s5⟩; go_simp; with_reducible rfl
               rotate_left
               ·simp only [Sq.put]; rfl
               refine Sq.p_ 13 58 ?_ (Sq.b 24 588185) rfl rfl HT_ (by kernel_rfl) (fun _ _ _ h => h) (Or.inl ⟨by rfl, ?_⟩) ?_ ?_ ?_
               rotate_left
               ·intro w'; go_simp; with_reducible rfl
               rotate_left
               ·simp only [Sq.put]; rfl
               refine Sq.k 20 65 ?_ (Sq.b 24 1636761) rfl rfl HT_ HW_ (by kernel_rfl) (fun _ _ _ h => h) (Or.inl ⟨by rfl, ?_⟩) hHeld ?_ ?_ ?_
               rotate_left
               ·rintro w' ⟨s0, s1, s2, s3, s4, s5⟩; go_simp; with_reducible rfl
               rotate_left
               ·simp only [Sq.put]; rfl
               refine Reg.size_ (fun N0_ hN0_ => ?_)
               refine Reg.mid_ #[true, true, true, true, true, true, true, true, true, true, true, true, true, true, true, true, true, true, true, true, true, true, false, false] [0, 0, 3, 0, 8, 26, 63, 0, 128, 442, 1023, 0, 2048, 6144, 0, 16384, 63488, 129024, 262143, 0, 524288, 1573818, 4194303, 8388607] [(46, 1), (47, 2), (50, 5), (51, 6), (54, 9), (55, 10), (61, 16), (62, 17), (63, 18), (66, 21)] [1, 2, 5, 6, 9, 10, 16, 17, 18, 21] [16] (Reg.sel [(1, fun v_ _ => v_ = .string t820), (2, fun v_ _ => v_ = .string (((((strOfNums y812) ++ t815) ++ t816) ++ (strOfNums y817)) ++ t820)), (5, fun v_ _ => v_ = .string t821), (6, fun v_ _ => v_ = .string ((((((strOfNums y812) ++ t815) ++ t816) ++ (strOfNums y817)) ++ t820) ++ t821)), (9, fun v_ _ => v_ = .string t822), (10, fun v_ _ => v_ = .string (((((((strOfNums y812) ++ t815) ++ t816) ++ (strOfNums y817)) ++ t820) ++ t821) ++ t822)), (16, fun v_ w' => (Kd.R (Kd.int .u8) 5 w' w.heap.size (fun _ => True) v_ y823) ∧ ∀ b_, (v_ : Value).ownBlock = some b_ → N0_ ≤ b_), (17, fun v_ _ => v_ = .string (strOfNums y823)), (18, fun v_ _ => v_ = .string ((((((((strOfNums y812) ++ t815) ++ t816) ++ (strOfNums y817)) ++ t820) ++ t821) ++ t822) ++ (strOfNums y823))), (21, fun v_ _ => v_ = .string t826)]) (fun w' => (Sq.C6 w' gb808 (.int .i64 a0_0) (.int .i64 a0_1) (.int .i64 a0_2) (.int .i64 a0_3) (.slice A0_4 l0_4.length c0_4) (.slice A0_5 l0_5.length c0_5)) ∧ (N0_ ≤ w'.heap.size) ∧ (Kd.R (Kd.int .u8) 5 w' w.heap.size (fun k_ => (some k_ ≠ (v818 : Value).ownBlock) ∧ k_ < N0_) v813 y812) ∧ (Kd.R (Kd.int .u8) 5 w' w.heap.size (fun k_ => (some k_ ≠ (v813 : Value).ownBlock) ∧ k_ < N0_) v818 y817) ∧ (w'.heap[gb808]? = some (.cells #[.int .i64 a0_0, .int .i64 a0_1, .int .i64 a0_2, .int .i64 a0_3, .slice A0_4 l0_4.length c0_4, .slice A0_5 l0_5.length c0_5] 40 (0, 0))) ∧ (Below w.heap.size w w')) 2 (by kernel_rfl) (by kernel_rfl) (by kernel_rfl) (by kernel_rfl) rfl ?hD24_ ?hG24_ ?hS24_ ?hW24_ ?hO24_ ?hE24_
               case hD24_ => exact Reg.sel_st ⟨fun _ _ _ h_ _ => h_, fun _ _ _ h_ _ => h_, fun _ _ _ h_ _ => h_, fun _ _ _ h_ _ => h_, fun _ _ _ h_ _ => h_, fun _ _ _ h_ _ => h_, fun _ _ _ h_ hb_ => ⟨Kd.R_below h_.1 hb_, h_.2⟩, fun _ _ _ h_ _ => h_, fun _ _ _ h_ _ => h_, fun _ _ _ h_ _ => h_, trivial⟩
               case hG24_ =>
                rintro w1_ w2_ ⟨⟨c0_, c1_, c2_, c3_, c4_, c5_⟩, hN_, b0_, b1_, b3_, b4_⟩ hb_; exact ⟨⟨Reg.cell_step c0_ hb_, Reg.cell_step c1_ hb_, Reg.cell_step c2_ hb_, Reg.cell_step c3_ hb_, Reg.cell_step c4_ hb_, Reg.cell_step c5_ hb_⟩, Nat.le_trans hN_ (below_size hb_), (by first | exact blk_below b0_ hb_ | exact below_step b0_ hb_ | exact Kd.R_below b0_ hb_ | exact Kd.C_below b0_ hb_), (by first | exact blk_below b1_ hb_ | exact below_step b1_ hb_ | exact Kd.R_below b1_ hb_ | exact Kd.C_below b1_ hb_), (by first | exact blk_below b3_ hb_ | exact below_step b3_ hb_ | exact Kd.R_below b3_ hb_ | exact Kd.C_below b3_ hb_), (by first | exact blk_below b4_ hb_ | exact below_step b4_ hb_ | exact Kd.R_below b4_ hb_ | exact Kd.C_below b4_ hb_)⟩
               case hS24_ => exact fun _ h_ => h_.1
               case hW24_ => exact ⟨hHeld, Nat.le_of_eq hN0_, (Kd.R_mono (Kd.R_bound (by (with_reducible repeat (first | refine blk_drewN ?_ _ | refine blk_drew ?_ | refine blk_alloc ?_ _ | apply below_alloc | apply pw_below_drewN | apply below_drew1 | apply Kd.R_alloc | apply Kd.R_drewN | apply Kd.R_drew)); exact HO814.out)) (fun _ hk_ => ⟨hk_.1, by rw [hN0_]; exact hk_.2.2.1⟩)), (Kd.R_mono (Kd.R_bound (by (with_reducible repeat (first | refine blk_drewN ?_ _ | refine blk_drew ?_ | refine blk_alloc ?_ _ | apply below_alloc | apply pw_below_drewN | apply below_drew1 | apply Kd.R_alloc | apply Kd.R_drewN | apply Kd.R_drew)); exact HO819.out)) (fun _ hk_ => ⟨hk_.1, by rw [hN0_]; exact hk_.2.2.1⟩)), (by (with_reducible repeat (first | refine blk_drewN ?_ _ | refine blk_drew ?_ | refine blk_alloc ?_ _ | apply below_alloc | apply pw_below_drewN | apply below_drew1 | apply Kd.R_alloc | apply Kd.R_drewN | apply Kd.R_drew)); exact BK808.out), (by (with_reducible repeat (first | refine blk_drewN ?_ _ | refine blk_drew ?_ | refine blk_alloc ?_ _ | apply below_alloc | apply pw_below_drewN | apply below_drew1 | apply Kd.R_alloc | apply Kd.R_drewN | apply Kd.R_drew)); exact HB.out)⟩
               case hO24_ =>
                refine ⟨?_, ?_, ?_, ?_, ?_, ?_, ?_, ?_, ?_, ?_, trivial⟩
                ·intro o_ ho_; simp only [Sq.ge] at ho_; subst ho_; intro u_ w1_ hG_ hP_ K hK; have hN_ := hG_.2.1; clear HO814; clear HO819; clear BK808; clear HB; have HO814 := Aside0.mk hG_.2.2.1; have HO819 := Aside0.mk hG_.2.2.2.1; have BK808 := Aside0.mk hG_.2.2.2.2.1; have HB := Aside0.mk hG_.2.2.2.2.2; clear hG_; clear hP_; refine ⟨?_⟩; generalize hfr_ : Reg.frame _ _ u_ = fr_ at hK ⊢; simp only [Sq.frm] at hfr_; subst hfr_; refine goes_ Try.func109 (by kernel_rfl) rfl #[.int .i64 0, .int .i64 4, .bool false] (by rfl) rfl rfl (by (try simp only [Sq.mp]); first | done | rfl | (simp only [List.length_drop, List.length_take]; rfl)) ?_; with_reducible refine (spec_l1Num.calls kj10 0 4 false t820 _ A20.out).mono ?_
                 rintro e w44 ⟨rfl, hb⟩; refine ⟨_, rfl, ?_⟩; exact hK _ _ rfl hb (fun h_ => by cases h_)
                ·intro o_ ho_; simp only [Sq.ge] at ho_; subst ho_; intro u_ w1_ hG_ hP_ K hK; have hN_ := hG_.2.1; clear HO814; clear HO819; clear BK808; clear HB; have HO814 := Aside0.mk hG_.2.2.1; have HO819 := Aside0.mk hG_.2.2.2.1; have BK808 := Aside0.mk hG_.2.2.2.2.1; have HB := Aside0.mk hG_.2.2.2.2.2; clear hG_; have e1_ : u_ 1 = .string t820 := hP_ 1 (by decide) (by rfl); clear hP_; refine ⟨?_⟩; generalize hfr_ : Reg.frame _ _ u_ = fr_ at hK ⊢; simp only [Sq.frm, e1_] at hfr_; subst hfr_; clear e1_; refine value_ (w1 := ?_) (v := ?_) (by rfl) rfl ?_ ?_
                 rotate_left 2
                 ·go_simp
                  constructor
                  ·rfl
                  ·rfl
                 exact hK _ _ (by first | rfl | (simp only [i64_w, i32_w]; rfl)) (Below.refl _ _) (fun h_ => by cases h_)
                ·intro o_ ho_; simp only [Sq.ge] at ho_; subst ho_; intro u_ w1_ hG_ hP_ K hK; have hN_ := hG_.2.1; clear HO814; clear HO819; clear BK808; clear HB; have HO814 := Aside0.mk hG_.2.2.1; have HO819 := Aside0.mk hG_.2.2.2.1; have BK808 := Aside0.mk hG_.2.2.2.2.1; have HB := Aside0.mk hG_.2.2.2.2.2; clear hG_; have e1_ : u_ 1 = .string t820 := hP_ 1 (by decide) (by rfl); clear hP_; refine ⟨?_⟩; generalize hfr_ : Reg.frame _ _ u_ = fr_ at hK ⊢; simp only [Sq.frm, e1_] at hfr_; subst hfr_; clear e1_; refine goes_ Try.func109 (by kernel_rfl) rfl #[.int .i64 a0_2, .int .i64 2, .bool false] (by rfl) rfl rfl (by (try simp only [Sq.mp]); first | done | rfl | (simp only [List.length_drop, List.length_take]; rfl)) ?_; with_reducible refine (spec_l1Num.calls kj10 a0_2 2 false t821 _ A22.out).mono ?_
                 rintro e w46 ⟨rfl, hb⟩; refine ⟨_, rfl, ?_⟩; exact hK _ _ rfl hb (fun h_ => by cases h_)
                ·intro o_ ho_; simp only [Sq.ge] at ho_; subst ho_; intro u_ w1_ hG_ hP_ K hK; have hN_ := hG_.2.1; clear HO814; clear HO819; clear BK808; clear HB; have HO814 := Aside0.mk hG_.2.2.1; have HO819 := Aside0.mk hG_.2.2.2.1; have BK808 := Aside0.mk hG_.2.2.2.2.1; have HB := Aside0.mk hG_.2.2.2.2.2; clear hG_; have e1_ : u_ 1 = .string t820 := hP_ 1 (by decide) (by rfl); have e2_ : u_ 2 = .string (((((strOfNums y812) ++ t815) ++ t816) ++ (strOfNums y817)) ++ t820) := hP_ 2 (by decide) (by rfl); have e5_ : u_ 5 = .string t821 := hP_ 5 (by decide) (by rfl); clear hP_; refine ⟨?_⟩; generalize hfr_ : Reg.frame _ _ u_ = fr_ at hK ⊢; simp only [Sq.frm, e1_, e2_, e5_] at hfr_; subst hfr_; clear e1_ e2_ e5_; refine value_ (w1 := ?_) (v := ?_) (by rfl) rfl ?_ ?_
                 rotate_left 2
                 ·go_simp
                  constructor
                  ·rfl
                  ·rfl
                 exact hK _ _ (by first | rfl | (simp only [i64_w, i32_w]; rfl)) (Below.refl _ _) (fun h_ => by cases h_)
                ·intro o_ ho_; simp only [Sq.ge] at ho_; subst ho_; intro u_ w1_ hG_ hP_ K hK; have hN_ := hG_.2.1; clear HO814; clear HO819; clear BK808; clear HB; have HO814 := Aside0.mk hG_.2.2.1; have HO819 := Aside0.mk hG_.2.2.2.1; have BK808 := Aside0.mk hG_.2.2.2.2.1; have HB := Aside0.mk hG_.2.2.2.2.2; clear hG_; have e1_ : u_ 1 = .string t820 := hP_ 1 (by decide) (by rfl); have e5_ : u_ 5 = .string t821 := hP_ 5 (by decide) (by rfl); clear hP_; refine ⟨?_⟩; generalize hfr_ : Reg.frame _ _ u_ = fr_ at hK ⊢; simp only [Sq.frm, e1_, e5_] at hfr_; subst hfr_; clear e1_ e5_; refine goes_ Try.func109 (by kernel_rfl) rfl #[.int .i64 a0_3, .int .i64 2, .bool false] (by rfl) rfl rfl (by (try simp only [Sq.mp]); first | done | rfl | (simp only [List.length_drop, List.length_take]; rfl)) ?_; with_reducible refine (spec_l1Num.calls kj10 a0_3 2 false t822 _ A24.out).mono ?_
                 rintro e w47 ⟨rfl, hb⟩; refine ⟨_, rfl, ?_⟩; exact hK _ _ rfl hb (fun h_ => by cases h_)
                ·intro o_ ho_; simp only [Sq.ge] at ho_; subst ho_; intro u_ w1_ hG_ hP_ K hK; have hN_ := hG_.2.1; clear HO814; clear HO819; clear BK808; clear HB; have HO814 := Aside0.mk hG_.2.2.1; have HO819 := Aside0.mk hG_.2.2.2.1; have BK808 := Aside0.mk hG_.2.2.2.2.1; have HB := Aside0.mk hG_.2.2.2.2.2; clear hG_; have e1_ : u_ 1 = .string t820 := hP_ 1 (by decide) (by rfl); have e2_ : u_ 2 = .string (((((strOfNums y812) ++ t815) ++ t816) ++ (strOfNums y817)) ++ t820) := hP_ 2 (by decide) (by rfl); have e5_ : u_ 5 = .string t821 := hP_ 5 (by decide) (by rfl); have e6_ : u_ 6 = .string ((((((strOfNums y812) ++ t815) ++ t816) ++ (strOfNums y817)) ++ t820) ++ t821) := hP_ 6 (by decide) (by rfl); have e9_ : u_ 9 = .string t822 := hP_ 9 (by decide) (by rfl); clear hP_; refine ⟨?_⟩; generalize hfr_ : Reg.frame _ _ u_ = fr_ at hK ⊢; simp only [Sq.frm, e1_, e2_, e5_, e6_, e9_] at hfr_; subst hfr_; clear e1_ e2_ e5_ e6_ e9_; refine value_ (w1 := ?_) (v := ?_) (by rfl) rfl ?_ ?_
                 rotate_left 2
                 ·go_simp
                  constructor
                  ·rfl
                  ·rfl
                 exact hK _ _ (by first | rfl | (simp only [i64_w, i32_w]; rfl)) (Below.refl _ _) (fun h_ => by cases h_)
                ·intro o_ ho_; simp only [Sq.ge] at ho_; subst ho_; intro u_ w1_ hG_ hP_ K hK; have hN_ := hG_.2.1; clear HO814; clear HO819; clear BK808; clear HB; have HO814 := Aside0.mk hG_.2.2.1; have HO819 := Aside0.mk hG_.2.2.2.1; have BK808 := Aside0.mk hG_.2.2.2.2.1; have HB := Aside0.mk hG_.2.2.2.2.2; clear hG_; clear hP_; refine ⟨?_⟩; generalize hfr_ : Reg.frame _ _ u_ = fr_ at hK ⊢; simp only [Sq.frm] at hfr_; subst hfr_; refine Kd.R_lit_step (Kd.int .u8) _ 5 ?hg (N := 61) ?hd (xs := ([(a0_1) % 256, (x7_10) % 256] : List Int)) (inner := [.int .u8 ((a0_1) % 256), .int .u8 ((x7_10) % 256)]) (ok := fun _ => True) (okp := fun _ => True) ?hr ?hp (fun _ hk => hk) trivial (Below.refl _ _) (Nat.le_refl _) (by simp) ?_; (case hd => rfl); (case hg => rfl); (case hr => first | (go_simp; done) | (go_simp; rfl)); (case hp => exact (Reps.one (show Kd.M (Kd.int .u8) _ _ _ ((a0_1) % 256) [.int .u8 ((a0_1) % 256)] from rfl) (Reps.one (show Kd.M (Kd.int .u8) _ _ _ ((x7_10) % 256) [.int .u8 ((x7_10) % 256)] from rfl) (Reps.none _ _))))
                 intro v824 w44 ho45 hb hg_ hnew_; (first | rw [← Ny823.out] at ho45 | (simp only [Int.reduceToNat] at ho45; rw [← Ny823.out] at ho45))
                 exact hK _ _ ⟨Kd.R_mono (Kd.R_lower ho45 (below_size HB.out)) (fun _ _ => trivial), fun b_ h_ => Nat.le_trans hN_ (Kd.R_base ho45 b_ h_)⟩ hb (fun _ b_ h_ => ⟨Kd.R_base ho45 b_ h_, Kd.R_lt ho45 b_ h_⟩)
                ·intro o_ ho_; simp only [Sq.ge] at ho_; subst ho_; intro u_ w1_ hG_ hP_ K hK; have hN_ := hG_.2.1; clear HO814; clear HO819; clear BK808; clear HB; have HO814 := Aside0.mk hG_.2.2.1; have HO819 := Aside0.mk hG_.2.2.2.1; have BK808 := Aside0.mk hG_.2.2.2.2.1; have HB := Aside0.mk hG_.2.2.2.2.2; clear hG_; obtain ⟨v824, hv16_⟩ : ∃ v_, v_ = u_ 16 := ⟨_, rfl⟩; have e16_ := hP_ 16 (by decide) (by rfl); have e16_ : (Kd.R (Kd.int .u8) 5 w1_ w.heap.size (fun _ => True) v824 y823) ∧ ∀ b_, (v824 : Value).ownBlock = some b_ → N0_ ≤ b_ := by rw [hv16_]; exact e16_
                 have HO825 := Aside0.mk e16_.1; clear e16_; clear hP_; refine ⟨?_⟩; generalize hfr_ : Reg.frame _ _ u_ = fr_ at hK ⊢; simp only [Sq.frm, ← hv16_] at hfr_; subst hfr_; clear hv16_; have hcv47 := own_string (P := Try.prog) Try.underlying28 Try.underlying5 Try.underlying9 (Kd.own_of_R HO825.out); refine value_ (w1 := ?_) (v := ?_) (by rfl) rfl ?_ ?_
                 rotate_left 2
                 ·go_simp
                  constructor
                  ·rfl
                  ·rfl
                 exact hK _ _ (by first | rfl | (simp only [i64_w, i32_w]; rfl)) (Below.refl _ _) (fun h_ => by cases h_)
                ·intro o_ ho_; simp only [Sq.ge] at ho_; subst ho_; intro u_ w1_ hG_ hP_ K hK; have hN_ := hG_.2.1; clear HO814; clear HO819; clear BK808; clear HB; have HO814 := Aside0.mk hG_.2.2.1; have HO819 := Aside0.mk hG_.2.2.2.1; have BK808 := Aside0.mk hG_.2.2.2.2.1; have HB := Aside0.mk hG_.2.2.2.2.2; clear hG_; have e1_ : u_ 1 = .string t820 := hP_ 1 (by decide) (by rfl); have e2_ : u_ 2 = .string (((((strOfNums y812) ++ t815) ++ t816) ++ (strOfNums y817)) ++ t820) := hP_ 2 (by decide) (by rfl); have e5_ : u_ 5 = .string t821 := hP_ 5 (by decide) (by rfl); have e6_ : u_ 6 = .string ((((((strOfNums y812) ++ t815) ++ t816) ++ (strOfNums y817)) ++ t820) ++ t821) := hP_ 6 (by decide) (by rfl); have e9_ : u_ 9 = .string t822 := hP_ 9 (by decide) (by rfl); have e10_ : u_ 10 = .string (((((((strOfNums y812) ++ t815) ++ t816) ++ (strOfNums y817)) ++ t820) ++ t821) ++ t822) := hP_ 10 (by decide) (by rfl); obtain ⟨v824, hv16_⟩ : ∃ v_, v_ = u_ 16 := ⟨_, rfl⟩; have e16_ := hP_ 16 (by decide) (by rfl); have e16_ : (Kd.R (Kd.int .u8) 5 w1_ w.heap.size (fun _ => True) v824 y823) ∧ ∀ b_, (v824 : Value).ownBlock = some b_ → N0_ ≤ b_ := by rw [hv16_]; exact e16_
                 have e17_ : u_ 17 = .string (strOfNums y823) := hP_ 17 (by decide) (by rfl); have HO825 := Aside0.mk e16_.1; clear e16_; clear hP_; refine ⟨?_⟩; generalize hfr_ : Reg.frame _ _ u_ = fr_ at hK ⊢; simp only [Sq.frm, e1_, e2_, e5_, e6_, e9_, e10_, ← hv16_, e17_] at hfr_; subst hfr_; clear e1_ e2_ e5_ e6_ e9_ e10_ hv16_ e17_; refine value_ (w1 := ?_) (v := ?_) (by rfl) rfl ?_ ?_
                 rotate_left 2
                 ·go_simp
                  constructor
                  ·rfl
                  ·rfl
                 exact hK _ _ (by first | rfl | (simp only [i64_w, i32_w]; rfl)) (Below.refl _ _) (fun h_ => by cases h_)
                ·intro o_ ho_; simp only [Sq.ge] at ho_; subst ho_; intro u_ w1_ hG_ hP_ K hK; have hN_ := hG_.2.1; clear HO814; clear HO819; clear BK808; clear HB; have HO814 := Aside0.mk hG_.2.2.1; have HO819 := Aside0.mk hG_.2.2.2.1; have BK808 := Aside0.mk hG_.2.2.2.2.1; have HB := Aside0.mk hG_.2.2.2.2.2; clear hG_; have e1_ : u_ 1 = .string t820 := hP_ 1 (by decide) (by rfl); have e5_ : u_ 5 = .string t821 := hP_ 5 (by decide) (by rfl); have e9_ : u_ 9 = .string t822 := hP_ 9 (by decide) (by rfl); clear hP_; refine ⟨?_⟩; generalize hfr_ : Reg.frame _ _ u_ = fr_ at hK ⊢; simp only [Sq.frm, e1_, e5_, e9_] at hfr_; subst hfr_; clear e1_ e5_ e9_; refine goes_ Try.func111 (by kernel_rfl) rfl #[.slice A0_4 l0_4.length c0_4, .int .i64 3] (by rfl) rfl rfl (by (try simp only [Sq.mp]); first | done | rfl | (simp only [List.length_drop, List.length_take]; rfl)) ?_; with_reducible refine (spec_l11Colors.calls kj10 _ _ l0_4 3 t826 _ ?side1 ?side2 A27.out).mono ?_
                 (case side1 => exact Sq.i_ HR0_4 HB)
                 (case side2 => exact HC0_4.out)
                 rintro e w48 ⟨rfl, hb⟩; refine ⟨_, rfl, ?_⟩; exact hK _ _ rfl hb (fun h_ => by cases h_)
               intro u_ w51 hG_ hQ_ hA_; obtain ⟨hS_, hN_, h0_, h1_, h3_, h4_⟩ := hG_; have e1_ : u_ 1 = .string t820 := hQ_ 1 (by decide); have e2_ : u_ 2 = .string (((((strOfNums y812) ++ t815) ++ t816) ++ (strOfNums y817)) ++ t820) := hQ_ 2 (by decide); have e5_ : u_ 5 = .string t821 := hQ_ 5 (by decide); have e6_ : u_ 6 = .string ((((((strOfNums y812) ++ t815) ++ t816) ++ (strOfNums y817)) ++ t820) ++ t821) := hQ_ 6 (by decide); have e9_ : u_ 9 = .string t822 := hQ_ 9 (by decide); have e10_ : u_ 10 = .string (((((((strOfNums y812) ++ t815) ++ t816) ++ (strOfNums y817)) ++ t820) ++ t821) ++ t822) := hQ_ 10 (by decide); obtain ⟨v824, hv16_⟩ : ∃ v_, v_ = u_ 16 := ⟨_, rfl⟩; have e16_ := hQ_ 16 (by decide); have e16_ : (Kd.R (Kd.int .u8) 5 w51 w.heap.size (fun _ => True) v824 y823) ∧ ∀ b_, (v824 : Value).ownBlock = some b_ → N0_ ≤ b_ := by rw [hv16_]; exact e16_
               have e17_ : u_ 17 = .string (strOfNums y823) := hQ_ 17 (by decide); have e18_ : u_ 18 = .string ((((((((strOfNums y812) ++ t815) ++ t816) ++ (strOfNums y817)) ++ t820) ++ t821) ++ t822) ++ (strOfNums y823)) := hQ_ 18 (by decide); have e21_ : u_ 21 = .string t826 := hQ_ 21 (by decide); have h0_o := h0_; have h1_o := h1_; have h2_ : Kd.R (Kd.int .u8) 5 w51 w.heap.size (fun k_ => some k_ ≠ (v813 : Value).ownBlock ∧ some k_ ≠ (v818 : Value).ownBlock) v824 y823 := Kd.R_mono (Kd.R_tight rfl e16_.1) (fun k_ hk_ => ⟨(fun h_ => by have h1_ := (h0_o.1 _ h_.symm).2; have h2_ := e16_.2 _ hk_.symm; omega), (fun h_ => by have h1_ := (h1_o.1 _ h_.symm).2; have h2_ := e16_.2 _ hk_.symm; omega)⟩); have h0_ : Kd.R (Kd.int .u8) 5 w51 w.heap.size (fun k_ => some k_ ≠ (v818 : Value).ownBlock ∧ some k_ ≠ (v824 : Value).ownBlock) v813 y812 := Kd.R_mono (h0_o) (fun k_ hk_ => ⟨(by first | exact hk_.1 | exact hk_.1.1 | exact hk_.1.2 | exact hk_.1.2.1 | exact hk_.1.2.2 | exact hk_.1.2.2.1 | exact hk_.1.2.2.2), (fun h_ => by have h1_ := e16_.2 _ h_.symm; have h2_ := hk_.2; omega)⟩); have h1_ : Kd.R (Kd.int .u8) 5 w51 w.heap.size (fun k_ => some k_ ≠ (v813 : Value).ownBlock ∧ some k_ ≠ (v824 : Value).ownBlock) v818 y817 := Kd.R_mono (h1_o) (fun k_ hk_ => ⟨(by first | exact hk_.1 | exact hk_.1.1 | exact hk_.1.2 | exact hk_.1.2.1 | exact hk_.1.2.2 | exact hk_.1.2.2.1 | exact hk_.1.2.2.2), (fun h_ => by have h1_ := e16_.2 _ h_.symm; have h2_ := hk_.2; omega)⟩); clear h0_o; clear h1_o; clear e16_; refine ⟨?_⟩; generalize hfr_ : Reg.frame _ _ u_ = fr_; simp only [Sq.frm, e1_, e2_, e5_, e6_, e9_, e10_, ← hv16_, e17_, e18_, e21_] at hfr_; subst hfr_; clear hQ_ hA_ hN_ hN0_ hv16_ e1_ e2_ e5_ e6_ e9_ e10_ e17_ e18_ e21_; have n0_ : Aside0 (Kd.R (Kd.int .u8) 5 w51 w.heap.size (fun k_ => some k_ ≠ (v818 : Value).ownBlock ∧ some k_ ≠ (v824 : Value).ownBlock) v813 y812) := ⟨h0_⟩
               have n1_ : Aside0 (Kd.R (Kd.int .u8) 5 w51 w.heap.size (fun k_ => some k_ ≠ (v813 : Value).ownBlock ∧ some k_ ≠ (v824 : Value).ownBlock) v818 y817) := ⟨h1_⟩; have n2_ : Aside0 (Kd.R (Kd.int .u8) 5 w51 w.heap.size (fun k_ => some k_ ≠ (v813 : Value).ownBlock ∧ some k_ ≠ (v818 : Value).ownBlock) v824 y823) := ⟨h2_⟩; have n3_ : Aside0 (w51.heap[gb808]? = some (.cells #[.int .i64 a0_0, .int .i64 a0_1, .int .i64 a0_2, .int .i64 a0_3, .slice A0_4 l0_4.length c0_4, .slice A0_5 l0_5.length c0_5] 40 (0, 0))) := ⟨h3_⟩; have n4_ : Aside0 (Below w.heap.size w w51) := ⟨h4_⟩; clear HO814; clear HO819; clear BK808; clear HB; clear h0_ h1_ h2_ h3_ h4_; have HO814 := n0_; have HO819 := n1_; have HO825 := n2_; have BK808 := n3_; have HB := n4_; clear n0_ n1_ n2_ n3_ n4_; have hHeld : Sq.C6 w51 gb808 (.int .i64 a0_0) (.int .i64 a0_1) (.int .i64 a0_2) (.int .i64 a0_3) (.slice A0_4 l0_4.length c0_4) (.slice A0_5 l0_5.length c0_5) := hS_; refine Sq.p_ 22 67 ?_ (Sq.b 24 8388607) rfl rfl HT_ (by kernel_rfl) (fun _ _ _ h => h) (Or.inl ⟨by rfl, ?_⟩) ?_ ?_ ?_
               rotate_left
               ·intro w'; go_simp; with_reducible rfl
               rotate_left
               ·simp only [Sq.put]; rfl
               refine Sq.p_ 23 8 ?_ (Sq.b 24 16777215) rfl rfl HT_ (by kernel_rfl) (fun _ _ _ h => h) (Or.inl ⟨by rfl, ?_⟩) ?_ ?_ ?_
               rotate_left
               ·intro w'; go_simp; with_reducible rfl
               rotate_left
               ·simp only [Sq.put]; rfl
               refine done_ (done_of HT_.out (by kernel_rfl)) ?_; try go_wp2
               have n0_ := Aside0.mk (Kd.R_drew HO814.out); have n1_ := Aside0.mk (Kd.R_drew HO819.out); have n2_ := Aside0.mk (Kd.R_drew HO825.out); have n3_ := Aside0.mk (blk_drew BK808.out); have n4_ := Aside0.mk (below_drew1 HB.out); clear HO814; clear HO819; clear HO825; clear BK808; clear HB; have HO814 := n0_; have HO819 := n1_; have HO825 := n2_; have BK808 := n3_; have HB := n4_; clear n0_ n1_ n2_ n3_ n4_; refine start_ (n := 9) (S := fun w' => Sq.C6 w' gb808 (.int .i64 a0_0) (.int .i64 a0_1) (.int .i64 a0_2) (.int .i64 a0_3) (.slice A0_4 l0_4.length c0_4) (.slice A0_5 l0_5.length c0_5)) (ds := []) #[false, false, false, false, false, false, false, false, false] (by kernel_rfl) rfl rfl (Sq.c6 BK808) (fun hHeld => ?_); refine with_tabW spec_l11Put.tab11 spec_l11Put.bits11 (fun HT_ HW_ => ?_)
               generalize w51.drew = w52 at HO814 HO819 HO825 BK808 HB hHeld ⊢; refine Sq.p_ 0 69 ?_ (Sq.b 9 1) rfl rfl HT_ (by kernel_rfl) (fun _ _ _ h => h) (Or.inl ⟨by rfl, ?_⟩) ?_ ?_ ?_
               rotate_left
               ·intro w'; go_simp; with_reducible rfl
               rotate_left
               ·simp only [Sq.put]; rfl
               refine Sq.p_ 3 72 ?_ (Sq.b 9 9) rfl rfl HT_ (by kernel_rfl) (fun _ _ _ h => h) (Or.inl ⟨by rfl, ?_⟩) ?_ ?_ ?_
               rotate_left
               ·intro w'; go_simp; with_reducible rfl
               rotate_left
               ·simp only [Sq.put]; rfl
               refine Sq.k 1 70 ?_ (Sq.b 9 11) rfl rfl HT_ HW_ (by kernel_rfl) (fun _ _ _ h => h) (Or.inl ⟨by rfl, ?_⟩) hHeld ?_ ?_ ?_
               rotate_left
               ·rintro w' ⟨s0, s1, s2, s3, s4, s5⟩; go_simp; with_reducible rfl
               rotate_left
               ·simp only [Sq.put]; rfl
               refine Sq.k 4 73 ?_ (Sq.b 9 27) rfl rfl HT_ HW_ (by kernel_rfl) (fun _ _ _ h => h) (Or.inl ⟨by rfl, ?_⟩) hHeld ?_ ?_ ?_
               rotate_left
               ·rintro w' ⟨s0, s1, s2, s3, s4, s5⟩; go_simp; with_reducible rfl
               rotate_left
               ·simp only [Sq.put]; rfl
               refine Sq.p_ 5 74 ?_ (Sq.b 9 59) rfl rfl HT_ (by kernel_rfl) (fun _ _ _ h => h) (Or.inl ⟨by rfl, ?_⟩) ?_ ?_ ?_
               rotate_left
               ·intro w'; go_simp; with_reducible rfl
               rotate_left
               ·simp only [Sq.put]; rfl
               refine one_ (i := 2) (N := some 71) (Sq.b 9 63) rfl rfl (one_of HT_.out (by kernel_rfl)) (by decide) (fun K hK => ?_); refine goes_ Try.func121 (by kernel_rfl) rfl #[.agg #[.int .i64 a0_0, .int .i64 a0_1, .int .i64 a0_2, .int .i64 a0_3, .slice A0_4 l0_4.length c0_4, .slice A0_5 l0_5.length c0_5]] (by rfl) rfl rfl (by (try simp only [Sq.mp]); first | done | rfl | (simp only [List.length_drop, List.length_take]; rfl)) ?_; with_reducible refine (spec_l11Dense.calls kj10 a0_0 a0_1 a0_2 a0_3 _ _ l0_4 _ _ l0_5 t827 _ ?side1 ?side2 ?side3 ?side4 A30.out).mono ?_
               (case side1 => exact Sq.i_ HR0_4 HB)
               (case side2 => exact HC0_4.out)
               (case side3 => exact Sq.i_ HR0_5 HB)
               (case side4 => exact HC0_5.out)
               rintro e w53 ⟨v828, rfl, ho0, hb⟩; refine ⟨_, rfl, ?_⟩; have n0_ := Sq.r_ HO814 hb; have n1_ := Sq.r_ HO819 hb; have n2_ := Sq.r_ HO825 hb; have n3_ := Aside0.mk (Kd.R_lower ho0 (below_size (Sq.ut HB))); have n4_ := Sq.b_ BK808 hb; have n5_ := Sq.us HB hb; clear HO814; clear HO819; clear HO825; clear BK808; clear HB; have HO814 := n0_; have HO819 := n1_; have HO825 := n2_; have HO829 := n3_; have BK808 := n4_; have HB := n5_; clear n0_ n1_ n2_ n3_ n4_ n5_; (try clear hb)
               (try clear hb2)
               (try clear hk)
               (try clear hi)
               (try clear ho0)
               obtain ⟨Ao54, co54, eo54⟩ := Kd.R_slice HO829.out; (first | subst eo54 | (injection eo54 with f1_ f2_ f3_; have f4_ := f1_.symm; have f5_ := f3_.symm; clear f1_ f2_ f3_; subst f4_; subst f5_))
               refine hK.out _ _ (Sq.c6 BK808) (fun hHeld => ?_); clear hK K; refine norm_ (a' := ?_) ?_ ?_
               rotate_left
               ·show Act.put _ (some 71) _ = _
                simp only [Sq.put]; rfl
               refine one_ (i := 6) (N := some 75) (Sq.b 9 127) rfl rfl (one_of HT_.out (by kernel_rfl)) (by decide) (fun K hK => ?_); refine goes_ Try.func120 (by kernel_rfl) rfl #[.slice Ao54 t827.length co54, .int .i64 (wrap64 (Int.tdiv a0_1 8))] (by rfl) rfl rfl (by (try simp only [Sq.mp]); first | done | rfl | (simp only [List.length_drop, List.length_take]; rfl)) ?_; with_reducible refine (spec_l7Run.calls kj10 _ _ t827 (wrap64 (Int.tdiv a0_1 8)) t830 _ ?side1 ?side2 A31.out).mono ?_
               (case side1 => exact Sq.c_ HO829)
               (case side2 => exact (Kd.R_reads' HO829.out).2.1)
               rintro e w55 ⟨rfl, hb⟩; refine ⟨_, rfl, ?_⟩; have n0_ := Sq.r_ HO814 hb; have n1_ := Sq.r_ HO819 hb; have n2_ := Sq.r_ HO825 hb; have n3_ := Sq.r_ HO829 hb; have n4_ := Sq.b_ BK808 hb; have n5_ := Sq.us HB hb; clear HO814; clear HO819; clear HO825; clear HO829; clear BK808; clear HB; have HO814 := n0_; have HO819 := n1_; have HO825 := n2_; have HO829 := n3_; have BK808 := n4_; have HB := n5_; clear n0_ n1_ n2_ n3_ n4_ n5_; (try clear hb)
               (try clear hb2)
               (try clear hk)
               (try clear hi)
               refine hK.out _ _ (Sq.c6 BK808) (fun hHeld => ?_); clear hK K; refine norm_ (a' := ?_) ?_ ?_
               rotate_left
               ·show Act.put _ (some 75) _ = _
                simp only [Sq.put]; rfl
               refine Sq.p_ 7 76 ?_ (Sq.b 9 255) rfl rfl HT_ (by kernel_rfl) (fun _ _ _ h => h) (Or.inl ⟨by rfl, ?_⟩) ?_ ?_ ?_
               rotate_left
               ·intro w'; go_simp; with_reducible rfl
               rotate_left
               ·simp only [Sq.put]; rfl
               refine Sq.p_ 8 4 ?_ (Sq.b 9 511) rfl rfl HT_ (by kernel_rfl) (fun _ _ _ h => h) (Or.inl ⟨by rfl, ?_⟩) ?_ ?_ ?_
               rotate_left
               ·intro w'; go_simp; with_reducible rfl
               rotate_left
               ·simp only [Sq.put]; rfl
               refine done_ (done_of HT_.out (by kernel_rfl)) ?_; try go_wp2
               go_ret
               exact ⟨by first | rfl | (simp [errW_none, errW_some] <;> rfl) | (simp [*, errW_none, errW_some] <;> rfl), (Sq.ut HB)⟩
              ·rw [if_neg c32] at H; exact absurd H (by simp)
             ·replace c29 := Bool.eq_false_iff.mpr c29; subst c29; replace H := Sq.f H; replace H := Option.bind_eq_some_iff.mp H; obtain ⟨t831, A560, H⟩ := H; have A56 := Aside0.mk A560; clear A560; replace H := Option.bind_eq_some_iff.mp H; obtain ⟨t834, A570, H⟩ := H; have A57 := Aside0.mk A570; clear A570
              by_cases c58 : (((((((((strOfNums y812) ++ t815) ++ t816) ++ (strOfNums y817)) ++ t820) ++ t821) ++ t822) ++ (strOfNums y823)) ++ t826).size + t834.size ≤ 9223372036854775807
              ·rw [if_pos c58] at H; have c58b0 := eq_true c58; have c58b1 : decide ((((((((((strOfNums y812) ++ t815) ++ t816) ++ (strOfNums y817)) ++ t820) ++ t821) ++ t822) ++ (strOfNums y823)) ++ t826).size + t834.size ≤ 9223372036854775807) = true := decide_eq_true c58; try have c58b2 : (9223372036854775807 < (((((((((strOfNums y812) ++ t815) ++ t816) ++ (strOfNums y817)) ++ t820) ++ t821) ++ t822) ++ (strOfNums y823)) ++ t826).size + t834.size) = False := eq_false (Nat.not_lt.2 c58)
               try have c58b3 := c58b2
               try simp only [ByteArray.size_append] at c58b3
               obtain rfl := Option.some.inj H; try go_wp2
               have n0_ := Aside0.mk (blk_drew BK808.out); have n1_ := Aside0.mk (below_drew1 HB.out); clear BK808; clear HB; have BK808 := n0_; have HB := n1_; clear n0_ n1_; refine start_ (n := 23) (S := fun w' => Sq.C6 w' gb808 (.int .i64 a0_0) (.int .i64 a0_1) (.int .i64 a0_2) (.int .i64 a0_3) (.slice A0_4 l0_4.length c0_4) (.slice A0_5 l0_5.length c0_5)) (ds := []) #[false, false, false, false, false, false, false, false, false, false, false, false, false, false, false, false, false, false, false, false, false, false, false] (by kernel_rfl) rfl rfl (Sq.c6 BK808) (fun hHeld => ?_); refine with_tabW spec_l11Put.tab8 spec_l11Put.bits8 (fun HT_ HW_ => ?_)
               generalize wc.drew = w59 at BK808 HB hHeld ⊢; refine Sq.p_ 0 23 ?_ (Sq.b 23 1) rfl rfl HT_ (by kernel_rfl) (fun _ _ _ h => h) (Or.inl ⟨by rfl, ?_⟩) ?_ ?_ ?_
               rotate_left
               ·intro w'; go_simp; with_reducible rfl
               rotate_left
               ·simp only [Sq.put]; rfl
               refine Sq.p_ 6 29 ?_ (Sq.b 23 65) rfl rfl HT_ (by kernel_rfl) (fun _ _ _ h => h) (Or.inl ⟨by rfl, ?_⟩) ?_ ?_ ?_
               rotate_left
               ·intro w'; go_simp; with_reducible rfl
               rotate_left
               ·simp only [Sq.put]; rfl
               refine Sq.p_ 7 30 ?_ (Sq.b 23 193) rfl rfl HT_ (by kernel_rfl) (fun _ _ _ h => h) (Or.inl ⟨by rfl, ?_⟩) ?_ ?_ ?_
               rotate_left
               ·intro w'; go_simp; with_reducible rfl
               rotate_left
               ·simp only [Sq.put]; rfl
               refine Sq.p_ 12 35 ?_ (Sq.b 23 4289) rfl rfl HT_ (by kernel_rfl) (fun _ _ _ h => h) (Or.inl ⟨by rfl, ?_⟩) ?_ ?_ ?_
               rotate_left
               ·intro w'; go_simp; with_reducible rfl
               rotate_left
               ·simp only [Sq.put]; rfl
               refine Sq.p_ 17 40 ?_ (Sq.b 23 135361) rfl rfl HT_ (by kernel_rfl) (fun _ _ _ h => h) (Or.inl ⟨by rfl, ?_⟩) ?_ ?_ ?_
               rotate_left
               ·intro w'; go_simp; with_reducible rfl
               rotate_left
               ·simp only [Sq.put]; rfl
               refine Sq.p_ 18 41 ?_ (Sq.b 23 397505) rfl rfl HT_ (by kernel_rfl) (fun _ _ _ h => h) (Or.inl ⟨by rfl, ?_⟩) ?_ ?_ ?_
               rotate_left
               ·intro w'; go_simp; with_reducible rfl
               rotate_left
               ·simp only [Sq.put]; rfl
               refine Sq.k 1 24 ?_ (Sq.b 23 397507) rfl rfl HT_ HW_ (by kernel_rfl) (fun _ _ _ h => h) (Or.inl ⟨by rfl, ?_⟩) hHeld ?_ ?_ ?_
               rotate_left
               ·rintro w' ⟨s0, s1, s2, s3, s4, s5⟩; go_simp; with_reducible rfl
               rotate_left
               ·simp only [Sq.put]; rfl
               refine Sq.p_ 2 25 ?_ (Sq.b 23 397511) rfl rfl HT_ (by kernel_rfl) (fun _ _ _ h => h) (Or.inl ⟨by rfl, ?_⟩) ?_ ?_ ?_
               rotate_left
               ·intro w'; go_simp; with_reducible rfl
               rotate_left
               ·simp only [Sq.put]; rfl
               refine Sq.p_ 3 26 ?_ (Sq.b 23 397519) rfl rfl HT_ (by kernel_rfl) (fun _ _ _ h => h) (Or.inl ⟨by rfl, ?_⟩) ?_ ?_ ?_
               rotate_left
               ·intro w'; go_simp; with_reducible rfl
               rotate_left
               ·simp only [Sq.put]; rfl
               refine Sq.k 13 36 ?_ (Sq.b 23 405711) rfl rfl HT_ HW_ (by kernel_rfl) (fun _ _ _ h => h) (Or.inl ⟨by rfl, ?_⟩) hHeld ?_ ?_ ?_
               rotate_left
               ·rintro w' ⟨s0, s1, s2, s3, s4, s5⟩; go_simp; with_reducible rfl
               rotate_left
               ·simp only [Sq.put]; rfl
               refine Sq.p_ 14 37 ?_ (Sq.b 23 422095) rfl rfl HT_ (by kernel_rfl) (fun _ _ _ h => h) (Or.inl ⟨by rfl, ?_⟩) ?_ ?_ ?_
               rotate_left
               ·intro w'; go_simp; with_reducible rfl
               rotate_left
               ·simp only [Sq.put]; rfl
               refine Reg.size_ (fun N0_ hN0_ => ?_); refine Reg.mid_ #[true, true, true, true, true, true, true, true, true, true, true, true, true, true, true, true, true, true, true, true, true, false, false] [0, 1, 3, 7, 15, 31, 0, 64, 255, 511, 31, 2047, 0, 4096, 12288, 29727, 65535, 0, 131072, 393216, 917504, 2097151, 4194303] [(27, 4), (28, 5), (31, 8), (32, 9), (33, 10), (34, 11), (38, 15), (39, 16), (42, 19), (43, 20)] [4, 5, 8, 9, 10, 11, 15, 16, 19, 20] [8, 19] (Reg.sel [(4, fun v_ _ => v_ = .int .i64 t811), (5, fun v_ _ => v_ = .int .u8 ((t811) % 256)), (8, fun v_ w' => (Kd.R (Kd.int .u8) 5 w' w.heap.size (fun _ => True) v_ y812) ∧ ∀ b_, (v_ : Value).ownBlock = some b_ → N0_ ≤ b_), (9, fun v_ _ => v_ = .string (strOfNums y812)), (10, fun v_ _ => v_ = .string t815), (11, fun v_ _ => v_ = .string ((strOfNums y812) ++ t815)), (15, fun v_ _ => v_ = .string t816), (16, fun v_ _ => v_ = .string (((strOfNums y812) ++ t815) ++ t816)), (19, fun v_ w' => (Kd.R (Kd.int .u8) 5 w' w.heap.size (fun _ => True) v_ y817) ∧ ∀ b_, (v_ : Value).ownBlock = some b_ → N0_ ≤ b_), (20, fun v_ _ => v_ = .string (strOfNums y817))]) (fun w' => (Sq.C6 w' gb808 (.int .i64 a0_0) (.int .i64 a0_1) (.int .i64 a0_2) (.int .i64 a0_3) (.slice A0_4 l0_4.length c0_4) (.slice A0_5 l0_5.length c0_5)) ∧ (N0_ ≤ w'.heap.size) ∧ (w'.heap[gb808]? = some (.cells #[.int .i64 a0_0, .int .i64 a0_1, .int .i64 a0_2, .int .i64 a0_3, .slice A0_4 l0_4.length c0_4, .slice A0_5 l0_5.length c0_5] 40 (0, 0))) ∧ (Below w.heap.size w w')) 2 (by kernel_rfl) (by kernel_rfl) (by kernel_rfl) (by kernel_rfl) rfl ?hD25_ ?hG25_ ?hS25_ ?hW25_ ?hO25_ ?hE25_
               case hD25_ => exact Reg.sel_st ⟨fun _ _ _ h_ _ => h_, fun _ _ _ h_ _ => h_, fun _ _ _ h_ hb_ => ⟨Kd.R_below h_.1 hb_, h_.2⟩, fun _ _ _ h_ _ => h_, fun _ _ _ h_ _ => h_, fun _ _ _ h_ _ => h_, fun _ _ _ h_ _ => h_, fun _ _ _ h_ _ => h_, fun _ _ _ h_ hb_ => ⟨Kd.R_below h_.1 hb_, h_.2⟩, fun _ _ _ h_ _ => h_, trivial⟩
               case hG25_ =>
                rintro w1_ w2_ ⟨⟨c0_, c1_, c2_, c3_, c4_, c5_⟩, hN_, b2_, b3_⟩ hb_; exact ⟨⟨Reg.cell_step c0_ hb_, Reg.cell_step c1_ hb_, Reg.cell_step c2_ hb_, Reg.cell_step c3_ hb_, Reg.cell_step c4_ hb_, Reg.cell_step c5_ hb_⟩, Nat.le_trans hN_ (below_size hb_), (by first | exact blk_below b2_ hb_ | exact below_step b2_ hb_ | exact Kd.R_below b2_ hb_ | exact Kd.C_below b2_ hb_), (by first | exact blk_below b3_ hb_ | exact below_step b3_ hb_ | exact Kd.R_below b3_ hb_ | exact Kd.C_below b3_ hb_)⟩
               case hS25_ => exact fun _ h_ => h_.1
               case hW25_ => exact ⟨hHeld, Nat.le_of_eq hN0_, (by (with_reducible repeat (first | refine blk_drewN ?_ _ | refine blk_drew ?_ | refine blk_alloc ?_ _ | apply below_alloc | apply pw_below_drewN | apply below_drew1 | apply Kd.R_alloc | apply Kd.R_drewN | apply Kd.R_drew)); exact BK808.out), (by (with_reducible repeat (first | refine blk_drewN ?_ _ | refine blk_drew ?_ | refine blk_alloc ?_ _ | apply below_alloc | apply pw_below_drewN | apply below_drew1 | apply Kd.R_alloc | apply Kd.R_drewN | apply Kd.R_drew)); exact HB.out)⟩
               case hO25_ =>
                refine ⟨?_, ?_, ?_, ?_, ?_, ?_, ?_, ?_, ?_, ?_, trivial⟩
                ·intro o_ ho_; simp only [Sq.ge] at ho_; subst ho_; intro u_ w1_ hG_ hP_ K hK; have hN_ := hG_.2.1; clear BK808; clear HB; have BK808 := Aside0.mk hG_.2.2.1; have HB := Aside0.mk hG_.2.2.2; clear hG_; clear hP_; refine ⟨?_⟩; generalize hfr_ : Reg.frame _ _ u_ = fr_ at hK ⊢; simp only [Sq.frm] at hfr_; subst hfr_; refine goes_ Try.func110 (by kernel_rfl) rfl #[.bool (decide (0 < l0_4.length))] (by rfl) rfl rfl (by (try simp only [Sq.mp]); first | done | rfl | (simp only [List.length_drop, List.length_take]; rfl)) ?_; with_reducible refine (spec_l9Flag.calls (decide (0 < l0_4.length)) t811 _ (by have h_ := A14.out; rw [show (decide ((l0_4.length : Int) > 0)) = decide (0 < l0_4.length) from by simp] at h_; exact h_)).mono ?_
                 rintro e w' ⟨rfl, ⟨nd, rfl⟩⟩; refine ⟨_, rfl, ?_⟩; exact hK _ _ rfl (pw_below_drewN (Below.refl _ _) nd) (fun h_ => by cases h_)
                ·intro o_ ho_; simp only [Sq.ge] at ho_; subst ho_; intro u_ w1_ hG_ hP_ K hK; have hN_ := hG_.2.1; clear BK808; clear HB; have BK808 := Aside0.mk hG_.2.2.1; have HB := Aside0.mk hG_.2.2.2; clear hG_; have e4_ : u_ 4 = .int .i64 t811 := hP_ 4 (by decide) (by rfl); clear hP_; refine ⟨?_⟩; generalize hfr_ : Reg.frame _ _ u_ = fr_ at hK ⊢; simp only [Sq.frm, e4_] at hfr_; subst hfr_; clear e4_; refine value_ (w1 := ?_) (v := ?_) (by rfl) rfl ?_ ?_
                 rotate_left 2
                 ·go_simp
                  constructor
                  ·rfl
                  ·rfl
                 exact hK _ _ (by first | rfl | (simp only [i64_w, i32_w]; rfl)) (Below.refl _ _) (fun h_ => by cases h_)
                ·intro o_ ho_; simp only [Sq.ge] at ho_; subst ho_; intro u_ w1_ hG_ hP_ K hK; have hN_ := hG_.2.1; clear BK808; clear HB; have BK808 := Aside0.mk hG_.2.2.1; have HB := Aside0.mk hG_.2.2.2; clear hG_; have e4_ : u_ 4 = .int .i64 t811 := hP_ 4 (by decide) (by rfl); have e5_ : u_ 5 = .int .u8 ((t811) % 256) := hP_ 5 (by decide) (by rfl); clear hP_; refine ⟨?_⟩; generalize hfr_ : Reg.frame _ _ u_ = fr_ at hK ⊢; simp only [Sq.frm, e4_, e5_] at hfr_; subst hfr_; clear e4_ e5_; refine Kd.R_lit_step (Kd.int .u8) _ 5 ?hg (N := 31) ?hd (xs := ([0, (t811) % 256, ((wrap64 (t809 + (wrap64 (8 * t810))))) % 256] : List Int)) (inner := [.int .u8 0, .int .u8 ((t811) % 256), .int .u8 (((wrap64 (t809 + (wrap64 (8 * t810))))) % 256)]) (ok := fun _ => True) (okp := fun _ => True) ?hr ?hp (fun _ hk => hk) trivial (Below.refl _ _) (Nat.le_refl _) (by simp) ?_; (case hd => rfl); (case hg => rfl); (case hr => first | (go_simp; done) | (go_simp; rfl)); (case hp => exact (Reps.one (show Kd.M (Kd.int .u8) _ _ _ 0 [.int .u8 0] from rfl) (Reps.one (show Kd.M (Kd.int .u8) _ _ _ ((t811) % 256) [.int .u8 ((t811) % 256)] from rfl) (Reps.one (show Kd.M (Kd.int .u8) _ _ _ (((wrap64 (t809 + (wrap64 (8 * t810))))) % 256) [.int .u8 (((wrap64 (t809 + (wrap64 (8 * t810))))) % 256)] from rfl) (Reps.none _ _)))))
                 intro v813 w61 ho62 hb hg_ hnew_; (first | rw [← Ny812.out] at ho62 | (simp only [Int.reduceToNat] at ho62; rw [← Ny812.out] at ho62))
                 exact hK _ _ ⟨Kd.R_mono (Kd.R_lower ho62 (below_size HB.out)) (fun _ _ => trivial), fun b_ h_ => Nat.le_trans hN_ (Kd.R_base ho62 b_ h_)⟩ hb (fun _ b_ h_ => ⟨Kd.R_base ho62 b_ h_, Kd.R_lt ho62 b_ h_⟩)
                ·intro o_ ho_; simp only [Sq.ge] at ho_; subst ho_; intro u_ w1_ hG_ hP_ K hK; have hN_ := hG_.2.1; clear BK808; clear HB; have BK808 := Aside0.mk hG_.2.2.1; have HB := Aside0.mk hG_.2.2.2; clear hG_; have e4_ : u_ 4 = .int .i64 t811 := hP_ 4 (by decide) (by rfl); have e5_ : u_ 5 = .int .u8 ((t811) % 256) := hP_ 5 (by decide) (by rfl); obtain ⟨v813, hv8_⟩ : ∃ v_, v_ = u_ 8 := ⟨_, rfl⟩; have e8_ := hP_ 8 (by decide) (by rfl); have e8_ : (Kd.R (Kd.int .u8) 5 w1_ w.heap.size (fun _ => True) v813 y812) ∧ ∀ b_, (v813 : Value).ownBlock = some b_ → N0_ ≤ b_ := by rw [hv8_]; exact e8_
                 have HO814 := Aside0.mk e8_.1; clear e8_; clear hP_; refine ⟨?_⟩; generalize hfr_ : Reg.frame _ _ u_ = fr_ at hK ⊢; simp only [Sq.frm, e4_, e5_, ← hv8_] at hfr_; subst hfr_; clear e4_ e5_ hv8_; have hcv63 := own_string (P := Try.prog) Try.underlying28 Try.underlying5 Try.underlying9 (Kd.own_of_R HO814.out); refine value_ (w1 := ?_) (v := ?_) (by rfl) rfl ?_ ?_
                 rotate_left 2
                 ·go_simp
                  constructor
                  ·rfl
                  ·rfl
                 exact hK _ _ (by first | rfl | (simp only [i64_w, i32_w]; rfl)) (Below.refl _ _) (fun h_ => by cases h_)
                ·intro o_ ho_; simp only [Sq.ge] at ho_; subst ho_; intro u_ w1_ hG_ hP_ K hK; have hN_ := hG_.2.1; clear BK808; clear HB; have BK808 := Aside0.mk hG_.2.2.1; have HB := Aside0.mk hG_.2.2.2; clear hG_; have e4_ : u_ 4 = .int .i64 t811 := hP_ 4 (by decide) (by rfl); clear hP_; refine ⟨?_⟩; generalize hfr_ : Reg.frame _ _ u_ = fr_ at hK ⊢; simp only [Sq.frm, e4_] at hfr_; subst hfr_; clear e4_; refine goes_ Try.func109 (by kernel_rfl) rfl #[.int .i64 0, .int .i64 2, .bool false] (by rfl) rfl rfl (by (try simp only [Sq.mp]); first | done | rfl | (simp only [List.length_drop, List.length_take]; rfl)) ?_; with_reducible refine (spec_l1Num.calls kj10 0 2 false t815 _ A15.out).mono ?_
                 rintro e w61 ⟨rfl, hb⟩; refine ⟨_, rfl, ?_⟩; exact hK _ _ rfl hb (fun h_ => by cases h_)
                ·intro o_ ho_; simp only [Sq.ge] at ho_; subst ho_; intro u_ w1_ hG_ hP_ K hK; have hN_ := hG_.2.1; clear BK808; clear HB; have BK808 := Aside0.mk hG_.2.2.1; have HB := Aside0.mk hG_.2.2.2; clear hG_; have e4_ : u_ 4 = .int .i64 t811 := hP_ 4 (by decide) (by rfl); have e5_ : u_ 5 = .int .u8 ((t811) % 256) := hP_ 5 (by decide) (by rfl); obtain ⟨v813, hv8_⟩ : ∃ v_, v_ = u_ 8 := ⟨_, rfl⟩; have e8_ := hP_ 8 (by decide) (by rfl); have e8_ : (Kd.R (Kd.int .u8) 5 w1_ w.heap.size (fun _ => True) v813 y812) ∧ ∀ b_, (v813 : Value).ownBlock = some b_ → N0_ ≤ b_ := by rw [hv8_]; exact e8_
                 have e9_ : u_ 9 = .string (strOfNums y812) := hP_ 9 (by decide) (by rfl); have e10_ : u_ 10 = .string t815 := hP_ 10 (by decide) (by rfl); have HO814 := Aside0.mk e8_.1; clear e8_; clear hP_; refine ⟨?_⟩; generalize hfr_ : Reg.frame _ _ u_ = fr_ at hK ⊢; simp only [Sq.frm, e4_, e5_, ← hv8_, e9_, e10_] at hfr_; subst hfr_; clear e4_ e5_ hv8_ e9_ e10_; refine value_ (w1 := ?_) (v := ?_) (by rfl) rfl ?_ ?_
                 rotate_left 2
                 ·go_simp
                  constructor
                  ·rfl
                  ·rfl
                 exact hK _ _ (by first | rfl | (simp only [i64_w, i32_w]; rfl)) (Below.refl _ _) (fun h_ => by cases h_)
                ·intro o_ ho_; simp only [Sq.ge] at ho_; subst ho_; intro u_ w1_ hG_ hP_ K hK; have hN_ := hG_.2.1; clear BK808; clear HB; have BK808 := Aside0.mk hG_.2.2.1; have HB := Aside0.mk hG_.2.2.2; clear hG_; have e4_ : u_ 4 = .int .i64 t811 := hP_ 4 (by decide) (by rfl); have e10_ : u_ 10 = .string t815 := hP_ 10 (by decide) (by rfl); clear hP_; refine ⟨?_⟩; generalize hfr_ : Reg.frame _ _ u_ = fr_ at hK ⊢; simp only [Sq.frm, e4_, e10_] at hfr_; subst hfr_; clear e4_ e10_; refine goes_ Try.func109 (by kernel_rfl) rfl #[.int .i64 (l0_4.length : Int), .int .i64 2, .bool false] (by rfl) rfl rfl (by (try simp only [Sq.mp]); first | done | rfl | (simp only [List.length_drop, List.length_take]; rfl)) ?_; with_reducible refine (spec_l1Num.calls kj10 (l0_4.length : Int) 2 false t816 _ A17.out).mono ?_
                 rintro e w62 ⟨rfl, hb⟩; refine ⟨_, rfl, ?_⟩; exact hK _ _ rfl hb (fun h_ => by cases h_)
                ·intro o_ ho_; simp only [Sq.ge] at ho_; subst ho_; intro u_ w1_ hG_ hP_ K hK; have hN_ := hG_.2.1; clear BK808; clear HB; have BK808 := Aside0.mk hG_.2.2.1; have HB := Aside0.mk hG_.2.2.2; clear hG_; have e4_ : u_ 4 = .int .i64 t811 := hP_ 4 (by decide) (by rfl); have e5_ : u_ 5 = .int .u8 ((t811) % 256) := hP_ 5 (by decide) (by rfl); obtain ⟨v813, hv8_⟩ : ∃ v_, v_ = u_ 8 := ⟨_, rfl⟩; have e8_ := hP_ 8 (by decide) (by rfl); have e8_ : (Kd.R (Kd.int .u8) 5 w1_ w.heap.size (fun _ => True) v813 y812) ∧ ∀ b_, (v813 : Value).ownBlock = some b_ → N0_ ≤ b_ := by rw [hv8_]; exact e8_
                 have e9_ : u_ 9 = .string (strOfNums y812) := hP_ 9 (by decide) (by rfl); have e10_ : u_ 10 = .string t815 := hP_ 10 (by decide) (by rfl); have e11_ : u_ 11 = .string ((strOfNums y812) ++ t815) := hP_ 11 (by decide) (by rfl); have e15_ : u_ 15 = .string t816 := hP_ 15 (by decide) (by rfl); have HO814 := Aside0.mk e8_.1; clear e8_; clear hP_; refine ⟨?_⟩; generalize hfr_ : Reg.frame _ _ u_ = fr_ at hK ⊢; simp only [Sq.frm, e4_, e5_, ← hv8_, e9_, e10_, e11_, e15_] at hfr_; subst hfr_; clear e4_ e5_ hv8_ e9_ e10_ e11_ e15_; refine value_ (w1 := ?_) (v := ?_) (by rfl) rfl ?_ ?_
                 rotate_left 2
                 ·go_simp
                  constructor
                  ·rfl
                  ·rfl
                 exact hK _ _ (by first | rfl | (simp only [i64_w, i32_w]; rfl)) (Below.refl _ _) (fun h_ => by cases h_)
                ·intro o_ ho_; simp only [Sq.ge] at ho_; subst ho_; intro u_ w1_ hG_ hP_ K hK; have hN_ := hG_.2.1; clear BK808; clear HB; have BK808 := Aside0.mk hG_.2.2.1; have HB := Aside0.mk hG_.2.2.2; clear hG_; clear hP_; refine ⟨?_⟩; generalize hfr_ : Reg.frame _ _ u_ = fr_ at hK ⊢; simp only [Sq.frm] at hfr_; subst hfr_; refine Kd.R_lit_step (Kd.int .u8) _ 5 ?hg (N := 42) ?hd (xs := ([(x6_4) % 256] : List Int)) (inner := [.int .u8 ((x6_4) % 256)]) (ok := fun _ => True) (okp := fun _ => True) ?hr ?hp (fun _ hk => hk) trivial (Below.refl _ _) (Nat.le_refl _) (by simp) ?_; (case hd => rfl); (case hg => rfl); (case hr => first | (go_simp; done) | (go_simp; rfl)); (case hp => exact (Reps.one (show Kd.M (Kd.int .u8) _ _ _ ((x6_4) % 256) [.int .u8 ((x6_4) % 256)] from rfl) (Reps.none _ _)))
                 intro v818 w60 ho61 hb hg_ hnew_; (first | rw [← Ny817.out] at ho61 | (simp only [Int.reduceToNat] at ho61; rw [← Ny817.out] at ho61))
                 exact hK _ _ ⟨Kd.R_mono (Kd.R_lower ho61 (below_size HB.out)) (fun _ _ => trivial), fun b_ h_ => Nat.le_trans hN_ (Kd.R_base ho61 b_ h_)⟩ hb (fun _ b_ h_ => ⟨Kd.R_base ho61 b_ h_, Kd.R_lt ho61 b_ h_⟩)
                ·intro o_ ho_; simp only [Sq.ge] at ho_; subst ho_; intro u_ w1_ hG_ hP_ K hK; have hN_ := hG_.2.1; clear BK808; clear HB; have BK808 := Aside0.mk hG_.2.2.1; have HB := Aside0.mk hG_.2.2.2; clear hG_; obtain ⟨v818, hv19_⟩ : ∃ v_, v_ = u_ 19 := ⟨_, rfl⟩; have e19_ := hP_ 19 (by decide) (by rfl); have e19_ : (Kd.R (Kd.int .u8) 5 w1_ w.heap.size (fun _ => True) v818 y817) ∧ ∀ b_, (v818 : Value).ownBlock = some b_ → N0_ ≤ b_ := by rw [hv19_]; exact e19_
                 have HO819 := Aside0.mk e19_.1; clear e19_; clear hP_; refine ⟨?_⟩; generalize hfr_ : Reg.frame _ _ u_ = fr_ at hK ⊢; simp only [Sq.frm, ← hv19_] at hfr_; subst hfr_; clear hv19_; have hcv63 := own_string (P := Try.prog) Try.underlying28 Try.underlying5 Try.underlying9 (Kd.own_of_R HO819.out); refine value_ (w1 := ?_) (v := ?_) (by rfl) rfl ?_ ?_
                 rotate_left 2
                 ·go_simp
                  constructor
                  ·rfl
                  ·rfl
                 exact hK _ _ (by first | rfl | (simp only [i64_w, i32_w]; rfl)) (Below.refl _ _) (fun h_ => by cases h_)
               intro u_ w68 hG_ hQ_ hA_; obtain ⟨hS_, hN_, h2_, h3_⟩ := hG_; have e4_ : u_ 4 = .int .i64 t811 := hQ_ 4 (by decide); have e5_ : u_ 5 = .int .u8 ((t811) % 256) := hQ_ 5 (by decide); obtain ⟨v813, hv8_⟩ : ∃ v_, v_ = u_ 8 := ⟨_, rfl⟩; have e8_ := hQ_ 8 (by decide); have e8_ : (Kd.R (Kd.int .u8) 5 w68 w.heap.size (fun _ => True) v813 y812) ∧ ∀ b_, (v813 : Value).ownBlock = some b_ → N0_ ≤ b_ := by rw [hv8_]; exact e8_
               have e9_ : u_ 9 = .string (strOfNums y812) := hQ_ 9 (by decide); have e10_ : u_ 10 = .string t815 := hQ_ 10 (by decide); have e11_ : u_ 11 = .string ((strOfNums y812) ++ t815) := hQ_ 11 (by decide); have e15_ : u_ 15 = .string t816 := hQ_ 15 (by decide); have e16_ : u_ 16 = .string (((strOfNums y812) ++ t815) ++ t816) := hQ_ 16 (by decide); obtain ⟨v818, hv19_⟩ : ∃ v_, v_ = u_ 19 := ⟨_, rfl⟩; have e19_ := hQ_ 19 (by decide); have e19_ : (Kd.R (Kd.int .u8) 5 w68 w.heap.size (fun _ => True) v818 y817) ∧ ∀ b_, (v818 : Value).ownBlock = some b_ → N0_ ≤ b_ := by rw [hv19_]; exact e19_
               have e20_ : u_ 20 = .string (strOfNums y817) := hQ_ 20 (by decide); have h0_ : Kd.R (Kd.int .u8) 5 w68 w.heap.size (fun k_ => some k_ ≠ (v818 : Value).ownBlock) v813 y812 := Kd.R_mono (Kd.R_tight rfl e8_.1) (fun k_ hk_ => (by have h_ := hA_ 8 (by decide) 19 (by decide) rfl rfl (by decide); rw [← hv8_, ← hv19_] at h_; exact h_ k_ hk_.symm)); have h1_ : Kd.R (Kd.int .u8) 5 w68 w.heap.size (fun k_ => some k_ ≠ (v813 : Value).ownBlock) v818 y817 := Kd.R_mono (Kd.R_tight rfl e19_.1) (fun k_ hk_ => (by have h_ := hA_ 19 (by decide) 8 (by decide) rfl rfl (by decide); rw [← hv19_, ← hv8_] at h_; exact h_ k_ hk_.symm)); clear e8_; clear e19_; refine ⟨?_⟩; generalize hfr_ : Reg.frame _ _ u_ = fr_; simp only [Sq.frm, e4_, e5_, ← hv8_, e9_, e10_, e11_, e15_, e16_, ← hv19_, e20_] at hfr_; subst hfr_; clear hQ_ hA_ hN_ hN0_ hv8_ hv19_ e4_ e5_ e9_ e10_ e11_ e15_ e16_ e20_; have n0_ : Aside0 (Kd.R (Kd.int .u8) 5 w68 w.heap.size (fun k_ => some k_ ≠ (v818 : Value).ownBlock) v813 y812) := ⟨h0_⟩; have n1_ : Aside0 (Kd.R (Kd.int .u8) 5 w68 w.heap.size (fun k_ => some k_ ≠ (v813 : Value).ownBlock) v818 y817) := ⟨h1_⟩; have n2_ : Aside0 (w68.heap[gb808]? = some (.cells #[.int .i64 a0_0, .int .i64 a0_1, .int .i64 a0_2, .int .i64 a0_3, .slice A0_4 l0_4.length c0_4, .slice A0_5 l0_5.length c0_5] 40 (0, 0))) := ⟨h2_⟩; have n3_ : Aside0 (Below w.heap.size w w68) := ⟨h3_⟩; clear BK808; clear HB; clear h0_ h1_ h2_ h3_; have HO814 := n0_; have HO819 := n1_; have BK808 := n2_; have HB := n3_; clear n0_ n1_ n2_ n3_; have hHeld : Sq.C6 w68 gb808 (.int .i64 a0_0) (.int .i64 a0_1) (.int .i64 a0_2) (.int .i64 a0_3) (.slice A0_4 l0_4.length c0_4) (.slice A0_5 l0_5.length c0_5) := hS_; refine Sq.p_ 21 44 ?_ (Sq.b 23 4194303) rfl rfl HT_ (by kernel_rfl) (fun _ _ _ h => h) (Or.inl ⟨by rfl, ?_⟩) ?_ ?_ ?_
               rotate_left
               ·intro w'; go_simp; with_reducible rfl
               rotate_left
               ·simp only [Sq.put]; rfl
               refine Sq.p_ 22 8 ?_ (Sq.b 23 8388607) rfl rfl HT_ (by kernel_rfl) (fun _ _ _ h => h) (Or.inl ⟨by rfl, ?_⟩) ?_ ?_ ?_
               rotate_left
               ·intro w'; go_simp; with_reducible rfl
               rotate_left
               ·simp only [Sq.put]; rfl
               refine done_ (done_of HT_.out (by kernel_rfl)) ?_; try go_wp2
               have n0_ := Aside0.mk (Kd.R_drew HO814.out); have n1_ := Aside0.mk (Kd.R_drew HO819.out); have n2_ := Aside0.mk (blk_drew BK808.out); have n3_ := Aside0.mk (below_drew1 HB.out); clear HO814; clear HO819; clear BK808; clear HB; have HO814 := n0_; have HO819 := n1_; have BK808 := n2_; have HB := n3_; clear n0_ n1_ n2_ n3_; refine start_ (n := 24) (S := fun w' => Sq.C6 w' gb808 (.int .i64 a0_0) (.int .i64 a0_1) (.int .i64 a0_2) (.int .i64 a0_3) (.slice A0_4 l0_4.length c0_4) (.slice A0_5 l0_5.length c0_5)) (ds := []) #[false, false, false, false, false, false, false, false, false, false, false, false, false, false, false, false, false, false, false, false, false, false, false, false] (by kernel_rfl) rfl rfl (Sq.c6 BK808) (fun hHeld => ?_); refine with_tabW spec_l11Put.tab9 spec_l11Put.bits9 (fun HT_ HW_ => ?_)
               generalize w68.drew = w69 at HO814 HO819 BK808 HB hHeld ⊢; refine Sq.p_ 0 45 ?_ (Sq.b 24 1) rfl rfl HT_ (by kernel_rfl) (fun _ _ _ h => h) (Or.inl ⟨by rfl, ?_⟩) ?_ ?_ ?_
               rotate_left
               ·intro w'; go_simp; with_reducible rfl
               rotate_left
               ·simp only [Sq.put]; rfl
               refine Sq.p_ 3 48 ?_ (Sq.b 24 9) rfl rfl HT_ (by kernel_rfl) (fun _ _ _ h => h) (Or.inl ⟨by rfl, ?_⟩) ?_ ?_ ?_
               rotate_left
               ·intro w'; go_simp; with_reducible rfl
               rotate_left
               ·simp only [Sq.put]; rfl
               refine Sq.p_ 7 52 ?_ (Sq.b 24 137) rfl rfl HT_ (by kernel_rfl) (fun _ _ _ h => h) (Or.inl ⟨by rfl, ?_⟩) ?_ ?_ ?_
               rotate_left
               ·intro w'; go_simp; with_reducible rfl
               rotate_left
               ·simp only [Sq.put]; rfl
               refine Sq.p_ 11 56 ?_ (Sq.b 24 2185) rfl rfl HT_ (by kernel_rfl) (fun _ _ _ h => h) (Or.inl ⟨by rfl, ?_⟩) ?_ ?_ ?_
               rotate_left
               ·intro w'; go_simp; with_reducible rfl
               rotate_left
               ·simp only [Sq.put]; rfl
               refine Sq.p_ 14 59 ?_ (Sq.b 24 18569) rfl rfl HT_ (by kernel_rfl) (fun _ _ _ h => h) (Or.inl ⟨by rfl, ?_⟩) ?_ ?_ ?_
               rotate_left
               ·intro w'; go_simp; with_reducible rfl
               rotate_left
               ·simp only [Sq.put]; rfl
               refine Sq.p_ 15 60 ?_ (Sq.b 24 51337) rfl rfl HT_ (by kernel_rfl) (fun _ _ _ h => h) (Or.inl ⟨by rfl, ?_⟩) ?_ ?_ ?_
               rotate_left
               ·intro w'; go_simp; with_reducible rfl
               rotate_left
               ·simp only [Sq.put]; rfl
               refine Sq.p_ 19 64 ?_ (Sq.b 24 575625) rfl rfl HT_ (by kernel_rfl) (fun _ _ _ h => h) (Or.inl ⟨by rfl, ?_⟩) ?_ ?_ ?_
               rotate_left
               ·intro w'; go_simp; with_reducible rfl
               rotate_left
               ·simp only [Sq.put]; rfl
               refine Sq.k 4 49 ?_ (Sq.b 24 575641) rfl rfl HT_ HW_ (by kernel_rfl) (fun _ _ _ h => h) (Or.inl ⟨by rfl, ?_⟩) hHeld ?_ ?_ ?_
               rotate_left
               ·rintro w' ⟨s0, s1, s2, s3, s4, s5⟩; go_simp; with_reducible rfl
               rotate_left
               ·simp only [Sq.put]; rfl
               refine Sq.k 8 53 ?_ (Sq.b 24 575897) rfl rfl HT_ HW_ (by kernel_rfl) (fun _ _ _ h => h) (Or.inl ⟨by rfl, ?_⟩) hHeld ?_ ?_ ?_
               rotate_left
               ·rintro w' ⟨s0, s1, s2, s3, s4, s5⟩; go_simp; with_reducible rfl
               rotate_left
               ·simp only [Sq.put]; rfl
               refine Sq.k 12 57 ?_ (Sq.b 24 579993) rfl rfl HT_ HW_ (by kernel_rfl) (fun _ _ _ h => h) (Or.inl ⟨by rfl, ?_⟩) hHeld ?_ ?_ ?_
               rotate_left
               ·rintro w' ⟨s0, s1, s2, s3, s4, s5⟩; go_simp; with_reducible rfl
               rotate_left
               ·simp only [Sq.put]; rfl
               refine Sq.p_ 13 58 ?_ (Sq.b 24 588185) rfl rfl HT_ (by kernel_rfl) (fun _ _ _ h => h) (Or.inl ⟨by rfl, ?_⟩) ?_ ?_ ?_
               rotate_left
               ·intro w'; go_simp; with_reducible rfl
               rotate_left
               ·simp only [Sq.put]; rfl
               refine Sq.k 20 65 ?_ (Sq.b 24 1636761) rfl rfl HT_ HW_ (by kernel_rfl) (fun _ _ _ h => h) (Or.inl ⟨by rfl, ?_⟩) hHeld ?_ ?_ ?_
               rotate_left
               ·rintro w' ⟨s0, s1, s2, s3, s4, s5⟩; go_simp; with_reducible rfl
               rotate_left
               ·simp only [Sq.put]; rfl
               refine Reg.size_ (fun N0_ hN0_ => ?_)
               refine Reg.mid_ #[true, true, true, true, true, true, true, true, true, true, true, true, true, true, true, true, true, true, true, true, true, true, false, false] [0, 0, 3, 0, 8, 26, 63, 0, 128, 442, 1023, 0, 2048, 6144, 0, 16384, 63488, 129024, 262143, 0, 524288, 1573818, 4194303, 8388607] [(46, 1), (47, 2), (50, 5), (51, 6), (54, 9), (55, 10), (61, 16), (62, 17), (63, 18), (66, 21)] [1, 2, 5, 6, 9, 10, 16, 17, 18, 21] [16] (Reg.sel [(1, fun v_ _ => v_ = .string t820), (2, fun v_ _ => v_ = .string (((((strOfNums y812) ++ t815) ++ t816) ++ (strOfNums y817)) ++ t820)), (5, fun v_ _ => v_ = .string t821), (6, fun v_ _ => v_ = .string ((((((strOfNums y812) ++ t815) ++ t816) ++ (strOfNums y817)) ++ t820) ++ t821)), (9, fun v_ _ => v_ = .string t822), (10, fun v_ _ => v_ = .string (((((((strOfNums y812) ++ t815) ++ t816) ++ (strOfNums y817)) ++ t820) ++ t821) ++ t822)), (16, fun v_ w' => (Kd.R (Kd.int .u8) 5 w' w.heap.size (fun _ => True) v_ y823) ∧ ∀ b_, (v_ : Value).ownBlock = some b_ → N0_ ≤ b_), (17, fun v_ _ => v_ = .string (strOfNums y823)), (18, fun v_ _ => v_ = .string ((((((((strOfNums y812) ++ t815) ++ t816) ++ (strOfNums y817)) ++ t820) ++ t821) ++ t822) ++ (strOfNums y823))), (21, fun v_ _ => v_ = .string t826)]) (fun w' => (Sq.C6 w' gb808 (.int .i64 a0_0) (.int .i64 a0_1) (.int .i64 a0_2) (.int .i64 a0_3) (.slice A0_4 l0_4.length c0_4) (.slice A0_5 l0_5.length c0_5)) ∧ (N0_ ≤ w'.heap.size) ∧ (Kd.R (Kd.int .u8) 5 w' w.heap.size (fun k_ => (some k_ ≠ (v818 : Value).ownBlock) ∧ k_ < N0_) v813 y812) ∧ (Kd.R (Kd.int .u8) 5 w' w.heap.size (fun k_ => (some k_ ≠ (v813 : Value).ownBlock) ∧ k_ < N0_) v818 y817) ∧ (w'.heap[gb808]? = some (.cells #[.int .i64 a0_0, .int .i64 a0_1, .int .i64 a0_2, .int .i64 a0_3, .slice A0_4 l0_4.length c0_4, .slice A0_5 l0_5.length c0_5] 40 (0, 0))) ∧ (Below w.heap.size w w')) 2 (by kernel_rfl) (by kernel_rfl) (by kernel_rfl) (by kernel_rfl) rfl ?hD48_ ?hG48_ ?hS48_ ?hW48_ ?hO48_ ?hE48_
               case hD48_ => exact Reg.sel_st ⟨fun _ _ _ h_ _ => h_, fun _ _ _ h_ _ => h_, fun _ _ _ h_ _ => h_, fun _ _ _ h_ _ => h_, fun _ _ _ h_ _ => h_, fun _ _ _ h_ _ => h_, fun _ _ _ h_ hb_ => ⟨Kd.R_below h_.1 hb_, h_.2⟩, fun _ _ _ h_ _ => h_, fun _ _ _ h_ _ => h_, fun _ _ _ h_ _ => h_, trivial⟩
               case hG48_ =>
                rintro w1_ w2_ ⟨⟨c0_, c1_, c2_, c3_, c4_, c5_⟩, hN_, b0_, b1_, b3_, b4_⟩ hb_; exact ⟨⟨Reg.cell_step c0_ hb_, Reg.cell_step c1_ hb_, Reg.cell_step c2_ hb_, Reg.cell_step c3_ hb_, Reg.cell_step c4_ hb_, Reg.cell_step c5_ hb_⟩, Nat.le_trans hN_ (below_size hb_), (by first | exact blk_below b0_ hb_ | exact below_step b0_ hb_ | exact Kd.R_below b0_ hb_ | exact Kd.C_below b0_ hb_), (by first | exact blk_below b1_ hb_ | exact below_step b1_ hb_ | exact Kd.R_below b1_ hb_ | exact Kd.C_below b1_ hb_), (by first | exact blk_below b3_ hb_ | exact below_step b3_ hb_ | exact Kd.R_below b3_ hb_ | exact Kd.C_below b3_ hb_), (by first | exact blk_below b4_ hb_ | exact below_step b4_ hb_ | exact Kd.R_below b4_ hb_ | exact Kd.C_below b4_ hb_)⟩
               case hS48_ => exact fun _ h_ => h_.1
               case hW48_ => exact ⟨hHeld, Nat.le_of_eq hN0_, (Kd.R_mono (Kd.R_bound (by (with_reducible repeat (first | refine blk_drewN ?_ _ | refine blk_drew ?_ | refine blk_alloc ?_ _ | apply below_alloc | apply pw_below_drewN | apply below_drew1 | apply Kd.R_alloc | apply Kd.R_drewN | apply Kd.R_drew)); exact HO814.out)) (fun _ hk_ => ⟨hk_.1, by rw [hN0_]; exact hk_.2.2.1⟩)), (Kd.R_mono (Kd.R_bound (by (with_reducible repeat (first | refine blk_drewN ?_ _ | refine blk_drew ?_ | refine blk_alloc ?_ _ | apply below_alloc | apply pw_below_drewN | apply below_drew1 | apply Kd.R_alloc | apply Kd.R_drewN | apply Kd.R_drew)); exact HO819.out)) (fun _ hk_ => ⟨hk_.1, by rw [hN0_]; exact hk_.2.2.1⟩)), (by (with_reducible repeat (first | refine blk_drewN ?_ _ | refine blk_drew ?_ | refine blk_alloc ?_ _ | apply below_alloc | apply pw_below_drewN | apply below_drew1 | apply Kd.R_alloc | apply Kd.R_drewN | apply Kd.R_drew)); exact BK808.out), (by (with_reducible repeat (first | refine blk_drewN ?_ _ | refine blk_drew ?_ | refine blk_alloc ?_ _ | apply below_alloc | apply pw_below_drewN | apply below_drew1 | apply Kd.R_alloc | apply Kd.R_drewN | apply Kd.R_drew)); exact HB.out)⟩
               case hO48_ =>
                refine ⟨?_, ?_, ?_, ?_, ?_, ?_, ?_, ?_, ?_, ?_, trivial⟩
                ·intro o_ ho_; simp only [Sq.ge] at ho_; subst ho_; intro u_ w1_ hG_ hP_ K hK; have hN_ := hG_.2.1; clear HO814; clear HO819; clear BK808; clear HB; have HO814 := Aside0.mk hG_.2.2.1; have HO819 := Aside0.mk hG_.2.2.2.1; have BK808 := Aside0.mk hG_.2.2.2.2.1; have HB := Aside0.mk hG_.2.2.2.2.2; clear hG_; clear hP_; refine ⟨?_⟩; generalize hfr_ : Reg.frame _ _ u_ = fr_ at hK ⊢; simp only [Sq.frm] at hfr_; subst hfr_; refine goes_ Try.func109 (by kernel_rfl) rfl #[.int .i64 0, .int .i64 4, .bool false] (by rfl) rfl rfl (by (try simp only [Sq.mp]); first | done | rfl | (simp only [List.length_drop, List.length_take]; rfl)) ?_; with_reducible refine (spec_l1Num.calls kj10 0 4 false t820 _ A20.out).mono ?_
                 rintro e w70 ⟨rfl, hb⟩; refine ⟨_, rfl, ?_⟩; exact hK _ _ rfl hb (fun h_ => by cases h_)
                ·intro o_ ho_; simp only [Sq.ge] at ho_; subst ho_; intro u_ w1_ hG_ hP_ K hK; have hN_ := hG_.2.1; clear HO814; clear HO819; clear BK808; clear HB; have HO814 := Aside0.mk hG_.2.2.1; have HO819 := Aside0.mk hG_.2.2.2.1; have BK808 := Aside0.mk hG_.2.2.2.2.1; have HB := Aside0.mk hG_.2.2.2.2.2; clear hG_; have e1_ : u_ 1 = .string t820 := hP_ 1 (by decide) (by rfl); clear hP_; refine ⟨?_⟩; generalize hfr_ : Reg.frame _ _ u_ = fr_ at hK ⊢; simp only [Sq.frm, e1_] at hfr_; subst hfr_; clear e1_; refine value_ (w1 := ?_) (v := ?_) (by rfl) rfl ?_ ?_
                 rotate_left 2
                 ·go_simp
                  constructor
                  ·rfl
                  ·rfl
                 exact hK _ _ (by first | rfl | (simp only [i64_w, i32_w]; rfl)) (Below.refl _ _) (fun h_ => by cases h_)
                ·intro o_ ho_; simp only [Sq.ge] at ho_; subst ho_; intro u_ w1_ hG_ hP_ K hK; have hN_ := hG_.2.1; clear HO814; clear HO819; clear BK808; clear HB; have HO814 := Aside0.mk hG_.2.2.1; have HO819 := Aside0.mk hG_.2.2.2.1; have BK808 := Aside0.mk hG_.2.2.2.2.1; have HB := Aside0.mk hG_.2.2.2.2.2; clear hG_; have e1_ : u_ 1 = .string t820 := hP_ 1 (by decide) (by rfl); clear hP_; refine ⟨?_⟩; generalize hfr_ : Reg.frame _ _ u_ = fr_ at hK ⊢; simp only [Sq.frm, e1_] at hfr_; subst hfr_; clear e1_; refine goes_ Try.func109 (by kernel_rfl) rfl #[.int .i64 a0_2, .int .i64 2, .bool false] (by rfl) rfl rfl (by (try simp only [Sq.mp]); first | done | rfl | (simp only [List.length_drop, List.length_take]; rfl)) ?_; with_reducible refine (spec_l1Num.calls kj10 a0_2 2 false t821 _ A22.out).mono ?_
                 rintro e w72 ⟨rfl, hb⟩; refine ⟨_, rfl, ?_⟩; exact hK _ _ rfl hb (fun h_ => by cases h_)
                ·intro o_ ho_; simp only [Sq.ge] at ho_; subst ho_; intro u_ w1_ hG_ hP_ K hK; have hN_ := hG_.2.1; clear HO814; clear HO819; clear BK808; clear HB; have HO814 := Aside0.mk hG_.2.2.1; have HO819 := Aside0.mk hG_.2.2.2.1; have BK808 := Aside0.mk hG_.2.2.2.2.1; have HB := Aside0.mk hG_.2.2.2.2.2; clear hG_; have e1_ : u_ 1 = .string t820 := hP_ 1 (by decide) (by rfl); have e2_ : u_ 2 = .string (((((strOfNums y812) ++ t815) ++ t816) ++ (strOfNums y817)) ++ t820) := hP_ 2 (by decide) (by rfl); have e5_ : u_ 5 = .string t821 := hP_ 5 (by decide) (by rfl); clear hP_; refine ⟨?_⟩; generalize hfr_ : Reg.frame _ _ u_ = fr_ at hK ⊢; simp only [Sq.frm, e1_, e2_, e5_] at hfr_; subst hfr_; clear e1_ e2_ e5_; refine value_ (w1 := ?_) (v := ?_) (by rfl) rfl ?_ ?_
                 rotate_left 2
                 ·go_simp
                  constructor
                  ·rfl
                  ·rfl
                 exact hK _ _ (by first | rfl | (simp only [i64_w, i32_w]; rfl)) (Below.refl _ _) (fun h_ => by cases h_)
                ·intro o_ ho_; simp only [Sq.ge] at ho_; subst ho_; intro u_ w1_ hG_ hP_ K hK; have hN_ := hG_.2.1; clear HO814; clear HO819; clear BK808; clear HB; have HO814 := Aside0.mk hG_.2.2.1; have HO819 := Aside0.mk hG_.2.2.2.1; have BK808 := Aside0.mk hG_.2.2.2.2.1; have HB := Aside0.mk hG_.2.2.2.2.2; clear hG_; have e1_ : u_ 1 = .string t820 := hP_ 1 (by decide) (by rfl); have e5_ : u_ 5 = .string t821 := hP_ 5 (by decide) (by rfl); clear hP_; refine ⟨?_⟩; generalize hfr_ : Reg.frame _ _ u_ = fr_ at hK ⊢; simp only [Sq.frm, e1_, e5_] at hfr_; subst hfr_; clear e1_ e5_; refine goes_ Try.func109 (by kernel_rfl) rfl #[.int .i64 a0_3, .int .i64 2, .bool false] (by rfl) rfl rfl (by (try simp only [Sq.mp]); first | done | rfl | (simp only [List.length_drop, List.length_take]; rfl)) ?_; with_reducible refine (spec_l1Num.calls kj10 a0_3 2 false t822 _ A24.out).mono ?_
                 rintro e w73 ⟨rfl, hb⟩; refine ⟨_, rfl, ?_⟩; exact hK _ _ rfl hb (fun h_ => by cases h_)
                ·intro o_ ho_; simp only [Sq.ge] at ho_; subst ho_; intro u_ w1_ hG_ hP_ K hK; have hN_ := hG_.2.1; clear HO814; clear HO819; clear BK808; clear HB; have HO814 := Aside0.mk hG_.2.2.1; have HO819 := Aside0.mk hG_.2.2.2.1; have BK808 := Aside0.mk hG_.2.2.2.2.1; have HB := Aside0.mk hG_.2.2.2.2.2; clear hG_; have e1_ : u_ 1 = .string t820 := hP_ 1 (by decide) (by rfl); have e2_ : u_ 2 = .string (((((strOfNums y812) ++ t815) ++ t816) ++ (strOfNums y817)) ++ t820) := hP_ 2 (by decide) (by rfl); have e5_ : u_ 5 = .string t821 := hP_ 5 (by decide) (by rfl); have e6_ : u_ 6 = .string ((((((strOfNums y812) ++ t815) ++ t816) ++ (strOfNums y817)) ++ t820) ++ t821) := hP_ 6 (by decide) (by rfl); have e9_ : u_ 9 = .string t822 := hP_ 9 (by decide) (by rfl); clear hP_; refine ⟨?_⟩; generalize hfr_ : Reg.frame _ _ u_ = fr_ at hK ⊢; simp only [Sq.frm, e1_, e2_, e5_, e6_, e9_] at hfr_; subst hfr_; clear e1_ e2_ e5_ e6_ e9_; refine value_ (w1 := ?_) (v := ?_) (by rfl) rfl ?_ ?_
                 rotate_left 2
                 ·go_simp
                  constructor
                  ·rfl
                  ·rfl
                 exact hK _ _ (by first | rfl | (simp only [i64_w, i32_w]; rfl)) (Below.refl _ _) (fun h_ => by cases h_)
                ·intro o_ ho_; simp only [Sq.ge] at ho_; subst ho_; intro u_ w1_ hG_ hP_ K hK; have hN_ := hG_.2.1; clear HO814; clear HO819; clear BK808; clear HB; have HO814 := Aside0.mk hG_.2.2.1; have HO819 := Aside0.mk hG_.2.2.2.1; have BK808 := Aside0.mk hG_.2.2.2.2.1; have HB := Aside0.mk hG_.2.2.2.2.2; clear hG_; clear hP_; refine ⟨?_⟩; generalize hfr_ : Reg.frame _ _ u_ = fr_ at hK ⊢; simp only [Sq.frm] at hfr_; subst hfr_; refine Kd.R_lit_step (Kd.int .u8) _ 5 ?hg (N := 61) ?hd (xs := ([(a0_1) % 256, (x7_10) % 256] : List Int)) (inner := [.int .u8 ((a0_1) % 256), .int .u8 ((x7_10) % 256)]) (ok := fun _ => True) (okp := fun _ => True) ?hr ?hp (fun _ hk => hk) trivial (Below.refl _ _) (Nat.le_refl _) (by simp) ?_; (case hd => rfl); (case hg => rfl); (case hr => first | (go_simp; done) | (go_simp; rfl)); (case hp => exact (Reps.one (show Kd.M (Kd.int .u8) _ _ _ ((a0_1) % 256) [.int .u8 ((a0_1) % 256)] from rfl) (Reps.one (show Kd.M (Kd.int .u8) _ _ _ ((x7_10) % 256) [.int .u8 ((x7_10) % 256)] from rfl) (Reps.none _ _))))
                 intro v824 w70 ho71 hb hg_ hnew_; (first | rw [← Ny823.out] at ho71 | (simp only [Int.reduceToNat] at ho71; rw [← Ny823.out] at ho71))
                 exact hK _ _ ⟨Kd.R_mono (Kd.R_lower ho71 (below_size HB.out)) (fun _ _ => trivial), fun b_ h_ => Nat.le_trans hN_ (Kd.R_base ho71 b_ h_)⟩ hb (fun _ b_ h_ => ⟨Kd.R_base ho71 b_ h_, Kd.R_lt ho71 b_ h_⟩)
                ·intro o_ ho_; simp only [Sq.ge] at ho_; subst ho_; intro u_ w1_ hG_ hP_ K hK; have hN_ := hG_.2.1; clear HO814; clear HO819; clear BK808; clear HB; have HO814 := Aside0.mk hG_.2.2.1; have HO819 := Aside0.mk hG_.2.2.2.1; have BK808 := Aside0.mk hG_.2.2.2.2.1; have HB := Aside0.mk hG_.2.2.2.2.2; clear hG_; obtain ⟨v824, hv16_⟩ : ∃ v_, v_ = u_ 16 := ⟨_, rfl⟩; have e16_ := hP_ 16 (by decide) (by rfl); have e16_ : (Kd.R (Kd.int .u8) 5 w1_ w.heap.size (fun _ => True) v824 y823) ∧ ∀ b_, (v824 : Value).ownBlock = some b_ → N0_ ≤ b_ := by rw [hv16_]; exact e16_
                 have HO825 := Aside0.mk e16_.1; clear e16_; clear hP_; refine ⟨?_⟩; generalize hfr_ : Reg.frame _ _ u_ = fr_ at hK ⊢; simp only [Sq.frm, ← hv16_] at hfr_; subst hfr_; clear hv16_; have hcv73 := own_string (P := Try.prog) Try.underlying28 Try.underlying5 Try.underlying9 (Kd.own_of_R HO825.out); refine value_ (w1 := ?_) (v := ?_) (by rfl) rfl ?_ ?_
                 rotate_left 2
                 ·go_simp
                  constructor
                  ·rfl
                  ·rfl
                 exact hK _ _ (by first | rfl | (simp only [i64_w, i32_w]; rfl)) (Below.refl _ _) (fun h_ => by cases h_)
                ·intro o_ ho_; simp only [Sq.ge] at ho_; subst ho_; intro u_ w1_ hG_ hP_ K hK; have hN_ := hG_.2.1; clear HO814; clear HO819; clear BK808; clear HB; have HO814 := Aside0.mk hG_.2.2.1; have HO819 := Aside0.mk hG_.2.2.2.1; have BK808 := Aside0.mk hG_.2.2.2.2.1; have HB := Aside0.mk hG_.2.2.2.2.2; clear hG_; have e1_ : u_ 1 = .string t820 := hP_ 1 (by decide) (by rfl); have e2_ : u_ 2 = .string (((((strOfNums y812) ++ t815) ++ t816) ++ (strOfNums y817)) ++ t820) := hP_ 2 (by decide) (by rfl); have e5_ : u_ 5 = .string t821 := hP_ 5 (by decide) (by rfl); have e6_ : u_ 6 = .string ((((((strOfNums y812) ++ t815) ++ t816) ++ (strOfNums y817)) ++ t820) ++ t821) := hP_ 6 (by decide) (by rfl); have e9_ : u_ 9 = .string t822 := hP_ 9 (by decide) (by rfl); have e10_ : u_ 10 = .string (((((((strOfNums y812) ++ t815) ++ t816) ++ (strOfNums y817)) ++ t820) ++ t821) ++ t822) := hP_ 10 (by decide) (by rfl); obtain ⟨v824, hv16_⟩ : ∃ v_, v_ = u_ 16 := ⟨_, rfl⟩; have e16_ := hP_ 16 (by decide) (by rfl); have e16_ : (Kd.R (Kd.int .u8) 5 w1_ w.heap.size (fun _ => True) v824 y823) ∧ ∀ b_, (v824 : Value).ownBlock = some b_ → N0_ ≤ b_ := by rw [hv16_]; exact e16_
                 have e17_ : u_ 17 = .string (strOfNums y823) := hP_ 17 (by decide) (by rfl); have HO825 := Aside0.mk e16_.1; clear e16_; clear hP_; refine ⟨?_⟩; generalize hfr_ : Reg.frame _ _ u_ = fr_ at hK ⊢; simp only [Sq.frm, e1_, e2_, e5_, e6_, e9_, e10_, ← hv16_, e17_] at hfr_; subst hfr_; clear e1_ e2_ e5_ e6_ e9_ e10_ hv16_ e17_; refine value_ (w1 := ?_) (v := ?_) (by rfl) rfl ?_ ?_
                 rotate_left 2
                 ·go_simp
                  constructor
                  ·rfl
                  ·rfl
                 exact hK _ _ (by first | rfl | (simp only [i64_w, i32_w]; rfl)) (Below.refl _ _) (fun h_ => by cases h_)
                ·intro o_ ho_; simp only [Sq.ge] at ho_; subst ho_; intro u_ w1_ hG_ hP_ K hK; have hN_ := hG_.2.1; clear HO814; clear HO819; clear BK808; clear HB; have HO814 := Aside0.mk hG_.2.2.1; have HO819 := Aside0.mk hG_.2.2.2.1; have BK808 := Aside0.mk hG_.2.2.2.2.1; have HB := Aside0.mk hG_.2.2.2.2.2; clear hG_; have e1_ : u_ 1 = .string t820 := hP_ 1 (by decide) (by rfl); have e5_ : u_ 5 = .string t821 := hP_ 5 (by decide) (by rfl); have e9_ : u_ 9 = .string t822 := hP_ 9 (by decide) (by rfl); clear hP_; refine ⟨?_⟩; generalize hfr_ : Reg.frame _ _ u_ = fr_ at hK ⊢; simp only [Sq.frm, e1_, e5_, e9_] at hfr_; subst hfr_; clear e1_ e5_ e9_; refine goes_ Try.func111 (by kernel_rfl) rfl #[.slice A0_4 l0_4.length c0_4, .int .i64 3] (by rfl) rfl rfl (by (try simp only [Sq.mp]); first | done | rfl | (simp only [List.length_drop, List.length_take]; rfl)) ?_; with_reducible refine (spec_l11Colors.calls kj10 _ _ l0_4 3 t826 _ ?side1 ?side2 A27.out).mono ?_
                 (case side1 => exact Sq.i_ HR0_4 HB)
                 (case side2 => exact HC0_4.out)
                 rintro e w74 ⟨rfl, hb⟩; refine ⟨_, rfl, ?_⟩; exact hK _ _ rfl hb (fun h_ => by cases h_)
               intro u_ w77 hG_ hQ_ hA_; obtain ⟨hS_, hN_, h0_, h1_, h3_, h4_⟩ := hG_; have e1_ : u_ 1 = .string t820 := hQ_ 1 (by decide); have e2_ : u_ 2 = .string (((((strOfNums y812) ++ t815) ++ t816) ++ (strOfNums y817)) ++ t820) := hQ_ 2 (by decide); have e5_ : u_ 5 = .string t821 := hQ_ 5 (by decide); have e6_ : u_ 6 = .string ((((((strOfNums y812) ++ t815) ++ t816) ++ (strOfNums y817)) ++ t820) ++ t821) := hQ_ 6 (by decide); have e9_ : u_ 9 = .string t822 := hQ_ 9 (by decide); have e10_ : u_ 10 = .string (((((((strOfNums y812) ++ t815) ++ t816) ++ (strOfNums y817)) ++ t820) ++ t821) ++ t822) := hQ_ 10 (by decide); obtain ⟨v824, hv16_⟩ : ∃ v_, v_ = u_ 16 := ⟨_, rfl⟩; have e16_ := hQ_ 16 (by decide); have e16_ : (Kd.R (Kd.int .u8) 5 w77 w.heap.size (fun _ => True) v824 y823) ∧ ∀ b_, (v824 : Value).ownBlock = some b_ → N0_ ≤ b_ := by rw [hv16_]; exact e16_
               have e17_ : u_ 17 = .string (strOfNums y823) := hQ_ 17 (by decide); have e18_ : u_ 18 = .string ((((((((strOfNums y812) ++ t815) ++ t816) ++ (strOfNums y817)) ++ t820) ++ t821) ++ t822) ++ (strOfNums y823)) := hQ_ 18 (by decide); have e21_ : u_ 21 = .string t826 := hQ_ 21 (by decide); have h0_o := h0_; have h1_o := h1_; have h2_ : Kd.R (Kd.int .u8) 5 w77 w.heap.size (fun k_ => some k_ ≠ (v813 : Value).ownBlock ∧ some k_ ≠ (v818 : Value).ownBlock) v824 y823 := Kd.R_mono (Kd.R_tight rfl e16_.1) (fun k_ hk_ => ⟨(fun h_ => by have h1_ := (h0_o.1 _ h_.symm).2; have h2_ := e16_.2 _ hk_.symm; omega), (fun h_ => by have h1_ := (h1_o.1 _ h_.symm).2; have h2_ := e16_.2 _ hk_.symm; omega)⟩); have h0_ : Kd.R (Kd.int .u8) 5 w77 w.heap.size (fun k_ => some k_ ≠ (v818 : Value).ownBlock ∧ some k_ ≠ (v824 : Value).ownBlock) v813 y812 := Kd.R_mono (h0_o) (fun k_ hk_ => ⟨(by first | exact hk_.1 | exact hk_.1.1 | exact hk_.1.2 | exact hk_.1.2.1 | exact hk_.1.2.2 | exact hk_.1.2.2.1 | exact hk_.1.2.2.2), (fun h_ => by have h1_ := e16_.2 _ h_.symm; have h2_ := hk_.2; omega)⟩); have h1_ : Kd.R (Kd.int .u8) 5 w77 w.heap.size (fun k_ => some k_ ≠ (v813 : Value).ownBlock ∧ some k_ ≠ (v824 : Value).ownBlock) v818 y817 := Kd.R_mono (h1_o) (fun k_ hk_ => ⟨(by first | exact hk_.1 | exact hk_.1.1 | exact hk_.1.2 | exact hk_.1.2.1 | exact hk_.1.2.2 | exact hk_.1.2.2.1 | exact hk_.1.2.2.2), (fun h_ => by have h1_ := e16_.2 _ h_.symm; have h2_ := hk_.2; omega)⟩); clear h0_o; clear h1_o; clear e16_; refine ⟨?_⟩; generalize hfr_ : Reg.frame _ _ u_ = fr_; simp only [Sq.frm, e1_, e2_, e5_, e6_, e9_, e10_, ← hv16_, e17_, e18_, e21_] at hfr_; subst hfr_; clear hQ_ hA_ hN_ hN0_ hv16_ e1_ e2_ e5_ e6_ e9_ e10_ e17_ e18_ e21_; have n0_ : Aside0 (Kd.R (Kd.int .u8) 5 w77 w.heap.size (fun k_ => some k_ ≠ (v818 : Value).ownBlock ∧ some k_ ≠ (v824 : Value).ownBlock) v813 y812) := ⟨h0_⟩
               have n1_ : Aside0 (Kd.R (Kd.int .u8) 5 w77 w.heap.size (fun k_ => some k_ ≠ (v813 : Value).ownBlock ∧ some k_ ≠ (v824 : Value).ownBlock) v818 y817) := ⟨h1_⟩; have n2_ : Aside0 (Kd.R (Kd.int .u8) 5 w77 w.heap.size (fun k_ => some k_ ≠ (v813 : Value).ownBlock ∧ some k_ ≠ (v818 : Value).ownBlock) v824 y823) := ⟨h2_⟩; have n3_ : Aside0 (w77.heap[gb808]? = some (.cells #[.int .i64 a0_0, .int .i64 a0_1, .int .i64 a0_2, .int .i64 a0_3, .slice A0_4 l0_4.length c0_4, .slice A0_5 l0_5.length c0_5] 40 (0, 0))) := ⟨h3_⟩; have n4_ : Aside0 (Below w.heap.size w w77) := ⟨h4_⟩; clear HO814; clear HO819; clear BK808; clear HB; clear h0_ h1_ h2_ h3_ h4_; have HO814 := n0_; have HO819 := n1_; have HO825 := n2_; have BK808 := n3_; have HB := n4_; clear n0_ n1_ n2_ n3_ n4_; have hHeld : Sq.C6 w77 gb808 (.int .i64 a0_0) (.int .i64 a0_1) (.int .i64 a0_2) (.int .i64 a0_3) (.slice A0_4 l0_4.length c0_4) (.slice A0_5 l0_5.length c0_5) := hS_; refine Sq.p_ 22 67 ?_ (Sq.b 24 8388607) rfl rfl HT_ (by kernel_rfl) (fun _ _ _ h => h) (Or.inl ⟨by rfl, ?_⟩) ?_ ?_ ?_
               rotate_left
               ·intro w'; go_simp; with_reducible rfl
               rotate_left
               ·simp only [Sq.put]; rfl
               refine Sq.p_ 23 8 ?_ (Sq.b 24 16777215) rfl rfl HT_ (by kernel_rfl) (fun _ _ _ h => h) (Or.inl ⟨by rfl, ?_⟩) ?_ ?_ ?_
               rotate_left
               ·intro w'; go_simp; with_reducible rfl
               rotate_left
               ·simp only [Sq.put]; rfl
               refine done_ (done_of HT_.out (by kernel_rfl)) ?_; obtain ⟨hcz78_0, hcz78_1, hcz78_2, hcz78_3, hcz78_4, hcz78_5, hfz78_0, hfz78_1, hfz78_2, hfz78_3, hfz78_4, hfz78_5⟩ := Sq.cell6 BK808
               try go_wp2_with (first | ((with_reducible refine gate_callee (f := 121) rfl ?_); refine goesL_ (some 78) rfl rfl Try.func121 (by kernel_rfl) rfl #[.agg #[.int .i64 a0_0, .int .i64 a0_1, .int .i64 a0_2, .int .i64 a0_3, .slice A0_4 l0_4.length c0_4, .slice A0_5 l0_5.length c0_5]] rfl (by (try simp only [Sq.mp]); first | done | rfl | (simp only [List.length_drop, List.length_take]; rfl)) ?_; (with_reducible refine (spec_l11Dense.calls kj10 a0_0 a0_1 a0_2 a0_3 _ _ l0_4 _ _ l0_5 t831 _ ?side1 ?side2 ?side3 ?side4 A56.out).mono ?_); (case side1 => exact Sq.i_ HR0_4 HB); (case side2 => exact HC0_4.out); (case side3 => exact Sq.i_ HR0_5 HB); (case side4 => exact HC0_5.out); rintro e w79 ⟨v832, rfl, ho0, hb⟩; refine ⟨_, rfl, ?_⟩; have n0_ := Sq.r_ HO814 hb; have n1_ := Sq.r_ HO819 hb; have n2_ := Sq.r_ HO825 hb; have n3_ := Aside0.mk (Kd.R_lower ho0 (below_size (Sq.ut HB))); have n4_ := Sq.b_ BK808 hb; have n5_ := Sq.us HB hb; clear HO814; clear HO819; clear HO825; clear BK808; clear HB; have HO814 := n0_; have HO819 := n1_; have HO825 := n2_; have HO833 := n3_; have BK808 := n4_; have HB := n5_; clear n0_ n1_ n2_ n3_ n4_ n5_; (try clear hb); (try clear hb2); (try clear hk); (try clear hi); (try clear ho0); obtain ⟨hcz80_0, hcz80_1, hcz80_2, hcz80_3, hcz80_4, hcz80_5, hfz80_0, hfz80_1, hfz80_2, hfz80_3, hfz80_4, hfz80_5⟩ := Sq.cell6 BK808; obtain ⟨Ao81, co81, eo81⟩ := Kd.R_slice HO833.out; subst eo81) | ((with_reducible refine gate_callee (f := 111) rfl ?_); refine goesL_ (some 84) rfl rfl Try.func111 (by kernel_rfl) rfl #[.slice Ao81 t831.length co81, .int .i64 (wrap64 (Int.tdiv a0_1 8))] rfl (by (try simp only [Sq.mp]); first | done | rfl | (simp only [List.length_drop, List.length_take]; rfl)) ?_; (with_reducible refine (spec_l11Colors.calls kj10 _ _ t831 (wrap64 (Int.tdiv a0_1 8)) t834 _ ?side1 ?side2 A57.out).mono ?_); (case side1 => exact Sq.c_ HO833); (case side2 => exact (Kd.R_reads' HO833.out).2.1); rintro e w82 ⟨rfl, hb⟩; refine ⟨_, rfl, ?_⟩; have n0_ := Sq.r_ HO814 hb; have n1_ := Sq.r_ HO819 hb; have n2_ := Sq.r_ HO825 hb; have n3_ := Sq.r_ HO833 hb; have n4_ := Sq.b_ BK808 hb; have n5_ := Sq.us HB hb; clear HO814; clear HO819; clear HO825; clear HO833; clear BK808; clear HB; have HO814 := n0_; have HO819 := n1_; have HO825 := n2_; have HO833 := n3_; have BK808 := n4_; have HB := n5_; clear n0_ n1_ n2_ n3_ n4_ n5_; (try clear hb); (try clear hb2); (try clear hk); (try clear hi)))
               go_ret
               exact ⟨by first | rfl | (simp [errW_none, errW_some] <;> rfl) | (simp [*, errW_none, errW_some] <;> rfl), (Sq.ut HB)⟩
              ·rw [if_neg c58] at H; exact absurd H (by simp)
            ·rw [if_neg c28] at H; exact absurd H (by simp)
           ·rw [if_neg c26] at H; exact absurd H (by simp)
          ·rw [if_neg c25] at H; exact absurd H (by simp)
         ·rw [if_neg c23] at H; exact absurd H (by simp)
        ·rw [if_neg c21] at H; exact absurd H (by simp)
       ·rw [if_neg c19] at H; exact absurd H (by simp)
      ·rw [if_neg c18] at H; exact absurd H (by simp)
     ·rw [if_neg c16] at H; exact absurd H (by simp)
end Go.Proofs.Ytgdbinifnhfcjaa.P
