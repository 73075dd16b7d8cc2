/- Texts of one law put together (wip/merge2.py). -/
import Derived.Test.YtgdbinifnhfcjaaMFnExactTgaPut1
import Derived.Test.YtgdbinifnhfcjaaWWords
import Derived.Test.YtgdbinifnhfcjaaWMore
import Derived.Test.YtgdbinifnhfcjaaMFnExactTgaPut2
import Derived.Test.YtgdbinifnhfcjaaMFnExactTgaPut3
namespace Go.Proofs.Ytgdbinifnhfcjaa.P
open Go.RowKit Go.Proofs.YtgdbinifnhfcjaaW.PrintWords Go.Proofs.YtgdbinifnhfcjaaW.PrintLast Go.Proofs.YtgdbinifnhfcjaaW.PrintMore
attribute [local go_sem] max2_int min2_int max_two min_two max_three min_three max_four min_four   -- for this text's walks alone
set_option linter.unusedVariables false
set_option linter.unusedSimpArgs false
/-! ### impl_tgaType: function 87 -/
mutual
def impl_tgaType.j0 : Nat → Bool → Int → Int → Int → Int → List Int → List Int → Option (Int)
 | 0, _, _, _, _, _, _, _ => none
 | k + 1, x3, x776000, x776001, x776002, x776003, x776004, x776005 => if x3 = true then (some 1) else (if x776000 = 2 then (impl_tgaType.j1 k true x776000 x776001 x776002 x776003 x776004 x776005) else (impl_tgaType.j1 k (x776000 == 3) x776000 x776001 x776002 x776003 x776004 x776005))
def impl_tgaType.j1 : Nat → Bool → Int → Int → Int → Int → List Int → List Int → Option (Int)
 | 0, _, _, _, _, _, _, _ => none
 | k + 1, x12, x776000, x776001, x776002, x776003, x776004, x776005 => if x12 = true then (some 2) else (if x776000 = 1 then (if x776001 = 8 then (some 3) else (some 0)) else (some 0))
end
def impl_tgaType.f (k : Nat) (a0_0 : Int) (a0_1 : Int) (a0_2 : Int) (a0_3 : Int) (l0_4 : List Int) (l0_5 : List Int) : Option (Int) := if a0_0 = 4 then (impl_tgaType.j0 k (a0_1 == 8) a0_0 a0_1 a0_2 a0_3 l0_4 l0_5) else (impl_tgaType.j0 k false a0_0 a0_1 a0_2 a0_3 l0_4 l0_5)
theorem impl_tgaType.mono_l : ∀ k, (∀ y0 y1 y2 y3 y4 y5 y6, LeO (impl_tgaType.j0 k y0 y1 y2 y3 y4 y5 y6) (impl_tgaType.j0 (k + 1) y0 y1 y2 y3 y4 y5 y6)) ∧ (∀ y0 y1 y2 y3 y4 y5 y6, LeO (impl_tgaType.j1 k y0 y1 y2 y3 y4 y5 y6) (impl_tgaType.j1 (k + 1) y0 y1 y2 y3 y4 y5 y6))
 | 0 => ⟨fun _ _ _ _ _ _ _ r h => by simp [impl_tgaType.j0] at h, fun _ _ _ _ _ _ _ r h => by simp [impl_tgaType.j1] at h⟩
 | k + 1 => by
  obtain ⟨ih0, ih1⟩ := impl_tgaType.mono_l k
  refine ⟨?_, ?_⟩
  ·intro y0 y1 y2 y3 y4 y5 y6; unfold impl_tgaType.j0
   repeat' first
   | (with_reducible exact ih0 _ _ _ _ _ _ _)
   | (with_reducible exact ih1 _ _ _ _ _ _ _)
   | (with_reducible exact LeO.refl _)
   | (with_reducible exact LeO.none _)
   | (with_reducible refine LeO.ite ?_ ?_)
   | (with_reducible refine LeO.bind ?_ (fun _ => ?_))
   | exact ih0 _ _ _ _ _ _ _
   | exact ih1 _ _ _ _ _ _ _
   | exact LeO.none _
   | refine LeO.ite ?_ ?_
   | refine LeO.bind ?_ (fun _ => ?_)
  ·intro y0 y1 y2 y3 y4 y5 y6; unfold impl_tgaType.j1
   repeat' first
   | (with_reducible exact ih0 _ _ _ _ _ _ _)
   | (with_reducible exact ih1 _ _ _ _ _ _ _)
   | (with_reducible exact LeO.refl _)
   | (with_reducible exact LeO.none _)
   | (with_reducible refine LeO.ite ?_ ?_)
   | (with_reducible refine LeO.bind ?_ (fun _ => ?_))
   | exact ih0 _ _ _ _ _ _ _
   | exact ih1 _ _ _ _ _ _ _
   | exact LeO.none _
   | refine LeO.ite ?_ ?_
   | refine LeO.bind ?_ (fun _ => ?_)
theorem impl_tgaType.mono : ∀ a0 a1 a2 a3 a4 a5 k, LeO (impl_tgaType.f k a0 a1 a2 a3 a4 a5) (impl_tgaType.f (k + 1) a0 a1 a2 a3 a4 a5) := by
 intro a0 a1 a2 a3 a4 a5 k; obtain ⟨ih0, ih1⟩ := impl_tgaType.mono_l k; unfold impl_tgaType.f
 repeat' first
  | (with_reducible exact ih0 _ _ _ _ _ _ _)
  | (with_reducible exact ih1 _ _ _ _ _ _ _)
  | (with_reducible exact LeO.refl _)
  | (with_reducible exact LeO.none _)
  | (with_reducible refine LeO.ite ?_ ?_)
  | (with_reducible refine LeO.bind ?_ (fun _ => ?_))
  | exact ih0 _ _ _ _ _ _ _
  | exact ih1 _ _ _ _ _ _ _
  | exact LeO.none _
  | refine LeO.ite ?_ ?_
  | refine LeO.bind ?_ (fun _ => ?_)
set_option maxHeartbeats 8000000 in
set_option maxRecDepth 100000 in
theorem impl_tgaType.calls (k : Nat) (a0_0 : Int) (a0_1 : Int) (a0_2 : Int) (a0_3 : Int) (A0_4 : Option Addr) (c0_4 : Nat) (l0_4 : List Int) (A0_5 : Option Addr) (c0_5 : Nat) (l0_5 : List Int) (r : Int) (w : World) (hr0_4 : Kd.C (Kd.int .i64) w A0_4 l0_4.length l0_4) (hc0_4 : l0_4.length ≤ c0_4) (hr0_5 : Kd.C (Kd.int .i64) w A0_5 l0_5.length l0_5) (hc0_5 : l0_5.length ≤ c0_5) (h : impl_tgaType.f k a0_0 a0_1 a0_2 a0_3 l0_4 l0_5 = some r) :
 Calls Try.prog 87 #[.agg #[.int .i64 a0_0, .int .i64 a0_1, .int .i64 a0_2, .int .i64 a0_3, .slice A0_4 l0_4.length c0_4, .slice A0_5 l0_5.length c0_5]] w fun e w' => e = .returned (.int .i64 r) ∧ Below w.heap.size w w' := by
 have hu40 := Try.underlying40; have HR0_4 := Aside0.mk hr0_4; have HC0_4 := Aside0.mk hc0_4; clear hr0_4 hc0_4; have HR0_5 := Aside0.mk hr0_5; have HC0_5 := Aside0.mk hc0_5; clear hr0_5 hc0_5; have HB := Aside0.mk (Below.refl w.heap.size w); have H : (if a0_0 = 4 then (impl_tgaType.j0 k (a0_1 == 8) a0_0 a0_1 a0_2 a0_3 l0_4 l0_5) else (impl_tgaType.j0 k false a0_0 a0_1 a0_2 a0_3 l0_4 l0_5)) = some r := h; clear h; have HC2 := Aside0.mk H; clear H; go_enter Try.func87, Try.ntmps87
 go_upto_region 1 with (first | ((with_reducible refine gate_dst (N := 1) rfl ?_); refine box_event ?hg (N := 1) ?hd (cs := #[.int .i64 a0_0, .int .i64 a0_1, .int .i64 a0_2, .int .i64 a0_3, .slice A0_4 l0_4.length c0_4, .slice A0_5 l0_5.length c0_5]) (t := 40) ?hr ?_; (case hd => rfl); (case hg => rfl); (case hr => first | (go_simp; done) | (go_simp; rfl)); intro gb775 hg w3 hbox hb; have n0_ := Sq.s_ HB hb; have n1_ := Aside0.mk (hbox); have n2_ := Sq.g_ HB hg; have n3_ := Sq.g_ HB hg; clear HB; have HB := n0_; have BK775 := n1_; have GW775 := n2_; have GE775 := n3_; have GO775 := Sq.o_ GE775; clear n0_ n1_ n2_ n3_; clear hb hbox hg))
 (try simp only [Act.put, List.setIfInBounds_toArray, List.set_cons_zero, List.set_cons_succ])
 go_cut [3] (fun v3 wc => ∃ (kq : Nat) (x3_1 : Bool), v3 = .bool x3_1 ∧ Aside0 (impl_tgaType.j0 kq x3_1 a0_0 a0_1 a0_2 a0_3 l0_4 l0_5 = some r) ∧ Aside0 (kq ≤ k) ∧ Aside0 (wc.heap[gb775]? = some (.cells #[.int .i64 a0_0, .int .i64 a0_1, .int .i64 a0_2, .int .i64 a0_3, (.slice A0_4 l0_4.length c0_4), (.slice A0_5 l0_5.length c0_5)] 40 (0, 0))) ∧ Aside0 (Below w.heap.size w wc))
 case first =>
  have H := HC2.out; clear HC2
  by_cases c4 : a0_0 = 4
  ·rw [if_pos c4] at H; have c4b0 : (a0_0 == 4) = true := beq_iff_eq.mpr c4; have c4b1 : (a0_0 != 4) = false := bne_eq_false_iff_eq.mpr c4; clear c4; (first | rw [c4b0] | (simp only [i64_w, i32_w]; rw [c4b0]) | skip)
   have H' := Aside0.mk H; clear H; obtain ⟨hcz5_0, hcz5_1, hcz5_2, hcz5_3, hcz5_4, hcz5_5, hfz5_0, hfz5_1, hfz5_2, hfz5_3, hfz5_4, hfz5_5⟩ := Sq.cell6 BK775; go_wp2
   go_meet
   case rel => exact ⟨_, ((a0_1 == 8)), (by first | rfl | (simp; done) | (simp [*]; done)), H', ⟨by first | omega | exact Nat.le_refl _⟩, Sq.kk_ BK775, ⟨(Sq.ut HB)⟩⟩
  ·rw [if_neg c4] at H; have c4b0 : (a0_0 == 4) = false := beq_eq_false_iff_ne.mpr c4; have c4b1 : (a0_0 != 4) = true := bne_iff_ne.mpr c4; (first | rw [c4b0] | (simp only [i64_w, i32_w]; rw [c4b0]) | skip)
   have H' := Aside0.mk H; clear H; obtain ⟨hcz6_0, hcz6_1, hcz6_2, hcz6_3, hcz6_4, hcz6_5, hfz6_0, hfz6_1, hfz6_2, hfz6_3, hfz6_4, hfz6_5⟩ := Sq.cell6 BK775; go_wp2
   go_meet
   case rel => exact ⟨_, (false), (by first | rfl | (simp; done) | (simp [*]; done)), H', ⟨by first | omega | exact Nat.le_refl _⟩, Sq.kk_ BK775, ⟨(Sq.ut HB)⟩⟩
 case rest =>
  clear HC2; try clear p2
  try clear c4
  try clear c4b0
  try clear c4b1
  try clear hcz5_0 hcz5_1 hcz5_2 hcz5_3 hcz5_4 hcz5_5 hcz6_0 hcz6_1 hcz6_2 hcz6_3 hcz6_4 hcz6_5 hfz5_0 hfz5_1 hfz5_2 hfz5_3 hfz5_4 hfz5_5 hfz6_0 hfz6_1 hfz6_2 hfz6_3 hfz6_4 hfz6_5
  obtain ⟨kq, x3_1, rfl, HA, HJ1, BK775, HB⟩ := hcut; cases kq with
  | zero => exact absurd HA.out (by simp [impl_tgaType.j0])
  | succ kj1 =>
   have H := HA.out; clear HA; simp only [impl_tgaType.j0] at H
   by_cases c7 : x3_1 = true
   ·subst c7; replace H := Sq.t H; obtain rfl := Option.some.inj H; go_wp2
    go_ret
    exact ⟨by first | rfl | (simp [errW_none, errW_some] <;> rfl) | (simp [*, errW_none, errW_some] <;> rfl), (Sq.ut HB)⟩
   ·replace c7 := Bool.eq_false_iff.mpr c7; subst c7; replace H := Sq.f H; have HC8 := Aside0.mk H; clear H; go_upto_region 3 with (fail)
    go_cut [12] (fun v12 wc => ∃ (kq : Nat) (x12_7 : Bool), v12 = .bool x12_7 ∧ Aside0 (impl_tgaType.j1 kq x12_7 a0_0 a0_1 a0_2 a0_3 l0_4 l0_5 = some r) ∧ Aside0 (kq ≤ kj1) ∧ Aside0 (wc.heap[gb775]? = some (.cells #[.int .i64 a0_0, .int .i64 a0_1, .int .i64 a0_2, .int .i64 a0_3, (.slice A0_4 l0_4.length c0_4), (.slice A0_5 l0_5.length c0_5)] 40 (0, 0))) ∧ Aside0 (Below w.heap.size w wc))
    case first =>
     have H := HC8.out; clear HC8
     by_cases c9 : a0_0 = 2
     ·rw [if_pos c9] at H; have c9b0 : (a0_0 == 2) = true := beq_iff_eq.mpr c9; have c9b1 : (a0_0 != 2) = false := bne_eq_false_iff_eq.mpr c9; clear c9; (first | rw [c9b0] | (simp only [i64_w, i32_w]; rw [c9b0]) | skip)
      have H' := Aside0.mk H; clear H; obtain ⟨hcz10_0, hcz10_1, hcz10_2, hcz10_3, hcz10_4, hcz10_5, hfz10_0, hfz10_1, hfz10_2, hfz10_3, hfz10_4, hfz10_5⟩ := Sq.cell6 BK775; go_wp2
      go_meet
      case rel => exact ⟨_, (true), (by first | rfl | (simp; done) | (simp [*]; done)), H', ⟨by have := HJ1.out; first | omega | exact Nat.le_refl _⟩, Sq.kk_ BK775, ⟨(Sq.ut HB)⟩⟩
     ·rw [if_neg c9] at H; have c9b0 : (a0_0 == 2) = false := beq_eq_false_iff_ne.mpr c9; have c9b1 : (a0_0 != 2) = true := bne_iff_ne.mpr c9; (first | rw [c9b0] | (simp only [i64_w, i32_w]; rw [c9b0]) | skip)
      have H' := Aside0.mk H; clear H; obtain ⟨hcz11_0, hcz11_1, hcz11_2, hcz11_3, hcz11_4, hcz11_5, hfz11_0, hfz11_1, hfz11_2, hfz11_3, hfz11_4, hfz11_5⟩ := Sq.cell6 BK775; go_wp2
      go_meet
      case rel => exact ⟨_, ((a0_0 == 3)), (by first | rfl | (simp; done) | (simp [*]; done)), H', ⟨by have := HJ1.out; first | omega | exact Nat.le_refl _⟩, Sq.kk_ BK775, ⟨(Sq.ut HB)⟩⟩
    case rest =>
     clear HC8; try clear p2
     try clear c4
     try clear c4b0
     try clear c4b1
     try clear c7
     try clear c8
     try clear c9
     try clear c9b0
     try clear c9b1
     try clear hcz10_0 hcz10_1 hcz10_2 hcz10_3 hcz10_4 hcz10_5 hcz11_0 hcz11_1 hcz11_2 hcz11_3 hcz11_4 hcz11_5 hcz5_0 hcz5_1 hcz5_2 hcz5_3 hcz5_4 hcz5_5 hcz6_0 hcz6_1 hcz6_2 hcz6_3 hcz6_4 hcz6_5 hfz10_0 hfz10_1 hfz10_2 hfz10_3 hfz10_4 hfz10_5 hfz11_0 hfz11_1 hfz11_2 hfz11_3 hfz11_4 hfz11_5 hfz5_0 hfz5_1 hfz5_2 hfz5_3 hfz5_4 hfz5_5 hfz6_0 hfz6_1 hfz6_2 hfz6_3 hfz6_4 hfz6_5
     try clear p2
     obtain ⟨kq, x12_7, rfl, HA, HJ7, BK775, HB⟩ := hcut; cases kq with
     | zero => exact absurd HA.out (by simp [impl_tgaType.j1])
     | succ kj7 =>
      have H := HA.out; clear HA; simp only [impl_tgaType.j1] at H
      by_cases c12 : x12_7 = true
      ·subst c12; replace H := Sq.t H; obtain rfl := Option.some.inj H; go_wp2
       go_ret
       exact ⟨by first | rfl | (simp [errW_none, errW_some] <;> rfl) | (simp [*, errW_none, errW_some] <;> rfl), (Sq.ut HB)⟩
      ·replace c12 := Bool.eq_false_iff.mpr c12; subst c12; replace H := Sq.f H
       by_cases c13 : a0_0 = 1
       ·rw [if_pos c13] at H; have c13b0 : (a0_0 == 1) = true := beq_iff_eq.mpr c13; have c13b1 : (a0_0 != 1) = false := bne_eq_false_iff_eq.mpr c13; clear c13
        by_cases c14 : a0_1 = 8
        ·rw [if_pos c14] at H; have c14b0 : (a0_1 == 8) = true := beq_iff_eq.mpr c14; have c14b1 : (a0_1 != 8) = false := bne_eq_false_iff_eq.mpr c14; clear c14; obtain rfl := Option.some.inj H; obtain ⟨hcz15_0, hcz15_1, hcz15_2, hcz15_3, hcz15_4, hcz15_5, hfz15_0, hfz15_1, hfz15_2, hfz15_3, hfz15_4, hfz15_5⟩ := Sq.cell6 BK775; go_wp2
         go_ret
         exact ⟨by first | rfl | (simp [errW_none, errW_some] <;> rfl) | (simp [*, errW_none, errW_some] <;> rfl), (Sq.ut HB)⟩
        ·rw [if_neg c14] at H; have c14b0 : (a0_1 == 8) = false := beq_eq_false_iff_ne.mpr c14; have c14b1 : (a0_1 != 8) = true := bne_iff_ne.mpr c14; obtain rfl := Option.some.inj H; obtain ⟨hcz16_0, hcz16_1, hcz16_2, hcz16_3, hcz16_4, hcz16_5, hfz16_0, hfz16_1, hfz16_2, hfz16_3, hfz16_4, hfz16_5⟩ := Sq.cell6 BK775; go_wp2
         go_ret
         exact ⟨by first | rfl | (simp [errW_none, errW_some] <;> rfl) | (simp [*, errW_none, errW_some] <;> rfl), (Sq.ut HB)⟩
       ·rw [if_neg c13] at H; have c13b0 : (a0_0 == 1) = false := beq_eq_false_iff_ne.mpr c13; have c13b1 : (a0_0 != 1) = true := bne_iff_ne.mpr c13; obtain rfl := Option.some.inj H; obtain ⟨hcz17_0, hcz17_1, hcz17_2, hcz17_3, hcz17_4, hcz17_5, hfz17_0, hfz17_1, hfz17_2, hfz17_3, hfz17_4, hfz17_5⟩ := Sq.cell6 BK775; go_wp2
        go_ret
        exact ⟨by first | rfl | (simp [errW_none, errW_some] <;> rfl) | (simp [*, errW_none, errW_some] <;> rfl), (Sq.ut HB)⟩
/-! ### spec_l11Tga: function 82 -/
mutual
def spec_l11Tga.j0 : Nat → Bool → Int → Int → Int → Int → List Int → List Int → Option (Int)
 | 0, _, _, _, _, _, _, _ => none
 | k + 1, x3, x615000, x615001, x615002, x615003, x615004, x615005 => if x3 = true then (some 1) else (if x615000 = 2 then (spec_l11Tga.j1 k (x615000 == 2) x615000 x615001 x615002 x615003 x615004 x615005) else (spec_l11Tga.j1 k (x615000 == 3) x615000 x615001 x615002 x615003 x615004 x615005))
def spec_l11Tga.j1 : Nat → Bool → Int → Int → Int → Int → List Int → List Int → Option (Int)
 | 0, _, _, _, _, _, _, _ => none
 | k + 1, x12, x615000, x615001, x615002, x615003, x615004, x615005 => if x12 = true then (some 2) else (if x615000 = 1 then (if x615001 = 8 then (some 3) else (some 0)) else (some 0))
end
def spec_l11Tga.f (k : Nat) (a0_0 : Int) (a0_1 : Int) (a0_2 : Int) (a0_3 : Int) (l0_4 : List Int) (l0_5 : List Int) : Option (Int) := if a0_0 = 4 then (spec_l11Tga.j0 k (a0_1 == 8) a0_0 a0_1 a0_2 a0_3 l0_4 l0_5) else (spec_l11Tga.j0 k false a0_0 a0_1 a0_2 a0_3 l0_4 l0_5)
theorem spec_l11Tga.mono_l : ∀ k, (∀ y0 y1 y2 y3 y4 y5 y6, LeO (spec_l11Tga.j0 k y0 y1 y2 y3 y4 y5 y6) (spec_l11Tga.j0 (k + 1) y0 y1 y2 y3 y4 y5 y6)) ∧ (∀ y0 y1 y2 y3 y4 y5 y6, LeO (spec_l11Tga.j1 k y0 y1 y2 y3 y4 y5 y6) (spec_l11Tga.j1 (k + 1) y0 y1 y2 y3 y4 y5 y6))
 | 0 => ⟨fun _ _ _ _ _ _ _ r h => by simp [spec_l11Tga.j0] at h, fun _ _ _ _ _ _ _ r h => by simp [spec_l11Tga.j1] at h⟩
 | k + 1 => by
  obtain ⟨ih0, ih1⟩ := spec_l11Tga.mono_l k
  refine ⟨?_, ?_⟩
  ·intro y0 y1 y2 y3 y4 y5 y6; unfold spec_l11Tga.j0
   repeat' first
   | (with_reducible exact ih0 _ _ _ _ _ _ _)
   | (with_reducible exact ih1 _ _ _ _ _ _ _)
   | (with_reducible exact LeO.refl _)
   | (with_reducible exact LeO.none _)
   | (with_reducible refine LeO.ite ?_ ?_)
   | (with_reducible refine LeO.bind ?_ (fun _ => ?_))
   | exact ih0 _ _ _ _ _ _ _
   | exact ih1 _ _ _ _ _ _ _
   | exact LeO.none _
   | refine LeO.ite ?_ ?_
   | refine LeO.bind ?_ (fun _ => ?_)
  ·intro y0 y1 y2 y3 y4 y5 y6; unfold spec_l11Tga.j1
   repeat' first
   | (with_reducible exact ih0 _ _ _ _ _ _ _)
   | (with_reducible exact ih1 _ _ _ _ _ _ _)
   | (with_reducible exact LeO.refl _)
   | (with_reducible exact LeO.none _)
   | (with_reducible refine LeO.ite ?_ ?_)
   | (with_reducible refine LeO.bind ?_ (fun _ => ?_))
   | exact ih0 _ _ _ _ _ _ _
   | exact ih1 _ _ _ _ _ _ _
   | exact LeO.none _
   | refine LeO.ite ?_ ?_
   | refine LeO.bind ?_ (fun _ => ?_)
theorem spec_l11Tga.mono : ∀ a0 a1 a2 a3 a4 a5 k, LeO (spec_l11Tga.f k a0 a1 a2 a3 a4 a5) (spec_l11Tga.f (k + 1) a0 a1 a2 a3 a4 a5) := by
 intro a0 a1 a2 a3 a4 a5 k; obtain ⟨ih0, ih1⟩ := spec_l11Tga.mono_l k; unfold spec_l11Tga.f
 repeat' first
  | (with_reducible exact ih0 _ _ _ _ _ _ _)
  | (with_reducible exact ih1 _ _ _ _ _ _ _)
  | (with_reducible exact LeO.refl _)
  | (with_reducible exact LeO.none _)
  | (with_reducible refine LeO.ite ?_ ?_)
  | (with_reducible refine LeO.bind ?_ (fun _ => ?_))
  | exact ih0 _ _ _ _ _ _ _
  | exact ih1 _ _ _ _ _ _ _
  | exact LeO.none _
  | refine LeO.ite ?_ ?_
  | refine LeO.bind ?_ (fun _ => ?_)
set_option maxHeartbeats 8000000 in
set_option maxRecDepth 100000 in
theorem spec_l11Tga.calls (k : Nat) (a0_0 : Int) (a0_1 : Int) (a0_2 : Int) (a0_3 : Int) (A0_4 : Option Addr) (c0_4 : Nat) (l0_4 : List Int) (A0_5 : Option Addr) (c0_5 : Nat) (l0_5 : List Int) (r : Int) (w : World) (hr0_4 : Kd.C (Kd.int .i64) w A0_4 l0_4.length l0_4) (hc0_4 : l0_4.length ≤ c0_4) (hr0_5 : Kd.C (Kd.int .i64) w A0_5 l0_5.length l0_5) (hc0_5 : l0_5.length ≤ c0_5) (h : spec_l11Tga.f k a0_0 a0_1 a0_2 a0_3 l0_4 l0_5 = some r) :
 Calls Try.prog 82 #[.agg #[.int .i64 a0_0, .int .i64 a0_1, .int .i64 a0_2, .int .i64 a0_3, .slice A0_4 l0_4.length c0_4, .slice A0_5 l0_5.length c0_5]] w fun e w' => e = .returned (.int .i64 r) ∧ Below w.heap.size w w' := by
 have hu40 := Try.underlying40; have HR0_4 := Aside0.mk hr0_4; have HC0_4 := Aside0.mk hc0_4; clear hr0_4 hc0_4; have HR0_5 := Aside0.mk hr0_5; have HC0_5 := Aside0.mk hc0_5; clear hr0_5 hc0_5; have HB := Aside0.mk (Below.refl w.heap.size w); have H : (if a0_0 = 4 then (spec_l11Tga.j0 k (a0_1 == 8) a0_0 a0_1 a0_2 a0_3 l0_4 l0_5) else (spec_l11Tga.j0 k false a0_0 a0_1 a0_2 a0_3 l0_4 l0_5)) = some r := h; clear h; have HC2 := Aside0.mk H; clear H; go_enter Try.func82, Try.ntmps82
 go_upto_region 1 with (first | ((with_reducible refine gate_dst (N := 1) rfl ?_); refine box_event ?hg (N := 1) ?hd (cs := #[.int .i64 a0_0, .int .i64 a0_1, .int .i64 a0_2, .int .i64 a0_3, .slice A0_4 l0_4.length c0_4, .slice A0_5 l0_5.length c0_5]) (t := 40) ?hr ?_; (case hd => rfl); (case hg => rfl); (case hr => first | (go_simp; done) | (go_simp; rfl)); intro gb614 hg w3 hbox hb; have n0_ := Sq.s_ HB hb; have n1_ := Aside0.mk (hbox); have n2_ := Sq.g_ HB hg; have n3_ := Sq.g_ HB hg; clear HB; have HB := n0_; have BK614 := n1_; have GW614 := n2_; have GE614 := n3_; have GO614 := Sq.o_ GE614; clear n0_ n1_ n2_ n3_; clear hb hbox hg))
 (try simp only [Act.put, List.setIfInBounds_toArray, List.set_cons_zero, List.set_cons_succ])
 go_cut [3] (fun v3 wc => ∃ (kq : Nat) (x3_1 : Bool), v3 = .bool x3_1 ∧ Aside0 (spec_l11Tga.j0 kq x3_1 a0_0 a0_1 a0_2 a0_3 l0_4 l0_5 = some r) ∧ Aside0 (kq ≤ k) ∧ Aside0 (wc.heap[gb614]? = some (.cells #[.int .i64 a0_0, .int .i64 a0_1, .int .i64 a0_2, .int .i64 a0_3, (.slice A0_4 l0_4.length c0_4), (.slice A0_5 l0_5.length c0_5)] 40 (0, 0))) ∧ Aside0 (Below w.heap.size w wc))
 case first =>
  have H := HC2.out; clear HC2
  by_cases c4 : a0_0 = 4
  ·rw [if_pos c4] at H; have c4b0 : (a0_0 == 4) = true := beq_iff_eq.mpr c4; have c4b1 : (a0_0 != 4) = false := bne_eq_false_iff_eq.mpr c4; clear c4; (first | rw [c4b0] | (simp only [i64_w, i32_w]; rw [c4b0]) | skip)
   have H' := Aside0.mk H; clear H; obtain ⟨hcz5_0, hcz5_1, hcz5_2, hcz5_3, hcz5_4, hcz5_5, hfz5_0, hfz5_1, hfz5_2, hfz5_3, hfz5_4, hfz5_5⟩ := Sq.cell6 BK614; go_wp2
   go_meet
   case rel => exact ⟨_, ((a0_1 == 8)), (by first | rfl | (simp; done) | (simp [*]; done)), H', ⟨by first | omega | exact Nat.le_refl _⟩, Sq.kk_ BK614, ⟨(Sq.ut HB)⟩⟩
  ·rw [if_neg c4] at H; have c4b0 : (a0_0 == 4) = false := beq_eq_false_iff_ne.mpr c4; have c4b1 : (a0_0 != 4) = true := bne_iff_ne.mpr c4; (first | rw [c4b0] | (simp only [i64_w, i32_w]; rw [c4b0]) | skip)
   have H' := Aside0.mk H; clear H; obtain ⟨hcz6_0, hcz6_1, hcz6_2, hcz6_3, hcz6_4, hcz6_5, hfz6_0, hfz6_1, hfz6_2, hfz6_3, hfz6_4, hfz6_5⟩ := Sq.cell6 BK614; go_wp2
   go_meet
   case rel => exact ⟨_, (false), (by first | rfl | (simp; done) | (simp [*]; done)), H', ⟨by first | omega | exact Nat.le_refl _⟩, Sq.kk_ BK614, ⟨(Sq.ut HB)⟩⟩
 case rest =>
  clear HC2; try clear p2
  try clear c4
  try clear c4b0
  try clear c4b1
  try clear hcz5_0 hcz5_1 hcz5_2 hcz5_3 hcz5_4 hcz5_5 hcz6_0 hcz6_1 hcz6_2 hcz6_3 hcz6_4 hcz6_5 hfz5_0 hfz5_1 hfz5_2 hfz5_3 hfz5_4 hfz5_5 hfz6_0 hfz6_1 hfz6_2 hfz6_3 hfz6_4 hfz6_5
  obtain ⟨kq, x3_1, rfl, HA, HJ1, BK614, HB⟩ := hcut; cases kq with
  | zero => exact absurd HA.out (by simp [spec_l11Tga.j0])
  | succ kj1 =>
   have H := HA.out; clear HA; simp only [spec_l11Tga.j0] at H
   by_cases c7 : x3_1 = true
   ·subst c7; replace H := Sq.t H; obtain rfl := Option.some.inj H; go_wp2
    go_ret
    exact ⟨by first | rfl | (simp [errW_none, errW_some] <;> rfl) | (simp [*, errW_none, errW_some] <;> rfl), (Sq.ut HB)⟩
   ·replace c7 := Bool.eq_false_iff.mpr c7; subst c7; replace H := Sq.f H; have HC8 := Aside0.mk H; clear H; obtain ⟨hcz9_0, hcz9_1, hcz9_2, hcz9_3, hcz9_4, hcz9_5, hfz9_0, hfz9_1, hfz9_2, hfz9_3, hfz9_4, hfz9_5⟩ := Sq.cell6 BK614; go_upto_if 12 with (fail)
    go_cut [12] (fun v12 wc => ∃ (kq : Nat) (x12_7 : Bool), v12 = .bool x12_7 ∧ Aside0 (spec_l11Tga.j1 kq x12_7 a0_0 a0_1 a0_2 a0_3 l0_4 l0_5 = some r) ∧ Aside0 (kq ≤ kj1) ∧ Aside0 (wc.heap[gb614]? = some (.cells #[.int .i64 a0_0, .int .i64 a0_1, .int .i64 a0_2, .int .i64 a0_3, (.slice A0_4 l0_4.length c0_4), (.slice A0_5 l0_5.length c0_5)] 40 (0, 0))) ∧ Aside0 (Below w.heap.size w wc))
    case first =>
     have H := HC8.out; clear HC8
     by_cases c10 : a0_0 = 2
     ·rw [if_pos c10] at H; have c10b0 : (a0_0 == 2) = true := beq_iff_eq.mpr c10; have c10b1 : (a0_0 != 2) = false := bne_eq_false_iff_eq.mpr c10; clear c10; (first | rw [c10b0] | (simp only [i64_w, i32_w]; rw [c10b0]) | skip)
      have H' := Aside0.mk H; clear H; go_wp2
      go_meet
      case rel => exact ⟨_, ((a0_0 == 2)), (by first | rfl | (simp; done) | (simp [*]; done)), H', ⟨by have := HJ1.out; first | omega | exact Nat.le_refl _⟩, Sq.kk_ BK614, ⟨(Sq.ut HB)⟩⟩
     ·rw [if_neg c10] at H; have c10b0 : (a0_0 == 2) = false := beq_eq_false_iff_ne.mpr c10; have c10b1 : (a0_0 != 2) = true := bne_iff_ne.mpr c10; (first | rw [c10b0] | (simp only [i64_w, i32_w]; rw [c10b0]) | skip)
      have H' := Aside0.mk H; clear H; obtain ⟨hcz11_0, hcz11_1, hcz11_2, hcz11_3, hcz11_4, hcz11_5, hfz11_0, hfz11_1, hfz11_2, hfz11_3, hfz11_4, hfz11_5⟩ := Sq.cell6 BK614; go_wp2
      go_meet
      case rel => exact ⟨_, ((a0_0 == 3)), (by first | rfl | (simp; done) | (simp [*]; done)), H', ⟨by have := HJ1.out; first | omega | exact Nat.le_refl _⟩, Sq.kk_ BK614, ⟨(Sq.ut HB)⟩⟩
    case rest =>
     clear HC8; try clear c1
     try clear p2
     try clear c4
     try clear c4b0
     try clear c4b1
     try clear c7
     try clear c8
     try clear c10
     try clear c10b0
     try clear c10b1
     try clear hcz11_0 hcz11_1 hcz11_2 hcz11_3 hcz11_4 hcz11_5 hcz5_0 hcz5_1 hcz5_2 hcz5_3 hcz5_4 hcz5_5 hcz6_0 hcz6_1 hcz6_2 hcz6_3 hcz6_4 hcz6_5 hcz9_0 hcz9_1 hcz9_2 hcz9_3 hcz9_4 hcz9_5 hfz11_0 hfz11_1 hfz11_2 hfz11_3 hfz11_4 hfz11_5 hfz5_0 hfz5_1 hfz5_2 hfz5_3 hfz5_4 hfz5_5 hfz6_0 hfz6_1 hfz6_2 hfz6_3 hfz6_4 hfz6_5 hfz9_0 hfz9_1 hfz9_2 hfz9_3 hfz9_4 hfz9_5
     try clear p2
     obtain ⟨kq, x12_7, rfl, HA, HJ7, BK614, HB⟩ := hcut; cases kq with
     | zero => exact absurd HA.out (by simp [spec_l11Tga.j1])
     | succ kj7 =>
      have H := HA.out; clear HA; simp only [spec_l11Tga.j1] at H
      by_cases c12 : x12_7 = true
      ·subst c12; replace H := Sq.t H; obtain rfl := Option.some.inj H; go_wp2
       go_ret
       exact ⟨by first | rfl | (simp [errW_none, errW_some] <;> rfl) | (simp [*, errW_none, errW_some] <;> rfl), (Sq.ut HB)⟩
      ·replace c12 := Bool.eq_false_iff.mpr c12; subst c12; replace H := Sq.f H
       by_cases c13 : a0_0 = 1
       ·rw [if_pos c13] at H; have c13b0 : (a0_0 == 1) = true := beq_iff_eq.mpr c13; have c13b1 : (a0_0 != 1) = false := bne_eq_false_iff_eq.mpr c13; clear c13
        by_cases c14 : a0_1 = 8
        ·rw [if_pos c14] at H; have c14b0 : (a0_1 == 8) = true := beq_iff_eq.mpr c14; have c14b1 : (a0_1 != 8) = false := bne_eq_false_iff_eq.mpr c14; clear c14; obtain rfl := Option.some.inj H; obtain ⟨hcz15_0, hcz15_1, hcz15_2, hcz15_3, hcz15_4, hcz15_5, hfz15_0, hfz15_1, hfz15_2, hfz15_3, hfz15_4, hfz15_5⟩ := Sq.cell6 BK614; go_wp2
         go_ret
         exact ⟨by first | rfl | (simp [errW_none, errW_some] <;> rfl) | (simp [*, errW_none, errW_some] <;> rfl), (Sq.ut HB)⟩
        ·rw [if_neg c14] at H; have c14b0 : (a0_1 == 8) = false := beq_eq_false_iff_ne.mpr c14; have c14b1 : (a0_1 != 8) = true := bne_iff_ne.mpr c14; obtain rfl := Option.some.inj H; obtain ⟨hcz16_0, hcz16_1, hcz16_2, hcz16_3, hcz16_4, hcz16_5, hfz16_0, hfz16_1, hfz16_2, hfz16_3, hfz16_4, hfz16_5⟩ := Sq.cell6 BK614; go_wp2
         go_ret
         exact ⟨by first | rfl | (simp [errW_none, errW_some] <;> rfl) | (simp [*, errW_none, errW_some] <;> rfl), (Sq.ut HB)⟩
       ·rw [if_neg c13] at H; have c13b0 : (a0_0 == 1) = false := beq_eq_false_iff_ne.mpr c13; have c13b1 : (a0_0 != 1) = true := bne_iff_ne.mpr c13; obtain rfl := Option.some.inj H; obtain ⟨hcz17_0, hcz17_1, hcz17_2, hcz17_3, hcz17_4, hcz17_5, hfz17_0, hfz17_1, hfz17_2, hfz17_3, hfz17_4, hfz17_5⟩ := Sq.cell6 BK614; go_wp2
        go_ret
        exact ⟨by first | rfl | (simp [errW_none, errW_some] <;> rfl) | (simp [*, errW_none, errW_some] <;> rfl), (Sq.ut HB)⟩
end Go.Proofs.Ytgdbinifnhfcjaa.P
namespace Go.Proofs.Ytgdbinifnhfcjaa.Lib
open Go.RowKit Go.Proofs.YtgdbinifnhfcjaaW.PrintWords Go.Proofs.YtgdbinifnhfcjaaW.PrintLast Go.Proofs.YtgdbinifnhfcjaaW.PrintMore
def Ok {α : Type} (g : Nat → Option α) (P : α → Prop) : Prop := ∃ r, Ev g r ∧ P r
theorem Ok.bind {α β : Type} {g : Nat → Option α} {f : Nat → α → Option β} {P : α → Prop} {Q : β → Prop} (h : Ok g P) (k : ∀ a, P a → Ok (fun n => f n a) Q) : Ok (fun n => (g n).bind (f n)) Q := by
  obtain ⟨a, ha, pa⟩ := h
  obtain ⟨b, hb, qb⟩ := k a pa
  exact ⟨b, Ev.bind ha hb, qb⟩
theorem Ok.now {α : Type} {P : α → Prop} (r : α) (h : P r) : Ok (fun _ => some r) P := ⟨r, Ev.now r, h⟩
theorem Ok.step {α : Type} {g f : Nat → Option α} {P : α → Prop} (h : ∀ k, g (k + 1) = f k) (k : Ok f P) : Ok g P := by
  obtain ⟨r, hr, pr⟩ := k
  exact ⟨r, Ev.step h hr, pr⟩
theorem Ok.succ {α : Type} {g : Nat → Option α} {P : α → Prop} (k : Ok (fun n => g (n + 1)) P) : Ok g P := Ok.step (fun _ => rfl) k
theorem Ok.congr {α : Type} {g f : Nat → Option α} {P : α → Prop} (h : ∀ k, g k = f k) (k : Ok f P) : Ok g P := by
  obtain ⟨r, hr, pr⟩ := k
  exact ⟨r, Ev.congr h hr, pr⟩
theorem Ok.mono {α : Type} {g : Nat → Option α} {P Q : α → Prop} (h : Ok g P) (k : ∀ r, P r → Q r) : Ok g Q := by
  obtain ⟨r, hr, pr⟩ := h
  exact ⟨r, hr, k r pr⟩
theorem Ok.yes {α : Type} {g f : Nat → Option α} {c : Prop} [Decidable c] {P : α → Prop} (hc : c) (h : Ok g P) : Ok (fun n => if c then g n else f n) P := by
  simp only [if_pos hc]; exact h
theorem Ok.no {α : Type} {g f : Nat → Option α} {c : Prop} [Decidable c] {P : α → Prop} (hc : ¬ c) (h : Ok f P) : Ok (fun n => if c then g n else f n) P := by
  simp only [if_neg hc]; exact h
theorem Ok.ite {α : Type} {g f : Nat → Option α} {c : Prop} [Decidable c] {P : α → Prop} (h : c → Ok g P) (k : ¬ c → Ok f P) : Ok (fun n => if c then g n else f n) P := by
  by_cases hc : c
  · exact Ok.yes hc (h hc)
  · exact Ok.no hc (k hc)
theorem Ok.ev {α : Type} {g : Nat → Option α} {r : α} (h : Ok g (· = r)) : Ev g r := by
  obtain ⟨_, hr, rfl⟩ := h
  exact hr
theorem Ok.of_ev {α : Type} {g : Nat → Option α} {r : α} {P : α → Prop} (h : Ev g r) (hp : P r) : Ok g P := ⟨r, h, hp⟩
theorem Ok.rounds {α : Type} {g : Nat → Option α} {r : α} (h : Ok g (· = r)) : ∃ k, g k = some r := h.ev.rounds
theorem Ok.const {α : Type} {o : Option α} {P : α → Prop} {r : α} (h : o = some r) (hp : P r) : Ok (fun _ => o) P := by
  subst h; exact Ok.now r hp
theorem Ok.binds {α β : Type} {o : Option α} {f : Nat → α → Option β} {Q : β → Prop} {a : α} (h : o = some a) (k : Ok (fun n => f n a) Q) : Ok (fun n => o.bind (f n)) Q := by
  subst h; exact k

theorem w64 {x : Int} (h : -9223372036854775808 ≤ x) (h' : x ≤ 9223372036854775807) : wrap64 x = x := by unfold wrap64; omega
theorem tmod_nn {x n : Int} (h : 0 ≤ x) : Int.tmod x n = x % n := Int.tmod_eq_emod_of_nonneg h
theorem tdiv_nn {x n : Int} (h : 0 ≤ x) : Int.tdiv x n = x / n := Int.tdiv_eq_ediv_of_nonneg h
theorem rd_mem {b : List Int} {i : Int} (h0 : 0 ≤ i) (h1 : i < b.length) : rd b i ∈ b := by
  unfold rd
  have h : i.toNat < b.length := by omega
  rw [List.getD_eq_getElem?_getD, List.getElem?_eq_getElem h]
  exact List.getElem_mem h

/-! exclusive or of numbers that are not below 0 -/
theorem ofInt_i64 (a : Nat) (ha : a < 9223372036854775808) : (BitVec.ofInt 64 (a : Int)).toNat = a := by
  rw [BitVec.ofInt_natCast, BitVec.toNat_ofNat]; exact Nat.mod_eq_of_lt (by omega)
theorem i64_xor_nat (a b : Nat) (ha : a < 9223372036854775808) (hb : b < 9223372036854775808) : bits .xor .i64 (a : Int) (b : Int) = ((a ^^^ b : Nat) : Int) := by
  have hx : a ^^^ b < 2 ^ 63 := Nat.xor_lt_two_pow (by omega) (by omega)
  show IntKind.i64.wrap ((BitVec.ofInt 64 (a : Int) ^^^ BitVec.ofInt 64 (b : Int)).toNat : Int) = _
  rw [BitVec.toNat_xor, ofInt_i64 a ha, ofInt_i64 b hb, IntKind.wrap_i64]
  omega
theorem xor_nonneg {x y : Int} (hx : 0 ≤ x) (hx' : x ≤ 9223372036854775807) (hy : 0 ≤ y) (hy' : y ≤ 9223372036854775807) : 0 ≤ bits .xor .i64 x y ∧ bits .xor .i64 x y ≤ 9223372036854775807 := by
  obtain ⟨a, rfl⟩ := Int.eq_ofNat_of_zero_le hx
  obtain ⟨b, rfl⟩ := Int.eq_ofNat_of_zero_le hy
  rw [i64_xor_nat a b (by omega) (by omega)]
  have h : a ^^^ b < 2 ^ 63 := Nat.xor_lt_two_pow (by omega) (by omega)
  omega

/-! texts and lists of bytes -/
theorem size_empty : (⟨#[]⟩ : ByteArray).size = 0 := rfl
theorem text_nil (s : ByteArray) : s.toList = ([] : List UInt8) ↔ s.size = 0 := by
  rw [ByteArray.toList_eq]
  constructor
  · intro h
    have := congrArg List.length h
    simpa using this
  · intro h
    apply List.eq_nil_of_length_eq_zero
    simpa using h
theorem strOfNums_at (xs : List Int) (i : Nat) (h : i < xs.length) (h0 : 0 ≤ xs[i]) (h1 : xs[i] ≤ 255) : bt (strOfNums xs) (i : Int) = xs[i] := by
  unfold bt
  have hs : (i : Int).toNat < (strOfNums xs).size := by rw [strOfNums_size]; simpa using h
  rw [dif_pos hs]
  have e : (strOfNums xs)[(i : Int).toNat]'hs = UInt8.ofNat (xs[i]).toNat := by
    show (xs.map fun n => UInt8.ofNat n.toNat).toArray[(i : Int).toNat]'(by simpa using h) = _
    simp
  rw [e, UInt8.toNat_ofNat']
  omega
theorem strOfNums_self (s : ByteArray) : strOfNums ((List.range s.size).map fun (i : Nat) => bt s (i : Int)) = s := by
  apply ByteArray.ext
  unfold strOfNums
  apply Array.ext
  · simp
  · intro i h1 h2
    have hs : i < s.size := h2
    have e : bt s (i : Int) = ((s[i]'hs).toNat : Int) := by
      unfold bt
      have : (i : Int).toNat < s.size := by simpa using hs
      rw [dif_pos this]
      simp
    simp only [List.getElem_toArray, List.getElem_map, List.getElem_range, e]
    simp
    rfl
theorem bt_nat (s : ByteArray) (i : Nat) (h : i < s.size) : bt s (i : Int) = ((s[i]'h).toNat : Int) := by
  unfold bt
  have : (i : Int).toNat < s.size := by simpa using h
  rw [dif_pos this]
  simp
end Go.Proofs.Ytgdbinifnhfcjaa.Lib
/- Pictures: what is ok, for the program and the reference alike; what a TGA calls them. -/
set_option linter.unusedVariables false
set_option linter.unusedSimpArgs false
namespace Go.Proofs.Ytgdbinifnhfcjaa.Pic
open Go.RowKit Go.Proofs.Ytgdbinifnhfcjaa.P Go.Proofs.Ytgdbinifnhfcjaa.Lib Go.Proofs.YtgdbinifnhfcjaaW.PrintWords Go.Proofs.YtgdbinifnhfcjaaW.PrintLast Go.Proofs.YtgdbinifnhfcjaaW.PrintMore
theorem pow_run (n : Nat) (hn : n ≤ 62) (d : Nat) : ∀ (i : Nat), n - i = d → i ≤ n → Ok (fun k => spec_l1Pow.l0 k (n : Int) ((2 : Int) ^ i) (i : Int)) (· = (2 : Int) ^ n) := by
  induction d with
  | zero =>
    intro i hd hi
    obtain rfl : i = n := by omega
    refine Ok.succ ?_
    simp only [spec_l1Pow.l0]
    exact Ok.no (by omega) (Ok.now _ rfl)
  | succ d ih =>
    intro i hd hi
    refine Ok.succ ?_
    simp only [spec_l1Pow.l0]
    refine Ok.yes (by omega) ?_
    have e1 : wrap64 ((2 : Int) ^ i * 2) = 2 ^ (i + 1) := by
      rw [← Int.pow_succ]
      have h1 := pow2_1 (i + 1)
      have h2 := pow2_le (show i + 1 ≤ 62 by omega)
      exact w64 (by omega) (by omega)
    have e2 : wrap64 ((i : Int) + 1) = ((i + 1 : Nat) : Int) := by unfold wrap64; omega
    rw [e1, e2]
    exact ih (i + 1) (by omega) (by omega)
theorem pow_ok (n : Nat) (hn : n ≤ 62) : Ok (fun k => spec_l1Pow.f k (n : Int)) (· = (2 : Int) ^ n) := by
  unfold spec_l1Pow.f
  exact pow_run n hn n 0 (by omega) (by omega)

/-! ### pictures that are ok -/
def small (a : Int) : Prop := a = 1 ∨ a = 2 ∨ a = 4 ∨ a = 8
instance (a : Int) : Decidable (small a) := by unfold small; infer_instance
def dok (kind depth : Int) : Prop := (kind = 1 ∨ kind = 4) ∧ small depth ∨ kind = 2 ∧ depth = 24 ∨ kind = 3 ∧ depth = 32
instance (a b : Int) : Decidable (dok a b) := by unfold dok; infer_instance
theorem small_ite (a : Int) : (if a = 1 then some true else (if a = 2 then some true else (if a = 4 then some true else some (a == 8)))) = some (decide (small a)) := by
  unfold small
  by_cases h1 : a = 1 <;> by_cases h2 : a = 2 <;> by_cases h4 : a = 4 <;> by_cases h8 : a = 8 <;> simp [h1, h2, h4, h8]
theorem small_eq (a : Int) : impl_smallDepth.f a = some (decide (small a)) := by
  unfold impl_smallDepth.f
  exact small_ite a
theorem dok_nat {kind depth : Int} (h : dok kind depth) : ∃ d : Nat, d ≤ 32 ∧ depth = (d : Int) := by
  unfold dok small at h
  exact ⟨depth.toNat, by omega, by omega⟩
theorem depthOk_ok (kind depth : Int) : Ok (fun k => impl_depthOk.f k kind depth) (· = decide (dok kind depth)) := by
  unfold impl_depthOk.f
  by_cases h1 : kind = 1
  · subst h1
    refine Ok.yes rfl (Ok.succ ?_)
    simp only [impl_depthOk.j0]
    refine Ok.yes (by simp) (Ok.binds (small_eq depth) (Ok.now _ ?_))
    simp [dok]
  · refine Ok.no h1 (Ok.succ ?_)
    simp only [impl_depthOk.j0]
    by_cases h4 : kind = 4
    · subst h4
      refine Ok.yes (by simp) (Ok.binds (small_eq depth) (Ok.now _ ?_))
      simp [dok]
    · refine Ok.no (by simpa using h4) ?_
      refine Ok.ite (fun h2 => Ok.now _ ?_) (fun h2 => Ok.ite (fun h3 => Ok.now _ ?_) (fun h3 => Ok.now _ ?_))
      · subst h2
        by_cases hd : depth = 24 <;> simp [dok, hd]
      · subst h3
        by_cases hd : depth = 32 <;> simp [dok, hd]
      · simp [dok, h1, h2, h3, h4]
theorem sdepth_ok (kind depth : Int) : Ok (fun k => spec_l8Depth.f k kind depth) (· = decide (dok kind depth)) := by
  unfold spec_l8Depth.f
  by_cases h1 : kind = 1
  · subst h1
    refine Ok.yes rfl (Ok.succ ?_)
    simp only [spec_l8Depth.j0]
    refine Ok.yes (by simp) (Ok.const (small_ite depth) ?_)
    simp [dok]
  · refine Ok.no h1 (Ok.succ ?_)
    simp only [spec_l8Depth.j0]
    by_cases h4 : kind = 4
    · subst h4
      refine Ok.yes (by simp) (Ok.const (small_ite depth) ?_)
      simp [dok]
    · refine Ok.no (by simpa using h4) ?_
      refine Ok.ite (fun h2 => Ok.now _ ?_) (fun h2 => Ok.ite (fun h3 => Ok.now _ ?_) (fun h3 => Ok.now _ ?_))
      · subst h2
        by_cases hd : depth = 24 <;> simp [dok, hd]
      · subst h3
        by_cases hd : depth = 32 <;> simp [dok, hd]
      · simp [dok, h1, h2, h3, h4]
theorem in0 (x a1 : Int) : spec_l1In.f x 0 a1 = some (!impl_outside.bad a1 x) := by
  unfold spec_l1In.f impl_outside.bad
  by_cases hx : x ≥ 0
  · have hx' : 0 ≤ x := hx
    rw [if_pos hx]; simp [hx']
  · have hx' : ¬ 0 ≤ x := hx
    rw [if_neg hx]; simp [hx']
theorem in1 (x a1 : Int) : spec_l1In.f x 1 a1 = some (decide (1 ≤ x ∧ x ≤ a1)) := by
  unfold spec_l1In.f
  by_cases hx : x ≥ 1
  · have hx' : 1 ≤ x := hx
    rw [if_pos hx]; simp [hx']
  · have hx' : ¬ 1 ≤ x := hx
    rw [if_neg hx]; simp [hx']
theorem iin1 (x a1 : Int) : impl_in.f x 1 a1 = some (decide (1 ≤ x ∧ x ≤ a1)) := by
  unfold impl_in.f
  by_cases hx : x ≥ 1
  · have hx' : 1 ≤ x := hx
    rw [if_pos hx]; simp [hx']
  · have hx' : ¬ 1 ≤ x := hx
    rw [if_neg hx]; simp [hx']
theorem shl_one (d : Nat) (hd : d ≤ 62) : shl .i64 1 (d : Int) = 2 ^ d := by
  unfold shl
  rw [Int.toNat_natCast]
  show IntKind.i64.wrap (1 * 2 ^ min d 64) = _
  rw [Nat.min_eq_left (show d ≤ 64 by omega), Int.one_mul, IntKind.wrap_i64]
  have h1 := pow2_1 d
  have h2 := pow2_le hd
  generalize (2 : Int) ^ d = z at h1 h2 ⊢
  omega
def colok (kind depth : Int) (cs : List Int) : Prop := if kind = 4 then (1 ≤ (cs.length : Int) ∧ (cs.length : Int) ≤ 2 ^ depth.toNat) ∧ ¬ cs.any (impl_outside.bad 16777215) = true else cs.length = 0
instance (a b : Int) (l : List Int) : Decidable (colok a b l) := by unfold colok; infer_instance
theorem colok4 {kind : Int} {D : Nat} {cs : List Int} (h : kind = 4) : colok kind (D : Int) cs ↔ ((1 ≤ (cs.length : Int) ∧ (cs.length : Int) ≤ 2 ^ D) ∧ ¬ cs.any (impl_outside.bad 16777215) = true) := by
  unfold colok
  rw [if_pos h, Int.toNat_natCast]
theorem colokn {kind depth : Int} {cs : List Int} (h : ¬ kind = 4) : colok kind depth cs ↔ cs.length = 0 := by
  unfold colok
  rw [if_neg h]
theorem drop_rd {l : List Int} {i : Nat} (h : i < l.length) : l.drop i = rd l (i : Int) :: l.drop (i + 1) := by
  rw [List.drop_eq_getElem_cons h]
  unfold rd
  rw [Int.toNat_natCast, List.getD_eq_getElem?_getD, List.getElem?_eq_getElem h, Option.getD_some]
theorem l8Colors_l (kind : Int) (D : Nat) (hD : D ≤ 32) (w h : Int) (cs ps : List Int) (hl : cs.length ≤ 1048576) (d : Nat) : ∀ (i : Nat), i + d = cs.length → (cs.any (impl_outside.bad 16777215) = (cs.drop i).any (impl_outside.bad 16777215)) →
    Ok (fun k => spec_l8Colors.l0 k (i : Int) kind (D : Int) w h cs ps) (· = decide (colok kind (D : Int) cs)) := by
  induction d with
  | zero =>
    intro i hi ha
    rw [List.drop_eq_nil_of_le (by omega), List.any_nil] at ha
    have c1 : ¬ (i : Int) < (cs.length : Int) := by omega
    refine Ok.succ ?_
    simp only [spec_l8Colors.l0]
    refine Ok.no c1 (Ok.ite (fun h4 => ?_) (fun h4 => Ok.now _ ?_))
    · refine (pow_ok D (by omega)).bind fun x hx => ?_
      subst hx
      refine Ok.binds (in1 _ _) (Ok.now _ ?_)
      rw [decide_eq_decide, colok4 h4, ha]
      simp
    · by_cases hz : cs.length = 0
      · rw [decide_eq_true ((colokn h4).2 hz), hz]; rfl
      · rw [decide_eq_false fun z => hz ((colokn h4).1 z)]
        exact beq_eq_false_iff_ne.2 (by omega)
  | succ d ih =>
    intro i hi ha
    have hlt : i < cs.length := by omega
    rw [drop_rd hlt, List.any_cons] at ha
    have c1 : (i : Int) < (cs.length : Int) := by omega
    have c2 : (0 : Int) ≤ (i : Int) := by omega
    have e1 : wrap64 ((i : Int) + 1) = ((i + 1 : Nat) : Int) := by rw [w64 (by omega) (by omega)] <;> omega
    refine Ok.succ ?_
    simp only [spec_l8Colors.l0]
    refine Ok.yes c1 (Ok.yes c2 ?_)
    rw [e1]
    refine Ok.binds (in0 _ _) ?_
    cases hb : impl_outside.bad 16777215 (rd cs (i : Int)) with
    | true =>
      rw [hb, Bool.true_or] at ha
      refine Ok.no (by simp) (Ok.now _ ?_)
      rw [decide_eq_false]
      intro z
      by_cases h4 : kind = 4
      · exact ((colok4 h4).1 z).2 ha
      · have := (colokn h4).1 z
        omega
    | false =>
      rw [hb, Bool.false_or] at ha
      exact Ok.yes (by simp) (ih (i + 1) (by omega) ha)
theorem l8Colors_ok (kind : Int) (D : Nat) (hD : D ≤ 32) (w h : Int) (cs ps : List Int) (hl : cs.length ≤ 1048576) : Ok (fun k => spec_l8Colors.f k kind (D : Int) w h cs ps) (· = decide (colok kind (D : Int) cs)) := by
  unfold spec_l8Colors.f
  exact l8Colors_l kind D hD w h cs ps hl cs.length 0 (by omega) (by rw [List.drop_zero])
def most (kind depth : Int) (cs : List Int) : Int := if kind = 4 then (cs.length : Int) - 1 else 2 ^ depth.toNat - 1
def imok (kind depth w h : Int) (cs ps : List Int) : Prop := dok kind depth ∧ (1 ≤ w ∧ w ≤ 20) ∧ (1 ≤ h ∧ h ≤ 20) ∧ (ps.length : Int) = wrap64 (w * h) ∧ colok kind depth cs ∧ ¬ ps.any (impl_outside.bad (most kind depth cs)) = true
instance (a b c d : Int) (l m : List Int) : Decidable (imok a b c d l m) := by unfold imok; infer_instance
theorem pix_l (b kind depth w h : Int) (cs ps : List Int) (hl : ps.length ≤ 1048576) (d : Nat) : ∀ (i : Nat), i + d = ps.length → (ps.any (impl_outside.bad b) = (ps.drop i).any (impl_outside.bad b)) →
    Ok (fun k => spec_ImageOk.l0 k b (i : Int) kind depth w h cs ps) (· = !(ps.any (impl_outside.bad b))) := by
  induction d with
  | zero =>
    intro i hi ha
    rw [List.drop_eq_nil_of_le (by omega), List.any_nil] at ha
    have c1 : ¬ (i : Int) < (ps.length : Int) := by omega
    refine Ok.succ ?_
    simp only [spec_ImageOk.l0]
    refine Ok.no c1 (Ok.now _ ?_)
    rw [ha]; rfl
  | succ d ih =>
    intro i hi ha
    have hlt : i < ps.length := by omega
    rw [drop_rd hlt, List.any_cons] at ha
    have c1 : (i : Int) < (ps.length : Int) := by omega
    have c2 : (0 : Int) ≤ (i : Int) := by omega
    have e1 : wrap64 ((i : Int) + 1) = ((i + 1 : Nat) : Int) := by rw [w64 (by omega) (by omega)] <;> omega
    refine Ok.succ ?_
    simp only [spec_ImageOk.l0]
    refine Ok.yes c1 (Ok.yes c2 ?_)
    rw [e1]
    refine Ok.binds (in0 _ _) ?_
    cases hb : impl_outside.bad b (rd ps (i : Int)) with
    | true =>
      rw [hb, Bool.true_or] at ha
      refine Ok.no (by simp) (Ok.now _ ?_)
      rw [ha]; rfl
    | false =>
      rw [hb, Bool.false_or] at ha
      exact Ok.yes (by simp) (ih (i + 1) (by omega) ha)
theorem sImageOk_ok (kind depth w h : Int) (cs ps : List Int) (hc : cs.length ≤ 1048576) (hp : ps.length ≤ 1048576) : Ok (fun k => spec_ImageOk.f k kind depth w h cs ps) (· = decide (imok kind depth w h cs ps)) := by
  have bad : ¬ imok kind depth w h cs ps → Ok (fun k => spec_ImageOk.j0 k true kind depth w h cs ps) (· = decide (imok kind depth w h cs ps)) := fun hn => by
    refine Ok.succ ?_
    simp only [spec_ImageOk.j0]
    exact Ok.yes (by simp) (Ok.now _ (by rw [decide_eq_false hn]))
  unfold spec_ImageOk.f
  refine (sdepth_ok kind depth).bind fun x hx => ?_
  subst hx
  by_cases h1 : dok kind depth
  · refine Ok.yes (decide_eq_true h1) (Ok.binds (in1 _ _) ?_)
    by_cases h2 : 1 ≤ w ∧ w ≤ 20
    · refine Ok.yes (decide_eq_true h2) (Ok.binds (in1 _ _) ?_)
      by_cases h3 : 1 ≤ h ∧ h ≤ 20
      · refine Ok.yes (decide_eq_true h3) ?_
        refine Ok.ite (fun h4 => ?_) (fun h4 => bad fun z => h4 z.2.2.2.1)
        obtain ⟨D, hD, rfl⟩ := dok_nat h1
        refine (l8Colors_ok kind D hD w h cs ps hc).bind fun x hx => ?_
        subst hx
        by_cases h5 : colok kind (D : Int) cs
        · rw [decide_eq_true h5]
          refine Ok.succ ?_
          simp only [spec_ImageOk.j0]
          refine Ok.no (by simp) ?_
          refine (pow_ok D (by omega)).bind fun x hx => ?_
          subst hx
          have p1 := pow2_1 D
          have p2 := pow2_32 (D := D) hD
          have e1 : wrap64 ((2 : Int) ^ D - 1) = 2 ^ D - 1 := w64 (by omega) (by omega)
          have e2 : wrap64 ((cs.length : Int) - 1) = (cs.length : Int) - 1 := w64 (by omega) (by omega)
          rw [e1, e2]
          have fin : ∀ b, most kind (D : Int) cs = b → Ok (fun k => spec_ImageOk.j1 k b kind (D : Int) w h cs ps) (· = decide (imok kind (D : Int) w h cs ps)) := fun b hb => by
            refine Ok.succ ?_
            simp only [spec_ImageOk.j1]
            refine (pix_l b kind (D : Int) w h cs ps hp ps.length 0 (by omega) (by rw [List.drop_zero])).mono fun r hr => ?_
            rw [hr]
            cases ha : ps.any (impl_outside.bad b) with
            | true =>
              rw [decide_eq_false]
              · rfl
              · intro z
                exact z.2.2.2.2.2 (by rw [hb]; exact ha)
            | false =>
              rw [decide_eq_true]
              · rfl
              · exact ⟨h1, h2, h3, h4, h5, by rw [hb, ha]; exact Bool.false_ne_true⟩
          refine Ok.ite (fun h6 => fin _ ?_) (fun h6 => fin _ ?_)
          · unfold most; rw [if_pos h6]
          · unfold most; rw [if_neg h6, Int.toNat_natCast]
        · rw [decide_eq_false h5]
          exact bad fun z => h5 z.2.2.2.2.1
      · exact Ok.no (by simpa using h3) (bad fun z => h3 z.2.2.1)
    · exact Ok.no (by simpa using h2) (bad fun z => h2 z.2.1)
  · exact Ok.no (by simpa using h1) (bad fun z => h1 z.1)
theorem iImageOk_ok (kind depth w h : Int) (cs ps : List Int) (hc : cs.length ≤ 1048576) : Ok (fun k => impl_ImageOk.f k kind depth w h cs ps) (· = decide (imok kind depth w h cs ps)) := by
  have bad : ¬ imok kind depth w h cs ps → Ok (fun k => impl_ImageOk.j0 k true kind depth w h cs ps) (· = decide (imok kind depth w h cs ps)) := fun hn => by
    refine Ok.succ ?_
    simp only [impl_ImageOk.j0]
    exact Ok.yes (by simp) (Ok.now _ (by rw [decide_eq_false hn]))
  unfold impl_ImageOk.f
  refine (depthOk_ok kind depth).bind fun x hx => ?_
  subst hx
  by_cases h1 : dok kind depth
  · refine Ok.yes (decide_eq_true h1) (Ok.binds (iin1 _ _) ?_)
    by_cases h2 : 1 ≤ w ∧ w ≤ 20
    · refine Ok.yes (decide_eq_true h2) (Ok.binds (iin1 _ _) ?_)
      by_cases h3 : 1 ≤ h ∧ h ≤ 20
      · refine Ok.yes (decide_eq_true h3) ?_
        by_cases h4 : (ps.length : Int) = wrap64 (w * h)
        · have e0 : ((ps.length : Int) != wrap64 (w * h)) = false := by simpa using h4
          rw [e0]
          obtain ⟨D, hD, rfl⟩ := dok_nat h1
          have c0 : (0 : Int) ≤ (D : Int) := by omega
          have p1 := pow2_1 D
          have p2 := pow2_32 (D := D) hD
          have e1 : wrap64 ((2 : Int) ^ D - 1) = 2 ^ D - 1 := w64 (by omega) (by omega)
          have e2 : wrap64 ((cs.length : Int) - 1) = (cs.length : Int) - 1 := w64 (by omega) (by omega)
          have fin : ∀ b, most kind (D : Int) cs = b → colok kind (D : Int) cs → (!(ps.any (impl_outside.bad b))) = decide (imok kind (D : Int) w h cs ps) := fun b hb h5 => by
            cases ha : ps.any (impl_outside.bad b) with
            | true =>
              rw [decide_eq_false]
              · rfl
              · intro z
                exact z.2.2.2.2.2 (by rw [hb]; exact ha)
            | false =>
              rw [decide_eq_true]
              · rfl
              · exact ⟨h1, h2, h3, h4, h5, by rw [hb, ha]; exact Bool.false_ne_true⟩
          refine Ok.succ ?_
          simp only [impl_ImageOk.j0]
          refine Ok.no (by simp) ?_
          rw [shl_one D (by omega), e1, e2]
          refine Ok.ite (fun h6 => ?_) (fun h6 => ?_)
          · refine Ok.yes c0 (Ok.binds (iin1 _ _) ?_)
            by_cases h7 : 1 ≤ (cs.length : Int) ∧ (cs.length : Int) ≤ 2 ^ D
            · refine Ok.yes (decide_eq_true h7) ?_
              unfold impl_outside.f
              refine Ok.binds rfl ?_
              refine Ok.ite (fun h8 => Ok.now _ ?_) (fun h8 => ?_)
              · rw [decide_eq_false]
                intro z
                exact ((colok4 h6).1 z.2.2.2.2.1).2 h8
              · refine Ok.binds rfl (Ok.now _ (fin _ ?_ ?_))
                · unfold most; rw [if_pos h6]
                · exact (colok4 h6).2 ⟨h7, h8⟩
            · refine Ok.no (by simpa using h7) (Ok.now _ ?_)
              rw [decide_eq_false]
              intro z
              exact h7 ((colok4 h6).1 z.2.2.2.2.1).1
          · refine Ok.ite (fun h7 => ?_) (fun h7 => Ok.now _ ?_)
            · refine Ok.yes c0 ?_
              unfold impl_outside.f
              refine Ok.binds rfl (Ok.now _ (fin _ ?_ ?_))
              · unfold most; rw [if_neg h6, Int.toNat_natCast]
              · exact (colokn h6).2 (by omega)
            · rw [decide_eq_false]
              intro z
              have z5 := (colokn h6).1 z.2.2.2.2.1
              exact h7 (by omega)
        · have e0 : ((ps.length : Int) != wrap64 (w * h)) = true := by simpa using h4
          rw [e0]
          exact bad fun z => h4 z.2.2.2.1
      · exact Ok.no (by simpa using h3) (bad fun z => h3 z.2.2.1)
    · exact Ok.no (by simpa using h2) (bad fun z => h2 z.2.1)
  · exact Ok.no (by simpa using h1) (bad fun z => h1 z.1)

def tga (kind depth : Int) : Int := if kind = 4 ∧ depth = 8 then 1 else if kind = 2 ∨ kind = 3 then 2 else if kind = 1 ∧ depth = 8 then 3 else 0
theorem itga_ok (kind depth w h : Int) (cs ps : List Int) : Ok (fun k => impl_tgaType.f k kind depth w h cs ps) (· = tga kind depth) := by
  have j1 : ∀ b : Bool, b = decide (kind = 2 ∨ kind = 3) → ¬ (kind = 4 ∧ depth = 8) → Ok (fun k => impl_tgaType.j1 k b kind depth w h cs ps) (· = tga kind depth) := fun b hb hn => by
    refine Ok.succ ?_
    simp only [impl_tgaType.j1]
    unfold tga
    rw [if_neg hn]
    by_cases h23 : kind = 2 ∨ kind = 3
    · rw [hb, decide_eq_true h23, if_pos h23]
      exact Ok.yes rfl (Ok.now _ rfl)
    · rw [hb, decide_eq_false h23, if_neg h23]
      refine Ok.no (by simp) (Ok.ite (fun h1 => Ok.ite (fun h8 => Ok.now _ ?_) (fun h8 => Ok.now _ ?_)) (fun h1 => Ok.now _ ?_))
      · rw [if_pos ⟨h1, h8⟩]
      · rw [if_neg fun z => h8 z.2]
      · rw [if_neg fun z => h1 z.1]
  have j0 : ∀ b : Bool, b = decide (kind = 4 ∧ depth = 8) → Ok (fun k => impl_tgaType.j0 k b kind depth w h cs ps) (· = tga kind depth) := fun b hb => by
    refine Ok.succ ?_
    simp only [impl_tgaType.j0]
    by_cases h48 : kind = 4 ∧ depth = 8
    · rw [hb, decide_eq_true h48]
      refine Ok.yes rfl (Ok.now _ ?_)
      unfold tga
      rw [if_pos h48]
    · rw [hb, decide_eq_false h48]
      refine Ok.no (by simp) (Ok.ite (fun h2 => j1 _ ?_ h48) (fun h2 => j1 _ ?_ h48))
      · simp [h2]
      · by_cases h3 : kind = 3 <;> simp [h2, h3]
  unfold impl_tgaType.f
  refine Ok.ite (fun h4 => j0 _ ?_) (fun h4 => j0 _ ?_)
  · by_cases h8 : depth = 8 <;> simp [h4, h8]
  · simp [h4]
theorem stga_ok (kind depth w h : Int) (cs ps : List Int) : Ok (fun k => spec_l11Tga.f k kind depth w h cs ps) (· = tga kind depth) := by
  have j1 : ∀ b : Bool, b = decide (kind = 2 ∨ kind = 3) → ¬ (kind = 4 ∧ depth = 8) → Ok (fun k => spec_l11Tga.j1 k b kind depth w h cs ps) (· = tga kind depth) := fun b hb hn => by
    refine Ok.succ ?_
    simp only [spec_l11Tga.j1]
    unfold tga
    rw [if_neg hn]
    by_cases h23 : kind = 2 ∨ kind = 3
    · rw [hb, decide_eq_true h23, if_pos h23]
      exact Ok.yes rfl (Ok.now _ rfl)
    · rw [hb, decide_eq_false h23, if_neg h23]
      refine Ok.no (by simp) (Ok.ite (fun h1 => Ok.ite (fun h8 => Ok.now _ ?_) (fun h8 => Ok.now _ ?_)) (fun h1 => Ok.now _ ?_))
      · rw [if_pos ⟨h1, h8⟩]
      · rw [if_neg fun z => h8 z.2]
      · rw [if_neg fun z => h1 z.1]
  have j0 : ∀ b : Bool, b = decide (kind = 4 ∧ depth = 8) → Ok (fun k => spec_l11Tga.j0 k b kind depth w h cs ps) (· = tga kind depth) := fun b hb => by
    refine Ok.succ ?_
    simp only [spec_l11Tga.j0]
    by_cases h48 : kind = 4 ∧ depth = 8
    · rw [hb, decide_eq_true h48]
      refine Ok.yes rfl (Ok.now _ ?_)
      unfold tga
      rw [if_pos h48]
    · rw [hb, decide_eq_false h48]
      refine Ok.no (by simp) (Ok.ite (fun h2 => j1 _ ?_ h48) (fun h2 => j1 _ ?_ h48))
      · simp [h2]
      · by_cases h3 : kind = 3 <;> simp [h2, h3]
  unfold spec_l11Tga.f
  refine Ok.ite (fun h4 => j0 _ ?_) (fun h4 => j0 _ ?_)
  · by_cases h8 : depth = 8 <;> simp [h4, h8]
  · simp [h4]

end Go.Proofs.Ytgdbinifnhfcjaa.Pic
