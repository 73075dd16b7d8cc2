/- Texts of one law put together (wip/merge2.py). -/
import Derived.Test.YtgdbinifnhfcjaaMFnExactTgaPut1
namespace Go.Proofs.Ytgdbinifnhfcjaa.P
open Go.RowKit Go.Proofs.YtgdbinifnhfcjaaW.PrintWords Go.Proofs.YtgdbinifnhfcjaaW.PrintLast Go.Proofs.YtgdbinifnhfcjaaW.PrintMore
attribute [local go_sem] max2_int min2_int max_two min_two max_three min_three max_four min_four   -- for this text's walks alone
set_option linter.unusedVariables false
set_option linter.unusedSimpArgs false
/-! ### impl_ImageOk: function 78 -/
def impl_ImageOk.j0 : Nat → Bool → Int → Int → Int → Int → List Int → List Int → Option (Bool)
 | 0, _, _, _, _, _, _, _ => none
 | k + 1, x31, x406000, x406001, x406002, x406003, x406004, x406005 => if x31 = true then (some false) else (if x406000 = 4 then (if 0 ≤ x406001 then ((impl_in.f (x406004.length : Int) 1 (shl .i64 1 x406001)).bind fun t409 => (if t409 = true then ((impl_outside.f x406004 16777215).bind fun t410 => (if t410 = true then (some false) else ((impl_outside.f x406005 (wrap64 ((x406004.length : Int) - 1))).bind fun t411 => (some (!t411))))) else (some false))) else (none)) else (if (x406004.length : Int) = 0 then (if 0 ≤ x406001 then ((impl_outside.f x406005 (wrap64 ((shl .i64 1 x406001) - 1))).bind fun t412 => (some (!t412))) else (none)) else (some false)))
def impl_ImageOk.f (k : Nat) (a0_0 : Int) (a0_1 : Int) (a0_2 : Int) (a0_3 : Int) (l0_4 : List Int) (l0_5 : List Int) : Option (Bool) := (impl_depthOk.f k a0_0 a0_1).bind fun t406 => (if t406 = true then ((impl_in.f a0_2 1 20).bind fun t407 => (if t407 = true then ((impl_in.f a0_3 1 20).bind fun t408 => (if t408 = true then (impl_ImageOk.j0 k ((l0_5.length : Int) != (wrap64 (a0_2 * a0_3))) a0_0 a0_1 a0_2 a0_3 l0_4 l0_5) else (impl_ImageOk.j0 k true a0_0 a0_1 a0_2 a0_3 l0_4 l0_5))) else (impl_ImageOk.j0 k true a0_0 a0_1 a0_2 a0_3 l0_4 l0_5))) else (impl_ImageOk.j0 k true a0_0 a0_1 a0_2 a0_3 l0_4 l0_5))
theorem impl_ImageOk.mono_l : ∀ k, (∀ y0 y1 y2 y3 y4 y5 y6, LeO (impl_ImageOk.j0 k y0 y1 y2 y3 y4 y5 y6) (impl_ImageOk.j0 (k + 1) y0 y1 y2 y3 y4 y5 y6))
 | 0 => fun _ _ _ _ _ _ _ r h => by simp [impl_ImageOk.j0] at h
 | k + 1 => by
  have ih0 := impl_ImageOk.mono_l k
  ·intro y0 y1 y2 y3 y4 y5 y6; unfold impl_ImageOk.j0
   repeat' first
   | (with_reducible exact ih0 _ _ _ _ _ _ _)
   | (with_reducible exact impl_depthOk.mono _ _ _)
   | (with_reducible exact LeO.refl _)
   | (with_reducible exact LeO.none _)
   | (with_reducible refine LeO.ite ?_ ?_)
   | (with_reducible refine LeO.bind ?_ (fun _ => ?_))
   | exact ih0 _ _ _ _ _ _ _
   | exact impl_depthOk.mono _ _ _
   | exact LeO.none _
   | refine LeO.ite ?_ ?_
   | refine LeO.bind ?_ (fun _ => ?_)
theorem impl_ImageOk.mono : ∀ a0 a1 a2 a3 a4 a5 k, LeO (impl_ImageOk.f k a0 a1 a2 a3 a4 a5) (impl_ImageOk.f (k + 1) a0 a1 a2 a3 a4 a5) := by
 intro a0 a1 a2 a3 a4 a5 k; have ih0 := impl_ImageOk.mono_l k; unfold impl_ImageOk.f
 repeat' first
  | (with_reducible exact ih0 _ _ _ _ _ _ _)
  | (with_reducible exact impl_depthOk.mono _ _ _)
  | (with_reducible exact LeO.refl _)
  | (with_reducible exact LeO.none _)
  | (with_reducible refine LeO.ite ?_ ?_)
  | (with_reducible refine LeO.bind ?_ (fun _ => ?_))
  | exact ih0 _ _ _ _ _ _ _
  | exact impl_depthOk.mono _ _ _
  | exact LeO.none _
  | refine LeO.ite ?_ ?_
  | refine LeO.bind ?_ (fun _ => ?_)
def impl_ImageOk.T4 : Bool × List (List Nat × List Nat) := (true, [([], []), ([0], [0]), ([1], [1]), ([2], [2]), ([3], [3]), ([4], [4]), ([5, 4], [4, 5]), ([4], [4]), ([7, 4], [4, 7]), ([8, 4], [4, 8]), ([9, 4], [4, 9]), ([6, 10, 4, 4], [4, 6, 10]), ([11, 4], [4, 11]), ([4, 12], [4, 12]), ([13, 11, 0, 1, 2, 3, 4, 5, 6, 7, 8, 9, 10, 11, 12, 13], [13])])
def impl_ImageOk.B4 : List Nat := [0, 1, 3, 7, 15, 31, 63, 31, 159, 415, 927, 2047, 4095, 8191, 16383]
theorem impl_ImageOk.tab4 : rtab .any (opsOf Try.f78 4) = impl_ImageOk.T4 := by kernel_rfl
theorem impl_ImageOk.bits4 : waitsOk impl_ImageOk.T4.2 impl_ImageOk.B4 = true := by kernel_rfl
def impl_ImageOk.T5 : Bool × List (List Nat × List Nat) := (true, [([], []), ([0], [0]), ([1], [1]), ([], []), ([3], [3]), ([4], [4]), ([2, 5], [2, 5]), ([6, 6], [6]), ([7], [7]), ([8, 7], [7, 8]), ([9, 7, 7], [7, 9]), ([10, 7], [7, 10]), ([7, 11], [7, 11]), ([12, 10], [12]), ([13], [13]), ([14, 13], [13, 14]), ([13], [13]), ([16, 13], [13, 16]), ([17, 13], [13, 17]), ([18, 13], [13, 18]), ([15, 19, 13, 13], [13, 15, 19]), ([20, 13], [13, 20]), ([13, 21], [13, 21]), ([22, 20, 0, 1, 2, 3, 4, 5, 6, 7, 8, 9, 10, 11, 12, 13, 14, 15, 16, 17, 18, 19, 20, 21, 22], [22])])
def impl_ImageOk.B5 : List Nat := [0, 1, 3, 0, 8, 24, 63, 127, 255, 511, 1023, 2047, 4095, 8191, 16383, 32767, 16383, 81919, 212991, 475135, 1048575, 2097151, 4194303, 8388607]
theorem impl_ImageOk.tab5 : rtab .any (opsOf Try.f78 5) = impl_ImageOk.T5 := by kernel_rfl
theorem impl_ImageOk.bits5 : waitsOk impl_ImageOk.T5.2 impl_ImageOk.B5 = true := by kernel_rfl
set_option maxHeartbeats 8000000 in
set_option maxRecDepth 100000 in
theorem impl_ImageOk.calls (k : Nat) (a0_0 : Int) (a0_1 : Int) (a0_2 : Int) (a0_3 : Int) (A0_4 : Option Addr) (c0_4 : Nat) (l0_4 : List Int) (A0_5 : Option Addr) (c0_5 : Nat) (l0_5 : List Int) (r : Bool) (w : World) (hr0_4 : Kd.C (Kd.int .i64) w A0_4 l0_4.length l0_4) (hc0_4 : l0_4.length ≤ c0_4) (hr0_5 : Kd.C (Kd.int .i64) w A0_5 l0_5.length l0_5) (hc0_5 : l0_5.length ≤ c0_5) (h : impl_ImageOk.f k a0_0 a0_1 a0_2 a0_3 l0_4 l0_5 = some r) :
 Calls Try.prog 78 #[.agg #[.int .i64 a0_0, .int .i64 a0_1, .int .i64 a0_2, .int .i64 a0_3, .slice A0_4 l0_4.length c0_4, .slice A0_5 l0_5.length c0_5]] w fun e w' => e = .returned (.bool r) ∧ Below w.heap.size w w' := by
 have hu40 := Try.underlying40; have HR0_4 := Aside0.mk hr0_4; have HC0_4 := Aside0.mk hc0_4; clear hr0_4 hc0_4; have HR0_5 := Aside0.mk hr0_5; have HC0_5 := Aside0.mk hc0_5; clear hr0_5 hc0_5; have HB := Aside0.mk (Below.refl w.heap.size w); have H : ((impl_depthOk.f k a0_0 a0_1).bind fun t406 => (if t406 = true then ((impl_in.f a0_2 1 20).bind fun t407 => (if t407 = true then ((impl_in.f a0_3 1 20).bind fun t408 => (if t408 = true then (impl_ImageOk.j0 k ((l0_5.length : Int) != (wrap64 (a0_2 * a0_3))) a0_0 a0_1 a0_2 a0_3 l0_4 l0_5) else (impl_ImageOk.j0 k true a0_0 a0_1 a0_2 a0_3 l0_4 l0_5))) else (impl_ImageOk.j0 k true a0_0 a0_1 a0_2 a0_3 l0_4 l0_5))) else (impl_ImageOk.j0 k true a0_0 a0_1 a0_2 a0_3 l0_4 l0_5))) = some r := h; clear h; have HC2 := Aside0.mk H; clear H; go_enter Try.func78, Try.ntmps78
 go_upto_region 1 with (first | ((with_reducible refine gate_dst (N := 1) rfl ?_); (try (refine gate_guard (by rfl) ?_; dsimp only)); refine box_event ?hg (N := 1) ?hd (cs := #[.int .i64 a0_0, .int .i64 a0_1, .int .i64 a0_2, .int .i64 a0_3, .slice A0_4 l0_4.length c0_4, .slice A0_5 l0_5.length c0_5]) (t := 40) ?hr ?_; (case hd => rfl); (case hg => rfl); (case hr => first | (go_simp; done) | (go_simp; rfl)); intro gb405 hg w3 hbox hb; have n0_ := Sq.s_ HB hb; have n1_ := Aside0.mk (hbox); have n2_ := Sq.g_ HB hg; have n3_ := Sq.g_ HB hg; clear HB; have HB := n0_; have BK405 := n1_; have GW405 := n2_; have GE405 := n3_; have GO405 := Sq.o_ GE405; clear n0_ n1_ n2_ n3_; clear hb hbox hg))
 (try simp only [Act.put, List.setIfInBounds_toArray, List.set_cons_zero, List.set_cons_succ])
 go_cut [31] (fun v31 wc => ∃ (kq : Nat) (x31_1 : Bool), v31 = .bool x31_1 ∧ Aside0 (impl_ImageOk.j0 kq x31_1 a0_0 a0_1 a0_2 a0_3 l0_4 l0_5 = some r) ∧ Aside0 (kq ≤ k) ∧ Aside0 (wc.heap[gb405]? = some (.cells #[.int .i64 a0_0, .int .i64 a0_1, .int .i64 a0_2, .int .i64 a0_3, (.slice A0_4 l0_4.length c0_4), (.slice A0_5 l0_5.length c0_5)] 40 (0, 0))) ∧ Aside0 (Below w.heap.size w wc))
 case first =>
  have H := HC2.out; clear HC2; replace H := Option.bind_eq_some_iff.mp H; obtain ⟨t406, A40, H⟩ := H; have A4 := Aside0.mk A40; clear A40
  by_cases c5 : t406 = true
  ·subst c5; replace H := Sq.t H; replace H := Option.bind_eq_some_iff.mp H; obtain ⟨t407, A60, H⟩ := H; have A6 := Aside0.mk A60; clear A60
   by_cases c7 : t407 = true
   ·subst c7; replace H := Sq.t H; replace H := Option.bind_eq_some_iff.mp H; obtain ⟨t408, A80, H⟩ := H; have A8 := Aside0.mk A80; clear A80
    by_cases c9 : t408 = true
    ·subst c9; replace H := Sq.t H; have H' := Aside0.mk H; clear H; obtain ⟨hcz10_0, hcz10_1, hcz10_2, hcz10_3, hcz10_4, hcz10_5, hfz10_0, hfz10_1, hfz10_2, hfz10_3, hfz10_4, hfz10_5⟩ := Sq.cell6 BK405; go_wp2_with (first | ((with_reducible refine gate_callee (f := 76) rfl ?_); refine goesL_ (some 7) rfl rfl Try.func76 (by kernel_rfl) rfl #[.int .i64 a0_0, .int .i64 a0_1] rfl (by (try simp only [Sq.mp]); first | done | rfl | (simp only [List.length_drop, List.length_take]; rfl)) ?_; (with_reducible refine (impl_depthOk.calls k a0_0 a0_1 true _ A4.out).mono ?_); rintro e w' ⟨rfl, ⟨nd, rfl⟩⟩; refine ⟨_, rfl, ?_⟩) | (go_at_call 45; (with_reducible refine (impl_in.calls a0_2 1 20 true _ A6.out).mono ?_); rintro e w' ⟨rfl, ⟨nd, rfl⟩⟩) | (go_at_call 45; (with_reducible refine (impl_in.calls a0_3 1 20 true _ A8.out).mono ?_); rintro e w' ⟨rfl, ⟨nd, rfl⟩⟩))
     go_meet
     case rel => exact ⟨_, (((l0_5.length : Int) != (wrap64 (a0_2 * a0_3)))), (by first | rfl | (simp; done) | (simp [*]; done)), H', ⟨by first | omega | exact Nat.le_refl _⟩, Sq.kk_ BK405, ⟨(Sq.ut HB)⟩⟩
    ·replace c9 := Bool.eq_false_iff.mpr c9; subst c9; replace H := Sq.f H; have H' := Aside0.mk H; clear H; obtain ⟨hcz11_0, hcz11_1, hcz11_2, hcz11_3, hcz11_4, hcz11_5, hfz11_0, hfz11_1, hfz11_2, hfz11_3, hfz11_4, hfz11_5⟩ := Sq.cell6 BK405; go_wp2_with (first | ((with_reducible refine gate_callee (f := 76) rfl ?_); refine goesL_ (some 7) rfl rfl Try.func76 (by kernel_rfl) rfl #[.int .i64 a0_0, .int .i64 a0_1] rfl (by (try simp only [Sq.mp]); first | done | rfl | (simp only [List.length_drop, List.length_take]; rfl)) ?_; (with_reducible refine (impl_depthOk.calls k a0_0 a0_1 true _ A4.out).mono ?_); rintro e w' ⟨rfl, ⟨nd, rfl⟩⟩; refine ⟨_, rfl, ?_⟩) | (go_at_call 45; (with_reducible refine (impl_in.calls a0_2 1 20 true _ A6.out).mono ?_); rintro e w' ⟨rfl, ⟨nd, rfl⟩⟩) | (go_at_call 45; (with_reducible refine (impl_in.calls a0_3 1 20 false _ A8.out).mono ?_); rintro e w' ⟨rfl, ⟨nd, rfl⟩⟩))
     go_meet
     case rel => exact ⟨_, (true), (by first | rfl | (simp; done) | (simp [*]; done)), H', ⟨by first | omega | exact Nat.le_refl _⟩, Sq.kk_ BK405, ⟨(Sq.ut HB)⟩⟩
   ·replace c7 := Bool.eq_false_iff.mpr c7; subst c7; replace H := Sq.f H; have H' := Aside0.mk H; clear H; obtain ⟨hcz12_0, hcz12_1, hcz12_2, hcz12_3, hcz12_4, hcz12_5, hfz12_0, hfz12_1, hfz12_2, hfz12_3, hfz12_4, hfz12_5⟩ := Sq.cell6 BK405; go_wp2_with (first | ((with_reducible refine gate_callee (f := 76) rfl ?_); refine goesL_ (some 7) rfl rfl Try.func76 (by kernel_rfl) rfl #[.int .i64 a0_0, .int .i64 a0_1] rfl (by (try simp only [Sq.mp]); first | done | rfl | (simp only [List.length_drop, List.length_take]; rfl)) ?_; (with_reducible refine (impl_depthOk.calls k a0_0 a0_1 true _ A4.out).mono ?_); rintro e w' ⟨rfl, ⟨nd, rfl⟩⟩; refine ⟨_, rfl, ?_⟩) | (go_at_call 45; (with_reducible refine (impl_in.calls a0_2 1 20 false _ A6.out).mono ?_); rintro e w' ⟨rfl, ⟨nd, rfl⟩⟩))
    go_meet
    case rel => exact ⟨_, (true), (by first | rfl | (simp; done) | (simp [*]; done)), H', ⟨by first | omega | exact Nat.le_refl _⟩, Sq.kk_ BK405, ⟨(Sq.ut HB)⟩⟩
  ·replace c5 := Bool.eq_false_iff.mpr c5; subst c5; replace H := Sq.f H; have H' := Aside0.mk H; clear H; obtain ⟨hcz13_0, hcz13_1, hcz13_2, hcz13_3, hcz13_4, hcz13_5, hfz13_0, hfz13_1, hfz13_2, hfz13_3, hfz13_4, hfz13_5⟩ := Sq.cell6 BK405; go_wp2_with (first | ((with_reducible refine gate_callee (f := 76) rfl ?_); refine goesL_ (some 7) rfl rfl Try.func76 (by kernel_rfl) rfl #[.int .i64 a0_0, .int .i64 a0_1] rfl (by (try simp only [Sq.mp]); first | done | rfl | (simp only [List.length_drop, List.length_take]; rfl)) ?_; (with_reducible refine (impl_depthOk.calls k a0_0 a0_1 false _ A4.out).mono ?_); rintro e w' ⟨rfl, ⟨nd, rfl⟩⟩; refine ⟨_, rfl, ?_⟩))
   go_meet
   case rel => exact ⟨_, (true), (by first | rfl | (simp; done) | (simp [*]; done)), H', ⟨by first | omega | exact Nat.le_refl _⟩, Sq.kk_ BK405, ⟨(Sq.ut HB)⟩⟩
 case rest =>
  clear HC2; try clear p2
  try clear c5
  try clear p6
  try clear c7
  try clear c9
  try clear hcz10_0 hcz10_1 hcz10_2 hcz10_3 hcz10_4 hcz10_5 hcz11_0 hcz11_1 hcz11_2 hcz11_3 hcz11_4 hcz11_5 hcz12_0 hcz12_1 hcz12_2 hcz12_3 hcz12_4 hcz12_5 hcz13_0 hcz13_1 hcz13_2 hcz13_3 hcz13_4 hcz13_5 hfz10_0 hfz10_1 hfz10_2 hfz10_3 hfz10_4 hfz10_5 hfz11_0 hfz11_1 hfz11_2 hfz11_3 hfz11_4 hfz11_5 hfz12_0 hfz12_1 hfz12_2 hfz12_3 hfz12_4 hfz12_5 hfz13_0 hfz13_1 hfz13_2 hfz13_3 hfz13_4 hfz13_5
  obtain ⟨kq, x31_1, rfl, HA, HJ1, BK405, HB⟩ := hcut; cases kq with
  | zero => exact absurd HA.out (by simp [impl_ImageOk.j0])
  | succ kj1 =>
   have H := HA.out; clear HA; simp only [impl_ImageOk.j0] at H
   by_cases c14 : x31_1 = true
   ·subst c14; replace H := Sq.t H; obtain rfl := Option.some.inj H; go_wp2
    go_ret
    exact ⟨by first | rfl | (simp [errW_none, errW_some] <;> rfl) | (simp [*, errW_none, errW_some] <;> rfl), (Sq.ut HB)⟩
   ·replace c14 := Bool.eq_false_iff.mpr c14; subst c14; replace H := Sq.f H
    by_cases c15 : a0_0 = 4
    ·rw [if_pos c15] at H; have c15b0 : (a0_0 == 4) = true := beq_iff_eq.mpr c15; have c15b1 : (a0_0 != 4) = false := bne_eq_false_iff_eq.mpr c15; clear c15
     by_cases c16 : 0 ≤ a0_1
     ·rw [if_pos c16] at H; have c16b0 := eq_true c16; have c16b1 : decide (0 ≤ a0_1) = true := decide_eq_true c16; clear c16; obtain ⟨ji17, hji17⟩ : ∃ j_ : Int, (shl .i64 1 a0_1) = j_ := ⟨_, rfl⟩; replace H : ((impl_in.f (l0_4.length : Int) 1 (ji17)).bind fun t409 => (if t409 = true then ((impl_outside.f l0_4 16777215).bind fun t410 => (if t410 = true then (some false) else ((impl_outside.f l0_5 (wrap64 ((l0_4.length : Int) - 1))).bind fun t411 => (some (!t411))))) else (some false))) = some r := by first | (rw [hji17] at H; exact H) | (simp only [hji17] at H ⊢; exact H)
      have hji17_ : (IntKind.i64.wrap (1 * 2 ^ min a0_1.toNat 64)) = ji17 := hji17; have hji17z : a0_1 ≤ 64 → (IntKind.i64.wrap (1 * 2 ^ a0_1.toNat)) = ji17 := shl_small hji17; have hji17u : (IntKind.i64.wrap (2 ^ min a0_1.toNat 64)) = ji17 := by have h_ := hji17_; rw [Int.one_mul] at h_; exact h_
      have hji17v : a0_1 ≤ 64 → (IntKind.i64.wrap (2 ^ a0_1.toNat)) = ji17 := fun hle_ => by have h_ := hji17z hle_; rw [Int.one_mul] at h_; exact h_
      have hji17y : (wrap64 (1 * 2 ^ min a0_1.toNat 64)) = ji17 := (i64_w _).symm.trans hji17_; have hji17x : a0_1 ≤ 64 → (wrap64 (1 * 2 ^ a0_1.toNat)) = ji17 := fun h_ => (i64_w _).symm.trans (hji17z h_)
      replace H := Option.bind_eq_some_iff.mp H; obtain ⟨t409, A180, H⟩ := H; have A18 := Aside0.mk A180; clear A180
      by_cases c19 : t409 = true
      ·subst c19; replace H := Sq.t H; replace H := Option.bind_eq_some_iff.mp H; obtain ⟨t410, A200, H⟩ := H; have A20 := Aside0.mk A200; clear A200
       by_cases c21 : t410 = true
       ·subst c21; replace H := Sq.t H; obtain rfl := Option.some.inj H; obtain ⟨hcz22_0, hcz22_1, hcz22_2, hcz22_3, hcz22_4, hcz22_5, hfz22_0, hfz22_1, hfz22_2, hfz22_3, hfz22_4, hfz22_5⟩ := Sq.cell6 BK405; try go_wp2
        have n0_ := Aside0.mk (blk_drew BK405.out); have n1_ := Aside0.mk (below_drew1 HB.out); clear BK405; clear HB; have BK405 := n0_; have HB := n1_; clear n0_ n1_; refine start_ (n := 24) (S := fun w' => Sq.C6 w' gb405 (.int .i64 a0_0) (.int .i64 a0_1) (.int .i64 a0_2) (.int .i64 a0_3) (.slice A0_4 l0_4.length c0_4) (.slice A0_5 l0_5.length c0_5)) (ds := []) #[false, false, false, false, false, false, false, false, false, false, false, false, false, false, false, false, false, false, false, false, false, false, false, false] (by kernel_rfl) rfl rfl (Sq.c6 BK405) (fun hHeld => ?_); refine with_tabW impl_ImageOk.tab5 impl_ImageOk.bits5 (fun HT_ HW_ => ?_)
        generalize wc.drew = w23 at BK405 HB hHeld ⊢; refine Sq.p_ 0 49 ?_ (Sq.b 24 1) rfl rfl HT_ (by kernel_rfl) (fun _ _ _ h => h) (Or.inl ⟨by rfl, ?_⟩) ?_ ?_ ?_
        rotate_left
        ·intro w'; go_simp; with_reducible rfl
        rotate_left
        ·simp only [Sq.put]; rfl
        refine Sq.p_ 3 52 ?_ (Sq.b 24 9) rfl rfl HT_ (by kernel_rfl) (fun _ _ _ h => h) (Or.inl ⟨by rfl, ?_⟩) ?_ ?_ ?_
        rotate_left
        ·intro w'; go_simp; with_reducible rfl
        rotate_left
        ·simp only [Sq.put]; rfl
        refine Sq.k 1 50 ?_ (Sq.b 24 11) rfl rfl HT_ HW_ (by kernel_rfl) (fun _ _ _ h => h) (Or.inl ⟨by rfl, ?_⟩) hHeld ?_ ?_ ?_
        rotate_left
        ·rintro w' ⟨s0, s1, s2, s3, s4, s5⟩; go_simp; with_reducible rfl
        rotate_left
        ·simp only [Sq.put]; rfl
        refine Sq.p_ 2 51 ?_ (Sq.b 24 15) rfl rfl HT_ (by kernel_rfl) (fun _ _ _ h => h) (Or.inl ⟨by rfl, ?_⟩) ?_ ?_ ?_
        rotate_left
        ·intro w'; go_simp; with_reducible rfl
        rotate_left
        ·simp only [Sq.put]; rfl
        refine Sq.k 4 53 ?_ (Sq.b 24 31) rfl rfl HT_ HW_ (by kernel_rfl) (fun _ _ _ h => h) (Or.inl ⟨by rfl, ?_⟩) hHeld ?_ ?_ ?_
        rotate_left
        ·rintro w' ⟨s0, s1, s2, s3, s4, s5⟩; go_simp; with_reducible rfl
        rotate_left
        ·simp only [Sq.put]; rfl
        refine Sq.p_ 5 54 ?_ (Sq.b 24 63) rfl rfl HT_ (by kernel_rfl) (fun _ _ _ h => h) (Or.inl ⟨by rfl, ?_⟩) ?_ ?_ ?_
        rotate_left
        ·intro w'; go_simp; with_reducible rfl
        rotate_left
        ·simp only [Sq.put]; rfl
        refine one_ (i := 6) (N := some 55) (Sq.b 24 127) rfl rfl (one_of HT_.out (by kernel_rfl)) (by decide) (fun K hK => ?_); refine goes_ Try.func45 (by kernel_rfl) rfl #[.int .i64 (l0_4.length : Int), .int .i64 1, .int .i64 ji17] (by rfl) rfl rfl (by (try simp only [Sq.mp]); first | done | (simp only [hji17]; rfl) | rfl | (simp only [List.length_drop, List.length_take]; rfl)) ?_; with_reducible refine (impl_in.calls (l0_4.length : Int) 1 ji17 true _ A18.out).mono ?_
        rintro e w' ⟨rfl, ⟨nd, rfl⟩⟩; refine ⟨_, rfl, ?_⟩; refine hK.out _ _ (Sq.c6 BK405) (fun hHeld => ?_); clear hK K; refine norm_ (a' := ?_) ?_ ?_
        rotate_left
        ·show Act.put _ (some 55) _ = _
         simp only [Sq.put]; rfl
        refine Sq.p_ 7 56 ?_ (Sq.b 24 255) rfl rfl HT_ (by kernel_rfl) (fun _ _ _ h => h) (Or.inl ⟨by rfl, ?_⟩) ?_ ?_ ?_
        rotate_left
        ·intro w'; go_simp; with_reducible rfl
        rotate_left
        ·simp only [Sq.put]; rfl
        refine Sq.p_ 8 57 ?_ (Sq.b 24 511) rfl rfl HT_ (by kernel_rfl) (fun _ _ _ h => h) (Or.inl ⟨by rfl, ?_⟩) ?_ ?_ ?_
        rotate_left
        ·intro w'; go_simp; with_reducible rfl
        rotate_left
        ·simp only [Sq.put]; rfl
        refine Sq.k 9 58 ?_ (Sq.b 24 1023) rfl rfl HT_ HW_ (by kernel_rfl) (fun _ _ _ h => h) (Or.inl ⟨by rfl, ?_⟩) hHeld ?_ ?_ ?_
        rotate_left
        ·rintro w' ⟨s0, s1, s2, s3, s4, s5⟩; go_simp; with_reducible rfl
        rotate_left
        ·simp only [Sq.put]; rfl
        refine one_ (i := 10) (N := some 59) (Sq.b 24 2047) rfl rfl (one_of HT_.out (by kernel_rfl)) (by decide) (fun K hK => ?_); refine goes_ Try.func116 (by kernel_rfl) rfl #[.slice A0_4 l0_4.length c0_4, .int .i64 16777215] (by rfl) rfl rfl (by (try simp only [Sq.mp]); first | done | rfl | (simp only [List.length_drop, List.length_take]; rfl)) ?_; with_reducible refine (impl_outside.calls _ _ l0_4 16777215 true _ ?side1 ?side2 A20.out).mono ?_
        (case side1 => repeat (first | exact (Kd.C_below HR0_4.out (Sq.ut HB)) | (with_reducible refine Kd.C_alloc ?_ _) | (with_reducible refine Kd.C_drewN ?_ _) | (with_reducible refine Kd.C_drew ?_)))
        (case side2 => exact HC0_4.out)
        rintro e w24 ⟨rfl, hb⟩; refine ⟨_, rfl, ?_⟩; have n0_ := Sq.b_ BK405 hb; have n1_ := Sq.us HB hb; clear BK405; clear HB; have BK405 := n0_; have HB := n1_; clear n0_ n1_; (try clear hb)
        (try clear hb2)
        (try clear hk)
        (try clear hi)
        refine hK.out _ _ (Sq.c6 BK405) (fun hHeld => ?_); clear hK K; refine norm_ (a' := ?_) ?_ ?_
        rotate_left
        ·show Act.put _ (some 59) _ = _
         simp only [Sq.put]; rfl
        refine Sq.p_ 11 60 ?_ (Sq.b 24 4095) rfl rfl HT_ (by kernel_rfl) (fun _ _ _ h => h) (Or.inl ⟨by rfl, ?_⟩) ?_ ?_ ?_
        rotate_left
        ·intro w'; go_simp; with_reducible rfl
        rotate_left
        ·simp only [Sq.put]; rfl
        refine Sq.p_ 12 61 ?_ (Sq.b 24 8191) rfl rfl HT_ (by kernel_rfl) (fun _ _ _ h => h) (Or.inl ⟨by rfl, ?_⟩) ?_ ?_ ?_
        rotate_left
        ·intro w'; go_simp; with_reducible rfl
        rotate_left
        ·simp only [Sq.put]; rfl
        refine Sq.p_ 13 62 ?_ (Sq.b 24 16383) rfl rfl HT_ (by kernel_rfl) (fun _ _ _ h => h) (Or.inl ⟨by rfl, ?_⟩) ?_ ?_ ?_
        rotate_left
        ·intro w'; go_simp; with_reducible rfl
        rotate_left
        ·simp only [Sq.put]; rfl
        refine Sq.p_ 14 63 undef (Sq.b 24 32767) rfl rfl HT_ (by kernel_rfl) (fun _ _ _ h => h) (Or.inr ⟨by rfl, rfl⟩) ?_ ?_ ?_
        rotate_left
        ·simp only [Sq.put]; rfl
        refine Sq.p_ 15 64 undef (Sq.b 24 65535) rfl rfl HT_ (by kernel_rfl) (fun _ _ _ h => h) (Or.inr ⟨by rfl, rfl⟩) ?_ ?_ ?_
        rotate_left
        ·simp only [Sq.put]; rfl
        refine Sq.p_ 16 65 undef (Sq.b 24 131071) rfl rfl HT_ (by kernel_rfl) (fun _ _ _ h => h) (Or.inr ⟨by rfl, rfl⟩) ?_ ?_ ?_
        rotate_left
        ·simp only [Sq.put]; rfl
        refine Sq.p_ 17 66 undef (Sq.b 24 262143) rfl rfl HT_ (by kernel_rfl) (fun _ _ _ h => h) (Or.inr ⟨by rfl, rfl⟩) ?_ ?_ ?_
        rotate_left
        ·simp only [Sq.put]; rfl
        refine Sq.p_ 18 67 undef (Sq.b 24 524287) rfl rfl HT_ (by kernel_rfl) (fun _ _ _ h => h) (Or.inr ⟨by rfl, rfl⟩) ?_ ?_ ?_
        rotate_left
        ·simp only [Sq.put]; rfl
        refine Sq.p_ 19 68 undef (Sq.b 24 1048575) rfl rfl HT_ (by kernel_rfl) (fun _ _ _ h => h) (Or.inr ⟨by rfl, rfl⟩) ?_ ?_ ?_
        rotate_left
        ·simp only [Sq.put]; rfl
        refine Sq.p_ 20 69 undef (Sq.b 24 2097151) rfl rfl HT_ (by kernel_rfl) (fun _ _ _ h => h) (Or.inr ⟨by rfl, rfl⟩) ?_ ?_ ?_
        rotate_left
        ·simp only [Sq.put]; rfl
        refine Sq.p_ 21 70 undef (Sq.b 24 4194303) rfl rfl HT_ (by kernel_rfl) (fun _ _ _ h => h) (Or.inr ⟨by rfl, rfl⟩) ?_ ?_ ?_
        rotate_left
        ·simp only [Sq.put]; rfl
        refine Sq.p_ 22 71 ?_ (Sq.b 24 8388607) rfl rfl HT_ (by kernel_rfl) (fun _ _ _ h => h) (Or.inl ⟨by rfl, ?_⟩) ?_ ?_ ?_
        rotate_left
        ·intro w'; go_simp; with_reducible rfl
        rotate_left
        ·simp only [Sq.put]; rfl
        refine Sq.p_ 23 2 ?_ (Sq.b 24 16777215) rfl rfl HT_ (by kernel_rfl) (fun _ _ _ h => h) (Or.inl ⟨by rfl, ?_⟩) ?_ ?_ ?_
        rotate_left
        ·intro w'; go_simp; with_reducible rfl
        rotate_left
        ·simp only [Sq.put]; rfl
        refine done_ (done_of HT_.out (by kernel_rfl)) ?_; try go_wp2
        go_ret
        exact ⟨by first | rfl | (simp [errW_none, errW_some] <;> rfl) | (simp only [← hji17]; first | rfl | (simp [errW_none, errW_some] <;> rfl)) | (simp [*, errW_none, errW_some] <;> rfl), (Sq.ut HB)⟩
       ·replace c21 := Bool.eq_false_iff.mpr c21; subst c21; replace H := Sq.f H; replace H := Option.bind_eq_some_iff.mp H; obtain ⟨t411, A250, H⟩ := H; have A25 := Aside0.mk A250; clear A250; obtain rfl := Option.some.inj H; obtain ⟨hcz26_0, hcz26_1, hcz26_2, hcz26_3, hcz26_4, hcz26_5, hfz26_0, hfz26_1, hfz26_2, hfz26_3, hfz26_4, hfz26_5⟩ := Sq.cell6 BK405; try go_wp2
        have n0_ := Aside0.mk (blk_drew BK405.out); have n1_ := Aside0.mk (below_drew1 HB.out); clear BK405; clear HB; have BK405 := n0_; have HB := n1_; clear n0_ n1_; refine start_ (n := 24) (S := fun w' => Sq.C6 w' gb405 (.int .i64 a0_0) (.int .i64 a0_1) (.int .i64 a0_2) (.int .i64 a0_3) (.slice A0_4 l0_4.length c0_4) (.slice A0_5 l0_5.length c0_5)) (ds := []) #[false, false, false, false, false, false, false, false, false, false, false, false, false, false, false, false, false, false, false, false, false, false, false, false] (by kernel_rfl) rfl rfl (Sq.c6 BK405) (fun hHeld => ?_); refine with_tabW impl_ImageOk.tab5 impl_ImageOk.bits5 (fun HT_ HW_ => ?_)
        generalize wc.drew = w27 at BK405 HB hHeld ⊢; refine Sq.p_ 0 49 ?_ (Sq.b 24 1) rfl rfl HT_ (by kernel_rfl) (fun _ _ _ h => h) (Or.inl ⟨by rfl, ?_⟩) ?_ ?_ ?_
        rotate_left
        ·intro w'; go_simp; with_reducible rfl
        rotate_left
        ·simp only [Sq.put]; rfl
        refine Sq.p_ 3 52 ?_ (Sq.b 24 9) rfl rfl HT_ (by kernel_rfl) (fun _ _ _ h => h) (Or.inl ⟨by rfl, ?_⟩) ?_ ?_ ?_
        rotate_left
        ·intro w'; go_simp; with_reducible rfl
        rotate_left
        ·simp only [Sq.put]; rfl
        refine Sq.k 1 50 ?_ (Sq.b 24 11) rfl rfl HT_ HW_ (by kernel_rfl) (fun _ _ _ h => h) (Or.inl ⟨by rfl, ?_⟩) hHeld ?_ ?_ ?_
        rotate_left
        ·rintro w' ⟨s0, s1, s2, s3, s4, s5⟩; go_simp; with_reducible rfl
        rotate_left
        ·simp only [Sq.put]; rfl
        refine Sq.p_ 2 51 ?_ (Sq.b 24 15) rfl rfl HT_ (by kernel_rfl) (fun _ _ _ h => h) (Or.inl ⟨by rfl, ?_⟩) ?_ ?_ ?_
        rotate_left
        ·intro w'; go_simp; with_reducible rfl
        rotate_left
        ·simp only [Sq.put]; rfl
        refine Sq.k 4 53 ?_ (Sq.b 24 31) rfl rfl HT_ HW_ (by kernel_rfl) (fun _ _ _ h => h) (Or.inl ⟨by rfl, ?_⟩) hHeld ?_ ?_ ?_
        rotate_left
        ·rintro w' ⟨s0, s1, s2, s3, s4, s5⟩; go_simp; with_reducible rfl
        rotate_left
        ·simp only [Sq.put]; rfl
        refine Sq.p_ 5 54 ?_ (Sq.b 24 63) rfl rfl HT_ (by kernel_rfl) (fun _ _ _ h => h) (Or.inl ⟨by rfl, ?_⟩) ?_ ?_ ?_
        rotate_left
        ·intro w'; go_simp; with_reducible rfl
        rotate_left
        ·simp only [Sq.put]; rfl
        refine one_ (i := 6) (N := some 55) (Sq.b 24 127) rfl rfl (one_of HT_.out (by kernel_rfl)) (by decide) (fun K hK => ?_); refine goes_ Try.func45 (by kernel_rfl) rfl #[.int .i64 (l0_4.length : Int), .int .i64 1, .int .i64 ji17] (by rfl) rfl rfl (by (try simp only [Sq.mp]); first | done | (simp only [hji17]; rfl) | rfl | (simp only [List.length_drop, List.length_take]; rfl)) ?_; with_reducible refine (impl_in.calls (l0_4.length : Int) 1 ji17 true _ A18.out).mono ?_
        rintro e w' ⟨rfl, ⟨nd, rfl⟩⟩; refine ⟨_, rfl, ?_⟩; refine hK.out _ _ (Sq.c6 BK405) (fun hHeld => ?_); clear hK K; refine norm_ (a' := ?_) ?_ ?_
        rotate_left
        ·show Act.put _ (some 55) _ = _
         simp only [Sq.put]; rfl
        refine Sq.p_ 7 56 ?_ (Sq.b 24 255) rfl rfl HT_ (by kernel_rfl) (fun _ _ _ h => h) (Or.inl ⟨by rfl, ?_⟩) ?_ ?_ ?_
        rotate_left
        ·intro w'; go_simp; with_reducible rfl
        rotate_left
        ·simp only [Sq.put]; rfl
        refine Sq.p_ 8 57 ?_ (Sq.b 24 511) rfl rfl HT_ (by kernel_rfl) (fun _ _ _ h => h) (Or.inl ⟨by rfl, ?_⟩) ?_ ?_ ?_
        rotate_left
        ·intro w'; go_simp; with_reducible rfl
        rotate_left
        ·simp only [Sq.put]; rfl
        refine Sq.k 9 58 ?_ (Sq.b 24 1023) rfl rfl HT_ HW_ (by kernel_rfl) (fun _ _ _ h => h) (Or.inl ⟨by rfl, ?_⟩) hHeld ?_ ?_ ?_
        rotate_left
        ·rintro w' ⟨s0, s1, s2, s3, s4, s5⟩; go_simp; with_reducible rfl
        rotate_left
        ·simp only [Sq.put]; rfl
        refine one_ (i := 10) (N := some 59) (Sq.b 24 2047) rfl rfl (one_of HT_.out (by kernel_rfl)) (by decide) (fun K hK => ?_); refine goes_ Try.func116 (by kernel_rfl) rfl #[.slice A0_4 l0_4.length c0_4, .int .i64 16777215] (by rfl) rfl rfl (by (try simp only [Sq.mp]); first | done | rfl | (simp only [List.length_drop, List.length_take]; rfl)) ?_; with_reducible refine (impl_outside.calls _ _ l0_4 16777215 false _ ?side1 ?side2 A20.out).mono ?_
        (case side1 => repeat (first | exact (Kd.C_below HR0_4.out (Sq.ut HB)) | (with_reducible refine Kd.C_alloc ?_ _) | (with_reducible refine Kd.C_drewN ?_ _) | (with_reducible refine Kd.C_drew ?_)))
        (case side2 => exact HC0_4.out)
        rintro e w28 ⟨rfl, hb⟩; refine ⟨_, rfl, ?_⟩; have n0_ := Sq.b_ BK405 hb; have n1_ := Sq.us HB hb; clear BK405; clear HB; have BK405 := n0_; have HB := n1_; clear n0_ n1_; (try clear hb)
        (try clear hb2)
        (try clear hk)
        (try clear hi)
        refine hK.out _ _ (Sq.c6 BK405) (fun hHeld => ?_); clear hK K; refine norm_ (a' := ?_) ?_ ?_
        rotate_left
        ·show Act.put _ (some 59) _ = _
         simp only [Sq.put]; rfl
        refine Sq.p_ 11 60 ?_ (Sq.b 24 4095) rfl rfl HT_ (by kernel_rfl) (fun _ _ _ h => h) (Or.inl ⟨by rfl, ?_⟩) ?_ ?_ ?_
        rotate_left
        ·intro w'; go_simp; with_reducible rfl
        rotate_left
        ·simp only [Sq.put]; rfl
        refine Sq.p_ 12 61 ?_ (Sq.b 24 8191) rfl rfl HT_ (by kernel_rfl) (fun _ _ _ h => h) (Or.inl ⟨by rfl, ?_⟩) ?_ ?_ ?_
        rotate_left
        ·intro w'; go_simp; with_reducible rfl
        rotate_left
        ·simp only [Sq.put]; rfl
        refine Sq.p_ 13 62 ?_ (Sq.b 24 16383) rfl rfl HT_ (by kernel_rfl) (fun _ _ _ h => h) (Or.inl ⟨by rfl, ?_⟩) ?_ ?_ ?_
        rotate_left
        ·intro w'; go_simp; with_reducible rfl
        rotate_left
        ·simp only [Sq.put]; rfl
        refine Sq.p_ 14 63 ?_ (Sq.b 24 32767) rfl rfl HT_ (by kernel_rfl) (fun _ _ _ h => h) (Or.inl ⟨by rfl, ?_⟩) ?_ ?_ ?_
        rotate_left
        ·intro w'; go_simp; with_reducible rfl
        rotate_left
        ·simp only [Sq.put]; rfl
        refine Sq.p_ 16 65 ?_ (Sq.b 24 98303) rfl rfl HT_ (by kernel_rfl) (fun _ _ _ h => h) (Or.inl ⟨by rfl, ?_⟩) ?_ ?_ ?_
        rotate_left
        ·intro w'; go_simp; with_reducible rfl
        rotate_left
        ·simp only [Sq.put]; rfl
        refine Sq.k 15 64 ?_ (Sq.b 24 131071) rfl rfl HT_ HW_ (by kernel_rfl) (fun _ _ _ h => h) (Or.inl ⟨by rfl, ?_⟩) hHeld ?_ ?_ ?_
        rotate_left
        ·rintro w' ⟨s0, s1, s2, s3, s4, s5⟩; go_simp; with_reducible rfl
        rotate_left
        ·simp only [Sq.put]; rfl
        refine Sq.k 17 66 ?_ (Sq.b 24 262143) rfl rfl HT_ HW_ (by kernel_rfl) (fun _ _ _ h => h) (Or.inl ⟨by rfl, ?_⟩) hHeld ?_ ?_ ?_
        rotate_left
        ·rintro w' ⟨s0, s1, s2, s3, s4, s5⟩; go_simp; with_reducible rfl
        rotate_left
        ·simp only [Sq.put]; rfl
        refine Sq.p_ 18 67 ?_ (Sq.b 24 524287) rfl rfl HT_ (by kernel_rfl) (fun _ _ _ h => h) (Or.inl ⟨by rfl, ?_⟩) ?_ ?_ ?_
        rotate_left
        ·intro w'; go_simp; with_reducible rfl
        rotate_left
        ·simp only [Sq.put]; rfl
        refine Sq.p_ 19 68 ?_ (Sq.b 24 1048575) rfl rfl HT_ (by kernel_rfl) (fun _ _ _ h => h) (Or.inl ⟨by rfl, ?_⟩) ?_ ?_ ?_
        rotate_left
        ·intro w'; go_simp; with_reducible rfl
        rotate_left
        ·simp only [Sq.put]; rfl
        refine one_ (i := 20) (N := some 69) (Sq.b 24 2097151) rfl rfl (one_of HT_.out (by kernel_rfl)) (by decide) (fun K hK => ?_); refine goes_ Try.func116 (by kernel_rfl) rfl #[.slice A0_5 l0_5.length c0_5, .int .i64 (wrap64 ((l0_4.length : Int) - 1))] (by rfl) rfl rfl (by (try simp only [Sq.mp]); first | done | rfl | (simp only [List.length_drop, List.length_take]; rfl)) ?_; with_reducible refine (impl_outside.calls _ _ l0_5 (wrap64 ((l0_4.length : Int) - 1)) t411 _ ?side1 ?side2 A25.out).mono ?_
        (case side1 => exact Sq.i_ HR0_5 HB)
        (case side2 => exact HC0_5.out)
        rintro e w29 ⟨rfl, hb⟩; refine ⟨_, rfl, ?_⟩; have n0_ := Sq.b_ BK405 hb; have n1_ := Sq.us HB hb; clear BK405; clear HB; have BK405 := n0_; have HB := n1_; clear n0_ n1_; (try clear hb)
        (try clear hb2)
        (try clear hk)
        (try clear hi)
        refine hK.out _ _ (Sq.c6 BK405) (fun hHeld => ?_); clear hK K; refine norm_ (a' := ?_) ?_ ?_
        rotate_left
        ·show Act.put _ (some 69) _ = _
         simp only [Sq.put]; rfl
        refine Sq.p_ 21 70 ?_ (Sq.b 24 4194303) rfl rfl HT_ (by kernel_rfl) (fun _ _ _ h => h) (Or.inl ⟨by rfl, ?_⟩) ?_ ?_ ?_
        rotate_left
        ·intro w'; go_simp; with_reducible rfl
        rotate_left
        ·simp only [Sq.put]; rfl
        refine Sq.p_ 22 71 ?_ (Sq.b 24 8388607) rfl rfl HT_ (by kernel_rfl) (fun _ _ _ h => h) (Or.inl ⟨by rfl, ?_⟩) ?_ ?_ ?_
        rotate_left
        ·intro w'; go_simp; with_reducible rfl
        rotate_left
        ·simp only [Sq.put]; rfl
        refine Sq.p_ 23 2 ?_ (Sq.b 24 16777215) rfl rfl HT_ (by kernel_rfl) (fun _ _ _ h => h) (Or.inl ⟨by rfl, ?_⟩) ?_ ?_ ?_
        rotate_left
        ·intro w'; go_simp; with_reducible rfl
        rotate_left
        ·simp only [Sq.put]; rfl
        refine done_ (done_of HT_.out (by kernel_rfl)) ?_; try go_wp2
        go_ret
        exact ⟨by first | rfl | (simp [errW_none, errW_some] <;> rfl) | (simp only [← hji17]; first | rfl | (simp [errW_none, errW_some] <;> rfl)) | (simp [*, errW_none, errW_some] <;> rfl), (Sq.ut HB)⟩
      ·replace c19 := Bool.eq_false_iff.mpr c19; subst c19; replace H := Sq.f H; obtain rfl := Option.some.inj H; obtain ⟨hcz30_0, hcz30_1, hcz30_2, hcz30_3, hcz30_4, hcz30_5, hfz30_0, hfz30_1, hfz30_2, hfz30_3, hfz30_4, hfz30_5⟩ := Sq.cell6 BK405; try go_wp2
       have n0_ := Aside0.mk (blk_drew BK405.out); have n1_ := Aside0.mk (below_drew1 HB.out); clear BK405; clear HB; have BK405 := n0_; have HB := n1_; clear n0_ n1_; refine start_ (n := 24) (S := fun w' => Sq.C6 w' gb405 (.int .i64 a0_0) (.int .i64 a0_1) (.int .i64 a0_2) (.int .i64 a0_3) (.slice A0_4 l0_4.length c0_4) (.slice A0_5 l0_5.length c0_5)) (ds := []) #[false, false, false, false, false, false, false, false, false, false, false, false, false, false, false, false, false, false, false, false, false, false, false, false] (by kernel_rfl) rfl rfl (Sq.c6 BK405) (fun hHeld => ?_); refine with_tabW impl_ImageOk.tab5 impl_ImageOk.bits5 (fun HT_ HW_ => ?_)
       generalize wc.drew = w31 at BK405 HB hHeld ⊢; refine Sq.p_ 0 49 ?_ (Sq.b 24 1) rfl rfl HT_ (by kernel_rfl) (fun _ _ _ h => h) (Or.inl ⟨by rfl, ?_⟩) ?_ ?_ ?_
       rotate_left
       ·intro w'; go_simp; with_reducible rfl
       rotate_left
       ·simp only [Sq.put]; rfl
       refine Sq.p_ 3 52 ?_ (Sq.b 24 9) rfl rfl HT_ (by kernel_rfl) (fun _ _ _ h => h) (Or.inl ⟨by rfl, ?_⟩) ?_ ?_ ?_
       rotate_left
       ·intro w'; go_simp; with_reducible rfl
       rotate_left
       ·simp only [Sq.put]; rfl
       refine Sq.k 1 50 ?_ (Sq.b 24 11) rfl rfl HT_ HW_ (by kernel_rfl) (fun _ _ _ h => h) (Or.inl ⟨by rfl, ?_⟩) hHeld ?_ ?_ ?_
       rotate_left
       ·rintro w' ⟨s0, s1, s2, s3, s4, s5⟩; go_simp; with_reducible rfl
       rotate_left
       ·simp only [Sq.put]; rfl
       refine Sq.p_ 2 51 ?_ (Sq.b 24 15) rfl rfl HT_ (by kernel_rfl) (fun _ _ _ h => h) (Or.inl ⟨by rfl, ?_⟩) ?_ ?_ ?_
       rotate_left
       ·intro w'; go_simp; with_reducible rfl
       rotate_left
       ·simp only [Sq.put]; rfl
       refine Sq.k 4 53 ?_ (Sq.b 24 31) rfl rfl HT_ HW_ (by kernel_rfl) (fun _ _ _ h => h) (Or.inl ⟨by rfl, ?_⟩) hHeld ?_ ?_ ?_
       rotate_left
       ·rintro w' ⟨s0, s1, s2, s3, s4, s5⟩; go_simp; with_reducible rfl
       rotate_left
       ·simp only [Sq.put]; rfl
       refine Sq.p_ 5 54 ?_ (Sq.b 24 63) rfl rfl HT_ (by kernel_rfl) (fun _ _ _ h => h) (Or.inl ⟨by rfl, ?_⟩) ?_ ?_ ?_
       rotate_left
       ·intro w'; go_simp; with_reducible rfl
       rotate_left
       ·simp only [Sq.put]; rfl
       refine one_ (i := 6) (N := some 55) (Sq.b 24 127) rfl rfl (one_of HT_.out (by kernel_rfl)) (by decide) (fun K hK => ?_); refine goes_ Try.func45 (by kernel_rfl) rfl #[.int .i64 (l0_4.length : Int), .int .i64 1, .int .i64 ji17] (by rfl) rfl rfl (by (try simp only [Sq.mp]); first | done | (simp only [hji17]; rfl) | rfl | (simp only [List.length_drop, List.length_take]; rfl)) ?_; with_reducible refine (impl_in.calls (l0_4.length : Int) 1 ji17 false _ A18.out).mono ?_
       rintro e w' ⟨rfl, ⟨nd, rfl⟩⟩; refine ⟨_, rfl, ?_⟩; refine hK.out _ _ (Sq.c6 BK405) (fun hHeld => ?_); clear hK K; refine norm_ (a' := ?_) ?_ ?_
       rotate_left
       ·show Act.put _ (some 55) _ = _
        simp only [Sq.put]; rfl
       refine Sq.p_ 7 56 ?_ (Sq.b 24 255) rfl rfl HT_ (by kernel_rfl) (fun _ _ _ h => h) (Or.inl ⟨by rfl, ?_⟩) ?_ ?_ ?_
       rotate_left
       ·intro w'; go_simp; with_reducible rfl
       rotate_left
       ·simp only [Sq.put]; rfl
       refine Sq.p_ 8 57 undef (Sq.b 24 511) rfl rfl HT_ (by kernel_rfl) (fun _ _ _ h => h) (Or.inr ⟨by rfl, rfl⟩) ?_ ?_ ?_
       rotate_left
       ·simp only [Sq.put]; rfl
       refine Sq.p_ 9 58 undef (Sq.b 24 1023) rfl rfl HT_ (by kernel_rfl) (fun _ _ _ h => h) (Or.inr ⟨by rfl, rfl⟩) ?_ ?_ ?_
       rotate_left
       ·simp only [Sq.put]; rfl
       refine Sq.p_ 10 59 undef (Sq.b 24 2047) rfl rfl HT_ (by kernel_rfl) (fun _ _ _ h => h) (Or.inr ⟨by rfl, rfl⟩) ?_ ?_ ?_
       rotate_left
       ·simp only [Sq.put]; rfl
       refine Sq.p_ 11 60 undef (Sq.b 24 4095) rfl rfl HT_ (by kernel_rfl) (fun _ _ _ h => h) (Or.inr ⟨by rfl, rfl⟩) ?_ ?_ ?_
       rotate_left
       ·simp only [Sq.put]; rfl
       refine Sq.p_ 12 61 ?_ (Sq.b 24 8191) rfl rfl HT_ (by kernel_rfl) (fun _ _ _ h => h) (Or.inl ⟨by rfl, ?_⟩) ?_ ?_ ?_
       rotate_left
       ·intro w'; go_simp; with_reducible rfl
       rotate_left
       ·simp only [Sq.put]; rfl
       refine Sq.p_ 13 62 ?_ (Sq.b 24 16383) rfl rfl HT_ (by kernel_rfl) (fun _ _ _ h => h) (Or.inl ⟨by rfl, ?_⟩) ?_ ?_ ?_
       rotate_left
       ·intro w'; go_simp; with_reducible rfl
       rotate_left
       ·simp only [Sq.put]; rfl
       refine Sq.p_ 14 63 undef (Sq.b 24 32767) rfl rfl HT_ (by kernel_rfl) (fun _ _ _ h => h) (Or.inr ⟨by rfl, rfl⟩) ?_ ?_ ?_
       rotate_left
       ·simp only [Sq.put]; rfl
       refine Sq.p_ 15 64 undef (Sq.b 24 65535) rfl rfl HT_ (by kernel_rfl) (fun _ _ _ h => h) (Or.inr ⟨by rfl, rfl⟩) ?_ ?_ ?_
       rotate_left
       ·simp only [Sq.put]; rfl
       refine Sq.p_ 16 65 undef (Sq.b 24 131071) rfl rfl HT_ (by kernel_rfl) (fun _ _ _ h => h) (Or.inr ⟨by rfl, rfl⟩) ?_ ?_ ?_
       rotate_left
       ·simp only [Sq.put]; rfl
       refine Sq.p_ 17 66 undef (Sq.b 24 262143) rfl rfl HT_ (by kernel_rfl) (fun _ _ _ h => h) (Or.inr ⟨by rfl, rfl⟩) ?_ ?_ ?_
       rotate_left
       ·simp only [Sq.put]; rfl
       refine Sq.p_ 18 67 undef (Sq.b 24 524287) rfl rfl HT_ (by kernel_rfl) (fun _ _ _ h => h) (Or.inr ⟨by rfl, rfl⟩) ?_ ?_ ?_
       rotate_left
       ·simp only [Sq.put]; rfl
       refine Sq.p_ 19 68 undef (Sq.b 24 1048575) rfl rfl HT_ (by kernel_rfl) (fun _ _ _ h => h) (Or.inr ⟨by rfl, rfl⟩) ?_ ?_ ?_
       rotate_left
       ·simp only [Sq.put]; rfl
       refine Sq.p_ 20 69 undef (Sq.b 24 2097151) rfl rfl HT_ (by kernel_rfl) (fun _ _ _ h => h) (Or.inr ⟨by rfl, rfl⟩) ?_ ?_ ?_
       rotate_left
       ·simp only [Sq.put]; rfl
       refine Sq.p_ 21 70 undef (Sq.b 24 4194303) rfl rfl HT_ (by kernel_rfl) (fun _ _ _ h => h) (Or.inr ⟨by rfl, rfl⟩) ?_ ?_ ?_
       rotate_left
       ·simp only [Sq.put]; rfl
       refine Sq.p_ 22 71 ?_ (Sq.b 24 8388607) rfl rfl HT_ (by kernel_rfl) (fun _ _ _ h => h) (Or.inl ⟨by rfl, ?_⟩) ?_ ?_ ?_
       rotate_left
       ·intro w'; go_simp; with_reducible rfl
       rotate_left
       ·simp only [Sq.put]; rfl
       refine Sq.p_ 23 2 ?_ (Sq.b 24 16777215) rfl rfl HT_ (by kernel_rfl) (fun _ _ _ h => h) (Or.inl ⟨by rfl, ?_⟩) ?_ ?_ ?_
       rotate_left
       ·intro w'; go_simp; with_reducible rfl
       rotate_left
       ·simp only [Sq.put]; rfl
       refine done_ (done_of HT_.out (by kernel_rfl)) ?_; try go_wp2
       go_ret
       exact ⟨by first | rfl | (simp [errW_none, errW_some] <;> rfl) | (simp only [← hji17]; first | rfl | (simp [errW_none, errW_some] <;> rfl)) | (simp [*, errW_none, errW_some] <;> rfl), (Sq.ut HB)⟩
     ·rw [if_neg c16] at H; exact absurd H (by simp)
    ·rw [if_neg c15] at H; have c15b0 : (a0_0 == 4) = false := beq_eq_false_iff_ne.mpr c15; have c15b1 : (a0_0 != 4) = true := bne_iff_ne.mpr c15
     by_cases c32 : (l0_4.length : Int) = 0
     ·rw [if_pos c32] at H; have c32b0 : ((l0_4.length : Int) == 0) = true := beq_iff_eq.mpr c32; have c32b1 : ((l0_4.length : Int) != 0) = false := bne_eq_false_iff_eq.mpr c32; clear c32
      by_cases c33 : 0 ≤ a0_1
      ·rw [if_pos c33] at H; have c33b0 := eq_true c33; have c33b1 : decide (0 ≤ a0_1) = true := decide_eq_true c33; clear c33; obtain ⟨ji34, hji34⟩ : ∃ j_ : Int, (shl .i64 1 a0_1) = j_ := ⟨_, rfl⟩; replace H : ((impl_outside.f l0_5 (wrap64 ((ji34) - 1))).bind fun t412 => (some (!t412))) = some r := by first | (rw [hji34] at H; exact H) | (simp only [hji34] at H ⊢; exact H)
       have hji34_ : (IntKind.i64.wrap (1 * 2 ^ min a0_1.toNat 64)) = ji34 := hji34; have hji34z : a0_1 ≤ 64 → (IntKind.i64.wrap (1 * 2 ^ a0_1.toNat)) = ji34 := shl_small hji34; have hji34u : (IntKind.i64.wrap (2 ^ min a0_1.toNat 64)) = ji34 := by have h_ := hji34_; rw [Int.one_mul] at h_; exact h_
       have hji34v : a0_1 ≤ 64 → (IntKind.i64.wrap (2 ^ a0_1.toNat)) = ji34 := fun hle_ => by have h_ := hji34z hle_; rw [Int.one_mul] at h_; exact h_
       have hji34y : (wrap64 (1 * 2 ^ min a0_1.toNat 64)) = ji34 := (i64_w _).symm.trans hji34_; have hji34x : a0_1 ≤ 64 → (wrap64 (1 * 2 ^ a0_1.toNat)) = ji34 := fun h_ => (i64_w _).symm.trans (hji34z h_)
       replace H := Option.bind_eq_some_iff.mp H; obtain ⟨t412, A350, H⟩ := H; have A35 := Aside0.mk A350; clear A350; obtain rfl := Option.some.inj H; obtain ⟨hcz36_0, hcz36_1, hcz36_2, hcz36_3, hcz36_4, hcz36_5, hfz36_0, hfz36_1, hfz36_2, hfz36_3, hfz36_4, hfz36_5⟩ := Sq.cell6 BK405; try go_wp2
       have n0_ := Aside0.mk (blk_drew BK405.out); have n1_ := Aside0.mk (below_drew1 HB.out); clear BK405; clear HB; have BK405 := n0_; have HB := n1_; clear n0_ n1_; refine start_ (n := 15) (S := fun w' => Sq.C6 w' gb405 (.int .i64 a0_0) (.int .i64 a0_1) (.int .i64 a0_2) (.int .i64 a0_3) (.slice A0_4 l0_4.length c0_4) (.slice A0_5 l0_5.length c0_5)) (ds := []) #[false, false, false, false, false, false, false, false, false, false, false, false, false, false, false] (by kernel_rfl) rfl rfl (Sq.c6 BK405) (fun hHeld => ?_); refine with_tabW impl_ImageOk.tab4 impl_ImageOk.bits4 (fun HT_ HW_ => ?_)
       generalize wc.drew = w37 at BK405 HB hHeld ⊢; refine Sq.p_ 0 35 ?_ (Sq.b 15 1) rfl rfl HT_ (by kernel_rfl) (fun _ _ _ h => h) (Or.inl ⟨by rfl, ?_⟩) ?_ ?_ ?_
       rotate_left
       ·intro w'; go_simp; with_reducible rfl
       rotate_left
       ·simp only [Sq.put]; rfl
       refine Sq.k 1 36 ?_ (Sq.b 15 3) rfl rfl HT_ HW_ (by kernel_rfl) (fun _ _ _ h => h) (Or.inl ⟨by rfl, ?_⟩) hHeld ?_ ?_ ?_
       rotate_left
       ·rintro w' ⟨s0, s1, s2, s3, s4, s5⟩; go_simp; with_reducible rfl
       rotate_left
       ·simp only [Sq.put]; rfl
       refine Sq.p_ 2 37 ?_ (Sq.b 15 7) rfl rfl HT_ (by kernel_rfl) (fun _ _ _ h => h) (Or.inl ⟨by rfl, ?_⟩) ?_ ?_ ?_
       rotate_left
       ·intro w'; go_simp; with_reducible rfl
       rotate_left
       ·simp only [Sq.put]; rfl
       refine Sq.p_ 3 38 ?_ (Sq.b 15 15) rfl rfl HT_ (by kernel_rfl) (fun _ _ _ h => h) (Or.inl ⟨by rfl, ?_⟩) ?_ ?_ ?_
       rotate_left
       ·intro w'; go_simp; with_reducible rfl
       rotate_left
       ·simp only [Sq.put]; rfl
       refine Sq.p_ 4 39 ?_ (Sq.b 15 31) rfl rfl HT_ (by kernel_rfl) (fun _ _ _ h => h) (Or.inl ⟨by rfl, ?_⟩) ?_ ?_ ?_
       rotate_left
       ·intro w'; go_simp; with_reducible rfl
       rotate_left
       ·simp only [Sq.put]; rfl
       refine Sq.p_ 5 40 ?_ (Sq.b 15 63) rfl rfl HT_ (by kernel_rfl) (fun _ _ _ h => h) (Or.inl ⟨by rfl, ?_⟩) ?_ ?_ ?_
       rotate_left
       ·intro w'; go_simp; with_reducible rfl
       rotate_left
       ·simp only [Sq.put]; rfl
       refine Sq.p_ 7 42 ?_ (Sq.b 15 191) rfl rfl HT_ (by kernel_rfl) (fun _ _ _ h => h) (Or.inl ⟨by rfl, ?_⟩) ?_ ?_ ?_
       rotate_left
       ·intro w'; go_simp; with_reducible rfl
       rotate_left
       ·simp only [Sq.put]; rfl
       refine Sq.k 6 41 ?_ (Sq.b 15 255) rfl rfl HT_ HW_ (by kernel_rfl) (fun _ _ _ h => h) (Or.inl ⟨by rfl, ?_⟩) hHeld ?_ ?_ ?_
       rotate_left
       ·rintro w' ⟨s0, s1, s2, s3, s4, s5⟩; go_simp; with_reducible rfl
       rotate_left
       ·simp only [Sq.put]; rfl
       refine Sq.k 8 43 ?_ (Sq.b 15 511) rfl rfl HT_ HW_ (by kernel_rfl) (fun _ _ _ h => h) (Or.inl ⟨by rfl, ?_⟩) hHeld ?_ ?_ ?_
       rotate_left
       ·rintro w' ⟨s0, s1, s2, s3, s4, s5⟩; go_simp; with_reducible rfl
       rotate_left
       ·simp only [Sq.put]; rfl
       refine Sq.p_ 9 44 ?_ (Sq.b 15 1023) rfl rfl HT_ (by kernel_rfl) (fun _ _ _ h => h) (Or.inl ⟨by rfl, ?_⟩) ?_ ?_ ?_
       rotate_left
       ·intro w'; go_simp; with_reducible rfl
       rotate_left
       ·simp only [Sq.put]; rfl
       refine Sq.p_ 10 45 ?_ (Sq.b 15 2047) rfl rfl HT_ (by kernel_rfl) (fun _ _ _ h => h) (Or.inl ⟨by rfl, ?_⟩) ?_ ?_ ?_
       rotate_left
       ·intro w'; go_simp; with_reducible rfl
       rotate_left
       ·simp only [Sq.put]; rfl
       refine one_ (i := 11) (N := some 46) (Sq.b 15 4095) rfl rfl (one_of HT_.out (by kernel_rfl)) (by decide) (fun K hK => ?_); refine goes_ Try.func116 (by kernel_rfl) rfl #[.slice A0_5 l0_5.length c0_5, .int .i64 (wrap64 ((ji34) - 1))] (by rfl) rfl rfl (by (try simp only [Sq.mp]); first | done | (simp only [hji34]; rfl) | rfl | (simp only [List.length_drop, List.length_take]; rfl)) ?_; with_reducible refine (impl_outside.calls _ _ l0_5 (wrap64 ((ji34) - 1)) t412 _ ?side1 ?side2 A35.out).mono ?_
       (case side1 => exact Sq.i_ HR0_5 HB)
       (case side2 => exact HC0_5.out)
       rintro e w38 ⟨rfl, hb⟩; refine ⟨_, rfl, ?_⟩; have n0_ := Sq.b_ BK405 hb; have n1_ := Sq.us HB hb; clear BK405; clear HB; have BK405 := n0_; have HB := n1_; clear n0_ n1_; (try clear hb)
       (try clear hb2)
       (try clear hk)
       (try clear hi)
       refine hK.out _ _ (Sq.c6 BK405) (fun hHeld => ?_); clear hK K; refine norm_ (a' := ?_) ?_ ?_
       rotate_left
       ·show Act.put _ (some 46) _ = _
        simp only [Sq.put]; rfl
       refine Sq.p_ 12 47 ?_ (Sq.b 15 8191) rfl rfl HT_ (by kernel_rfl) (fun _ _ _ h => h) (Or.inl ⟨by rfl, ?_⟩) ?_ ?_ ?_
       rotate_left
       ·intro w'; go_simp; with_reducible rfl
       rotate_left
       ·simp only [Sq.put]; rfl
       refine Sq.p_ 13 48 ?_ (Sq.b 15 16383) rfl rfl HT_ (by kernel_rfl) (fun _ _ _ h => h) (Or.inl ⟨by rfl, ?_⟩) ?_ ?_ ?_
       rotate_left
       ·intro w'; go_simp; with_reducible rfl
       rotate_left
       ·simp only [Sq.put]; rfl
       refine Sq.p_ 14 2 ?_ (Sq.b 15 32767) rfl rfl HT_ (by kernel_rfl) (fun _ _ _ h => h) (Or.inl ⟨by rfl, ?_⟩) ?_ ?_ ?_
       rotate_left
       ·intro w'; go_simp; with_reducible rfl
       rotate_left
       ·simp only [Sq.put]; rfl
       refine done_ (done_of HT_.out (by kernel_rfl)) ?_; try go_wp2
       go_ret
       exact ⟨by first | rfl | (simp [errW_none, errW_some] <;> rfl) | (simp only [← hji34]; first | rfl | (simp [errW_none, errW_some] <;> rfl)) | (simp [*, errW_none, errW_some] <;> rfl), (Sq.ut HB)⟩
      ·rw [if_neg c33] at H; exact absurd H (by simp)
     ·rw [if_neg c32] at H; have c32b0 : ((l0_4.length : Int) == 0) = false := beq_eq_false_iff_ne.mpr c32; have c32b1 : ((l0_4.length : Int) != 0) = true := bne_iff_ne.mpr c32; have c32b2 : ¬ (l0_4 = []) := fun h_ => c32 (by rw [h_]; rfl)
      obtain rfl := Option.some.inj H; obtain ⟨hcz39_0, hcz39_1, hcz39_2, hcz39_3, hcz39_4, hcz39_5, hfz39_0, hfz39_1, hfz39_2, hfz39_3, hfz39_4, hfz39_5⟩ := Sq.cell6 BK405; try go_wp2
      have n0_ := Aside0.mk (blk_drew BK405.out); have n1_ := Aside0.mk (below_drew1 HB.out); clear BK405; clear HB; have BK405 := n0_; have HB := n1_; clear n0_ n1_; refine start_ (n := 15) (S := fun w' => Sq.C6 w' gb405 (.int .i64 a0_0) (.int .i64 a0_1) (.int .i64 a0_2) (.int .i64 a0_3) (.slice A0_4 l0_4.length c0_4) (.slice A0_5 l0_5.length c0_5)) (ds := []) #[false, false, false, false, false, false, false, false, false, false, false, false, false, false, false] (by kernel_rfl) rfl rfl (Sq.c6 BK405) (fun hHeld => ?_); refine with_tabW impl_ImageOk.tab4 impl_ImageOk.bits4 (fun HT_ HW_ => ?_)
      generalize wc.drew = w40 at BK405 HB hHeld ⊢; refine Sq.p_ 0 35 ?_ (Sq.b 15 1) rfl rfl HT_ (by kernel_rfl) (fun _ _ _ h => h) (Or.inl ⟨by rfl, ?_⟩) ?_ ?_ ?_
      rotate_left
      ·intro w'; go_simp; with_reducible rfl
      rotate_left
      ·simp only [Sq.put]; rfl
      refine Sq.k 1 36 ?_ (Sq.b 15 3) rfl rfl HT_ HW_ (by kernel_rfl) (fun _ _ _ h => h) (Or.inl ⟨by rfl, ?_⟩) hHeld ?_ ?_ ?_
      rotate_left
      ·rintro w' ⟨s0, s1, s2, s3, s4, s5⟩; go_simp; with_reducible rfl
      rotate_left
      ·simp only [Sq.put]; rfl
      refine Sq.p_ 2 37 ?_ (Sq.b 15 7) rfl rfl HT_ (by kernel_rfl) (fun _ _ _ h => h) (Or.inl ⟨by rfl, ?_⟩) ?_ ?_ ?_
      rotate_left
      ·intro w'; go_simp; with_reducible rfl
      rotate_left
      ·simp only [Sq.put]; rfl
      refine Sq.p_ 3 38 ?_ (Sq.b 15 15) rfl rfl HT_ (by kernel_rfl) (fun _ _ _ h => h) (Or.inl ⟨by rfl, ?_⟩) ?_ ?_ ?_
      rotate_left
      ·intro w'; go_simp; with_reducible rfl
      rotate_left
      ·simp only [Sq.put]; rfl
      refine Sq.p_ 4 39 ?_ (Sq.b 15 31) rfl rfl HT_ (by kernel_rfl) (fun _ _ _ h => h) (Or.inl ⟨by rfl, ?_⟩) ?_ ?_ ?_
      rotate_left
      ·intro w'; go_simp; with_reducible rfl
      rotate_left
      ·simp only [Sq.put]; rfl
      refine Sq.p_ 5 40 undef (Sq.b 15 63) rfl rfl HT_ (by kernel_rfl) (fun _ _ _ h => h) (Or.inr ⟨by rfl, rfl⟩) ?_ ?_ ?_
      rotate_left
      ·simp only [Sq.put]; rfl
      refine Sq.p_ 6 41 undef (Sq.b 15 127) rfl rfl HT_ (by kernel_rfl) (fun _ _ _ h => h) (Or.inr ⟨by rfl, rfl⟩) ?_ ?_ ?_
      rotate_left
      ·simp only [Sq.put]; rfl
      refine Sq.p_ 7 42 undef (Sq.b 15 255) rfl rfl HT_ (by kernel_rfl) (fun _ _ _ h => h) (Or.inr ⟨by rfl, rfl⟩) ?_ ?_ ?_
      rotate_left
      ·simp only [Sq.put]; rfl
      refine Sq.p_ 8 43 undef (Sq.b 15 511) rfl rfl HT_ (by kernel_rfl) (fun _ _ _ h => h) (Or.inr ⟨by rfl, rfl⟩) ?_ ?_ ?_
      rotate_left
      ·simp only [Sq.put]; rfl
      refine Sq.p_ 9 44 undef (Sq.b 15 1023) rfl rfl HT_ (by kernel_rfl) (fun _ _ _ h => h) (Or.inr ⟨by rfl, rfl⟩) ?_ ?_ ?_
      rotate_left
      ·simp only [Sq.put]; rfl
      refine Sq.p_ 10 45 undef (Sq.b 15 2047) rfl rfl HT_ (by kernel_rfl) (fun _ _ _ h => h) (Or.inr ⟨by rfl, rfl⟩) ?_ ?_ ?_
      rotate_left
      ·simp only [Sq.put]; rfl
      refine Sq.p_ 11 46 undef (Sq.b 15 4095) rfl rfl HT_ (by kernel_rfl) (fun _ _ _ h => h) (Or.inr ⟨by rfl, rfl⟩) ?_ ?_ ?_
      rotate_left
      ·simp only [Sq.put]; rfl
      refine Sq.p_ 12 47 undef (Sq.b 15 8191) rfl rfl HT_ (by kernel_rfl) (fun _ _ _ h => h) (Or.inr ⟨by rfl, rfl⟩) ?_ ?_ ?_
      rotate_left
      ·simp only [Sq.put]; rfl
      refine Sq.p_ 13 48 ?_ (Sq.b 15 16383) rfl rfl HT_ (by kernel_rfl) (fun _ _ _ h => h) (Or.inl ⟨by rfl, ?_⟩) ?_ ?_ ?_
      rotate_left
      ·intro w'; go_simp; with_reducible rfl
      rotate_left
      ·simp only [Sq.put]; rfl
      refine Sq.p_ 14 2 ?_ (Sq.b 15 32767) rfl rfl HT_ (by kernel_rfl) (fun _ _ _ h => h) (Or.inl ⟨by rfl, ?_⟩) ?_ ?_ ?_
      rotate_left
      ·intro w'; go_simp; with_reducible rfl
      rotate_left
      ·simp only [Sq.put]; rfl
      refine done_ (done_of HT_.out (by kernel_rfl)) ?_; try go_wp2
      go_ret
      exact ⟨by first | rfl | (simp [errW_none, errW_some] <;> rfl) | (simp [*, errW_none, errW_some] <;> rfl), (Sq.ut HB)⟩
/-! ### spec_l1In: function 43 -/
def spec_l1In.f (a0 : Int) (a1 : Int) (a2 : Int) : Option (Bool) := if a0 ≥ a1 then (some (decide (a0 ≤ a2))) else (some false)
set_option maxHeartbeats 8000000 in
set_option maxRecDepth 100000 in
theorem spec_l1In.calls (a0 : Int) (a1 : Int) (a2 : Int) (r : Bool) (w : World) (h : spec_l1In.f a0 a1 a2 = some r) :
 Calls Try.prog 43 #[.int .i64 a0, .int .i64 a1, .int .i64 a2] w fun e w' => e = .returned (.bool r) ∧ Drawn0 w w' := by
 have H : (if a0 ≥ a1 then (some (decide (a0 ≤ a2))) else (some false)) = some r := h; clear h
 by_cases c4 : a0 ≥ a1
 ·rw [if_pos c4] at H; have c4b0 : decide (a1 ≤ a0) = true := decide_eq_true c4; clear c4; obtain rfl := Option.some.inj H; go_enter Try.func43, Try.ntmps43
  go_wp2
  go_ret
  exact ⟨by first | rfl | (simp; done) | (simp [*]; done), by repeat (first | exact Drawn0.refl _ | apply Drawn0.step)⟩
 ·rw [if_neg c4] at H; have c4b0 : decide (a1 ≤ a0) = false := decide_eq_false c4; clear c4; obtain rfl := Option.some.inj H; go_enter Try.func43, Try.ntmps43
  go_wp2
  go_ret
  exact ⟨by first | rfl | (simp; done) | (simp [*]; done), by repeat (first | exact Drawn0.refl _ | apply Drawn0.step)⟩
end Go.Proofs.Ytgdbinifnhfcjaa.P
