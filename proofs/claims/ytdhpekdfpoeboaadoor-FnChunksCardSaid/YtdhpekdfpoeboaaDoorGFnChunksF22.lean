-- Several texts of this session in one (wip/merge.py).
import Derived.Test.YtdhpekdfpoeboaaDoorF00
import Derived.Test.YtdhpekdfpoeboaaDoorGFnChunks1
import Derived.Test.YtdhpekdfpoeboaaDoorGFnChunks2
import Derived.Test.YtdhpekdfpoeboaaDoorGFnChunksF38
-- Written by a program of this session (wip/myprint.py) through the print of the kit: not trusted, Lean checks it.
namespace Go.Proofs.YtdhpekdfpoeboaaDoor.P
open Go.RowKit Go.Proofs.YtdhpekdfpoeboaaDoorW.PrintWords Go.Proofs.YtdhpekdfpoeboaaDoorW.PrintLast Go.Proofs.YtdhpekdfpoeboaaDoorW.PrintMore
attribute [local go_sem] max2_int min2_int max_two min_two max_three min_three max_four min_four   -- for this text's walks alone
set_option linter.unusedVariables false
set_option linter.unusedSimpArgs false

/-! ### spec_l9Chunks: function 22 -/
def spec_l9Chunks.l0 : Nat → List (S41) → ByteArray → Int → Option (ByteArray)
  | 0, _, _, _ => none
  | k + 1, x0, x3, x4 => if x4 < (x0.length : Int) then (if 0 ≤ x4 then (if ((rd_T41 x0 x4).f0).size + ((rd_T41 x0 x4).f1).size ≤ 9223372036854775807 then ((spec_l1Num.f k (((rd_T41 x0 x4).f1).size : Int) 4 true).bind fun t121 => (if x3.size + t121.size ≤ 9223372036854775807 then (if (x3 ++ t121).size + (((rd_T41 x0 x4).f0) ++ ((rd_T41 x0 x4).f1)).size ≤ 9223372036854775807 then ((spec_Crc32.f k (((rd_T41 x0 x4).f0) ++ ((rd_T41 x0 x4).f1))).bind fun t122 => ((spec_l1Num.f k t122 4 true).bind fun t123 => (if ((x3 ++ t121) ++ (((rd_T41 x0 x4).f0) ++ ((rd_T41 x0 x4).f1))).size + t123.size ≤ 9223372036854775807 then (spec_l9Chunks.l0 k x0 (((x3 ++ t121) ++ (((rd_T41 x0 x4).f0) ++ ((rd_T41 x0 x4).f1))) ++ t123) (wrap64 (x4 + 1))) else (none)))) else (none)) else (none))) else (none)) else (none)) else (some x3)
def spec_l9Chunks.f (k : Nat) (l0 : List (S41)) : Option (ByteArray) := (spec_l9Sign.f).bind fun t117 => (spec_l9Chunks.l0 k l0 t117 0)
theorem spec_l9Chunks.mono_l : ∀ k, (∀ y0 y1 y2, LeO (spec_l9Chunks.l0 k y0 y1 y2) (spec_l9Chunks.l0 (k + 1) y0 y1 y2))
  | 0 => fun _ _ _ r h => by simp [spec_l9Chunks.l0] at h
  | k + 1 => by
    have ih0 := spec_l9Chunks.mono_l k
    · intro y0 y1 y2
      unfold spec_l9Chunks.l0
      repeat' first
      | (with_reducible exact ih0 _ _ _)
      | (with_reducible exact spec_Crc32.mono _ _)
      | (with_reducible exact spec_l1Num.mono _ _ _ _)
      | (with_reducible exact LeO.refl _)
      | (with_reducible exact LeO.none _)
      | (with_reducible refine LeO.ite ?_ ?_)
      | (with_reducible refine LeO.bind ?_ (fun _ => ?_))
      | exact ih0 _ _ _
      | exact spec_Crc32.mono _ _
      | exact spec_l1Num.mono _ _ _ _
      | exact LeO.none _
      | refine LeO.ite ?_ ?_
      | refine LeO.bind ?_ (fun _ => ?_)
theorem spec_l9Chunks.mono : ∀ a0 k, LeO (spec_l9Chunks.f k a0) (spec_l9Chunks.f (k + 1) a0) := by
  intro a0 k
  have ih0 := spec_l9Chunks.mono_l k
  unfold spec_l9Chunks.f
  repeat' first
      | (with_reducible exact ih0 _ _ _)
      | (with_reducible exact spec_Crc32.mono _ _)
      | (with_reducible exact spec_l1Num.mono _ _ _ _)
      | (with_reducible exact LeO.refl _)
      | (with_reducible exact LeO.none _)
      | (with_reducible refine LeO.ite ?_ ?_)
      | (with_reducible refine LeO.bind ?_ (fun _ => ?_))
      | exact ih0 _ _ _
      | exact spec_Crc32.mono _ _
      | exact spec_l1Num.mono _ _ _ _
      | exact LeO.none _
      | refine LeO.ite ?_ ?_
      | refine LeO.bind ?_ (fun _ => ?_)
set_option maxHeartbeats 8000000 in
set_option maxRecDepth 100000 in
theorem spec_l9Chunks.calls (k : Nat) (A0 : Option Addr) (c0 : Nat) (l0 : List (S41)) (r : ByteArray) (w : World) (hr0 : Kd.C k41 w A0 l0.length l0) (hc0 : l0.length ≤ c0) (h : spec_l9Chunks.f k l0 = some r) :
    Calls Tryd.prog 22 #[.slice A0 l0.length c0] w fun e w' => e = .returned (.string r) ∧ Below w.heap.size w w' := by
  have HR0 := Aside0.mk hr0
  have HC0 := Aside0.mk hc0
  clear hr0 hc0
  have HB := Aside0.mk (Below.refl w.heap.size w)
  have H : ((spec_l9Sign.f).bind fun t117 => (spec_l9Chunks.l0 k l0 t117 0)) = some r := h
  clear h
  replace H := Option.bind_eq_some_iff.mp H
  obtain ⟨t117, A20, H⟩ := H
  replace H : (spec_l9Chunks.l0 k l0 t117 0) = some r := H
  have A2 := Aside0.mk A20
  clear A20
  have H' := Aside0.mk H
  clear H
  go_enter Tryd.func22, Tryd.ntmps22
  go_wp2_with (first | (go_at_call 36; (with_reducible refine (spec_l9Sign.calls  t117 _ A2.out).mono ?_); rintro e w3 ⟨rfl, hb⟩; have n0_ := Aside0.mk (below_step (by repeat (first | (with_reducible first | exact HB.out | apply below_alloc | apply pw_below_drewN | apply below_drew1) | exact HB.out)) hb); clear HB; have HB := n0_; clear n0_; (try clear hb); (try clear hb2); (try clear hk); (try clear hi)))
  repeat (go_quiet (first | (go_at_call 36; (with_reducible refine (spec_l9Sign.calls  t117 _ A2.out).mono ?_); rintro e w3 ⟨rfl, hb⟩; have n0_ := Aside0.mk (below_step (by repeat (first | (with_reducible first | exact HB.out | apply below_alloc | apply pw_below_drewN | apply below_drew1) | exact HB.out)) hb); clear HB; have HB := n0_; clear n0_; (try clear hb); (try clear hb2); (try clear hk); (try clear hi))); try go_wp2_with (first | (go_at_call 36; (with_reducible refine (spec_l9Sign.calls  t117 _ A2.out).mono ?_); rintro e w3 ⟨rfl, hb⟩; have n0_ := Aside0.mk (below_step (by repeat (first | (with_reducible first | exact HB.out | apply below_alloc | apply pw_below_drewN | apply below_drew1) | exact HB.out)) hb); clear HB; have HB := n0_; clear n0_; (try clear hb); (try clear hb2); (try clear hk); (try clear hi))))
  go_loopg [3, 4] k (fun kq v3 v4 w' => ∃ (x3_1 : ByteArray) (x4_1 : Int), v3 = .string x3_1 ∧ v4 = .int .i64 x4_1 ∧ Aside0 (spec_l9Chunks.l0 kq l0 x3_1 x4_1 = some r) ∧ Aside0 (kq ≤ k) ∧ Aside0 (Below w.heap.size w w'))
  case atStart => exact ⟨(t117), (0), (by first | rfl | (simp; done) | (simp [*]; done)), (by first | rfl | (simp; done) | (simp [*]; done)), H', ⟨Nat.le_refl _⟩, ⟨by repeat (first | (with_reducible first | exact HB.out | apply below_alloc | apply pw_below_drewN | apply below_drew1) | exact HB.out)⟩⟩
  case round =>
    clear H'
    try clear c2
    try clear p2
    obtain ⟨x3_1, x4_1, rfl, rfl, HA, HK1, HB⟩ := hrel
    cases gk with
    | zero => exact absurd HA.out (by simp [spec_l9Chunks.l0])
    | succ k1 =>
      have H := HA.out
      clear HA
      simp only [spec_l9Chunks.l0] at H
      by_cases c4 : x4_1 < (l0.length : Int)
      · rw [if_pos c4] at H
        have c4b0 : decide (x4_1 < (l0.length : Int)) = true := decide_eq_true c4
        clear c4
        by_cases c5 : 0 ≤ x4_1
        · rw [if_pos c5] at H
          have c5b0 : decide (0 ≤ x4_1) = true := decide_eq_true c5
          clear c5
          by_cases c6 : ((rd_T41 l0 x4_1).f0).size + ((rd_T41 l0 x4_1).f1).size ≤ 9223372036854775807
          · rw [if_pos c6] at H
            have c6b0 := eq_true c6
            have c6b1 : decide (((rd_T41 l0 x4_1).f0).size + ((rd_T41 l0 x4_1).f1).size ≤ 9223372036854775807) = true := decide_eq_true c6
            try have c6b2 : (9223372036854775807 < ((rd_T41 l0 x4_1).f0).size + ((rd_T41 l0 x4_1).f1).size) = False := eq_false (Nat.not_lt.2 c6)
            replace H := Option.bind_eq_some_iff.mp H
            obtain ⟨t121, A70, H⟩ := H
            replace H : (if x3_1.size + t121.size ≤ 9223372036854775807 then (if (x3_1 ++ t121).size + (((rd_T41 l0 x4_1).f0) ++ ((rd_T41 l0 x4_1).f1)).size ≤ 9223372036854775807 then ((spec_Crc32.f k1 (((rd_T41 l0 x4_1).f0) ++ ((rd_T41 l0 x4_1).f1))).bind fun t122 => ((spec_l1Num.f k1 t122 4 true).bind fun t123 => (if ((x3_1 ++ t121) ++ (((rd_T41 l0 x4_1).f0) ++ ((rd_T41 l0 x4_1).f1))).size + t123.size ≤ 9223372036854775807 then (spec_l9Chunks.l0 k1 l0 (((x3_1 ++ t121) ++ (((rd_T41 l0 x4_1).f0) ++ ((rd_T41 l0 x4_1).f1))) ++ t123) (wrap64 (x4_1 + 1))) else (none)))) else (none)) else (none)) = some r := H
            have A7 := Aside0.mk A70
            clear A70
            by_cases c8 : x3_1.size + t121.size ≤ 9223372036854775807
            · rw [if_pos c8] at H
              have c8b0 := eq_true c8
              have c8b1 : decide (x3_1.size + t121.size ≤ 9223372036854775807) = true := decide_eq_true c8
              try have c8b2 : (9223372036854775807 < x3_1.size + t121.size) = False := eq_false (Nat.not_lt.2 c8)
              by_cases c9 : (x3_1 ++ t121).size + (((rd_T41 l0 x4_1).f0) ++ ((rd_T41 l0 x4_1).f1)).size ≤ 9223372036854775807
              · rw [if_pos c9] at H
                have c9b0 := eq_true c9
                have c9b1 : decide ((x3_1 ++ t121).size + (((rd_T41 l0 x4_1).f0) ++ ((rd_T41 l0 x4_1).f1)).size ≤ 9223372036854775807) = true := decide_eq_true c9
                try have c9b2 : (9223372036854775807 < (x3_1 ++ t121).size + (((rd_T41 l0 x4_1).f0) ++ ((rd_T41 l0 x4_1).f1)).size) = False := eq_false (Nat.not_lt.2 c9)
                replace H := Option.bind_eq_some_iff.mp H
                obtain ⟨t122, A100, H⟩ := H
                replace H : ((spec_l1Num.f k1 t122 4 true).bind fun t123 => (if ((x3_1 ++ t121) ++ (((rd_T41 l0 x4_1).f0) ++ ((rd_T41 l0 x4_1).f1))).size + t123.size ≤ 9223372036854775807 then (spec_l9Chunks.l0 k1 l0 (((x3_1 ++ t121) ++ (((rd_T41 l0 x4_1).f0) ++ ((rd_T41 l0 x4_1).f1))) ++ t123) (wrap64 (x4_1 + 1))) else (none))) = some r := H
                have A10 := Aside0.mk A100
                clear A100
                replace H := Option.bind_eq_some_iff.mp H
                obtain ⟨t123, A110, H⟩ := H
                replace H : (if ((x3_1 ++ t121) ++ (((rd_T41 l0 x4_1).f0) ++ ((rd_T41 l0 x4_1).f1))).size + t123.size ≤ 9223372036854775807 then (spec_l9Chunks.l0 k1 l0 (((x3_1 ++ t121) ++ (((rd_T41 l0 x4_1).f0) ++ ((rd_T41 l0 x4_1).f1))) ++ t123) (wrap64 (x4_1 + 1))) else (none)) = some r := H
                have A11 := Aside0.mk A110
                clear A110
                by_cases c12 : ((x3_1 ++ t121) ++ (((rd_T41 l0 x4_1).f0) ++ ((rd_T41 l0 x4_1).f1))).size + t123.size ≤ 9223372036854775807
                · rw [if_pos c12] at H
                  have c12b0 := eq_true c12
                  have c12b1 : decide (((x3_1 ++ t121) ++ (((rd_T41 l0 x4_1).f0) ++ ((rd_T41 l0 x4_1).f1))).size + t123.size ≤ 9223372036854775807) = true := decide_eq_true c12
                  try have c12b2 : (9223372036854775807 < ((x3_1 ++ t121) ++ (((rd_T41 l0 x4_1).f0) ++ ((rd_T41 l0 x4_1).f1))).size + t123.size) = False := eq_false (Nat.not_lt.2 c12)
                  have H' := Aside0.mk H
                  clear H
                  have p118 : 0 ≤ (x4_1 : Int) := of_decide_eq_true (by first | (with_reducible assumption) | assumption)
                  have q118 : x4_1 < (l0.length : Int) := of_decide_eq_true (by first | (with_reducible assumption) | assumption)
                  obtain ⟨ad118, e118, hx118_0, hx118_1⟩ := at_T41 HR0.out x4_1 p118 q118
                  cases e118
                  replace hx118_0 := (HB.out.cell (World.block_lt_of_cell? w _ hx118_0)).trans hx118_0
                  replace hx118_1 := (HB.out.cell (World.block_lt_of_cell? w _ hx118_1)).trans hx118_1
                  replace p118 := eq_true p118
                  replace q118 := eq_true q118
                  have p119 : 0 ≤ (x4_1 : Int) := of_decide_eq_true (by first | (with_reducible assumption) | assumption)
                  have q119 : x4_1 < (l0.length : Int) := of_decide_eq_true (by first | (with_reducible assumption) | assumption)
                  obtain ⟨ad119, e119, hx119_0, hx119_1⟩ := at_T41 HR0.out x4_1 p119 q119
                  obtain rfl : ad118 = ad119 := (by injection e119)
                  replace hx119_0 := (HB.out.cell (World.block_lt_of_cell? w _ hx119_0)).trans hx119_0
                  replace hx119_1 := (HB.out.cell (World.block_lt_of_cell? w _ hx119_1)).trans hx119_1
                  replace p119 := eq_true p119
                  replace q119 := eq_true q119
                  have p120 : 0 ≤ (x4_1 : Int) := of_decide_eq_true (by first | (with_reducible assumption) | assumption)
                  have q120 : x4_1 < (l0.length : Int) := of_decide_eq_true (by first | (with_reducible assumption) | assumption)
                  obtain ⟨ad120, e120, hx120_0, hx120_1⟩ := at_T41 HR0.out x4_1 p120 q120
                  obtain rfl : ad118 = ad120 := (by injection e120)
                  replace hx120_0 := (HB.out.cell (World.block_lt_of_cell? w _ hx120_0)).trans hx120_0
                  replace hx120_1 := (HB.out.cell (World.block_lt_of_cell? w _ hx120_1)).trans hx120_1
                  replace p120 := eq_true p120
                  replace q120 := eq_true q120
                  go_wp2_with (first | (go_at_call 37; (with_reducible refine (spec_l1Num.calls k1 (((rd_T41 l0 x4_1).f1).size : Int) 4 true t121 _ A7.out).mono ?_); rintro e w13 ⟨rfl, hb⟩; have n0_ := Aside0.mk (below_step (by repeat (first | (with_reducible first | exact HB.out | apply below_alloc | apply pw_below_drewN | apply below_drew1) | exact HB.out)) hb); clear HB; have HB := n0_; clear n0_; (try clear hb); (try clear hb2); (try clear hk); (try clear hi)) | (go_at_call 38; (with_reducible refine (spec_Crc32.calls k1 (((rd_T41 l0 x4_1).f0) ++ ((rd_T41 l0 x4_1).f1)) t122 _ A10.out).mono ?_); rintro e w' ⟨rfl, ⟨nd, rfl⟩⟩; (try first | exact ⟨rfl, _, World.drewN_drewN _ _ _⟩ | exact ⟨rfl, _, Eq.trans (World.drewN_drewN _ _ _) (congrArg (World.drewN _) (Nat.add_assoc _ _ _))⟩)) | (go_at_call 37; (with_reducible refine (spec_l1Num.calls k1 t122 4 true t123 _ A11.out).mono ?_); rintro e w14 ⟨rfl, hb⟩; have n0_ := Aside0.mk (below_step (by repeat (first | (with_reducible first | exact HB.out | apply below_alloc | apply pw_below_drewN | apply below_drew1) | exact HB.out)) hb); clear HB; have HB := n0_; clear n0_; (try clear hb); (try clear hb2); (try clear hk); (try clear hi)))
                  repeat (go_quiet (first | (go_at_call 37; (with_reducible refine (spec_l1Num.calls k1 (((rd_T41 l0 x4_1).f1).size : Int) 4 true t121 _ A7.out).mono ?_); rintro e w13 ⟨rfl, hb⟩; have n0_ := Aside0.mk (below_step (by repeat (first | (with_reducible first | exact HB.out | apply below_alloc | apply pw_below_drewN | apply below_drew1) | exact HB.out)) hb); clear HB; have HB := n0_; clear n0_; (try clear hb); (try clear hb2); (try clear hk); (try clear hi)) | (go_at_call 38; (with_reducible refine (spec_Crc32.calls k1 (((rd_T41 l0 x4_1).f0) ++ ((rd_T41 l0 x4_1).f1)) t122 _ A10.out).mono ?_); rintro e w' ⟨rfl, ⟨nd, rfl⟩⟩; (try first | exact ⟨rfl, _, World.drewN_drewN _ _ _⟩ | exact ⟨rfl, _, Eq.trans (World.drewN_drewN _ _ _) (congrArg (World.drewN _) (Nat.add_assoc _ _ _))⟩)) | (go_at_call 37; (with_reducible refine (spec_l1Num.calls k1 t122 4 true t123 _ A11.out).mono ?_); rintro e w14 ⟨rfl, hb⟩; have n0_ := Aside0.mk (below_step (by repeat (first | (with_reducible first | exact HB.out | apply below_alloc | apply pw_below_drewN | apply below_drew1) | exact HB.out)) hb); clear HB; have HB := n0_; clear n0_; (try clear hb); (try clear hb2); (try clear hk); (try clear hi))); try go_wp2_with (first | (go_at_call 37; (with_reducible refine (spec_l1Num.calls k1 (((rd_T41 l0 x4_1).f1).size : Int) 4 true t121 _ A7.out).mono ?_); rintro e w13 ⟨rfl, hb⟩; have n0_ := Aside0.mk (below_step (by repeat (first | (with_reducible first | exact HB.out | apply below_alloc | apply pw_below_drewN | apply below_drew1) | exact HB.out)) hb); clear HB; have HB := n0_; clear n0_; (try clear hb); (try clear hb2); (try clear hk); (try clear hi)) | (go_at_call 38; (with_reducible refine (spec_Crc32.calls k1 (((rd_T41 l0 x4_1).f0) ++ ((rd_T41 l0 x4_1).f1)) t122 _ A10.out).mono ?_); rintro e w' ⟨rfl, ⟨nd, rfl⟩⟩; (try first | exact ⟨rfl, _, World.drewN_drewN _ _ _⟩ | exact ⟨rfl, _, Eq.trans (World.drewN_drewN _ _ _) (congrArg (World.drewN _) (Nat.add_assoc _ _ _))⟩)) | (go_at_call 37; (with_reducible refine (spec_l1Num.calls k1 t122 4 true t123 _ A11.out).mono ?_); rintro e w14 ⟨rfl, hb⟩; have n0_ := Aside0.mk (below_step (by repeat (first | (with_reducible first | exact HB.out | apply below_alloc | apply pw_below_drewN | apply below_drew1) | exact HB.out)) hb); clear HB; have HB := n0_; clear n0_; (try clear hb); (try clear hb2); (try clear hk); (try clear hi))))
                  go_roundg k1
                  case measure => have := HK1.out; omega
                  case rel => exact ⟨(((x3_1 ++ t121) ++ (((rd_T41 l0 x4_1).f0) ++ ((rd_T41 l0 x4_1).f1))) ++ t123), (wrap64 (x4_1 + 1)), (by first | rfl | (simp; done) | (simp [*]; done)), (by first | rfl | (simp; done) | (simp [*]; done)), H', ⟨by have := HK1.out; omega⟩, ⟨by repeat (first | (with_reducible first | exact HB.out | apply below_alloc | apply pw_below_drewN | apply below_drew1) | exact HB.out)⟩⟩
                · rw [if_neg c12] at H
                  exact absurd H (by simp)
              · rw [if_neg c9] at H
                exact absurd H (by simp)
            · rw [if_neg c8] at H
              exact absurd H (by simp)
          · rw [if_neg c6] at H
            exact absurd H (by simp)
        · rw [if_neg c5] at H
          exact absurd H (by simp)
      · rw [if_neg c4] at H
        have c4b0 : decide (x4_1 < (l0.length : Int)) = false := decide_eq_false c4
        clear c4
        obtain rfl := Option.some.inj H
        go_wp2
        repeat (go_quiet (fail); try go_wp2)
        go_ret
        exact ⟨by first | rfl | (simp [errW_none, errW_some] <;> rfl) | (simp [*, errW_none, errW_some] <;> rfl), by repeat (first | (with_reducible first | exact HB.out | apply below_alloc | apply pw_below_drewN | apply below_drew1) | exact HB.out)⟩

end Go.Proofs.YtdhpekdfpoeboaaDoor.P
