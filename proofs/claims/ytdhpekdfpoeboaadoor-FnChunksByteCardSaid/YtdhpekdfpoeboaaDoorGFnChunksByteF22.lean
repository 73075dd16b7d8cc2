-- Several texts of this session in one (wip/merge.py).
import Derived.Test.YtdhpekdfpoeboaaDoorGFnChunksByte0
import Derived.Test.YtdhpekdfpoeboaaDoorGFnChunksByte1
import Derived.Test.YtdhpekdfpoeboaaDoorGFnChunksByte2
-- Written by a program of this session (wip/myprint.py) through the print of the kit: not trusted, Lean checks it.
namespace Go.Proofs.YtdhpekdfpoeboaaDoor.P
open Go.RowKit Go.Proofs.YtdhpekdfpoeboaaDoorW.PrintWords Go.Proofs.YtdhpekdfpoeboaaDoorW.PrintLast Go.Proofs.YtdhpekdfpoeboaaDoorW.PrintMore
attribute [local go_sem] max2_int min2_int max_two min_two max_three min_three max_four min_four   -- for this text's walks alone
set_option linter.unusedVariables false
set_option linter.unusedSimpArgs false

/-! ### spec_l9Chunks: function 22 -/
def spec_l9Chunks.l0 : Nat → List (S41) → ByteArray → Int → Option (ByteArray)
  | 0, _, _, _ => none
  | k + 1, x0, x3, x4 => if x4 < (x0.length : Int) then (if 0 ≤ x4 then (if ((rd_T41 x0 x4).f0).size + ((rd_T41 x0 x4).f1).size ≤ 9223372036854775807 then ((spec_l1Num.f k (((rd_T41 x0 x4).f1).size : Int) 4 true).bind fun t207 => (if x3.size + t207.size ≤ 9223372036854775807 then (if (x3 ++ t207).size + (((rd_T41 x0 x4).f0) ++ ((rd_T41 x0 x4).f1)).size ≤ 9223372036854775807 then ((spec_Crc32.f k (((rd_T41 x0 x4).f0) ++ ((rd_T41 x0 x4).f1))).bind fun t208 => ((spec_l1Num.f k t208 4 true).bind fun t209 => (if ((x3 ++ t207) ++ (((rd_T41 x0 x4).f0) ++ ((rd_T41 x0 x4).f1))).size + t209.size ≤ 9223372036854775807 then (spec_l9Chunks.l0 k x0 (((x3 ++ t207) ++ (((rd_T41 x0 x4).f0) ++ ((rd_T41 x0 x4).f1))) ++ t209) (wrap64 (x4 + 1))) else (none)))) else (none)) else (none))) else (none)) else (none)) else (some x3)
def spec_l9Chunks.f (k : Nat) (l0 : List (S41)) : Option (ByteArray) := (spec_l9Sign.f).bind fun t203 => (spec_l9Chunks.l0 k l0 t203 0)
theorem spec_l9Chunks.mono_l : ∀ k, (∀ y0 y1 y2, LeO (spec_l9Chunks.l0 k y0 y1 y2) (spec_l9Chunks.l0 (k + 1) y0 y1 y2))
  | 0 => fun _ _ _ r h => by simp [spec_l9Chunks.l0] at h
  | k + 1 => by
    have ih0 := spec_l9Chunks.mono_l k
    · intro y0 y1 y2
      unfold spec_l9Chunks.l0
      repeat' first
      | (with_reducible exact ih0 _ _ _)
      | (with_reducible exact spec_Crc32.mono _ _)
      | (with_reducible exact spec_l1Num.mono _ _ _ _)
      | (with_reducible exact LeO.refl _)
      | (with_reducible exact LeO.none _)
      | (with_reducible refine LeO.ite ?_ ?_)
      | (with_reducible refine LeO.bind ?_ (fun _ => ?_))
      | exact ih0 _ _ _
      | exact spec_Crc32.mono _ _
      | exact spec_l1Num.mono _ _ _ _
      | exact LeO.none _
      | refine LeO.ite ?_ ?_
      | refine LeO.bind ?_ (fun _ => ?_)
theorem spec_l9Chunks.mono : ∀ a0 k, LeO (spec_l9Chunks.f k a0) (spec_l9Chunks.f (k + 1) a0) := by
  intro a0 k
  have ih0 := spec_l9Chunks.mono_l k
  unfold spec_l9Chunks.f
  repeat' first
      | (with_reducible exact ih0 _ _ _)
      | (with_reducible exact spec_Crc32.mono _ _)
      | (with_reducible exact spec_l1Num.mono _ _ _ _)
      | (with_reducible exact LeO.refl _)
      | (with_reducible exact LeO.none _)
      | (with_reducible refine LeO.ite ?_ ?_)
      | (with_reducible refine LeO.bind ?_ (fun _ => ?_))
      | exact ih0 _ _ _
      | exact spec_Crc32.mono _ _
      | exact spec_l1Num.mono _ _ _ _
      | exact LeO.none _
      | refine LeO.ite ?_ ?_
      | refine LeO.bind ?_ (fun _ => ?_)
set_option maxHeartbeats 8000000 in
set_option maxRecDepth 100000 in
theorem spec_l9Chunks.calls (k : Nat) (A0 : Option Addr) (c0 : Nat) (l0 : List (S41)) (r : ByteArray) (w : World) (hr0 : Kd.C k41 w A0 l0.length l0) (hc0 : l0.length ≤ c0) (h : spec_l9Chunks.f k l0 = some r) :
    Calls Tryd.prog 22 #[.slice A0 l0.length c0] w fun e w' => e = .returned (.string r) ∧ Below w.heap.size w w' := by
  have HR0 := Aside0.mk hr0
  have HC0 := Aside0.mk hc0
  clear hr0 hc0
  have HB := Aside0.mk (Below.refl w.heap.size w)
  have H : ((spec_l9Sign.f).bind fun t203 => (spec_l9Chunks.l0 k l0 t203 0)) = some r := h
  clear h
  replace H := Option.bind_eq_some_iff.mp H
  obtain ⟨t203, A20, H⟩ := H
  replace H : (spec_l9Chunks.l0 k l0 t203 0) = some r := H
  have A2 := Aside0.mk A20
  clear A20
  have H' := Aside0.mk H
  clear H
  go_enter Tryd.func22, Tryd.ntmps22
  go_wp2_with (first | (go_at_call 36; (with_reducible refine (spec_l9Sign.calls  t203 _ A2.out).mono ?_); rintro e w3 ⟨rfl, hb⟩; have n0_ := Aside0.mk (below_step (by repeat (first | (with_reducible first | exact HB.out | apply below_alloc | apply pw_below_drewN | apply below_drew1) | exact HB.out)) hb); clear HB; have HB := n0_; clear n0_; (try clear hb); (try clear hb2); (try clear hk); (try clear hi)))
  repeat (go_quiet (first | (go_at_call 36; (with_reducible refine (spec_l9Sign.calls  t203 _ A2.out).mono ?_); rintro e w3 ⟨rfl, hb⟩; have n0_ := Aside0.mk (below_step (by repeat (first | (with_reducible first | exact HB.out | apply below_alloc | apply pw_below_drewN | apply below_drew1) | exact HB.out)) hb); clear HB; have HB := n0_; clear n0_; (try clear hb); (try clear hb2); (try clear hk); (try clear hi))); try go_wp2_with (first | (go_at_call 36; (with_reducible refine (spec_l9Sign.calls  t203 _ A2.out).mono ?_); rintro e w3 ⟨rfl, hb⟩; have n0_ := Aside0.mk (below_step (by repeat (first | (with_reducible first | exact HB.out | apply below_alloc | apply pw_below_drewN | apply below_drew1) | exact HB.out)) hb); clear HB; have HB := n0_; clear n0_; (try clear hb); (try clear hb2); (try clear hk); (try clear hi))))
  go_loopg [3, 4] k (fun kq v3 v4 w' => ∃ (x3_1 : ByteArray) (x4_1 : Int), v3 = .string x3_1 ∧ v4 = .int .i64 x4_1 ∧ Aside0 (spec_l9Chunks.l0 kq l0 x3_1 x4_1 = some r) ∧ Aside0 (kq ≤ k) ∧ Aside0 (Below w.heap.size w w'))
  case atStart => exact ⟨(t203), (0), (by first | rfl | (simp; done) | (simp [*]; done)), (by first | rfl | (simp; done) | (simp [*]; done)), H', ⟨Nat.le_refl _⟩, ⟨by repeat (first | (with_reducible first | exact HB.out | apply below_alloc | apply pw_below_drewN | apply below_drew1) | exact HB.out)⟩⟩
  case round =>
    clear H'
    try clear c2
    try clear p2
    obtain ⟨x3_1, x4_1, rfl, rfl, HA, HK1, HB⟩ := hrel
    cases gk with
    | zero => exact absurd HA.out (by simp [spec_l9Chunks.l0])
    | succ k1 =>
      have H := HA.out
      clear HA
      simp only [spec_l9Chunks.l0] at H
      by_cases c4 : x4_1 < (l0.length : Int)
      · rw [if_pos c4] at H
        have c4b0 : decide (x4_1 < (l0.length : Int)) = true := decide_eq_true c4
        clear c4
        by_cases c5 : 0 ≤ x4_1
        · rw [if_pos c5] at H
          have c5b0 : decide (0 ≤ x4_1) = true := decide_eq_true c5
          clear c5
          by_cases c6 : ((rd_T41 l0 x4_1).f0).size + ((rd_T41 l0 x4_1).f1).size ≤ 9223372036854775807
          · rw [if_pos c6] at H
            have c6b0 := eq_true c6
            have c6b1 : decide (((rd_T41 l0 x4_1).f0).size + ((rd_T41 l0 x4_1).f1).size ≤ 9223372036854775807) = true := decide_eq_true c6
            try have c6b2 : (9223372036854775807 < ((rd_T41 l0 x4_1).f0).size + ((rd_T41 l0 x4_1).f1).size) = False := eq_false (Nat.not_lt.2 c6)
            replace H := Option.bind_eq_some_iff.mp H
            obtain ⟨t207, A70, H⟩ := H
            replace H : (if x3_1.size + t207.size ≤ 9223372036854775807 then (if (x3_1 ++ t207).size + (((rd_T41 l0 x4_1).f0) ++ ((rd_T41 l0 x4_1).f1)).size ≤ 9223372036854775807 then ((spec_Crc32.f k1 (((rd_T41 l0 x4_1).f0) ++ ((rd_T41 l0 x4_1).f1))).bind fun t208 => ((spec_l1Num.f k1 t208 4 true).bind fun t209 => (if ((x3_1 ++ t207) ++ (((rd_T41 l0 x4_1).f0) ++ ((rd_T41 l0 x4_1).f1))).size + t209.size ≤ 9223372036854775807 then (spec_l9Chunks.l0 k1 l0 (((x3_1 ++ t207) ++ (((rd_T41 l0 x4_1).f0) ++ ((rd_T41 l0 x4_1).f1))) ++ t209) (wrap64 (x4_1 + 1))) else (none)))) else (none)) else (none)) = some r := H
            have A7 := Aside0.mk A70
            clear A70
            by_cases c8 : x3_1.size + t207.size ≤ 9223372036854775807
            · rw [if_pos c8] at H
              have c8b0 := eq_true c8
              have c8b1 : decide (x3_1.size + t207.size ≤ 9223372036854775807) = true := decide_eq_true c8
              try have c8b2 : (9223372036854775807 < x3_1.size + t207.size) = False := eq_false (Nat.not_lt.2 c8)
              by_cases c9 : (x3_1 ++ t207).size + (((rd_T41 l0 x4_1).f0) ++ ((rd_T41 l0 x4_1).f1)).size ≤ 9223372036854775807
              · rw [if_pos c9] at H
                have c9b0 := eq_true c9
                have c9b1 : decide ((x3_1 ++ t207).size + (((rd_T41 l0 x4_1).f0) ++ ((rd_T41 l0 x4_1).f1)).size ≤ 9223372036854775807) = true := decide_eq_true c9
                try have c9b2 : (9223372036854775807 < (x3_1 ++ t207).size + (((rd_T41 l0 x4_1).f0) ++ ((rd_T41 l0 x4_1).f1)).size) = False := eq_false (Nat.not_lt.2 c9)
                replace H := Option.bind_eq_some_iff.mp H
                obtain ⟨t208, A100, H⟩ := H
                replace H : ((spec_l1Num.f k1 t208 4 true).bind fun t209 => (if ((x3_1 ++ t207) ++ (((rd_T41 l0 x4_1).f0) ++ ((rd_T41 l0 x4_1).f1))).size + t209.size ≤ 9223372036854775807 then (spec_l9Chunks.l0 k1 l0 (((x3_1 ++ t207) ++ (((rd_T41 l0 x4_1).f0) ++ ((rd_T41 l0 x4_1).f1))) ++ t209) (wrap64 (x4_1 + 1))) else (none))) = some r := H
                have A10 := Aside0.mk A100
                clear A100
                replace H := Option.bind_eq_some_iff.mp H
                obtain ⟨t209, A110, H⟩ := H
                replace H : (if ((x3_1 ++ t207) ++ (((rd_T41 l0 x4_1).f0) ++ ((rd_T41 l0 x4_1).f1))).size + t209.size ≤ 9223372036854775807 then (spec_l9Chunks.l0 k1 l0 (((x3_1 ++ t207) ++ (((rd_T41 l0 x4_1).f0) ++ ((rd_T41 l0 x4_1).f1))) ++ t209) (wrap64 (x4_1 + 1))) else (none)) = some r := H
                have A11 := Aside0.mk A110
                clear A110
                by_cases c12 : ((x3_1 ++ t207) ++ (((rd_T41 l0 x4_1).f0) ++ ((rd_T41 l0 x4_1).f1))).size + t209.size ≤ 9223372036854775807
                · rw [if_pos c12] at H
                  have c12b0 := eq_true c12
                  have c12b1 : decide (((x3_1 ++ t207) ++ (((rd_T41 l0 x4_1).f0) ++ ((rd_T41 l0 x4_1).f1))).size + t209.size ≤ 9223372036854775807) = true := decide_eq_true c12
                  try have c12b2 : (9223372036854775807 < ((x3_1 ++ t207) ++ (((rd_T41 l0 x4_1).f0) ++ ((rd_T41 l0 x4_1).f1))).size + t209.size) = False := eq_false (Nat.not_lt.2 c12)
                  have H' := Aside0.mk H
                  clear H
                  have p204 : 0 ≤ (x4_1 : Int) := of_decide_eq_true (by first | (with_reducible assumption) | assumption)
                  have q204 : x4_1 < (l0.length : Int) := of_decide_eq_true (by first | (with_reducible assumption) | assumption)
                  obtain ⟨ad204, e204, hx204_0, hx204_1⟩ := at_T41 HR0.out x4_1 p204 q204
                  cases e204
                  replace hx204_0 := (HB.out.cell (World.block_lt_of_cell? w _ hx204_0)).trans hx204_0
                  replace hx204_1 := (HB.out.cell (World.block_lt_of_cell? w _ hx204_1)).trans hx204_1
                  replace p204 := eq_true p204
                  replace q204 := eq_true q204
                  have p205 : 0 ≤ (x4_1 : Int) := of_decide_eq_true (by first | (with_reducible assumption) | assumption)
                  have q205 : x4_1 < (l0.length : Int) := of_decide_eq_true (by first | (with_reducible assumption) | assumption)
                  obtain ⟨ad205, e205, hx205_0, hx205_1⟩ := at_T41 HR0.out x4_1 p205 q205
                  obtain rfl : ad204 = ad205 := (by injection e205)
                  replace hx205_0 := (HB.out.cell (World.block_lt_of_cell? w _ hx205_0)).trans hx205_0
                  replace hx205_1 := (HB.out.cell (World.block_lt_of_cell? w _ hx205_1)).trans hx205_1
                  replace p205 := eq_true p205
                  replace q205 := eq_true q205
                  have p206 : 0 ≤ (x4_1 : Int) := of_decide_eq_true (by first | (with_reducible assumption) | assumption)
                  have q206 : x4_1 < (l0.length : Int) := of_decide_eq_true (by first | (with_reducible assumption) | assumption)
                  obtain ⟨ad206, e206, hx206_0, hx206_1⟩ := at_T41 HR0.out x4_1 p206 q206
                  obtain rfl : ad204 = ad206 := (by injection e206)
                  replace hx206_0 := (HB.out.cell (World.block_lt_of_cell? w _ hx206_0)).trans hx206_0
                  replace hx206_1 := (HB.out.cell (World.block_lt_of_cell? w _ hx206_1)).trans hx206_1
                  replace p206 := eq_true p206
                  replace q206 := eq_true q206
                  go_wp2_with (first | (go_at_call 37; (with_reducible refine (spec_l1Num.calls k1 (((rd_T41 l0 x4_1).f1).size : Int) 4 true t207 _ A7.out).mono ?_); rintro e w13 ⟨rfl, hb⟩; have n0_ := Aside0.mk (below_step (by repeat (first | (with_reducible first | exact HB.out | apply below_alloc | apply pw_below_drewN | apply below_drew1) | exact HB.out)) hb); clear HB; have HB := n0_; clear n0_; (try clear hb); (try clear hb2); (try clear hk); (try clear hi)) | (go_at_call 38; (with_reducible refine (spec_Crc32.calls k1 (((rd_T41 l0 x4_1).f0) ++ ((rd_T41 l0 x4_1).f1)) t208 _ A10.out).mono ?_); rintro e w' ⟨rfl, ⟨nd, rfl⟩⟩; (try first | exact ⟨rfl, _, World.drewN_drewN _ _ _⟩ | exact ⟨rfl, _, Eq.trans (World.drewN_drewN _ _ _) (congrArg (World.drewN _) (Nat.add_assoc _ _ _))⟩)) | (go_at_call 37; (with_reducible refine (spec_l1Num.calls k1 t208 4 true t209 _ A11.out).mono ?_); rintro e w14 ⟨rfl, hb⟩; have n0_ := Aside0.mk (below_step (by repeat (first | (with_reducible first | exact HB.out | apply below_alloc | apply pw_below_drewN | apply below_drew1) | exact HB.out)) hb); clear HB; have HB := n0_; clear n0_; (try clear hb); (try clear hb2); (try clear hk); (try clear hi)))
                  repeat (go_quiet (first | (go_at_call 37; (with_reducible refine (spec_l1Num.calls k1 (((rd_T41 l0 x4_1).f1).size : Int) 4 true t207 _ A7.out).mono ?_); rintro e w13 ⟨rfl, hb⟩; have n0_ := Aside0.mk (below_step (by repeat (first | (with_reducible first | exact HB.out | apply below_alloc | apply pw_below_drewN | apply below_drew1) | exact HB.out)) hb); clear HB; have HB := n0_; clear n0_; (try clear hb); (try clear hb2); (try clear hk); (try clear hi)) | (go_at_call 38; (with_reducible refine (spec_Crc32.calls k1 (((rd_T41 l0 x4_1).f0) ++ ((rd_T41 l0 x4_1).f1)) t208 _ A10.out).mono ?_); rintro e w' ⟨rfl, ⟨nd, rfl⟩⟩; (try first | exact ⟨rfl, _, World.drewN_drewN _ _ _⟩ | exact ⟨rfl, _, Eq.trans (World.drewN_drewN _ _ _) (congrArg (World.drewN _) (Nat.add_assoc _ _ _))⟩)) | (go_at_call 37; (with_reducible refine (spec_l1Num.calls k1 t208 4 true t209 _ A11.out).mono ?_); rintro e w14 ⟨rfl, hb⟩; have n0_ := Aside0.mk (below_step (by repeat (first | (with_reducible first | exact HB.out | apply below_alloc | apply pw_below_drewN | apply below_drew1) | exact HB.out)) hb); clear HB; have HB := n0_; clear n0_; (try clear hb); (try clear hb2); (try clear hk); (try clear hi))); try go_wp2_with (first | (go_at_call 37; (with_reducible refine (spec_l1Num.calls k1 (((rd_T41 l0 x4_1).f1).size : Int) 4 true t207 _ A7.out).mono ?_); rintro e w13 ⟨rfl, hb⟩; have n0_ := Aside0.mk (below_step (by repeat (first | (with_reducible first | exact HB.out | apply below_alloc | apply pw_below_drewN | apply below_drew1) | exact HB.out)) hb); clear HB; have HB := n0_; clear n0_; (try clear hb); (try clear hb2); (try clear hk); (try clear hi)) | (go_at_call 38; (with_reducible refine (spec_Crc32.calls k1 (((rd_T41 l0 x4_1).f0) ++ ((rd_T41 l0 x4_1).f1)) t208 _ A10.out).mono ?_); rintro e w' ⟨rfl, ⟨nd, rfl⟩⟩; (try first | exact ⟨rfl, _, World.drewN_drewN _ _ _⟩ | exact ⟨rfl, _, Eq.trans (World.drewN_drewN _ _ _) (congrArg (World.drewN _) (Nat.add_assoc _ _ _))⟩)) | (go_at_call 37; (with_reducible refine (spec_l1Num.calls k1 t208 4 true t209 _ A11.out).mono ?_); rintro e w14 ⟨rfl, hb⟩; have n0_ := Aside0.mk (below_step (by repeat (first | (with_reducible first | exact HB.out | apply below_alloc | apply pw_below_drewN | apply below_drew1) | exact HB.out)) hb); clear HB; have HB := n0_; clear n0_; (try clear hb); (try clear hb2); (try clear hk); (try clear hi))))
                  go_roundg k1
                  case measure => have := HK1.out; omega
                  case rel => exact ⟨(((x3_1 ++ t207) ++ (((rd_T41 l0 x4_1).f0) ++ ((rd_T41 l0 x4_1).f1))) ++ t209), (wrap64 (x4_1 + 1)), (by first | rfl | (simp; done) | (simp [*]; done)), (by first | rfl | (simp; done) | (simp [*]; done)), H', ⟨by have := HK1.out; omega⟩, ⟨by repeat (first | (with_reducible first | exact HB.out | apply below_alloc | apply pw_below_drewN | apply below_drew1) | exact HB.out)⟩⟩
                · rw [if_neg c12] at H
                  exact absurd H (by simp)
              · rw [if_neg c9] at H
                exact absurd H (by simp)
            · rw [if_neg c8] at H
              exact absurd H (by simp)
          · rw [if_neg c6] at H
            exact absurd H (by simp)
        · rw [if_neg c5] at H
          exact absurd H (by simp)
      · rw [if_neg c4] at H
        have c4b0 : decide (x4_1 < (l0.length : Int)) = false := decide_eq_false c4
        clear c4
        obtain rfl := Option.some.inj H
        go_wp2
        repeat (go_quiet (fail); try go_wp2)
        go_ret
        exact ⟨by first | rfl | (simp [errW_none, errW_some] <;> rfl) | (simp [*, errW_none, errW_some] <;> rfl), by repeat (first | (with_reducible first | exact HB.out | apply below_alloc | apply pw_below_drewN | apply below_drew1) | exact HB.out)⟩

end Go.Proofs.YtdhpekdfpoeboaaDoor.P
