-- Written by a program of this session (wip/myprint.py) through the print of the kit: not trusted, Lean checks it.
import Derived.Test.YteikopjhekhchaaF00
namespace Go.Proofs.Yteikopjhekhchaa.P
open Go.RowKit Go.Proofs.YteikopjhekhchaaW.PrintWords Go.Proofs.YteikopjhekhchaaW.PrintLast Go.Proofs.YteikopjhekhchaaW.PrintMore
attribute [local go_sem] max2_int min2_int max_two min_two max_three min_three max_four min_four   -- for this text's walks alone
set_option linter.unusedVariables false
set_option linter.unusedSimpArgs false

/-! ### spec_l9All: function 88 -/
def spec_l9All.f  : Option ((List (S84))) := some (([(⟨0, 0, 8, 8, 0, 0⟩ : S84), (⟨4, 0, 8, 8, 0, 0⟩ : S84), (⟨0, 4, 4, 8, 0, 0⟩ : S84), (⟨2, 0, 4, 4, 0, 0⟩ : S84), (⟨0, 2, 2, 4, 0, 0⟩ : S84), (⟨1, 0, 2, 2, 0, 0⟩ : S84), (⟨0, 1, 1, 2, 0, 0⟩ : S84)] : List (S84)))
set_option maxHeartbeats 8000000 in
set_option maxRecDepth 100000 in
theorem spec_l9All.calls  (r : List (S84)) (w : World) (h : spec_l9All.f  = some r) :
    Calls Try.prog 88 #[] w fun e w' => ∃ v0_ : Value, e = .returned (v0_) ∧ Kd.R k84 84 w' w.heap.size (fun _ => True) v0_ r ∧ Below w.heap.size w w' := by
  have hu84 := Try.underlying84
  have HB := Aside0.mk (Below.refl w.heap.size w)
  have H : (some (([(⟨0, 0, 8, 8, 0, 0⟩ : S84), (⟨4, 0, 8, 8, 0, 0⟩ : S84), (⟨0, 4, 4, 8, 0, 0⟩ : S84), (⟨2, 0, 4, 4, 0, 0⟩ : S84), (⟨0, 2, 2, 4, 0, 0⟩ : S84), (⟨1, 0, 2, 2, 0, 0⟩ : S84), (⟨0, 1, 1, 2, 0, 0⟩ : S84)] : List (S84)))) = some r := h
  clear h
  obtain ⟨y224, hy224⟩ : ∃ y_ : List (S84), y_ = (([(⟨0, 0, 8, 8, 0, 0⟩ : S84), (⟨4, 0, 8, 8, 0, 0⟩ : S84), (⟨0, 4, 4, 8, 0, 0⟩ : S84), (⟨2, 0, 4, 4, 0, 0⟩ : S84), (⟨0, 2, 2, 4, 0, 0⟩ : S84), (⟨1, 0, 2, 2, 0, 0⟩ : S84), (⟨0, 1, 1, 2, 0, 0⟩ : S84)] : List (S84))) := ⟨_, rfl⟩
  replace H : (some y224) = some r := by first | (rw [hy224]; with_reducible exact H) | (have H2_ := (Option.bind_some _ _).symm.trans H; rw [hy224]; with_reducible exact H2_) | (have H2_ := (Option.bind_some _ _).symm.trans H; with_reducible exact H2_) | with_reducible exact H | (rw [hy224]; exact H) | exact H
  have Ny224 := Aside0.mk hy224
  clear hy224
  obtain rfl := Option.some.inj H
  go_enter Try.func88, Try.ntmps88
  go_wp2_with (first | ((with_reducible refine gate_dst (N := 8) rfl ?_); refine Kd.R_lit k84 _ 84 ?hg (N := 8) ?hd (xs := ([(⟨0, 0, 8, 8, 0, 0⟩ : S84), (⟨4, 0, 8, 8, 0, 0⟩ : S84), (⟨0, 4, 4, 8, 0, 0⟩ : S84), (⟨2, 0, 4, 4, 0, 0⟩ : S84), (⟨0, 2, 2, 4, 0, 0⟩ : S84), (⟨1, 0, 2, 2, 0, 0⟩ : S84), (⟨0, 1, 1, 2, 0, 0⟩ : S84)] : List (S84))) (inner := [.int .i64 0, .int .i64 0, .int .i64 8, .int .i64 8, .int .i64 0, .int .i64 0, .int .i64 4, .int .i64 0, .int .i64 8, .int .i64 8, .int .i64 0, .int .i64 0, .int .i64 0, .int .i64 4, .int .i64 4, .int .i64 8, .int .i64 0, .int .i64 0, .int .i64 2, .int .i64 0, .int .i64 4, .int .i64 4, .int .i64 0, .int .i64 0, .int .i64 0, .int .i64 2, .int .i64 2, .int .i64 4, .int .i64 0, .int .i64 0, .int .i64 1, .int .i64 0, .int .i64 2, .int .i64 2, .int .i64 0, .int .i64 0, .int .i64 0, .int .i64 1, .int .i64 1, .int .i64 2, .int .i64 0, .int .i64 0]) (ok := fun _ => True) (okp := fun _ => True) ?hr ?hp (fun _ hk => hk) trivial (Below.refl _ _) (Nat.le_refl _) (by simp) ?_; (case hd => rfl); (case hg => rfl); (case hr => first | (go_simp; done) | (go_simp; rfl)); (case hp => exact (Reps.c6 (show Kd.M k84 _ _ _ (⟨0, 0, 8, 8, 0, 0⟩ : S84) [.int .i64 0, .int .i64 0, .int .i64 8, .int .i64 8, .int .i64 0, .int .i64 0] from (k84_mkM _ _ _ (⟨0, 0, 8, 8, 0, 0⟩ : S84) )) (Reps.c6 (show Kd.M k84 _ _ _ (⟨4, 0, 8, 8, 0, 0⟩ : S84) [.int .i64 4, .int .i64 0, .int .i64 8, .int .i64 8, .int .i64 0, .int .i64 0] from (k84_mkM _ _ _ (⟨4, 0, 8, 8, 0, 0⟩ : S84) )) (Reps.c6 (show Kd.M k84 _ _ _ (⟨0, 4, 4, 8, 0, 0⟩ : S84) [.int .i64 0, .int .i64 4, .int .i64 4, .int .i64 8, .int .i64 0, .int .i64 0] from (k84_mkM _ _ _ (⟨0, 4, 4, 8, 0, 0⟩ : S84) )) (Reps.c6 (show Kd.M k84 _ _ _ (⟨2, 0, 4, 4, 0, 0⟩ : S84) [.int .i64 2, .int .i64 0, .int .i64 4, .int .i64 4, .int .i64 0, .int .i64 0] from (k84_mkM _ _ _ (⟨2, 0, 4, 4, 0, 0⟩ : S84) )) (Reps.c6 (show Kd.M k84 _ _ _ (⟨0, 2, 2, 4, 0, 0⟩ : S84) [.int .i64 0, .int .i64 2, .int .i64 2, .int .i64 4, .int .i64 0, .int .i64 0] from (k84_mkM _ _ _ (⟨0, 2, 2, 4, 0, 0⟩ : S84) )) (Reps.c6 (show Kd.M k84 _ _ _ (⟨1, 0, 2, 2, 0, 0⟩ : S84) [.int .i64 1, .int .i64 0, .int .i64 2, .int .i64 2, .int .i64 0, .int .i64 0] from (k84_mkM _ _ _ (⟨1, 0, 2, 2, 0, 0⟩ : S84) )) (Reps.c6 (show Kd.M k84 _ _ _ (⟨0, 1, 1, 2, 0, 0⟩ : S84) [.int .i64 0, .int .i64 1, .int .i64 1, .int .i64 2, .int .i64 0, .int .i64 0] from (k84_mkM _ _ _ (⟨0, 1, 1, 2, 0, 0⟩ : S84) )) (Reps.none _ _))))))))); intro v225 w1 ho2 hb hg_ hnew_; clear hg_ hnew_; (first | rw [← Ny224.out] at ho2 | (simp only [Int.reduceToNat] at ho2; rw [← Ny224.out] at ho2)); have n0_ := Aside0.mk (Kd.R_lower ho2 (below_size (by repeat (first | (with_reducible first | exact HB.out | apply below_alloc | apply pw_below_drewN | apply below_drew1) | exact HB.out)))); have n1_ := Aside0.mk (below_step (by repeat (first | (with_reducible first | exact HB.out | apply below_alloc | apply pw_below_drewN | apply below_drew1) | exact HB.out)) hb); clear HB; have HO226 := n0_; have HB := n1_; clear n0_ n1_; clear hb ho2))
  go_ret
  exact ⟨_, by first | rfl | (simp [errW_none, errW_some] <;> rfl) | (simp [*, errW_none, errW_some] <;> rfl), by (with_reducible repeat (first | apply Kd.R_alloc | apply Kd.R_drewN | apply Kd.R_drew)); exact HO226.out, by repeat (first | (with_reducible first | exact HB.out | apply below_alloc | apply pw_below_drewN | apply below_drew1) | exact HB.out)⟩

end Go.Proofs.Yteikopjhekhchaa.P
