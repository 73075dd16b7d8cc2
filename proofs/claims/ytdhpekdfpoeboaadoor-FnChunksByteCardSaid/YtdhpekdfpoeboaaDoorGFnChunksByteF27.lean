-- Several texts of this session in one (wip/merge.py).
import Derived.Test.YtdhpekdfpoeboaaDoorGFnChunksByte0
import Derived.Test.YtdhpekdfpoeboaaDoorGFnChunksByte1
import Derived.Test.YtdhpekdfpoeboaaDoorGFnChunksByte2
import Derived.Test.YtdhpekdfpoeboaaDoorGFnChunksByteF42
-- Written by a program of this session (wip/myprint.py) through the print of the kit: not trusted, Lean checks it.
namespace Go.Proofs.YtdhpekdfpoeboaaDoor.P
open Go.RowKit Go.Proofs.YtdhpekdfpoeboaaDoorW.PrintWords Go.Proofs.YtdhpekdfpoeboaaDoorW.PrintLast Go.Proofs.YtdhpekdfpoeboaaDoorW.PrintMore
attribute [local go_sem] max2_int min2_int max_two min_two max_three min_three max_four min_four   -- for this text's walks alone
set_option linter.unusedVariables false
set_option linter.unusedSimpArgs false

/-! ### spec_l9Split: function 27 -/
mutual
def spec_l9Split.j0 : Nat → ByteArray → List (S41) → Bool → Option ((List (S41)) × Bool)
  | 0, _, _, _ => none
  | k + 1, x0, x4, x17 => if x17 = true then (some (x4, false)) else (spec_l9Split.l0 k x0 x4 8)
def spec_l9Split.l0 : Nat → ByteArray → List (S41) → Int → Option ((List (S41)) × Bool)
  | 0, _, _, _ => none
  | k + 1, x0, x4, x5 => if x5 < (x0.size : Int) then ((spec_l1Field.f k x0 x5 4 true).bind fun t264 => (if (wrap64 (x5 + 12)) > (x0.size : Int) then (spec_l9Split.j2 k x0 x4 x5 t264 true) else (if t264 > (wrap64 ((wrap64 ((x0.size : Int) - x5)) - 12)) then (spec_l9Split.j2 k x0 x4 x5 t264 true) else (if 0 ≤ (wrap64 (x5 + 4)) then (if (wrap64 (x5 + 4)) ≤ (wrap64 (x5 + 8)) then (if (wrap64 (x5 + 8)) ≤ (x0.size : Int) then ((spec_l9Name.f k (x0.extract ((wrap64 (x5 + 4)) : Int).toNat ((wrap64 (x5 + 8)) : Int).toNat)).bind fun t265 => (spec_l9Split.j2 k x0 x4 x5 t264 (!t265))) else (none)) else (none)) else (none))))) else (some (x4, true))
def spec_l9Split.j2 : Nat → ByteArray → List (S41) → Int → Int → Bool → Option ((List (S41)) × Bool)
  | 0, _, _, _, _, _ => none
  | k + 1, x0, x4, x5, x6, x49 => if x49 = true then (some (x4, false)) else (if 0 ≤ (wrap64 (x5 + 4)) then (if (wrap64 (x5 + 4)) ≤ (wrap64 ((wrap64 (x5 + 8)) + x6)) then (if (wrap64 ((wrap64 (x5 + 8)) + x6)) ≤ (x0.size : Int) then ((spec_Crc32.f k (x0.extract ((wrap64 (x5 + 4)) : Int).toNat ((wrap64 ((wrap64 (x5 + 8)) + x6)) : Int).toNat)).bind fun t266 => ((spec_l1Field.f k x0 (wrap64 ((wrap64 (x5 + 8)) + x6)) 4 true).bind fun t267 => (if t266 = t267 then (if 0 ≤ 4 then (if 4 ≤ ((x0.extract ((wrap64 (x5 + 4)) : Int).toNat ((wrap64 ((wrap64 (x5 + 8)) + x6)) : Int).toNat).size : Int) then (if x4.length < 4398046511104 then (spec_l9Split.l0 k x0 (x4 ++ [(⟨(x0.extract ((wrap64 (x5 + 4)) : Int).toNat ((wrap64 ((wrap64 (x5 + 8)) + x6)) : Int).toNat).extract 0 4, (x0.extract ((wrap64 (x5 + 4)) : Int).toNat ((wrap64 ((wrap64 (x5 + 8)) + x6)) : Int).toNat).extract 4 (x0.extract ((wrap64 (x5 + 4)) : Int).toNat ((wrap64 ((wrap64 (x5 + 8)) + x6)) : Int).toNat).size⟩ : S41)]) (wrap64 ((wrap64 (x5 + 12)) + x6))) else (none)) else (none)) else (none)) else (some (x4, false))))) else (none)) else (none)) else (none))
end
def spec_l9Split.f (k : Nat) (a0 : ByteArray) : Option ((List (S41)) × Bool) := (some (([] : List (S41)) : List (S41))).bind fun y260 => (if (a0.size : Int) < 8 then (spec_l9Split.j0 k a0 y260 true) else (if 0 ≤ 8 then (if 8 ≤ (a0.size : Int) then ((spec_l9Sign.f).bind fun t263 => (spec_l9Split.j0 k a0 y260 ((a0.extract 0 8).toList != t263.toList))) else (none)) else (none)))
theorem spec_l9Split.mono_l : ∀ k, (∀ y0 y1 y2, LeO (spec_l9Split.j0 k y0 y1 y2) (spec_l9Split.j0 (k + 1) y0 y1 y2)) ∧ (∀ y0 y1 y2, LeO (spec_l9Split.l0 k y0 y1 y2) (spec_l9Split.l0 (k + 1) y0 y1 y2)) ∧ (∀ y0 y1 y2 y3 y4, LeO (spec_l9Split.j2 k y0 y1 y2 y3 y4) (spec_l9Split.j2 (k + 1) y0 y1 y2 y3 y4))
  | 0 => ⟨fun _ _ _ r h => by simp [spec_l9Split.j0] at h, fun _ _ _ r h => by simp [spec_l9Split.l0] at h, fun _ _ _ _ _ r h => by simp [spec_l9Split.j2] at h⟩
  | k + 1 => by
    obtain ⟨ih0, ih1, ih2⟩ := spec_l9Split.mono_l k
    refine ⟨?_, ?_, ?_⟩
    · intro y0 y1 y2
      unfold spec_l9Split.j0
      repeat' first
      | (with_reducible exact ih0 _ _ _)
      | (with_reducible exact ih1 _ _ _)
      | (with_reducible exact ih2 _ _ _ _ _)
      | (with_reducible exact spec_Crc32.mono _ _)
      | (with_reducible exact spec_l1Field.mono _ _ _ _ _)
      | (with_reducible exact spec_l9Name.mono _ _)
      | (with_reducible exact LeO.refl _)
      | (with_reducible exact LeO.none _)
      | (with_reducible refine LeO.ite ?_ ?_)
      | (with_reducible refine LeO.bind ?_ (fun _ => ?_))
      | exact ih0 _ _ _
      | exact ih1 _ _ _
      | exact ih2 _ _ _ _ _
      | exact spec_Crc32.mono _ _
      | exact spec_l1Field.mono _ _ _ _ _
      | exact spec_l9Name.mono _ _
      | exact LeO.none _
      | refine LeO.ite ?_ ?_
      | refine LeO.bind ?_ (fun _ => ?_)
    · intro y0 y1 y2
      unfold spec_l9Split.l0
      repeat' first
      | (with_reducible exact ih0 _ _ _)
      | (with_reducible exact ih1 _ _ _)
      | (with_reducible exact ih2 _ _ _ _ _)
      | (with_reducible exact spec_Crc32.mono _ _)
      | (with_reducible exact spec_l1Field.mono _ _ _ _ _)
      | (with_reducible exact spec_l9Name.mono _ _)
      | (with_reducible exact LeO.refl _)
      | (with_reducible exact LeO.none _)
      | (with_reducible refine LeO.ite ?_ ?_)
      | (with_reducible refine LeO.bind ?_ (fun _ => ?_))
      | exact ih0 _ _ _
      | exact ih1 _ _ _
      | exact ih2 _ _ _ _ _
      | exact spec_Crc32.mono _ _
      | exact spec_l1Field.mono _ _ _ _ _
      | exact spec_l9Name.mono _ _
      | exact LeO.none _
      | refine LeO.ite ?_ ?_
      | refine LeO.bind ?_ (fun _ => ?_)
    · intro y0 y1 y2 y3 y4
      unfold spec_l9Split.j2
      repeat' first
      | (with_reducible exact ih0 _ _ _)
      | (with_reducible exact ih1 _ _ _)
      | (with_reducible exact ih2 _ _ _ _ _)
      | (with_reducible exact spec_Crc32.mono _ _)
      | (with_reducible exact spec_l1Field.mono _ _ _ _ _)
      | (with_reducible exact spec_l9Name.mono _ _)
      | (with_reducible exact LeO.refl _)
      | (with_reducible exact LeO.none _)
      | (with_reducible refine LeO.ite ?_ ?_)
      | (with_reducible refine LeO.bind ?_ (fun _ => ?_))
      | exact ih0 _ _ _
      | exact ih1 _ _ _
      | exact ih2 _ _ _ _ _
      | exact spec_Crc32.mono _ _
      | exact spec_l1Field.mono _ _ _ _ _
      | exact spec_l9Name.mono _ _
      | exact LeO.none _
      | refine LeO.ite ?_ ?_
      | refine LeO.bind ?_ (fun _ => ?_)
theorem spec_l9Split.mono : ∀ a0 k, LeO (spec_l9Split.f k a0) (spec_l9Split.f (k + 1) a0) := by
  intro a0 k
  obtain ⟨ih0, ih1, ih2⟩ := spec_l9Split.mono_l k
  unfold spec_l9Split.f
  repeat' first
      | (with_reducible exact ih0 _ _ _)
      | (with_reducible exact ih1 _ _ _)
      | (with_reducible exact ih2 _ _ _ _ _)
      | (with_reducible exact spec_Crc32.mono _ _)
      | (with_reducible exact spec_l1Field.mono _ _ _ _ _)
      | (with_reducible exact spec_l9Name.mono _ _)
      | (with_reducible exact LeO.refl _)
      | (with_reducible exact LeO.none _)
      | (with_reducible refine LeO.ite ?_ ?_)
      | (with_reducible refine LeO.bind ?_ (fun _ => ?_))
      | exact ih0 _ _ _
      | exact ih1 _ _ _
      | exact ih2 _ _ _ _ _
      | exact spec_Crc32.mono _ _
      | exact spec_l1Field.mono _ _ _ _ _
      | exact spec_l9Name.mono _ _
      | exact LeO.none _
      | refine LeO.ite ?_ ?_
      | refine LeO.bind ?_ (fun _ => ?_)
def spec_l9Split.T2 : Bool × List (List Nat × List Nat) := (true, [([], []), ([0], [0]), ([1], [1]), ([2], [2]), ([3], [3]), ([4, 3], [3, 4]), ([3, 3], [3]), ([5, 6, 3], [3, 5, 6]), ([3, 7], [3, 7])])
def spec_l9Split.B2 : List Nat := [0, 1, 3, 7, 15, 31, 15, 127, 255]
theorem spec_l9Split.tab2 : rtab .any (opsOf Tryd.f27 2) = spec_l9Split.T2 := by kernel_rfl
theorem spec_l9Split.bits2 : waitsOk spec_l9Split.T2.2 spec_l9Split.B2 = true := by kernel_rfl
def spec_l9Split.T12 : Bool × List (List Nat × List Nat) := (true, [([], []), ([], []), ([1], [1]), ([], []), ([3], [3]), ([2, 4], [2, 4]), ([5], [5]), ([0, 6], [0, 6]), ([7, 7, 0, 1, 2, 3, 4, 5, 6, 7], [0, 7])])
def spec_l9Split.B12 : List Nat := [0, 0, 2, 0, 8, 30, 62, 127, 255]
theorem spec_l9Split.tab12 : rtab .any (opsOf Tryd.f27 12) = spec_l9Split.T12 := by kernel_rfl
theorem spec_l9Split.bits12 : waitsOk spec_l9Split.T12.2 spec_l9Split.B12 = true := by kernel_rfl
set_option maxHeartbeats 8000000 in
set_option maxRecDepth 100000 in
theorem spec_l9Split.calls (k : Nat) (a0 : ByteArray) (r1 : List (S41)) (r2 : Bool) (w : World) (h : spec_l9Split.f k a0 = some (r1, r2)) :
    Calls Tryd.prog 27 #[.string a0] w fun e w' => ∃ v0_ : Value, e = .returned (.tuple #[v0_, .bool r2]) ∧ Kd.R k41 41 w' w.heap.size (fun _ => True) v0_ r1 ∧ Below w.heap.size w w' := by
  have hu41 := Tryd.underlying41
  have HB := Aside0.mk (Below.refl w.heap.size w)
  have H : ((some (([] : List (S41)) : List (S41))).bind fun y260 => (if (a0.size : Int) < 8 then (spec_l9Split.j0 k a0 y260 true) else (if 0 ≤ 8 then (if 8 ≤ (a0.size : Int) then ((spec_l9Sign.f).bind fun t263 => (spec_l9Split.j0 k a0 y260 ((a0.extract 0 8).toList != t263.toList))) else (none)) else (none)))) = some (r1, r2) := h
  clear h
  obtain ⟨y260, hy260⟩ : ∃ y_ : List (S41), y_ = (([] : List (S41))) := ⟨_, rfl⟩
  replace H : (if (a0.size : Int) < 8 then (spec_l9Split.j0 k a0 y260 true) else (if 0 ≤ 8 then (if 8 ≤ (a0.size : Int) then ((spec_l9Sign.f).bind fun t263 => (spec_l9Split.j0 k a0 y260 ((a0.extract 0 8).toList != t263.toList))) else (none)) else (none))) = some (r1, r2) := by first | (rw [hy260]; with_reducible exact H) | (have H2_ := (Option.bind_some _ _).symm.trans H; rw [hy260]; with_reducible exact H2_) | (have H2_ := (Option.bind_some _ _).symm.trans H; with_reducible exact H2_) | with_reducible exact H | (rw [hy260]; exact H) | exact H
  have Ny260 := Aside0.mk hy260
  clear hy260
  have HC2 := Aside0.mk H
  clear H
  go_enter Tryd.func27, Tryd.ntmps27
  go_upto_region 2 with (first | ((with_reducible refine gate_dst (N := 8) rfl ?_); (try (refine gate_guard (by rfl) ?_; dsimp only)); refine Kd.R_lit k41 _ 41 ?hg (N := 8) ?hd (xs := ([] : List (S41))) (inner := []) (ok := fun _ => True) (okp := fun _ => True) ?hr ?hp (fun _ hk => hk) trivial (Below.refl _ _) (Nat.le_refl _) (by simp) ?_; (case hd => rfl); (case hg => rfl); (case hr => first | (go_simp; done) | (go_simp; rfl)); (case hp => exact (Reps.none _ _)); intro v261 w3 ho4 hb hg_ hnew_; clear hg_ hnew_; (first | rw [← Ny260.out] at ho4 | (simp only [Int.reduceToNat] at ho4; rw [← Ny260.out] at ho4)); have n0_ := Aside0.mk (Kd.R_lower ho4 (below_size (by repeat (first | (with_reducible first | exact HB.out | apply below_alloc | apply pw_below_drewN | apply below_drew1) | exact HB.out)))); have n1_ := Aside0.mk (below_step (by repeat (first | (with_reducible first | exact HB.out | apply below_alloc | apply pw_below_drewN | apply below_drew1) | exact HB.out)) hb); clear HB; have HO262 := n0_; have HB := n1_; clear n0_ n1_; clear hb ho4))
  (try simp only [Act.put, List.setIfInBounds_toArray, List.set_cons_zero, List.set_cons_succ])
  go_cut [17] (fun v17 wc => ∃ (kq : Nat) (x17_1 : Bool), v17 = .bool x17_1 ∧ Aside0 (spec_l9Split.j0 kq a0 y260 x17_1 = some (r1, r2)) ∧ Aside0 (kq ≤ k) ∧ Aside0 (Kd.R k41 41 wc w.heap.size (fun _ => True) v261 y260) ∧ Aside0 (Below w.heap.size w wc))
  case first =>
    have H := HC2.out
    clear HC2
    by_cases c5 : (a0.size : Int) < 8
    · rw [if_pos c5] at H
      have c5b0 : decide ((a0.size : Int) < 8) = true := decide_eq_true c5
      have c5b1 : decide (a0.size < 8) = true := decide_eq_true (by omega)
      clear c5
      (first | rw [c5b0] | (simp only [i64_w, i32_w]; rw [c5b0]) | skip)
      have H' := Aside0.mk H
      clear H
      try go_wp2
      have n0_ := Aside0.mk (Kd.R_drew HO262.out)
      have n1_ := Aside0.mk (below_drew1 HB.out)
      clear HO262
      clear HB
      have HO262 := n0_
      have HB := n1_
      clear n0_ n1_
      refine start_ (n := 9) (S := fun w' => True) (ds := []) #[false, false, false, false, false, false, false, false, false] (by kernel_rfl) rfl rfl trivial (fun hHeld => ?_); refine with_tabW spec_l9Split.tab2 spec_l9Split.bits2 (fun HT_ HW_ => ?_)
      generalize w3.drew = w6 at HO262 HB hHeld ⊢
      refine pure_ (i := 0) (N := some 9) (v := ?_) (a' := ?_) #[true, false, false, false, false, false, false, false, false] rfl rfl (any_of HT_.out (by kernel_rfl)) (fun _ _ _ h => h) (Or.inl ⟨by rfl, ?_⟩) ?_ ?_
      rotate_left
      · intro w'
        go_simp
        with_reducible rfl
      rotate_left
      · simp only [Act.put, List.setIfInBounds_toArray, List.set_cons_zero, List.set_cons_succ, i64_w, i32_w]
        rfl
      refine pure_ (i := 1) (N := some 10) (v := ?_) (a' := ?_) #[true, true, false, false, false, false, false, false, false] rfl rfl (any_of HT_.out (by kernel_rfl)) (fun _ _ _ h => h) (Or.inl ⟨by rfl, ?_⟩) ?_ ?_
      rotate_left
      · intro w'
        go_simp
        with_reducible rfl
      rotate_left
      · simp only [Act.put, List.setIfInBounds_toArray, List.set_cons_zero, List.set_cons_succ, i64_w, i32_w]
        rfl
      refine pure_ (i := 2) (N := some 11) (v := ?_) (a' := ?_) #[true, true, true, false, false, false, false, false, false] rfl rfl (any_of HT_.out (by kernel_rfl)) (fun _ _ _ h => h) (Or.inl ⟨by rfl, ?_⟩) ?_ ?_
      rotate_left
      · intro w'
        go_simp
        with_reducible rfl
      rotate_left
      · simp only [Act.put, List.setIfInBounds_toArray, List.set_cons_zero, List.set_cons_succ, i64_w, i32_w]
        rfl
      refine pure_ (i := 3) (N := some 12) (v := ?_) (a' := ?_) #[true, true, true, true, false, false, false, false, false] rfl rfl (any_of HT_.out (by kernel_rfl)) (fun _ _ _ h => h) (Or.inl ⟨by rfl, ?_⟩) ?_ ?_
      rotate_left
      · intro w'
        go_simp
        with_reducible rfl
      rotate_left
      · simp only [Act.put, List.setIfInBounds_toArray, List.set_cons_zero, List.set_cons_succ, i64_w, i32_w]
        rfl
      refine pure_ (i := 4) (N := some 13) (v := undef) (a' := ?_) #[true, true, true, true, true, false, false, false, false] rfl rfl (any_of HT_.out (by kernel_rfl)) (fun _ _ _ h => h) (Or.inr ⟨by rfl, rfl⟩) ?_ ?_
      rotate_left
      · simp only [Act.put, List.setIfInBounds_toArray, List.set_cons_zero, List.set_cons_succ, i64_w, i32_w]
        rfl
      refine pure_ (i := 5) (N := some 14) (v := undef) (a' := ?_) #[true, true, true, true, true, true, false, false, false] rfl rfl (any_of HT_.out (by kernel_rfl)) (fun _ _ _ h => h) (Or.inr ⟨by rfl, rfl⟩) ?_ ?_
      rotate_left
      · simp only [Act.put, List.setIfInBounds_toArray, List.set_cons_zero, List.set_cons_succ, i64_w, i32_w]
        rfl
      refine pure_ (i := 6) (N := some 15) (v := undef) (a' := ?_) #[true, true, true, true, true, true, true, false, false] rfl rfl (any_of HT_.out (by kernel_rfl)) (fun _ _ _ h => h) (Or.inr ⟨by rfl, rfl⟩) ?_ ?_
      rotate_left
      · simp only [Act.put, List.setIfInBounds_toArray, List.set_cons_zero, List.set_cons_succ, i64_w, i32_w]
        rfl
      refine pure_ (i := 7) (N := some 16) (v := undef) (a' := ?_) #[true, true, true, true, true, true, true, true, false] rfl rfl (any_of HT_.out (by kernel_rfl)) (fun _ _ _ h => h) (Or.inr ⟨by rfl, rfl⟩) ?_ ?_
      rotate_left
      · simp only [Act.put, List.setIfInBounds_toArray, List.set_cons_zero, List.set_cons_succ, i64_w, i32_w]
        rfl
      refine pure_ (i := 8) (N := some 17) (v := ?_) (a' := ?_) #[true, true, true, true, true, true, true, true, true] rfl rfl (any_of HT_.out (by kernel_rfl)) (fun _ _ _ h => h) (Or.inl ⟨by rfl, ?_⟩) ?_ ?_
      rotate_left
      · intro w'
        go_simp
        with_reducible rfl
      rotate_left
      · simp only [Act.put, List.setIfInBounds_toArray, List.set_cons_zero, List.set_cons_succ, i64_w, i32_w]
        rfl
      refine done_ (done_of HT_.out (by kernel_rfl)) ?_
      try go_wp2
      go_meet
      case rel => exact ⟨_, (true), (by first | rfl | (simp; done) | (simp [*]; done)), H', ⟨by first | omega | exact Nat.le_refl _⟩, ⟨by (with_reducible repeat (first | apply Kd.R_alloc | apply Kd.R_drewN | apply Kd.R_drew)); exact HO262.out⟩, ⟨by repeat (first | (with_reducible first | exact HB.out | apply below_alloc | apply pw_below_drewN | apply below_drew1) | exact HB.out)⟩⟩
    · rw [if_neg c5] at H
      have c5b0 : decide ((a0.size : Int) < 8) = false := decide_eq_false c5
      have c5b1 : decide (a0.size < 8) = false := decide_eq_false (by omega)
      clear c5
      (first | rw [c5b0] | (simp only [i64_w, i32_w]; rw [c5b0]) | skip)
      by_cases c7 : 0 ≤ 8
      · rw [if_pos c7] at H
        have c7b0 := eq_true c7
        have c7b1 : decide (0 ≤ 8) = true := decide_eq_true c7
        clear c7
        by_cases c8 : 8 ≤ (a0.size : Int)
        · rw [if_pos c8] at H
          have c8b0 := eq_true c8
          have c8b1 : decide (8 ≤ (a0.size : Int)) = true := decide_eq_true c8
          clear c8
          replace H := Option.bind_eq_some_iff.mp H
          obtain ⟨t263, A90, H⟩ := H
          replace H : (spec_l9Split.j0 k a0 y260 ((a0.extract 0 8).toList != t263.toList)) = some (r1, r2) := H
          have A9 := Aside0.mk A90
          clear A90
          have H' := Aside0.mk H
          clear H
          try go_wp2
          have n0_ := Aside0.mk (Kd.R_drew HO262.out)
          have n1_ := Aside0.mk (below_drew1 HB.out)
          clear HO262
          clear HB
          have HO262 := n0_
          have HB := n1_
          clear n0_ n1_
          refine start_ (n := 9) (S := fun w' => True) (ds := []) #[false, false, false, false, false, false, false, false, false] (by kernel_rfl) rfl rfl trivial (fun hHeld => ?_); refine with_tabW spec_l9Split.tab2 spec_l9Split.bits2 (fun HT_ HW_ => ?_)
          generalize w3.drew = w10 at HO262 HB hHeld ⊢
          refine pure_ (i := 0) (N := some 9) (v := ?_) (a' := ?_) #[true, false, false, false, false, false, false, false, false] rfl rfl (any_of HT_.out (by kernel_rfl)) (fun _ _ _ h => h) (Or.inl ⟨by rfl, ?_⟩) ?_ ?_
          rotate_left
          · intro w'
            go_simp
            with_reducible rfl
          rotate_left
          · simp only [Act.put, List.setIfInBounds_toArray, List.set_cons_zero, List.set_cons_succ, i64_w, i32_w]
            rfl
          refine pure_ (i := 1) (N := some 10) (v := ?_) (a' := ?_) #[true, true, false, false, false, false, false, false, false] rfl rfl (any_of HT_.out (by kernel_rfl)) (fun _ _ _ h => h) (Or.inl ⟨by rfl, ?_⟩) ?_ ?_
          rotate_left
          · intro w'
            go_simp
            with_reducible rfl
          rotate_left
          · simp only [Act.put, List.setIfInBounds_toArray, List.set_cons_zero, List.set_cons_succ, i64_w, i32_w]
            rfl
          refine pure_ (i := 2) (N := some 11) (v := ?_) (a' := ?_) #[true, true, true, false, false, false, false, false, false] rfl rfl (any_of HT_.out (by kernel_rfl)) (fun _ _ _ h => h) (Or.inl ⟨by rfl, ?_⟩) ?_ ?_
          rotate_left
          · intro w'
            go_simp
            with_reducible rfl
          rotate_left
          · simp only [Act.put, List.setIfInBounds_toArray, List.set_cons_zero, List.set_cons_succ, i64_w, i32_w]
            rfl
          refine pure_ (i := 3) (N := some 12) (v := ?_) (a' := ?_) #[true, true, true, true, false, false, false, false, false] rfl rfl (any_of HT_.out (by kernel_rfl)) (fun _ _ _ h => h) (Or.inl ⟨by rfl, ?_⟩) ?_ ?_
          rotate_left
          · intro w'
            go_simp
            with_reducible rfl
          rotate_left
          · simp only [Act.put, List.setIfInBounds_toArray, List.set_cons_zero, List.set_cons_succ, i64_w, i32_w]
            rfl
          refine pure_ (i := 4) (N := some 13) (v := ?_) (a' := ?_) #[true, true, true, true, true, false, false, false, false] rfl rfl (any_of HT_.out (by kernel_rfl)) (fun _ _ _ h => h) (Or.inl ⟨by rfl, ?_⟩) ?_ ?_
          rotate_left
          · intro w'
            go_simp
            with_reducible rfl
          rotate_left
          · simp only [Act.put, List.setIfInBounds_toArray, List.set_cons_zero, List.set_cons_succ, i64_w, i32_w]
            rfl
          refine pure_ (i := 5) (N := some 14) (v := ?_) (a' := ?_) #[true, true, true, true, true, true, false, false, false] rfl rfl (any_of HT_.out (by kernel_rfl)) (fun _ _ _ h => h) (Or.inl ⟨by rfl, ?_⟩) ?_ ?_
          rotate_left
          · intro w'
            go_simp
            with_reducible rfl
          rotate_left
          · simp only [Act.put, List.setIfInBounds_toArray, List.set_cons_zero, List.set_cons_succ, i64_w, i32_w]
            rfl
          refine one_ (i := 6) (N := some 15) #[true, true, true, true, true, true, true, false, false] rfl rfl (one_of HT_.out (by kernel_rfl)) (by decide) (fun K hK => ?_)
          refine goes_ Tryd.func36 (by kernel_rfl) rfl #[] (by rfl) rfl rfl (by (try simp only [List.map_toArray, List.map_cons, List.map_nil]); first | done | rfl | (simp only [List.length_drop, List.length_take]; rfl)) ?_
          with_reducible refine (spec_l9Sign.calls  t263 _ A9.out).mono ?_
          rintro e w11 ⟨rfl, hb⟩
          refine ⟨_, rfl, ?_⟩
          have n0_ := Aside0.mk (Kd.R_below (by (with_reducible repeat (first | apply Kd.R_alloc | apply Kd.R_drewN | apply Kd.R_drew)); exact HO262.out) hb)
          have n1_ := Aside0.mk (below_step (by repeat (first | (with_reducible first | exact HB.out | apply below_alloc | apply pw_below_drewN | apply below_drew1) | exact HB.out)) hb)
          clear HO262
          clear HB
          have HO262 := n0_
          have HB := n1_
          clear n0_ n1_
          (try clear hb)
          (try clear hb2)
          (try clear hk)
          (try clear hi)
          refine hK.out _ _ trivial (fun hHeld => ?_)
          clear hK K
          refine norm_ (a' := ?_) ?_ ?_
          rotate_left
          · show Act.put _ (some 15) _ = _
            simp only [Act.put, List.setIfInBounds_toArray, List.set_cons_zero, List.set_cons_succ, i64_w, i32_w]
            rfl
          refine pure_ (i := 7) (N := some 16) (v := ?_) (a' := ?_) #[true, true, true, true, true, true, true, true, false] rfl rfl (any_of HT_.out (by kernel_rfl)) (fun _ _ _ h => h) (Or.inl ⟨by rfl, ?_⟩) ?_ ?_
          rotate_left
          · intro w'
            go_simp
            with_reducible rfl
          rotate_left
          · simp only [Act.put, List.setIfInBounds_toArray, List.set_cons_zero, List.set_cons_succ, i64_w, i32_w]
            rfl
          refine pure_ (i := 8) (N := some 17) (v := ?_) (a' := ?_) #[true, true, true, true, true, true, true, true, true] rfl rfl (any_of HT_.out (by kernel_rfl)) (fun _ _ _ h => h) (Or.inl ⟨by rfl, ?_⟩) ?_ ?_
          rotate_left
          · intro w'
            go_simp
            with_reducible rfl
          rotate_left
          · simp only [Act.put, List.setIfInBounds_toArray, List.set_cons_zero, List.set_cons_succ, i64_w, i32_w]
            rfl
          refine done_ (done_of HT_.out (by kernel_rfl)) ?_
          try go_wp2
          go_meet
          case rel => exact ⟨_, (((a0.extract 0 8).toList != t263.toList)), (by first | rfl | (simp; done) | (simp [*]; done)), H', ⟨by first | omega | exact Nat.le_refl _⟩, ⟨by (with_reducible repeat (first | apply Kd.R_alloc | apply Kd.R_drewN | apply Kd.R_drew)); exact HO262.out⟩, ⟨by repeat (first | (with_reducible first | exact HB.out | apply below_alloc | apply pw_below_drewN | apply below_drew1) | exact HB.out)⟩⟩
        · rw [if_neg c8] at H
          exact absurd H (by simp)
      · rw [if_neg c7] at H
        exact absurd H (by simp)
  case rest =>
    clear HC2
    try clear c2
    try clear p2
    try clear c3
    try clear c5
    try clear c5b0
    try clear c5b1
    try clear c7
    try clear c7b0
    try clear c7b1
    try clear c8
    try clear c8b0
    try clear c8b1
    obtain ⟨kq, x17_1, rfl, HA, HJ1, HO_4, HB⟩ := hcut
    cases kq with
    | zero => exact absurd HA.out (by simp [spec_l9Split.j0])
    | succ kj1 =>
      have H := HA.out
      clear HA
      simp only [spec_l9Split.j0] at H
      by_cases c12 : x17_1 = true
      · subst c12
        have H1 : (some (y260, false)) = some (r1, r2) := by rw [if_pos rfl] at H; exact H
        clear H
        have H := H1
        clear H1
        simp only [Option.some.injEq, Prod.mk.injEq] at H
        obtain ⟨rfl, rfl⟩ := H
        go_wp2
        go_ret2
        exact ⟨_, by first | rfl | (simp [errW_none, errW_some] <;> rfl) | (simp [*, errW_none, errW_some] <;> rfl), by (with_reducible repeat (first | apply Kd.R_alloc | apply Kd.R_drewN | apply Kd.R_drew)); exact HO_4.out, by repeat (first | (with_reducible first | exact HB.out | apply below_alloc | apply pw_below_drewN | apply below_drew1) | exact HB.out)⟩
      · replace c12 := Bool.eq_false_iff.mpr c12
        subst c12
        have H1 : (spec_l9Split.l0 kj1 a0 y260 8) = some (r1, r2) := by rw [if_neg (show ¬ (false = true) by decide)] at H; exact H
        clear H
        have H := H1
        clear H1
        have H' := Aside0.mk H
        clear H
        go_wp2
        go_loopg [4, 5] kj1 (fun kq v4 v5 w' => ∃ (x4_2 : List (S41)) (x5_2 : Int), v5 = .int .i64 x5_2 ∧ Aside0 (spec_l9Split.l0 kq a0 x4_2 x5_2 = some (r1, r2)) ∧ Aside0 (kq ≤ kj1) ∧ Aside0 (Kd.R k41 41 w' w.heap.size (fun _ => True) v4 x4_2) ∧ Aside0 (Below w.heap.size w w'))
        case atStart => exact ⟨(y260), (8), (by first | rfl | (simp; done) | (simp [*]; done)), H', ⟨Nat.le_refl _⟩, ⟨by (with_reducible repeat (first | apply Kd.R_alloc | apply Kd.R_drewN | apply Kd.R_drew)); exact HO_4.out⟩, ⟨by repeat (first | (with_reducible first | exact HB.out | apply below_alloc | apply pw_below_drewN | apply below_drew1) | exact HB.out)⟩⟩
        case round =>
          clear H'
          try clear c1
          try clear c2
          try clear p2
          try clear c3
          try clear c5
          try clear c5b0
          try clear c5b1
          try clear c7
          try clear c7b0
          try clear c7b1
          try clear c8
          try clear c8b0
          try clear c8b1
          try clear c12
          try clear p2
          obtain ⟨x4_2, x5_2, rfl, HA, HK2, HO_4, HB⟩ := hrel
          cases gk with
          | zero => exact absurd HA.out (by simp [spec_l9Split.l0])
          | succ k2 =>
            have H := HA.out
            clear HA
            simp only [spec_l9Split.l0] at H
            by_cases c13 : x5_2 < (a0.size : Int)
            · rw [if_pos c13] at H
              have c13b0 : decide (x5_2 < (a0.size : Int)) = true := decide_eq_true c13
              clear c13
              replace H := Option.bind_eq_some_iff.mp H
              obtain ⟨t264, A140, H⟩ := H
              replace H : (if (wrap64 (x5_2 + 12)) > (a0.size : Int) then (spec_l9Split.j2 k2 a0 x4_2 x5_2 t264 true) else (if t264 > (wrap64 ((wrap64 ((a0.size : Int) - x5_2)) - 12)) then (spec_l9Split.j2 k2 a0 x4_2 x5_2 t264 true) else (if 0 ≤ (wrap64 (x5_2 + 4)) then (if (wrap64 (x5_2 + 4)) ≤ (wrap64 (x5_2 + 8)) then (if (wrap64 (x5_2 + 8)) ≤ (a0.size : Int) then ((spec_l9Name.f k2 (a0.extract ((wrap64 (x5_2 + 4)) : Int).toNat ((wrap64 (x5_2 + 8)) : Int).toNat)).bind fun t265 => (spec_l9Split.j2 k2 a0 x4_2 x5_2 t264 (!t265))) else (none)) else (none)) else (none)))) = some (r1, r2) := H
              have A14 := Aside0.mk A140
              clear A140
              have HC15 := Aside0.mk H
              clear H
              go_upto_region 7 with (first | ((with_reducible refine gate_callee (f := 42) rfl ?_); refine goesL_ (some 25) rfl rfl Tryd.func42 (by kernel_rfl) rfl #[.string a0, .int .i64 x5_2, .int .i64 4, .bool true] rfl (by (try simp only [List.map_toArray, List.map_cons, List.map_nil]); first | done | rfl | (simp only [List.length_drop, List.length_take]; rfl)) ?_; (with_reducible refine (spec_l1Field.calls k2 a0 x5_2 4 true t264 _ A14.out).mono ?_); rintro e w' ⟨rfl, ⟨nd, rfl⟩⟩; refine ⟨_, rfl, ?_⟩))
              (try simp only [Act.put, List.setIfInBounds_toArray, List.set_cons_zero, List.set_cons_succ])
              go_cut [49] (fun v49 wc => ∃ (kq : Nat) (x49_14 : Bool), v49 = .bool x49_14 ∧ Aside0 (spec_l9Split.j2 kq a0 x4_2 x5_2 t264 x49_14 = some (r1, r2)) ∧ Aside0 (kq ≤ k2) ∧ Aside0 (Kd.R k41 41 wc w.heap.size (fun _ => True) u4 x4_2) ∧ Aside0 (Below w.heap.size w wc))
              case first =>
                have H := HC15.out
                clear HC15
                by_cases c16 : (wrap64 (x5_2 + 12)) > (a0.size : Int)
                · rw [if_pos c16] at H
                  have c16b0 : decide ((a0.size : Int) < (wrap64 (x5_2 + 12))) = true := decide_eq_true c16
                  clear c16
                  (first | rw [c16b0] | (simp only [i64_w, i32_w]; rw [c16b0]) | skip)
                  have H' := Aside0.mk H
                  clear H
                  go_wp2
                  go_meet
                  case rel => exact ⟨_, (true), (by first | rfl | (simp; done) | (simp [*]; done)), H', ⟨by have := HJ1.out; have := HK2.out; first | omega | exact Nat.le_refl _⟩, ⟨by (with_reducible repeat (first | apply Kd.R_alloc | apply Kd.R_drewN | apply Kd.R_drew)); exact HO_4.out⟩, ⟨by repeat (first | (with_reducible first | exact HB.out | apply below_alloc | apply pw_below_drewN | apply below_drew1) | exact HB.out)⟩⟩
                · rw [if_neg c16] at H
                  have c16b0 : decide ((a0.size : Int) < (wrap64 (x5_2 + 12))) = false := decide_eq_false c16
                  clear c16
                  (first | rw [c16b0] | (simp only [i64_w, i32_w]; rw [c16b0]) | skip)
                  by_cases c17 : t264 > (wrap64 ((wrap64 ((a0.size : Int) - x5_2)) - 12))
                  · rw [if_pos c17] at H
                    have c17b0 : decide ((wrap64 ((wrap64 ((a0.size : Int) - x5_2)) - 12)) < t264) = true := decide_eq_true c17
                    clear c17
                    have H' := Aside0.mk H
                    clear H
                    go_wp2
                    go_meet
                    case rel => exact ⟨_, (true), (by first | rfl | (simp; done) | (simp [*]; done)), H', ⟨by have := HJ1.out; have := HK2.out; first | omega | exact Nat.le_refl _⟩, ⟨by (with_reducible repeat (first | apply Kd.R_alloc | apply Kd.R_drewN | apply Kd.R_drew)); exact HO_4.out⟩, ⟨by repeat (first | (with_reducible first | exact HB.out | apply below_alloc | apply pw_below_drewN | apply below_drew1) | exact HB.out)⟩⟩
                  · rw [if_neg c17] at H
                    have c17b0 : decide ((wrap64 ((wrap64 ((a0.size : Int) - x5_2)) - 12)) < t264) = false := decide_eq_false c17
                    clear c17
                    obtain ⟨ji18, hji18⟩ : ∃ j_ : Int, (wrap64 (x5_2 + 4)) = j_ := ⟨_, rfl⟩
                    replace H : (if 0 ≤ (ji18) then (if (ji18) ≤ (wrap64 (x5_2 + 8)) then (if (wrap64 (x5_2 + 8)) ≤ (a0.size : Int) then ((spec_l9Name.f k2 (a0.extract ((ji18) : Int).toNat ((wrap64 (x5_2 + 8)) : Int).toNat)).bind fun t265 => (spec_l9Split.j2 k2 a0 x4_2 x5_2 t264 (!t265))) else (none)) else (none)) else (none)) = some (r1, r2) := by first | (rw [hji18] at H; exact H) | (simp only [hji18] at H ⊢; exact H)
                    have hji18w : (IntKind.i64.wrap (x5_2 + 4)) = ji18 := (i64_w _).trans hji18
                    by_cases c19 : 0 ≤ (ji18)
                    · rw [if_pos c19] at H
                      have c19b0 := eq_true c19
                      have c19b1 : decide (0 ≤ (ji18)) = true := decide_eq_true c19
                      clear c19
                      by_cases c20 : (ji18) ≤ (wrap64 (x5_2 + 8))
                      · rw [if_pos c20] at H
                        have c20b0 := eq_true c20
                        have c20b1 : decide ((ji18) ≤ (wrap64 (x5_2 + 8))) = true := decide_eq_true c20
                        by_cases c21 : (wrap64 (x5_2 + 8)) ≤ (a0.size : Int)
                        · rw [if_pos c21] at H
                          have c21b0 := eq_true c21
                          have c21b1 : decide ((wrap64 (x5_2 + 8)) ≤ (a0.size : Int)) = true := decide_eq_true c21
                          replace H := Option.bind_eq_some_iff.mp H
                          obtain ⟨t265, A220, H⟩ := H
                          replace H : (spec_l9Split.j2 k2 a0 x4_2 x5_2 t264 (!t265)) = some (r1, r2) := H
                          have A22 := Aside0.mk A220
                          clear A220
                          have H' := Aside0.mk H
                          clear H
                          go_wp2_with (first | (go_at_call 21; (with_reducible refine (spec_l9Name.calls k2 (a0.extract ((ji18) : Int).toNat ((wrap64 (x5_2 + 8)) : Int).toNat) t265 _ A22.out).mono ?_); rintro e w' ⟨rfl, ⟨nd, rfl⟩⟩))
                          go_meet
                          case rel => exact ⟨_, (!t265), (by first | rfl | (simp; done) | (simp [*]; done)), H', ⟨by have := HJ1.out; have := HK2.out; first | omega | exact Nat.le_refl _⟩, ⟨by (with_reducible repeat (first | apply Kd.R_alloc | apply Kd.R_drewN | apply Kd.R_drew)); exact HO_4.out⟩, ⟨by repeat (first | (with_reducible first | exact HB.out | apply below_alloc | apply pw_below_drewN | apply below_drew1) | exact HB.out)⟩⟩
                        · rw [if_neg c21] at H
                          exact absurd H (by simp)
                      · rw [if_neg c20] at H
                        exact absurd H (by simp)
                    · rw [if_neg c19] at H
                      exact absurd H (by simp)
              case rest =>
                clear HC15
                try clear c1
                try clear c2
                try clear p2
                try clear c3
                try clear c4
                try clear c5
                try clear c5b0
                try clear c5b1
                try clear p6
                try clear c7
                try clear c7b0
                try clear c7b1
                try clear c8
                try clear c8b0
                try clear c8b1
                try clear c12
                try clear c13
                try clear c13b0
                try clear c16
                try clear c16b0
                try clear c17
                try clear c17b0
                try clear c19
                try clear c19b0
                try clear c19b1
                try clear c20
                try clear c20b0
                try clear c20b1
                try clear c21
                try clear c21b0
                try clear c21b1
                try clear p2
                obtain ⟨kq, x49_14, rfl, HA, HJ14, HO_4, HB⟩ := hcut
                cases kq with
                | zero => exact absurd HA.out (by simp [spec_l9Split.j2])
                | succ kj14 =>
                  have H := HA.out
                  clear HA
                  simp only [spec_l9Split.j2] at H
                  by_cases c23 : x49_14 = true
                  · subst c23
                    have H1 : (some (x4_2, false)) = some (r1, r2) := by rw [if_pos rfl] at H; exact H
                    clear H
                    have H := H1
                    clear H1
                    simp only [Option.some.injEq, Prod.mk.injEq] at H
                    obtain ⟨rfl, rfl⟩ := H
                    go_wp2
                    go_ret2
                    exact ⟨_, by first | rfl | (simp [errW_none, errW_some] <;> rfl) | (simp [*, errW_none, errW_some] <;> rfl), by (with_reducible repeat (first | apply Kd.R_alloc | apply Kd.R_drewN | apply Kd.R_drew)); exact HO_4.out, by repeat (first | (with_reducible first | exact HB.out | apply below_alloc | apply pw_below_drewN | apply below_drew1) | exact HB.out)⟩
                  · replace c23 := Bool.eq_false_iff.mpr c23
                    subst c23
                    have H1 : (if 0 ≤ (wrap64 (x5_2 + 4)) then (if (wrap64 (x5_2 + 4)) ≤ (wrap64 ((wrap64 (x5_2 + 8)) + t264)) then (if (wrap64 ((wrap64 (x5_2 + 8)) + t264)) ≤ (a0.size : Int) then ((spec_Crc32.f kj14 (a0.extract ((wrap64 (x5_2 + 4)) : Int).toNat ((wrap64 ((wrap64 (x5_2 + 8)) + t264)) : Int).toNat)).bind fun t266 => ((spec_l1Field.f kj14 a0 (wrap64 ((wrap64 (x5_2 + 8)) + t264)) 4 true).bind fun t267 => (if t266 = t267 then (if 0 ≤ 4 then (if 4 ≤ ((a0.extract ((wrap64 (x5_2 + 4)) : Int).toNat ((wrap64 ((wrap64 (x5_2 + 8)) + t264)) : Int).toNat).size : Int) then (if x4_2.length < 4398046511104 then (spec_l9Split.l0 kj14 a0 (x4_2 ++ [(⟨(a0.extract ((wrap64 (x5_2 + 4)) : Int).toNat ((wrap64 ((wrap64 (x5_2 + 8)) + t264)) : Int).toNat).extract 0 4, (a0.extract ((wrap64 (x5_2 + 4)) : Int).toNat ((wrap64 ((wrap64 (x5_2 + 8)) + t264)) : Int).toNat).extract 4 (a0.extract ((wrap64 (x5_2 + 4)) : Int).toNat ((wrap64 ((wrap64 (x5_2 + 8)) + t264)) : Int).toNat).size⟩ : S41)]) (wrap64 ((wrap64 (x5_2 + 12)) + t264))) else (none)) else (none)) else (none)) else (some (x4_2, false))))) else (none)) else (none)) else (none)) = some (r1, r2) := by rw [if_neg (show ¬ (false = true) by decide)] at H; exact H
                    clear H
                    have H := H1
                    clear H1
                    obtain ⟨ji24, hji24⟩ : ∃ j_ : Int, (wrap64 (x5_2 + 4)) = j_ := ⟨_, rfl⟩
                    replace H : (if 0 ≤ (ji24) then (if (ji24) ≤ (wrap64 ((wrap64 (x5_2 + 8)) + t264)) then (if (wrap64 ((wrap64 (x5_2 + 8)) + t264)) ≤ (a0.size : Int) then ((spec_Crc32.f kj14 (a0.extract ((ji24) : Int).toNat ((wrap64 ((wrap64 (x5_2 + 8)) + t264)) : Int).toNat)).bind fun t266 => ((spec_l1Field.f kj14 a0 (wrap64 ((wrap64 (x5_2 + 8)) + t264)) 4 true).bind fun t267 => (if t266 = t267 then (if 0 ≤ 4 then (if 4 ≤ ((a0.extract ((ji24) : Int).toNat ((wrap64 ((wrap64 (x5_2 + 8)) + t264)) : Int).toNat).size : Int) then (if x4_2.length < 4398046511104 then (spec_l9Split.l0 kj14 a0 (x4_2 ++ [(⟨(a0.extract ((ji24) : Int).toNat ((wrap64 ((wrap64 (x5_2 + 8)) + t264)) : Int).toNat).extract 0 4, (a0.extract ((ji24) : Int).toNat ((wrap64 ((wrap64 (x5_2 + 8)) + t264)) : Int).toNat).extract 4 (a0.extract ((ji24) : Int).toNat ((wrap64 ((wrap64 (x5_2 + 8)) + t264)) : Int).toNat).size⟩ : S41)]) (wrap64 ((wrap64 (x5_2 + 12)) + t264))) else (none)) else (none)) else (none)) else (some (x4_2, false))))) else (none)) else (none)) else (none)) = some (r1, r2) := by first | (rw [hji24] at H; exact H) | (simp only [hji24] at H ⊢; exact H)
                    have hji24w : (IntKind.i64.wrap (x5_2 + 4)) = ji24 := (i64_w _).trans hji24
                    by_cases c25 : 0 ≤ (ji24)
                    · rw [if_pos c25] at H
                      have c25b0 := eq_true c25
                      have c25b1 : decide (0 ≤ (ji24)) = true := decide_eq_true c25
                      clear c25
                      by_cases c26 : (ji24) ≤ (wrap64 ((wrap64 (x5_2 + 8)) + t264))
                      · rw [if_pos c26] at H
                        have c26b0 := eq_true c26
                        have c26b1 : decide ((ji24) ≤ (wrap64 ((wrap64 (x5_2 + 8)) + t264))) = true := decide_eq_true c26
                        by_cases c27 : (wrap64 ((wrap64 (x5_2 + 8)) + t264)) ≤ (a0.size : Int)
                        · rw [if_pos c27] at H
                          have c27b0 := eq_true c27
                          have c27b1 : decide ((wrap64 ((wrap64 (x5_2 + 8)) + t264)) ≤ (a0.size : Int)) = true := decide_eq_true c27
                          replace H := Option.bind_eq_some_iff.mp H
                          obtain ⟨t266, A280, H⟩ := H
                          replace H : ((spec_l1Field.f kj14 a0 (wrap64 ((wrap64 (x5_2 + 8)) + t264)) 4 true).bind fun t267 => (if t266 = t267 then (if 0 ≤ 4 then (if 4 ≤ ((a0.extract ((ji24) : Int).toNat ((wrap64 ((wrap64 (x5_2 + 8)) + t264)) : Int).toNat).size : Int) then (if x4_2.length < 4398046511104 then (spec_l9Split.l0 kj14 a0 (x4_2 ++ [(⟨(a0.extract ((ji24) : Int).toNat ((wrap64 ((wrap64 (x5_2 + 8)) + t264)) : Int).toNat).extract 0 4, (a0.extract ((ji24) : Int).toNat ((wrap64 ((wrap64 (x5_2 + 8)) + t264)) : Int).toNat).extract 4 (a0.extract ((ji24) : Int).toNat ((wrap64 ((wrap64 (x5_2 + 8)) + t264)) : Int).toNat).size⟩ : S41)]) (wrap64 ((wrap64 (x5_2 + 12)) + t264))) else (none)) else (none)) else (none)) else (some (x4_2, false)))) = some (r1, r2) := H
                          have A28 := Aside0.mk A280
                          clear A280
                          replace H := Option.bind_eq_some_iff.mp H
                          obtain ⟨t267, A290, H⟩ := H
                          replace H : (if t266 = t267 then (if 0 ≤ 4 then (if 4 ≤ ((a0.extract ((ji24) : Int).toNat ((wrap64 ((wrap64 (x5_2 + 8)) + t264)) : Int).toNat).size : Int) then (if x4_2.length < 4398046511104 then (spec_l9Split.l0 kj14 a0 (x4_2 ++ [(⟨(a0.extract ((ji24) : Int).toNat ((wrap64 ((wrap64 (x5_2 + 8)) + t264)) : Int).toNat).extract 0 4, (a0.extract ((ji24) : Int).toNat ((wrap64 ((wrap64 (x5_2 + 8)) + t264)) : Int).toNat).extract 4 (a0.extract ((ji24) : Int).toNat ((wrap64 ((wrap64 (x5_2 + 8)) + t264)) : Int).toNat).size⟩ : S41)]) (wrap64 ((wrap64 (x5_2 + 12)) + t264))) else (none)) else (none)) else (none)) else (some (x4_2, false))) = some (r1, r2) := H
                          have A29 := Aside0.mk A290
                          clear A290
                          by_cases c30 : t266 = t267
                          · rw [if_pos c30] at H
                            have c30b0 : (t266 == t267) = true := beq_iff_eq.mpr c30
                            have c30b1 : (t266 != t267) = false := bne_eq_false_iff_eq.mpr c30
                            clear c30
                            by_cases c31 : 0 ≤ 4
                            · rw [if_pos c31] at H
                              have c31b0 := eq_true c31
                              have c31b1 : decide (0 ≤ 4) = true := decide_eq_true c31
                              clear c31
                              by_cases c32 : 4 ≤ ((a0.extract ((ji24) : Int).toNat ((wrap64 ((wrap64 (x5_2 + 8)) + t264)) : Int).toNat).size : Int)
                              · rw [if_pos c32] at H
                                have c32b0 := eq_true c32
                                have c32b1 : decide (4 ≤ ((a0.extract ((ji24) : Int).toNat ((wrap64 ((wrap64 (x5_2 + 8)) + t264)) : Int).toNat).size : Int)) = true := decide_eq_true c32
                                have c32b3 : (4 ≤ ((((wrap64 ((wrap64 (x5_2 + 8)) + t264))).toNat - (ji24).toNat : Nat) : Int)) = True := eq_true (by have h_ := c32; rw [ByteArray.size_extract] at h_; omega)
                                have c33b0 := eq_true (of_decide_eq_true (by first | (with_reducible assumption) | assumption) : 4 ≤ ((a0.extract ((ji24) : Int).toNat ((wrap64 ((wrap64 (x5_2 + 8)) + t264)) : Int).toNat).size : Int))
                                by_cases c34 : x4_2.length < 4398046511104
                                · rw [if_pos c34] at H
                                  have LMc34 := Aside0.mk c34
                                  clear c34
                                  obtain ⟨y268, hy268⟩ : ∃ y_ : List (S41), y_ = (x4_2 ++ [(⟨(a0.extract ((ji24) : Int).toNat ((wrap64 ((wrap64 (x5_2 + 8)) + t264)) : Int).toNat).extract 0 4, (a0.extract ((ji24) : Int).toNat ((wrap64 ((wrap64 (x5_2 + 8)) + t264)) : Int).toNat).extract 4 (a0.extract ((ji24) : Int).toNat ((wrap64 ((wrap64 (x5_2 + 8)) + t264)) : Int).toNat).size⟩ : S41)]) := ⟨_, rfl⟩
                                  replace H : (spec_l9Split.l0 kj14 a0 y268 (wrap64 ((wrap64 (x5_2 + 12)) + t264))) = some (r1, r2) := by first | (rw [hy268]; with_reducible exact H) | (have H2_ := (Option.bind_some _ _).symm.trans H; rw [hy268]; with_reducible exact H2_) | (have H2_ := (Option.bind_some _ _).symm.trans H; with_reducible exact H2_) | with_reducible exact H | (rw [hy268]; exact H) | exact H
                                  have Ny268 := Aside0.mk hy268
                                  clear hy268
                                  have H' := Aside0.mk H
                                  clear H
                                  try go_wp2_with (first | ((with_reducible refine gate_callee (f := 38) rfl ?_); refine goesL_ (some 60) rfl rfl Tryd.func38 (by kernel_rfl) rfl #[.string (a0.extract ((ji24) : Int).toNat ((wrap64 ((wrap64 (x5_2 + 8)) + t264)) : Int).toNat)] rfl (by (try simp only [List.map_toArray, List.map_cons, List.map_nil]); first | done | (simp only [hji24]; rfl) | rfl | (simp only [List.length_drop, List.length_take]; rfl)) ?_; (with_reducible refine (spec_Crc32.calls kj14 (a0.extract ((ji24) : Int).toNat ((wrap64 ((wrap64 (x5_2 + 8)) + t264)) : Int).toNat) t266 _ A28.out).mono ?_); rintro e w' ⟨rfl, ⟨nd, rfl⟩⟩; refine ⟨_, rfl, ?_⟩) | ((with_reducible refine gate_callee (f := 42) rfl ?_); refine goesL_ (some 66) rfl rfl Tryd.func42 (by kernel_rfl) rfl #[.string a0, .int .i64 (wrap64 ((wrap64 (x5_2 + 8)) + t264)), .int .i64 4, .bool true] rfl (by (try simp only [List.map_toArray, List.map_cons, List.map_nil]); first | done | rfl | (simp only [List.length_drop, List.length_take]; rfl)) ?_; (with_reducible refine (spec_l1Field.calls kj14 a0 (wrap64 ((wrap64 (x5_2 + 8)) + t264)) 4 true t267 _ A29.out).mono ?_); rintro e w' ⟨rfl, ⟨nd, rfl⟩⟩; refine ⟨_, rfl, ?_⟩))
                                  (try (rw [drewN_self wc]; generalize hq_ : World.drewN wc _ = wc; have n0_ : Aside0 (Kd.R k41 41 wc w.heap.size (fun _ => True) u4 x4_2) := ⟨by rw [← hq_]; exact (by (with_reducible repeat (first | apply Kd.R_alloc | apply Kd.R_drewN | apply Kd.R_drew)); exact HO_4.out)⟩; have n1_ : Aside0 (Below w.heap.size w wc) := ⟨by rw [← hq_]; exact (by repeat (first | (with_reducible first | exact HB.out | apply below_alloc | apply pw_below_drewN | apply below_drew1) | exact HB.out))⟩; clear HO_4 HB hq_; have HO_4 := n0_; have HB := n1_; clear n0_ n1_))
                                  have n0_ := Aside0.mk (Kd.R_drew HO_4.out)
                                  have n1_ := Aside0.mk (below_drew1 HB.out)
                                  clear HO_4
                                  clear HB
                                  have HO_4 := n0_
                                  have HB := n1_
                                  clear n0_ n1_
                                  refine start_ (n := 9) (S := fun w' => True) (ds := []) #[false, false, false, false, false, false, false, false, false] (by kernel_rfl) rfl rfl trivial (fun hHeld => ?_); refine with_tabW spec_l9Split.tab12 spec_l9Split.bits12 (fun HT_ HW_ => ?_)
                                  generalize wc.drew = w35 at HO_4 HB hHeld ⊢
                                  refine pure_ (i := 0) (N := some 69) (v := ?_) (a' := ?_) #[true, false, false, false, false, false, false, false, false] rfl rfl (any_of HT_.out (by kernel_rfl)) (fun _ _ _ h => h) (Or.inl ⟨by rfl, ?_⟩) ?_ ?_
                                  rotate_left
                                  · intro w'
                                    go_simp
                                    with_reducible rfl
                                  rotate_left
                                  · simp only [Act.put, List.setIfInBounds_toArray, List.set_cons_zero, List.set_cons_succ, i64_w, i32_w]
                                    rfl
                                  refine pure_ (i := 1) (N := some 70) (v := ?_) (a' := ?_) #[true, true, false, false, false, false, false, false, false] rfl rfl (any_of HT_.out (by kernel_rfl)) (fun _ _ _ h => h) (Or.inl ⟨by rfl, ?_⟩) ?_ ?_
                                  rotate_left
                                  · intro w'
                                    go_simp
                                    with_reducible rfl
                                  rotate_left
                                  · simp only [Act.put, List.setIfInBounds_toArray, List.set_cons_zero, List.set_cons_succ, i64_w, i32_w]
                                    rfl
                                  refine pure_ (i := 2) (N := some 71) (v := ?_) (a' := ?_) #[true, true, true, false, false, false, false, false, false] rfl rfl (any_of HT_.out (by kernel_rfl)) (fun _ _ _ h => h) (Or.inl ⟨by rfl, ?_⟩) ?_ ?_
                                  rotate_left
                                  · intro w'
                                    go_simp
                                    with_reducible rfl
                                  rotate_left
                                  · simp only [Act.put, List.setIfInBounds_toArray, List.set_cons_zero, List.set_cons_succ, i64_w, i32_w]
                                    rfl
                                  refine pure_ (i := 3) (N := some 72) (v := ?_) (a' := ?_) #[true, true, true, true, false, false, false, false, false] rfl rfl (any_of HT_.out (by kernel_rfl)) (fun _ _ _ h => h) (Or.inl ⟨by rfl, ?_⟩) ?_ ?_
                                  rotate_left
                                  · intro w'
                                    go_simp
                                    with_reducible rfl
                                  rotate_left
                                  · simp only [Act.put, List.setIfInBounds_toArray, List.set_cons_zero, List.set_cons_succ, i64_w, i32_w]
                                    rfl
                                  refine pure_ (i := 4) (N := some 73) (v := ?_) (a' := ?_) #[true, true, true, true, true, false, false, false, false] rfl rfl (any_of HT_.out (by kernel_rfl)) (fun _ _ _ h => h) (Or.inl ⟨by rfl, ?_⟩) ?_ ?_
                                  rotate_left
                                  · intro w'
                                    go_simp
                                    with_reducible rfl
                                  rotate_left
                                  · simp only [Act.put, List.setIfInBounds_toArray, List.set_cons_zero, List.set_cons_succ, i64_w, i32_w]
                                    rfl
                                  refine pure_ (i := 5) (N := some 74) (v := ?_) (a' := ?_) #[true, true, true, true, true, true, false, false, false] rfl rfl (any_of HT_.out (by kernel_rfl)) (fun _ _ _ h => h) (Or.inl ⟨by rfl, ?_⟩) ?_ ?_
                                  rotate_left
                                  · intro w'
                                    go_simp
                                    with_reducible rfl
                                  rotate_left
                                  · simp only [Act.put, List.setIfInBounds_toArray, List.set_cons_zero, List.set_cons_succ, i64_w, i32_w]
                                    rfl
                                  refine one_ (i := 6) (N := some 75) #[true, true, true, true, true, true, true, false, false] rfl rfl (one_of HT_.out (by kernel_rfl)) (by decide) (fun K hK => ?_)
                                  refine value_ (w1 := ?_) (v := ?_) (by rfl) rfl ?_ ?_
                                  rotate_left 2
                                  · go_simp
                                    constructor
                                    · rfl
                                    · rfl
                                  refine hK.out _ _ trivial (fun hHeld => ?_)
                                  clear hK K
                                  refine norm_ (a' := ?_) ?_ ?_
                                  rotate_left
                                  · show Act.put _ (some 75) _ = _
                                    simp only [Act.put, List.setIfInBounds_toArray, List.set_cons_zero, List.set_cons_succ, i64_w, i32_w]
                                    rfl
                                  refine one_ (i := 7) (N := some 76) #[true, true, true, true, true, true, true, true, false] rfl rfl (one_of HT_.out (by kernel_rfl)) (by decide) (fun K hK => ?_)
                                  rw [show (((wrap64 ((wrap64 (x5_2 + 8)) + t264))).toNat - (ji24).toNat : Nat) = (a0.extract (ji24).toNat ((wrap64 ((wrap64 (x5_2 + 8)) + t264))).toNat).size from (by rw [ByteArray.size_extract]; omega)]
                                  refine Kd.R_append_step k41 (w0 := w) w.heap.size (by rfl) (.tmp 69) (.tmp 75) 25 41 (.agg #[(.string ⟨#[]⟩), (.string ⟨#[]⟩)]) 32 rfl Tryd.underlying25 info41 rfl (by decide) (by omega) u4 x4_2 (⟨(a0.extract ((ji24) : Int).toNat ((wrap64 ((wrap64 (x5_2 + 8)) + t264)) : Int).toNat).extract 0 4, (a0.extract ((ji24) : Int).toNat ((wrap64 ((wrap64 (x5_2 + 8)) + t264)) : Int).toNat).extract 4 (a0.extract ((ji24) : Int).toNat ((wrap64 ((wrap64 (x5_2 + 8)) + t264)) : Int).toNat).size⟩ : S41) [.string ((a0.extract ((ji24) : Int).toNat ((wrap64 ((wrap64 (x5_2 + 8)) + t264)) : Int).toNat).extract 0 4), .string ((a0.extract ((ji24) : Int).toNat ((wrap64 ((wrap64 (x5_2 + 8)) + t264)) : Int).toNat).extract 4 (a0.extract ((ji24) : Int).toNat ((wrap64 ((wrap64 (x5_2 + 8)) + t264)) : Int).toNat).size)] (fun _ => True) (fun _ => False) rfl rfl ?aP (fun _ hk => hk.elim) ?aF ?aO ?aB ?aS ?aL ?_
                                  (case aP => exact k41_mkM _ _ _ (⟨(a0.extract ((ji24) : Int).toNat ((wrap64 ((wrap64 (x5_2 + 8)) + t264)) : Int).toNat).extract 0 4, (a0.extract ((ji24) : Int).toNat ((wrap64 ((wrap64 (x5_2 + 8)) + t264)) : Int).toNat).extract 4 (a0.extract ((ji24) : Int).toNat ((wrap64 ((wrap64 (x5_2 + 8)) + t264)) : Int).toNat).size⟩ : S41))
                                  (case aB => exact (by repeat (first | (with_reducible first | exact HB.out | apply below_alloc | apply pw_below_drewN | apply below_drew1) | exact HB.out)))
                                  (case aF => exact (fun _ _ => trivial))
                                  (case aO => exact (by (with_reducible repeat (first | apply Kd.R_alloc | apply Kd.R_drewN | apply Kd.R_drew)); exact HO_4.out))
                                  (case aS => exact (below_size (by repeat (first | (with_reducible first | exact HB.out | apply below_alloc | apply pw_below_drewN | apply below_drew1) | exact HB.out))))
                                  (case aL => have := LMc34.out; omega)
                                  intro v269 w36 ho hb hg hat
                                  rw [← Ny268.out] at ho
                                  have n0_ := Aside0.mk (hb)
                                  have n1_ := Aside0.mk (ho)
                                  clear HB
                                  clear HO_4
                                  have HB := n0_
                                  have HO270 := n1_
                                  clear n0_ n1_
                                  clear ho hb hg hat
                                  refine hK.out _ _ trivial (fun hHeld => ?_)
                                  clear hK K
                                  refine norm_ (a' := ?_) ?_ ?_
                                  rotate_left
                                  · show Act.put _ (some 76) _ = _
                                    simp only [Act.put, List.setIfInBounds_toArray, List.set_cons_zero, List.set_cons_succ, i64_w, i32_w]
                                    rfl
                                  refine pure_ (i := 8) (N := some 4) (v := ?_) (a' := ?_) #[true, true, true, true, true, true, true, true, true] rfl rfl (any_of HT_.out (by kernel_rfl)) (fun _ _ _ h => h) (Or.inl ⟨by rfl, ?_⟩) ?_ ?_
                                  rotate_left
                                  · intro w'
                                    go_simp
                                    with_reducible rfl
                                  rotate_left
                                  · simp only [Act.put, List.setIfInBounds_toArray, List.set_cons_zero, List.set_cons_succ, i64_w, i32_w]
                                    rfl
                                  refine done_ (done_of HT_.out (by kernel_rfl)) ?_
                                  try go_wp2
                                  go_roundg kj14
                                  case measure => have := HJ1.out; have := HK2.out; have := HJ14.out; omega
                                  case rel => exact ⟨(y268), (wrap64 ((wrap64 (x5_2 + 12)) + t264)), (by first | rfl | (simp; done) | (simp [*]; done)), H', ⟨by have := HJ1.out; have := HK2.out; have := HJ14.out; omega⟩, ⟨by (with_reducible repeat (first | apply Kd.R_alloc | apply Kd.R_drewN | apply Kd.R_drew)); exact HO270.out⟩, ⟨by repeat (first | (with_reducible first | exact HB.out | apply below_alloc | apply pw_below_drewN | apply below_drew1) | exact HB.out)⟩⟩
                                · rw [if_neg c34] at H
                                  exact absurd H (by simp)
                              · rw [if_neg c32] at H
                                exact absurd H (by simp)
                            · rw [if_neg c31] at H
                              exact absurd H (by simp)
                          · rw [if_neg c30] at H
                            have c30b0 : (t266 == t267) = false := beq_eq_false_iff_ne.mpr c30
                            have c30b1 : (t266 != t267) = true := bne_iff_ne.mpr c30
                            simp only [Option.some.injEq, Prod.mk.injEq] at H
                            obtain ⟨rfl, rfl⟩ := H
                            go_wp2_with (first | ((with_reducible refine gate_callee (f := 38) rfl ?_); refine goesL_ (some 60) rfl rfl Tryd.func38 (by kernel_rfl) rfl #[.string (a0.extract ((ji24) : Int).toNat ((wrap64 ((wrap64 (x5_2 + 8)) + t264)) : Int).toNat)] rfl (by (try simp only [List.map_toArray, List.map_cons, List.map_nil]); first | done | (simp only [hji24]; rfl) | rfl | (simp only [List.length_drop, List.length_take]; rfl)) ?_; (with_reducible refine (spec_Crc32.calls kj14 (a0.extract ((ji24) : Int).toNat ((wrap64 ((wrap64 (x5_2 + 8)) + t264)) : Int).toNat) t266 _ A28.out).mono ?_); rintro e w' ⟨rfl, ⟨nd, rfl⟩⟩; refine ⟨_, rfl, ?_⟩) | ((with_reducible refine gate_callee (f := 42) rfl ?_); refine goesL_ (some 66) rfl rfl Tryd.func42 (by kernel_rfl) rfl #[.string a0, .int .i64 (wrap64 ((wrap64 (x5_2 + 8)) + t264)), .int .i64 4, .bool true] rfl (by (try simp only [List.map_toArray, List.map_cons, List.map_nil]); first | done | rfl | (simp only [List.length_drop, List.length_take]; rfl)) ?_; (with_reducible refine (spec_l1Field.calls kj14 a0 (wrap64 ((wrap64 (x5_2 + 8)) + t264)) 4 true t267 _ A29.out).mono ?_); rintro e w' ⟨rfl, ⟨nd, rfl⟩⟩; refine ⟨_, rfl, ?_⟩))
                            go_ret2
                            exact ⟨_, by first | rfl | (simp [errW_none, errW_some] <;> rfl) | (simp only [← hji24]; first | rfl | (simp [errW_none, errW_some] <;> rfl)) | (simp [*, errW_none, errW_some] <;> rfl), by (with_reducible repeat (first | apply Kd.R_alloc | apply Kd.R_drewN | apply Kd.R_drew)); exact HO_4.out, by repeat (first | (with_reducible first | exact HB.out | apply below_alloc | apply pw_below_drewN | apply below_drew1) | exact HB.out)⟩
                        · rw [if_neg c27] at H
                          exact absurd H (by simp)
                      · rw [if_neg c26] at H
                        exact absurd H (by simp)
                    · rw [if_neg c25] at H
                      exact absurd H (by simp)
            · rw [if_neg c13] at H
              have c13b0 : decide (x5_2 < (a0.size : Int)) = false := decide_eq_false c13
              clear c13
              simp only [Option.some.injEq, Prod.mk.injEq] at H
              obtain ⟨rfl, rfl⟩ := H
              go_wp2
              go_ret2
              exact ⟨_, by first | rfl | (simp [errW_none, errW_some] <;> rfl) | (simp [*, errW_none, errW_some] <;> rfl), by (with_reducible repeat (first | apply Kd.R_alloc | apply Kd.R_drewN | apply Kd.R_drew)); exact HO_4.out, by repeat (first | (with_reducible first | exact HB.out | apply below_alloc | apply pw_below_drewN | apply below_drew1) | exact HB.out)⟩

end Go.Proofs.YtdhpekdfpoeboaaDoor.P
