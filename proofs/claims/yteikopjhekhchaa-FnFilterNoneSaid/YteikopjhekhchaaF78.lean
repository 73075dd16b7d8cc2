-- PRINTED by print.py (a twelfth state) out of the translation. Not trusted: Lean checks it.
import Derived.Test.YteikopjhekhchaaF00
import Derived.Test.YteikopjhekhchaaF63
import Derived.Test.YteikopjhekhchaaF64
import Derived.Test.YteikopjhekhchaaF93
namespace Go.Proofs.Yteikopjhekhchaa.P
open Go.RowKit Go.Proofs.YteikopjhekhchaaW.PrintWords Go.Proofs.YteikopjhekhchaaW.PrintLast Go.Proofs.YteikopjhekhchaaW.PrintMore
attribute [local go_sem] max2_int min2_int max_two min_two max_three min_three max_four min_four   -- for this text's walks alone
set_option linter.unusedVariables false
set_option linter.unusedSimpArgs false

/-! ### spec_l14Filter: function 78 -/
mutual
def spec_l14Filter.j1 : Nat → ByteArray → ByteArray → List Int → Int → Option (Int × ByteArray × ByteArray × Int × Int)
  | 0, _, _, _, _ => none
  | k + 1, x6, x7, x1000, x1001 => (spec_l1Rd_pick.f k x1000 x1001 5).bind fun bt422 => ((spec_l1Rd_pick.f k x1000 bt422.2 4).bind fun bt424 => ((spec_l1Rd_pick.f k x1000 bt424.2 16).bind fun bt426 => (if bt426.1 = 0 then ((some (([(-1), 5] : List Int) : List Int)).bind fun y428 => ((spec_l1Rd_pick.f k x1000 bt426.2 2).bind fun bt431 => (if 0 ≤ bt431.1 then (if bt431.1 < (y428.length : Int) then (some (rd y428 bt431.1, x6, x7, wrap64 (1 + bt424.1), bt431.2)) else (none)) else (none)))) else (if bt426.1 = 1 then ((some (([0, 5] : List Int) : List Int)).bind fun y434 => ((spec_l1Rd_pick.f k x1000 bt426.2 2).bind fun bt437 => (if 0 ≤ bt437.1 then (if bt437.1 < (y434.length : Int) then (some (bt422.1, x6, x7, rd y434 bt437.1, bt437.2)) else (none)) else (none)))) else (if bt426.1 = 2 then (if x7.size + 1 ≤ 9223372036854775807 then (some (bt422.1, x6, x7 ++ (⟨#[120]⟩ : ByteArray), wrap64 (1 + bt424.1), bt426.2)) else (none)) else (some (bt422.1, x6, x7, wrap64 (1 + bt424.1), bt426.2)))))))
def spec_l14Filter.l0 : Nat → ByteArray → ByteArray → Int → List Int → Int → Option (Int × ByteArray × ByteArray × Int × Int)
  | 0, _, _, _, _, _ => none
  | k + 1, x6, x7, x8, x1000, x1001 => if x8 < (x6.size : Int) then ((spec_l1Rd_pick.f k x1000 x1001 256).bind fun bt417 => ((some (([(bt417.1) % 256] : List Int) : List Int)).bind fun y419 => (if x7.size + (strOfNums y419).size ≤ 9223372036854775807 then (spec_l14Filter.l0 k x6 (x7 ++ (strOfNums y419)) (wrap64 (x8 + 1)) x1000 bt417.2) else (none)))) else (spec_l14Filter.j1 k x6 x7 x1000 x1001)
end
def spec_l14Filter.f (k : Nat) (s0_0 : List Int) (s0_1 : Int) : Option (Int × ByteArray × ByteArray × Int × Int) := (spec_l14Text.f k s0_0 s0_1).bind fun bt413 => ((spec_l1Rd_pick.f k s0_0 bt413.2 3).bind fun bt415 => (if bt415.1 > 0 then (spec_l14Filter.l0 k bt413.1 (⟨#[]⟩ : ByteArray) 0 s0_0 bt415.2) else (spec_l14Filter.j1 k bt413.1 (⟨#[]⟩ : ByteArray) s0_0 bt415.2)))
theorem spec_l14Filter.mono_l : ∀ k, (∀ y0 y1 y2 y3, LeO (spec_l14Filter.j1 k y0 y1 y2 y3) (spec_l14Filter.j1 (k + 1) y0 y1 y2 y3)) ∧ (∀ y0 y1 y2 y3 y4, LeO (spec_l14Filter.l0 k y0 y1 y2 y3 y4) (spec_l14Filter.l0 (k + 1) y0 y1 y2 y3 y4))
  | 0 => ⟨fun _ _ _ _ r h => by simp [spec_l14Filter.j1] at h, fun _ _ _ _ _ r h => by simp [spec_l14Filter.l0] at h⟩
  | k + 1 => by
    obtain ⟨ih0, ih1⟩ := spec_l14Filter.mono_l k
    refine ⟨?_, ?_⟩
    · intro y0 y1 y2 y3
      unfold spec_l14Filter.j1
      repeat' first
      | (with_reducible exact ih0 _ _ _ _)
      | (with_reducible exact ih1 _ _ _ _ _)
      | (with_reducible exact spec_l14Text.mono _ _ _)
      | (with_reducible exact spec_l1Rd_pick.mono _ _ _ _)
      | (with_reducible exact LeO.refl _)
      | (with_reducible exact LeO.none _)
      | (with_reducible refine LeO.ite ?_ ?_)
      | (with_reducible refine LeO.bind ?_ (fun _ => ?_))
      | exact ih0 _ _ _ _
      | exact ih1 _ _ _ _ _
      | exact spec_l14Text.mono _ _ _
      | exact spec_l1Rd_pick.mono _ _ _ _
      | exact LeO.none _
      | refine LeO.ite ?_ ?_
      | refine LeO.bind ?_ (fun _ => ?_)
    · intro y0 y1 y2 y3 y4
      unfold spec_l14Filter.l0
      repeat' first
      | (with_reducible exact ih0 _ _ _ _)
      | (with_reducible exact ih1 _ _ _ _ _)
      | (with_reducible exact spec_l14Text.mono _ _ _)
      | (with_reducible exact spec_l1Rd_pick.mono _ _ _ _)
      | (with_reducible exact LeO.refl _)
      | (with_reducible exact LeO.none _)
      | (with_reducible refine LeO.ite ?_ ?_)
      | (with_reducible refine LeO.bind ?_ (fun _ => ?_))
      | exact ih0 _ _ _ _
      | exact ih1 _ _ _ _ _
      | exact spec_l14Text.mono _ _ _
      | exact spec_l1Rd_pick.mono _ _ _ _
      | exact LeO.none _
      | refine LeO.ite ?_ ?_
      | refine LeO.bind ?_ (fun _ => ?_)
theorem spec_l14Filter.mono : ∀ a0 a1 k, LeO (spec_l14Filter.f k a0 a1) (spec_l14Filter.f (k + 1) a0 a1) := by
  intro a0 a1 k
  obtain ⟨ih0, ih1⟩ := spec_l14Filter.mono_l k
  unfold spec_l14Filter.f
  repeat' first
      | (with_reducible exact ih0 _ _ _ _)
      | (with_reducible exact ih1 _ _ _ _ _)
      | (with_reducible exact spec_l14Text.mono _ _ _)
      | (with_reducible exact spec_l1Rd_pick.mono _ _ _ _)
      | (with_reducible exact LeO.refl _)
      | (with_reducible exact LeO.none _)
      | (with_reducible refine LeO.ite ?_ ?_)
      | (with_reducible refine LeO.bind ?_ (fun _ => ?_))
      | exact ih0 _ _ _ _
      | exact ih1 _ _ _ _ _
      | exact spec_l14Text.mono _ _ _
      | exact spec_l1Rd_pick.mono _ _ _ _
      | exact LeO.none _
      | refine LeO.ite ?_ ?_
      | refine LeO.bind ?_ (fun _ => ?_)
set_option maxHeartbeats 2000000 in
set_option maxRecDepth 100000 in
theorem spec_l14Filter.calls (k : Nat) (g : Nat) (s0_0 : List Int) (s0_1 : Int) (r1 : Int) (r2 : ByteArray) (r3 : ByteArray) (r4 : Int) (r5 : Int) (w0 w : World) (hI : IsS103 w0 w g s0_0 s0_1) (hB : Below w0.heap.size w0 w) (h : spec_l14Filter.f k s0_0 s0_1 = some (r1, r2, r3, r4, r5)) :
    Calls Try.prog 78 #[.pointer (some ⟨g, 0, none⟩)] w fun e w' => e = .returned (.tuple #[.int .i64 r1, .string r2, .string r3, .int .i64 r4]) ∧ IsS103 w0 w' g s0_0 r5 ∧ Below w0.heap.size w0 w' ∧ KeepBut w w' g none := by
  have HI0 := Aside0.mk hI
  have HK := Aside0.mk (KeepBut.refl w g none)
  have HL := Aside0.mk hB.size
  clear hI
  have HW0 := Aside0.mk hB.size
  have HB := Aside0.mk hB
  clear hB
  have H : ((spec_l14Text.f k s0_0 s0_1).bind fun bt413 => ((spec_l1Rd_pick.f k s0_0 bt413.2 3).bind fun bt415 => (if bt415.1 > 0 then (spec_l14Filter.l0 k bt413.1 (⟨#[]⟩ : ByteArray) 0 s0_0 bt415.2) else (spec_l14Filter.j1 k bt413.1 (⟨#[]⟩ : ByteArray) s0_0 bt415.2)))) = some (r1, r2, r3, r4, r5) := h
  clear h
  replace H := Option.bind_eq_some_iff.mp H
  obtain ⟨⟨t413, t414⟩, A20, H⟩ := H
  replace H : ((spec_l1Rd_pick.f k s0_0 t414 3).bind fun bt415 => (if bt415.1 > 0 then (spec_l14Filter.l0 k t413 (⟨#[]⟩ : ByteArray) 0 s0_0 bt415.2) else (spec_l14Filter.j1 k t413 (⟨#[]⟩ : ByteArray) s0_0 bt415.2))) = some (r1, r2, r3, r4, r5) := H
  have A2 := Aside0.mk A20
  clear A20
  replace H := Option.bind_eq_some_iff.mp H
  obtain ⟨⟨t415, t416⟩, A30, H⟩ := H
  replace H : (if t415 > 0 then (spec_l14Filter.l0 k t413 (⟨#[]⟩ : ByteArray) 0 s0_0 t416) else (spec_l14Filter.j1 k t413 (⟨#[]⟩ : ByteArray) s0_0 t416)) = some (r1, r2, r3, r4, r5) := H
  have A3 := Aside0.mk A30
  clear A30
  have HC4 := Aside0.mk H
  clear H
  go_enter Try.func78, Try.ntmps78
  go_upto_if 15 with (first | ((with_reducible refine gate_callee (f := 93) rfl ?_); refine goesL_ (some 12) rfl rfl Try.func93 (by kernel_rfl) rfl #[.pointer (some ⟨g, 0, none⟩)] rfl (by (try simp only [List.map_toArray, List.map_cons, List.map_nil]); first | done | rfl | (simp only [List.length_drop, List.length_take]; rfl)) ?_; (with_reducible refine (spec_l14Text.calls k g s0_0 s0_1 t413 t414 w0 _ ?side1 ?side2 A2.out).mono ?_); (case side1 => repeat (first | (with_reducible first | exact HI0.out | apply IsS103.alloc | apply IsS103.drewN | apply IsS103.drew | apply IsS103.set_1) | exact HI0.out)); (case side2 => repeat (first | (with_reducible first | exact HB.out | apply below_alloc | apply pw_below_drewN | apply below_drew1 | refine below_set ?_ (IsS103.ge HI0.out)) | exact HB.out)); rintro e w5 ⟨rfl, hi, hb, hk⟩; refine ⟨_, rfl, ?_⟩; have n0_ := Aside0.mk (KeepBut.trans (by repeat (first | (with_reducible first | exact HK.out | apply KeepBut.set_ | apply keep_drewN | apply keep_drew | apply keep_alloc) | exact HK.out)) hk (.inl rfl)); have n1_ := Aside0.mk (hb); have n2_ := Aside0.mk (hi); clear HK; clear HB; clear HI0; have HK := n0_; have HB := n1_; have HI0 := n2_; clear n0_ n1_ n2_; (try clear hb); (try clear hb2); (try clear hk); (try clear hi)) | ((with_reducible refine gate_callee (f := 64) rfl ?_); refine goesL_ (some 14) rfl rfl Try.func64 (by kernel_rfl) rfl #[.pointer (some ⟨g, 0, none⟩), .int .i64 3] rfl (by (try simp only [List.map_toArray, List.map_cons, List.map_nil]); first | done | rfl | (simp only [List.length_drop, List.length_take]; rfl)) ?_; (with_reducible refine (spec_l1Rd_pick.calls k g s0_0 t414 3 t415 t416 w0 _ ?side1 ?side2 A3.out).mono ?_); (case side1 => repeat (first | (with_reducible first | exact HI0.out | apply IsS103.alloc | apply IsS103.drewN | apply IsS103.drew | apply IsS103.set_1) | exact HI0.out)); (case side2 => repeat (first | (with_reducible first | exact HB.out | apply below_alloc | apply pw_below_drewN | apply below_drew1 | refine below_set ?_ (IsS103.ge HI0.out)) | exact HB.out)); rintro e w6 ⟨rfl, hi, hb, hk⟩; refine ⟨_, rfl, ?_⟩; have n0_ := Aside0.mk (KeepBut.trans (by repeat (first | (with_reducible first | exact HK.out | apply KeepBut.set_ | apply keep_drewN | apply keep_drew | apply keep_alloc) | exact HK.out)) hk (.inl rfl)); have n1_ := Aside0.mk (hb); have n2_ := Aside0.mk (hi); clear HK; clear HB; clear HI0; have HK := n0_; have HB := n1_; have HI0 := n2_; clear n0_ n1_ n2_; (try clear hb); (try clear hb2); (try clear hk); (try clear hi)))
  (try simp only [Act.put, List.setIfInBounds_toArray, List.set_cons_zero, List.set_cons_succ])
  go_cut [7] (fun v7 wc => ∃ (kq : Nat) (x7_3 : ByteArray) (x1001_3 : Int), v7 = .string x7_3 ∧ Aside0 (spec_l14Filter.j1 kq t413 x7_3 s0_0 x1001_3 = some (r1, r2, r3, r4, r5)) ∧ Aside0 (kq ≤ k) ∧ Aside0 (IsS103 w0 wc g s0_0 x1001_3) ∧ Aside0 (KeepBut w wc g none) ∧ Aside0 (Below w0.heap.size w0 wc))
  case first =>
    have H := HC4.out
    clear HC4
    by_cases c7 : t415 > 0
    · rw [if_pos c7] at H
      have c7b0 : decide (0 < t415) = true := decide_eq_true c7
      clear c7
      (first | rw [c7b0] | (simp only [i64_w, i32_w]; rw [c7b0]) | skip)
      have H' := Aside0.mk H
      clear H
      go_wp2
      go_loopg [7, 8] k (fun kq v7 v8 w' => ∃ (x7_1 : ByteArray) (x8_1 : Int) (x1001_1 : Int), v7 = .string x7_1 ∧ v8 = .int .i64 x8_1 ∧ Aside0 (spec_l14Filter.l0 kq t413 x7_1 x8_1 s0_0 x1001_1 = some (r1, r2, r3, r4, r5)) ∧ Aside0 (kq ≤ k) ∧ Aside0 (IsS103 w0 w' g s0_0 x1001_1) ∧ Aside0 (KeepBut w w' g none) ∧ Aside0 (Below w0.heap.size w0 w'))
      case atStart => exact ⟨((⟨#[]⟩ : ByteArray)), (0), (t416), (by first | rfl | (simp; done) | (simp [*]; done)), (by first | rfl | (simp; done) | (simp [*]; done)), H', ⟨Nat.le_refl _⟩, ⟨by repeat (first | (with_reducible first | exact HI0.out | apply IsS103.alloc | apply IsS103.drewN | apply IsS103.drew | apply IsS103.set_1) | exact HI0.out)⟩, ⟨by repeat (first | (with_reducible first | exact HK.out | apply KeepBut.set_ | apply keep_drewN | apply keep_drew | apply keep_alloc) | exact HK.out)⟩, ⟨by repeat (first | (with_reducible first | exact HB.out | apply below_alloc | apply pw_below_drewN | apply below_drew1 | refine below_set ?_ (IsS103.ge HI0.out)) | exact HB.out)⟩⟩
      case round =>
        clear H'
        try clear p2
        try clear c6
        try clear c7
        try clear c7b0
        obtain ⟨x7_1, x8_1, x1001_1, rfl, rfl, HA, HK1, HI0, HK, HB⟩ := hrel
        cases gk with
        | zero => exact absurd HA.out (by simp [spec_l14Filter.l0])
        | succ k1 =>
          have H := HA.out
          clear HA
          simp only [spec_l14Filter.l0] at H
          by_cases c8 : x8_1 < (t413.size : Int)
          · rw [if_pos c8] at H
            have c8b0 : decide (x8_1 < (t413.size : Int)) = true := decide_eq_true c8
            clear c8
            replace H := Option.bind_eq_some_iff.mp H
            obtain ⟨⟨t417, t418⟩, A90, H⟩ := H
            replace H : ((some (([(t417) % 256] : List Int) : List Int)).bind fun y419 => (if x7_1.size + (strOfNums y419).size ≤ 9223372036854775807 then (spec_l14Filter.l0 k1 t413 (x7_1 ++ (strOfNums y419)) (wrap64 (x8_1 + 1)) s0_0 t418) else (none))) = some (r1, r2, r3, r4, r5) := H
            have A9 := Aside0.mk A90
            clear A90
            obtain ⟨y419, hy419⟩ : ∃ y_ : List Int, y_ = (([(t417) % 256] : List Int)) := ⟨_, rfl⟩
            replace H : (if x7_1.size + (strOfNums y419).size ≤ 9223372036854775807 then (spec_l14Filter.l0 k1 t413 (x7_1 ++ (strOfNums y419)) (wrap64 (x8_1 + 1)) s0_0 t418) else (none)) = some (r1, r2, r3, r4, r5) := by first | (rw [hy419]; with_reducible exact H) | (have H2_ := (Option.bind_some _ _).symm.trans H; rw [hy419]; with_reducible exact H2_) | (have H2_ := (Option.bind_some _ _).symm.trans H; with_reducible exact H2_) | with_reducible exact H | (rw [hy419]; exact H) | exact H
            have Ny419 := Aside0.mk hy419
            clear hy419
            by_cases c10 : x7_1.size + (strOfNums y419).size ≤ 9223372036854775807
            · rw [if_pos c10] at H
              have c10b0 := eq_true c10
              have c10b1 : decide (x7_1.size + (strOfNums y419).size ≤ 9223372036854775807) = true := decide_eq_true c10
              try have c10b2 : (9223372036854775807 < x7_1.size + (strOfNums y419).size) = False := eq_false (Nat.not_lt.2 c10)
              have H' := Aside0.mk H
              clear H
              go_wp2_with (first | ((with_reducible refine gate_callee (f := 64) rfl ?_); refine goesL_ (some 24) rfl rfl Try.func64 (by kernel_rfl) rfl #[.pointer (some ⟨g, 0, none⟩), .int .i64 256] rfl (by (try simp only [List.map_toArray, List.map_cons, List.map_nil]); first | done | rfl | (simp only [List.length_drop, List.length_take]; rfl)) ?_; (with_reducible refine (spec_l1Rd_pick.calls k1 g s0_0 x1001_1 256 t417 t418 w0 _ ?side1 ?side2 A9.out).mono ?_); (case side1 => repeat (first | (with_reducible first | exact HI0.out | apply IsS103.alloc | apply IsS103.drewN | apply IsS103.drew | apply IsS103.set_1) | exact HI0.out)); (case side2 => repeat (first | (with_reducible first | exact HB.out | apply below_alloc | apply pw_below_drewN | apply below_drew1 | refine below_set ?_ (IsS103.ge HI0.out)) | exact HB.out)); rintro e w11 ⟨rfl, hi, hb, hk⟩; refine ⟨_, rfl, ?_⟩; have n0_ := Aside0.mk (KeepBut.trans (by repeat (first | (with_reducible first | exact HK.out | apply KeepBut.set_ | apply keep_drewN | apply keep_drew | apply keep_alloc) | exact HK.out)) hk (.inl rfl)); have n1_ := Aside0.mk (hb); have n2_ := Aside0.mk (hi); clear HK; clear HB; clear HI0; have HK := n0_; have HB := n1_; have HI0 := n2_; clear n0_ n1_ n2_; (try clear hb); (try clear hb2); (try clear hk); (try clear hi)) | ((with_reducible refine gate_dst (N := 26) rfl ?_); refine Kd.R_lit (Kd.int .u8) _ 5 ?hg (N := 26) ?hd (xs := ([(t417) % 256] : List Int)) (inner := [.int .u8 ((t417) % 256)]) (ok := fun _ => True) (okp := fun _ => True) ?hr ?hp (fun _ hk => hk) trivial (Below.refl _ _) (Nat.le_refl _) (by simp) ?_; (case hd => rfl); (case hg => rfl); (case hr => first | (go_simp; done) | (go_simp; rfl)); (case hp => exact (Reps.one (show Kd.M (Kd.int .u8) _ _ _ ((t417) % 256) [.int .u8 ((t417) % 256)] from rfl) (Reps.none _ _))); intro v420 w12 ho13 hb hg_ hnew_; clear hg_ hnew_; (first | rw [← Ny419.out] at ho13 | (simp only [Int.reduceToNat] at ho13; rw [← Ny419.out] at ho13)); have n0_ := Aside0.mk (Kd.R_lower ho13 (keep_size (w := w) (g := g) (row := none) (by repeat (first | (with_reducible first | exact HK.out | apply KeepBut.set_ | apply keep_drewN | apply keep_drew | apply keep_alloc) | exact HK.out)))); have n1_ := Aside0.mk (IsS103.below (by repeat (first | (with_reducible first | exact HI0.out | apply IsS103.alloc | apply IsS103.drewN | apply IsS103.drew | apply IsS103.set_1) | exact HI0.out)) hb); have n2_ := Aside0.mk (KeepBut.trans (by repeat (first | (with_reducible first | exact HK.out | apply KeepBut.set_ | apply keep_drewN | apply keep_drew | apply keep_alloc) | exact HK.out)) (KeepBut.of_below hb g none) (.inl rfl)); have n3_ := Aside0.mk (below_step (by repeat (first | (with_reducible first | exact HB.out | apply below_alloc | apply pw_below_drewN | apply below_drew1 | refine below_set ?_ (IsS103.ge HI0.out)) | exact HB.out)) hb); clear HI0; clear HK; clear HB; have HO421 := n0_; have HI0 := n1_; have HK := n2_; have HB := n3_; clear n0_ n1_ n2_ n3_; clear hb ho13; have hcv14 := own_string (P := Try.prog) Try.underlying34 Try.underlying5 Try.underlying9 (Kd.own_of_R HO421.out)))
              go_roundg k1
              case measure => have := HK1.out; omega
              case rel => exact ⟨(x7_1 ++ (strOfNums y419)), (wrap64 (x8_1 + 1)), (t418), (by first | rfl | (simp; done) | (simp [*]; done)), (by first | rfl | (simp; done) | (simp [*]; done)), H', ⟨by have := HK1.out; omega⟩, ⟨by repeat (first | (with_reducible first | exact HI0.out | apply IsS103.alloc | apply IsS103.drewN | apply IsS103.drew | apply IsS103.set_1) | exact HI0.out)⟩, ⟨by repeat (first | (with_reducible first | exact HK.out | apply KeepBut.set_ | apply keep_drewN | apply keep_drew | apply keep_alloc) | exact HK.out)⟩, ⟨by repeat (first | (with_reducible first | exact HB.out | apply below_alloc | apply pw_below_drewN | apply below_drew1 | refine below_set ?_ (IsS103.ge HI0.out)) | exact HB.out)⟩⟩
            · rw [if_neg c10] at H
              exact absurd H (by simp)
          · rw [if_neg c8] at H
            have c8b0 : decide (x8_1 < (t413.size : Int)) = false := decide_eq_false c8
            clear c8
            have H' := Aside0.mk H
            clear H
            go_wp2
            go_meet
            case rel => exact ⟨_, (x7_1), (x1001_1), (by first | rfl | (simp; done) | (simp [*]; done)), H', ⟨by have := HK1.out; first | omega | exact Nat.le_refl _⟩, ⟨by repeat (first | (with_reducible first | exact HI0.out | apply IsS103.alloc | apply IsS103.drewN | apply IsS103.drew | apply IsS103.set_1) | exact HI0.out)⟩, ⟨by repeat (first | (with_reducible first | exact HK.out | apply KeepBut.set_ | apply keep_drewN | apply keep_drew | apply keep_alloc) | exact HK.out)⟩, ⟨by repeat (first | (with_reducible first | exact HB.out | apply below_alloc | apply pw_below_drewN | apply below_drew1 | refine below_set ?_ (IsS103.ge HI0.out)) | exact HB.out)⟩⟩
    · rw [if_neg c7] at H
      have c7b0 : decide (0 < t415) = false := decide_eq_false c7
      clear c7
      (first | rw [c7b0] | (simp only [i64_w, i32_w]; rw [c7b0]) | skip)
      have H' := Aside0.mk H
      clear H
      go_wp2
      go_meet
      case rel => exact ⟨_, ((⟨#[]⟩ : ByteArray)), (t416), (by first | rfl | (simp; done) | (simp [*]; done)), H', ⟨by first | omega | exact Nat.le_refl _⟩, ⟨by repeat (first | (with_reducible first | exact HI0.out | apply IsS103.alloc | apply IsS103.drewN | apply IsS103.drew | apply IsS103.set_1) | exact HI0.out)⟩, ⟨by repeat (first | (with_reducible first | exact HK.out | apply KeepBut.set_ | apply keep_drewN | apply keep_drew | apply keep_alloc) | exact HK.out)⟩, ⟨by repeat (first | (with_reducible first | exact HB.out | apply below_alloc | apply pw_below_drewN | apply below_drew1 | refine below_set ?_ (IsS103.ge HI0.out)) | exact HB.out)⟩⟩
  case rest =>
    clear HC4
    try clear c1
    try clear hcv1
    try clear p2
    try clear c6
    try clear p6
    try clear c7
    try clear c7b0
    try clear c8
    try clear c8b0
    try clear c9
    try clear c10
    try clear c10b0
    try clear c10b1
    try clear c10b2
    try clear hcv14
    try clear p2
    obtain ⟨kq, x7_3, x1001_3, rfl, HA, HJ3, HI0, HK, HB⟩ := hcut
    cases kq with
    | zero => exact absurd HA.out (by simp [spec_l14Filter.j1])
    | succ kj3 =>
      have H := HA.out
      clear HA
      simp only [spec_l14Filter.j1] at H
      replace H := Option.bind_eq_some_iff.mp H
      obtain ⟨⟨t422, t423⟩, A150, H⟩ := H
      replace H : ((spec_l1Rd_pick.f kj3 s0_0 t423 4).bind fun bt424 => ((spec_l1Rd_pick.f kj3 s0_0 bt424.2 16).bind fun bt426 => (if bt426.1 = 0 then ((some (([(-1), 5] : List Int) : List Int)).bind fun y428 => ((spec_l1Rd_pick.f kj3 s0_0 bt426.2 2).bind fun bt431 => (if 0 ≤ bt431.1 then (if bt431.1 < (y428.length : Int) then (some (rd y428 bt431.1, t413, x7_3, wrap64 (1 + bt424.1), bt431.2)) else (none)) else (none)))) else (if bt426.1 = 1 then ((some (([0, 5] : List Int) : List Int)).bind fun y434 => ((spec_l1Rd_pick.f kj3 s0_0 bt426.2 2).bind fun bt437 => (if 0 ≤ bt437.1 then (if bt437.1 < (y434.length : Int) then (some (t422, t413, x7_3, rd y434 bt437.1, bt437.2)) else (none)) else (none)))) else (if bt426.1 = 2 then (if x7_3.size + 1 ≤ 9223372036854775807 then (some (t422, t413, x7_3 ++ (⟨#[120]⟩ : ByteArray), wrap64 (1 + bt424.1), bt426.2)) else (none)) else (some (t422, t413, x7_3, wrap64 (1 + bt424.1), bt426.2))))))) = some (r1, r2, r3, r4, r5) := H
      have A15 := Aside0.mk A150
      clear A150
      replace H := Option.bind_eq_some_iff.mp H
      obtain ⟨⟨t424, t425⟩, A160, H⟩ := H
      replace H : ((spec_l1Rd_pick.f kj3 s0_0 t425 16).bind fun bt426 => (if bt426.1 = 0 then ((some (([(-1), 5] : List Int) : List Int)).bind fun y428 => ((spec_l1Rd_pick.f kj3 s0_0 bt426.2 2).bind fun bt431 => (if 0 ≤ bt431.1 then (if bt431.1 < (y428.length : Int) then (some (rd y428 bt431.1, t413, x7_3, wrap64 (1 + t424), bt431.2)) else (none)) else (none)))) else (if bt426.1 = 1 then ((some (([0, 5] : List Int) : List Int)).bind fun y434 => ((spec_l1Rd_pick.f kj3 s0_0 bt426.2 2).bind fun bt437 => (if 0 ≤ bt437.1 then (if bt437.1 < (y434.length : Int) then (some (t422, t413, x7_3, rd y434 bt437.1, bt437.2)) else (none)) else (none)))) else (if bt426.1 = 2 then (if x7_3.size + 1 ≤ 9223372036854775807 then (some (t422, t413, x7_3 ++ (⟨#[120]⟩ : ByteArray), wrap64 (1 + t424), bt426.2)) else (none)) else (some (t422, t413, x7_3, wrap64 (1 + t424), bt426.2)))))) = some (r1, r2, r3, r4, r5) := H
      have A16 := Aside0.mk A160
      clear A160
      replace H := Option.bind_eq_some_iff.mp H
      obtain ⟨⟨t426, t427⟩, A170, H⟩ := H
      replace H : (if t426 = 0 then ((some (([(-1), 5] : List Int) : List Int)).bind fun y428 => ((spec_l1Rd_pick.f kj3 s0_0 t427 2).bind fun bt431 => (if 0 ≤ bt431.1 then (if bt431.1 < (y428.length : Int) then (some (rd y428 bt431.1, t413, x7_3, wrap64 (1 + t424), bt431.2)) else (none)) else (none)))) else (if t426 = 1 then ((some (([0, 5] : List Int) : List Int)).bind fun y434 => ((spec_l1Rd_pick.f kj3 s0_0 t427 2).bind fun bt437 => (if 0 ≤ bt437.1 then (if bt437.1 < (y434.length : Int) then (some (t422, t413, x7_3, rd y434 bt437.1, bt437.2)) else (none)) else (none)))) else (if t426 = 2 then (if x7_3.size + 1 ≤ 9223372036854775807 then (some (t422, t413, x7_3 ++ (⟨#[120]⟩ : ByteArray), wrap64 (1 + t424), t427)) else (none)) else (some (t422, t413, x7_3, wrap64 (1 + t424), t427))))) = some (r1, r2, r3, r4, r5) := H
      have A17 := Aside0.mk A170
      clear A170
      by_cases c18 : t426 = 0
      · rw [if_pos c18] at H
        have c18b0 : (t426 == 0) = true := beq_iff_eq.mpr c18
        have c18b1 : (t426 != 0) = false := bne_eq_false_iff_eq.mpr c18
        clear c18
        obtain ⟨y428, hy428⟩ : ∃ y_ : List Int, y_ = (([(-1), 5] : List Int)) := ⟨_, rfl⟩
        replace H : ((spec_l1Rd_pick.f kj3 s0_0 t427 2).bind fun bt431 => (if 0 ≤ bt431.1 then (if bt431.1 < (y428.length : Int) then (some (rd y428 bt431.1, t413, x7_3, wrap64 (1 + t424), bt431.2)) else (none)) else (none))) = some (r1, r2, r3, r4, r5) := by first | (rw [hy428]; with_reducible exact H) | (have H2_ := (Option.bind_some _ _).symm.trans H; rw [hy428]; with_reducible exact H2_) | (have H2_ := (Option.bind_some _ _).symm.trans H; with_reducible exact H2_) | with_reducible exact H | (rw [hy428]; exact H) | exact H
        have Ny428 := Aside0.mk hy428
        clear hy428
        replace H := Option.bind_eq_some_iff.mp H
        obtain ⟨⟨t431, t432⟩, A190, H⟩ := H
        replace H : (if 0 ≤ t431 then (if t431 < (y428.length : Int) then (some (rd y428 t431, t413, x7_3, wrap64 (1 + t424), t432)) else (none)) else (none)) = some (r1, r2, r3, r4, r5) := H
        have A19 := Aside0.mk A190
        clear A190
        by_cases c20 : 0 ≤ t431
        · rw [if_pos c20] at H
          have c20b0 : decide (0 ≤ t431) = true := decide_eq_true c20
          clear c20
          by_cases c21 : t431 < (y428.length : Int)
          · rw [if_pos c21] at H
            have c21b0 : decide (t431 < (y428.length : Int)) = true := decide_eq_true c21
            clear c21
            simp only [Option.some.injEq, Prod.mk.injEq] at H
            obtain ⟨rfl, rfl, rfl, rfl, rfl⟩ := H
            go_wp2_with (first | ((with_reducible refine gate_callee (f := 64) rfl ?_); refine goesL_ (some 30) rfl rfl Try.func64 (by kernel_rfl) rfl #[.pointer (some ⟨g, 0, none⟩), .int .i64 5] rfl (by (try simp only [List.map_toArray, List.map_cons, List.map_nil]); first | done | rfl | (simp only [List.length_drop, List.length_take]; rfl)) ?_; (with_reducible refine (spec_l1Rd_pick.calls kj3 g s0_0 x1001_3 5 t422 t423 w0 _ ?side1 ?side2 A15.out).mono ?_); (case side1 => repeat (first | (with_reducible first | exact HI0.out | apply IsS103.alloc | apply IsS103.drewN | apply IsS103.drew | apply IsS103.set_1) | exact HI0.out)); (case side2 => repeat (first | (with_reducible first | exact HB.out | apply below_alloc | apply pw_below_drewN | apply below_drew1 | refine below_set ?_ (IsS103.ge HI0.out)) | exact HB.out)); rintro e w22 ⟨rfl, hi, hb, hk⟩; refine ⟨_, rfl, ?_⟩; have n0_ := Aside0.mk (KeepBut.trans (by repeat (first | (with_reducible first | exact HK.out | apply KeepBut.set_ | apply keep_drewN | apply keep_drew | apply keep_alloc) | exact HK.out)) hk (.inl rfl)); have n1_ := Aside0.mk (hb); have n2_ := Aside0.mk (hi); clear HK; clear HB; clear HI0; have HK := n0_; have HB := n1_; have HI0 := n2_; clear n0_ n1_ n2_; (try clear hb); (try clear hb2); (try clear hk); (try clear hi)) | ((with_reducible refine gate_callee (f := 64) rfl ?_); refine goesL_ (some 32) rfl rfl Try.func64 (by kernel_rfl) rfl #[.pointer (some ⟨g, 0, none⟩), .int .i64 4] rfl (by (try simp only [List.map_toArray, List.map_cons, List.map_nil]); first | done | rfl | (simp only [List.length_drop, List.length_take]; rfl)) ?_; (with_reducible refine (spec_l1Rd_pick.calls kj3 g s0_0 t423 4 t424 t425 w0 _ ?side1 ?side2 A16.out).mono ?_); (case side1 => repeat (first | (with_reducible first | exact HI0.out | apply IsS103.alloc | apply IsS103.drewN | apply IsS103.drew | apply IsS103.set_1) | exact HI0.out)); (case side2 => repeat (first | (with_reducible first | exact HB.out | apply below_alloc | apply pw_below_drewN | apply below_drew1 | refine below_set ?_ (IsS103.ge HI0.out)) | exact HB.out)); rintro e w23 ⟨rfl, hi, hb, hk⟩; refine ⟨_, rfl, ?_⟩; have n0_ := Aside0.mk (KeepBut.trans (by repeat (first | (with_reducible first | exact HK.out | apply KeepBut.set_ | apply keep_drewN | apply keep_drew | apply keep_alloc) | exact HK.out)) hk (.inl rfl)); have n1_ := Aside0.mk (hb); have n2_ := Aside0.mk (hi); clear HK; clear HB; clear HI0; have HK := n0_; have HB := n1_; have HI0 := n2_; clear n0_ n1_ n2_; (try clear hb); (try clear hb2); (try clear hk); (try clear hi)) | ((with_reducible refine gate_callee (f := 64) rfl ?_); refine goesL_ (some 35) rfl rfl Try.func64 (by kernel_rfl) rfl #[.pointer (some ⟨g, 0, none⟩), .int .i64 16] rfl (by (try simp only [List.map_toArray, List.map_cons, List.map_nil]); first | done | rfl | (simp only [List.length_drop, List.length_take]; rfl)) ?_; (with_reducible refine (spec_l1Rd_pick.calls kj3 g s0_0 t425 16 t426 t427 w0 _ ?side1 ?side2 A17.out).mono ?_); (case side1 => repeat (first | (with_reducible first | exact HI0.out | apply IsS103.alloc | apply IsS103.drewN | apply IsS103.drew | apply IsS103.set_1) | exact HI0.out)); (case side2 => repeat (first | (with_reducible first | exact HB.out | apply below_alloc | apply pw_below_drewN | apply below_drew1 | refine below_set ?_ (IsS103.ge HI0.out)) | exact HB.out)); rintro e w24 ⟨rfl, hi, hb, hk⟩; refine ⟨_, rfl, ?_⟩; have n0_ := Aside0.mk (KeepBut.trans (by repeat (first | (with_reducible first | exact HK.out | apply KeepBut.set_ | apply keep_drewN | apply keep_drew | apply keep_alloc) | exact HK.out)) hk (.inl rfl)); have n1_ := Aside0.mk (hb); have n2_ := Aside0.mk (hi); clear HK; clear HB; clear HI0; have HK := n0_; have HB := n1_; have HI0 := n2_; clear n0_ n1_ n2_; (try clear hb); (try clear hb2); (try clear hk); (try clear hi)) | ((with_reducible refine gate_dst (N := 38) rfl ?_); refine Kd.R_lit (Kd.int .i64) _ 3 ?hg (N := 38) ?hd (xs := ([(-1), 5] : List Int)) (inner := [.int .i64 (-1), .int .i64 5]) (ok := fun _ => True) (okp := fun _ => True) ?hr ?hp (fun _ hk => hk) trivial (Below.refl _ _) (Nat.le_refl _) (by simp) ?_; (case hd => rfl); (case hg => rfl); (case hr => first | (go_simp; done) | (go_simp; rfl)); (case hp => exact (Reps.one (show Kd.M (Kd.int .i64) _ _ _ (-1) [.int .i64 (-1)] from rfl) (Reps.one (show Kd.M (Kd.int .i64) _ _ _ 5 [.int .i64 5] from rfl) (Reps.none _ _)))); intro v429 w25 ho26 hb hg_ hnew_; clear hg_ hnew_; (first | rw [← Ny428.out] at ho26 | (simp only [Int.reduceToNat] at ho26; rw [← Ny428.out] at ho26)); have n0_ := Aside0.mk (Kd.R_lower ho26 (keep_size (w := w) (g := g) (row := none) (by repeat (first | (with_reducible first | exact HK.out | apply KeepBut.set_ | apply keep_drewN | apply keep_drew | apply keep_alloc) | exact HK.out)))); have n1_ := Aside0.mk (IsS103.below (by repeat (first | (with_reducible first | exact HI0.out | apply IsS103.alloc | apply IsS103.drewN | apply IsS103.drew | apply IsS103.set_1) | exact HI0.out)) hb); have n2_ := Aside0.mk (KeepBut.trans (by repeat (first | (with_reducible first | exact HK.out | apply KeepBut.set_ | apply keep_drewN | apply keep_drew | apply keep_alloc) | exact HK.out)) (KeepBut.of_below hb g none) (.inl rfl)); have n3_ := Aside0.mk (below_step (by repeat (first | (with_reducible first | exact HB.out | apply below_alloc | apply pw_below_drewN | apply below_drew1 | refine below_set ?_ (IsS103.ge HI0.out)) | exact HB.out)) hb); clear HI0; clear HK; clear HB; have HO430 := n0_; have HI0 := n1_; have HK := n2_; have HB := n3_; clear n0_ n1_ n2_ n3_; clear hb ho26) | ((with_reducible refine gate_callee (f := 64) rfl ?_); refine goesL_ (some 40) rfl rfl Try.func64 (by kernel_rfl) rfl #[.pointer (some ⟨g, 0, none⟩), .int .i64 2] rfl (by (try simp only [List.map_toArray, List.map_cons, List.map_nil]); first | done | rfl | (simp only [List.length_drop, List.length_take]; rfl)) ?_; (with_reducible refine (spec_l1Rd_pick.calls kj3 g s0_0 t427 2 t431 t432 w0 _ ?side1 ?side2 A19.out).mono ?_); (case side1 => repeat (first | (with_reducible first | exact HI0.out | apply IsS103.alloc | apply IsS103.drewN | apply IsS103.drew | apply IsS103.set_1) | exact HI0.out)); (case side2 => repeat (first | (with_reducible first | exact HB.out | apply below_alloc | apply pw_below_drewN | apply below_drew1 | refine below_set ?_ (IsS103.ge HI0.out)) | exact HB.out)); rintro e w27 ⟨rfl, hi, hb, hk⟩; refine ⟨_, rfl, ?_⟩; have n0_ := Aside0.mk (Kd.R_mono (Kd.R_keep (IsS103.apart (show IsS103 w0 _ g s0_0 t427 from by repeat (first | (with_reducible first | exact HI0.out | apply IsS103.alloc | apply IsS103.drewN | apply IsS103.drew | apply IsS103.set_1) | exact HI0.out)) (by (with_reducible repeat (first | apply Kd.R_alloc | apply Kd.R_drewN | apply Kd.R_drew)); exact HO430.out) (by decide)) hk (fun _ h => h.2)) (fun _ h => h.1)); have n1_ := Aside0.mk (KeepBut.trans (by repeat (first | (with_reducible first | exact HK.out | apply KeepBut.set_ | apply keep_drewN | apply keep_drew | apply keep_alloc) | exact HK.out)) hk (.inl rfl)); have n2_ := Aside0.mk (hb); have n3_ := Aside0.mk (hi); clear HO430; clear HK; clear HB; clear HI0; have HO430 := n0_; have HK := n1_; have HB := n2_; have HI0 := n3_; clear n0_ n1_ n2_ n3_; (try clear hb); (try clear hb2); (try clear hk); (try clear hi); obtain ⟨Ao28, co28, eo28⟩ := Kd.R_slice HO430.out; subst eo28; have p433 : 0 ≤ (t431 : Int) := of_decide_eq_true (by first | (with_reducible assumption) | assumption); have q433 : t431 < (y428.length : Int) := of_decide_eq_true (by first | (with_reducible assumption) | assumption); obtain ⟨ad433, e433, hx433_0⟩ := Kd.at_int (Kd.R_reads' HO430.out).2.2 t431 p433 q433; cases e433; replace p433 := eq_true p433; replace q433 := eq_true q433))
            refine bodyPost_ret (results_list (rs := [.tmp 2, .tmp 3, .tmp 4, .tmp 5]) rfl (by simp) (.tmp (.tmp (.tmp (.tmp .nil))))) rfl ?_
            exact ⟨by first | rfl | (simp [errW_none, errW_some] <;> rfl) | (simp [*, errW_none, errW_some] <;> rfl), by repeat (first | (with_reducible first | exact HI0.out | apply IsS103.alloc | apply IsS103.drewN | apply IsS103.drew | apply IsS103.set_1) | exact HI0.out), by repeat (first | (with_reducible first | exact HB.out | apply below_alloc | apply pw_below_drewN | apply below_drew1 | refine below_set ?_ (IsS103.ge HI0.out)) | exact HB.out), by repeat (first | (with_reducible first | exact HK.out | apply KeepBut.set_ | apply keep_drewN | apply keep_drew | apply keep_alloc) | exact HK.out)⟩
          · rw [if_neg c21] at H
            exact absurd H (by simp)
        · rw [if_neg c20] at H
          exact absurd H (by simp)
      · rw [if_neg c18] at H
        have c18b0 : (t426 == 0) = false := beq_eq_false_iff_ne.mpr c18
        have c18b1 : (t426 != 0) = true := bne_iff_ne.mpr c18
        by_cases c29 : t426 = 1
        · rw [if_pos c29] at H
          have c29b0 : (t426 == 1) = true := beq_iff_eq.mpr c29
          have c29b1 : (t426 != 1) = false := bne_eq_false_iff_eq.mpr c29
          clear c29
          obtain ⟨y434, hy434⟩ : ∃ y_ : List Int, y_ = (([0, 5] : List Int)) := ⟨_, rfl⟩
          replace H : ((spec_l1Rd_pick.f kj3 s0_0 t427 2).bind fun bt437 => (if 0 ≤ bt437.1 then (if bt437.1 < (y434.length : Int) then (some (t422, t413, x7_3, rd y434 bt437.1, bt437.2)) else (none)) else (none))) = some (r1, r2, r3, r4, r5) := by first | (rw [hy434]; with_reducible exact H) | (have H2_ := (Option.bind_some _ _).symm.trans H; rw [hy434]; with_reducible exact H2_) | (have H2_ := (Option.bind_some _ _).symm.trans H; with_reducible exact H2_) | with_reducible exact H | (rw [hy434]; exact H) | exact H
          have Ny434 := Aside0.mk hy434
          clear hy434
          replace H := Option.bind_eq_some_iff.mp H
          obtain ⟨⟨t437, t438⟩, A300, H⟩ := H
          replace H : (if 0 ≤ t437 then (if t437 < (y434.length : Int) then (some (t422, t413, x7_3, rd y434 t437, t438)) else (none)) else (none)) = some (r1, r2, r3, r4, r5) := H
          have A30 := Aside0.mk A300
          clear A300
          by_cases c31 : 0 ≤ t437
          · rw [if_pos c31] at H
            have c31b0 : decide (0 ≤ t437) = true := decide_eq_true c31
            clear c31
            by_cases c32 : t437 < (y434.length : Int)
            · rw [if_pos c32] at H
              have c32b0 : decide (t437 < (y434.length : Int)) = true := decide_eq_true c32
              clear c32
              simp only [Option.some.injEq, Prod.mk.injEq] at H
              obtain ⟨rfl, rfl, rfl, rfl, rfl⟩ := H
              go_wp2_with (first | ((with_reducible refine gate_callee (f := 64) rfl ?_); refine goesL_ (some 30) rfl rfl Try.func64 (by kernel_rfl) rfl #[.pointer (some ⟨g, 0, none⟩), .int .i64 5] rfl (by (try simp only [List.map_toArray, List.map_cons, List.map_nil]); first | done | rfl | (simp only [List.length_drop, List.length_take]; rfl)) ?_; (with_reducible refine (spec_l1Rd_pick.calls kj3 g s0_0 x1001_3 5 t422 t423 w0 _ ?side1 ?side2 A15.out).mono ?_); (case side1 => repeat (first | (with_reducible first | exact HI0.out | apply IsS103.alloc | apply IsS103.drewN | apply IsS103.drew | apply IsS103.set_1) | exact HI0.out)); (case side2 => repeat (first | (with_reducible first | exact HB.out | apply below_alloc | apply pw_below_drewN | apply below_drew1 | refine below_set ?_ (IsS103.ge HI0.out)) | exact HB.out)); rintro e w33 ⟨rfl, hi, hb, hk⟩; refine ⟨_, rfl, ?_⟩; have n0_ := Aside0.mk (KeepBut.trans (by repeat (first | (with_reducible first | exact HK.out | apply KeepBut.set_ | apply keep_drewN | apply keep_drew | apply keep_alloc) | exact HK.out)) hk (.inl rfl)); have n1_ := Aside0.mk (hb); have n2_ := Aside0.mk (hi); clear HK; clear HB; clear HI0; have HK := n0_; have HB := n1_; have HI0 := n2_; clear n0_ n1_ n2_; (try clear hb); (try clear hb2); (try clear hk); (try clear hi)) | ((with_reducible refine gate_callee (f := 64) rfl ?_); refine goesL_ (some 32) rfl rfl Try.func64 (by kernel_rfl) rfl #[.pointer (some ⟨g, 0, none⟩), .int .i64 4] rfl (by (try simp only [List.map_toArray, List.map_cons, List.map_nil]); first | done | rfl | (simp only [List.length_drop, List.length_take]; rfl)) ?_; (with_reducible refine (spec_l1Rd_pick.calls kj3 g s0_0 t423 4 t424 t425 w0 _ ?side1 ?side2 A16.out).mono ?_); (case side1 => repeat (first | (with_reducible first | exact HI0.out | apply IsS103.alloc | apply IsS103.drewN | apply IsS103.drew | apply IsS103.set_1) | exact HI0.out)); (case side2 => repeat (first | (with_reducible first | exact HB.out | apply below_alloc | apply pw_below_drewN | apply below_drew1 | refine below_set ?_ (IsS103.ge HI0.out)) | exact HB.out)); rintro e w34 ⟨rfl, hi, hb, hk⟩; refine ⟨_, rfl, ?_⟩; have n0_ := Aside0.mk (KeepBut.trans (by repeat (first | (with_reducible first | exact HK.out | apply KeepBut.set_ | apply keep_drewN | apply keep_drew | apply keep_alloc) | exact HK.out)) hk (.inl rfl)); have n1_ := Aside0.mk (hb); have n2_ := Aside0.mk (hi); clear HK; clear HB; clear HI0; have HK := n0_; have HB := n1_; have HI0 := n2_; clear n0_ n1_ n2_; (try clear hb); (try clear hb2); (try clear hk); (try clear hi)) | ((with_reducible refine gate_callee (f := 64) rfl ?_); refine goesL_ (some 35) rfl rfl Try.func64 (by kernel_rfl) rfl #[.pointer (some ⟨g, 0, none⟩), .int .i64 16] rfl (by (try simp only [List.map_toArray, List.map_cons, List.map_nil]); first | done | rfl | (simp only [List.length_drop, List.length_take]; rfl)) ?_; (with_reducible refine (spec_l1Rd_pick.calls kj3 g s0_0 t425 16 t426 t427 w0 _ ?side1 ?side2 A17.out).mono ?_); (case side1 => repeat (first | (with_reducible first | exact HI0.out | apply IsS103.alloc | apply IsS103.drewN | apply IsS103.drew | apply IsS103.set_1) | exact HI0.out)); (case side2 => repeat (first | (with_reducible first | exact HB.out | apply below_alloc | apply pw_below_drewN | apply below_drew1 | refine below_set ?_ (IsS103.ge HI0.out)) | exact HB.out)); rintro e w35 ⟨rfl, hi, hb, hk⟩; refine ⟨_, rfl, ?_⟩; have n0_ := Aside0.mk (KeepBut.trans (by repeat (first | (with_reducible first | exact HK.out | apply KeepBut.set_ | apply keep_drewN | apply keep_drew | apply keep_alloc) | exact HK.out)) hk (.inl rfl)); have n1_ := Aside0.mk (hb); have n2_ := Aside0.mk (hi); clear HK; clear HB; clear HI0; have HK := n0_; have HB := n1_; have HI0 := n2_; clear n0_ n1_ n2_; (try clear hb); (try clear hb2); (try clear hk); (try clear hi)) | ((with_reducible refine gate_dst (N := 45) rfl ?_); refine Kd.R_lit (Kd.int .i64) _ 3 ?hg (N := 45) ?hd (xs := ([0, 5] : List Int)) (inner := [.int .i64 0, .int .i64 5]) (ok := fun _ => True) (okp := fun _ => True) ?hr ?hp (fun _ hk => hk) trivial (Below.refl _ _) (Nat.le_refl _) (by simp) ?_; (case hd => rfl); (case hg => rfl); (case hr => first | (go_simp; done) | (go_simp; rfl)); (case hp => exact (Reps.one (show Kd.M (Kd.int .i64) _ _ _ 0 [.int .i64 0] from rfl) (Reps.one (show Kd.M (Kd.int .i64) _ _ _ 5 [.int .i64 5] from rfl) (Reps.none _ _)))); intro v435 w36 ho37 hb hg_ hnew_; clear hg_ hnew_; (first | rw [← Ny434.out] at ho37 | (simp only [Int.reduceToNat] at ho37; rw [← Ny434.out] at ho37)); have n0_ := Aside0.mk (Kd.R_lower ho37 (keep_size (w := w) (g := g) (row := none) (by repeat (first | (with_reducible first | exact HK.out | apply KeepBut.set_ | apply keep_drewN | apply keep_drew | apply keep_alloc) | exact HK.out)))); have n1_ := Aside0.mk (IsS103.below (by repeat (first | (with_reducible first | exact HI0.out | apply IsS103.alloc | apply IsS103.drewN | apply IsS103.drew | apply IsS103.set_1) | exact HI0.out)) hb); have n2_ := Aside0.mk (KeepBut.trans (by repeat (first | (with_reducible first | exact HK.out | apply KeepBut.set_ | apply keep_drewN | apply keep_drew | apply keep_alloc) | exact HK.out)) (KeepBut.of_below hb g none) (.inl rfl)); have n3_ := Aside0.mk (below_step (by repeat (first | (with_reducible first | exact HB.out | apply below_alloc | apply pw_below_drewN | apply below_drew1 | refine below_set ?_ (IsS103.ge HI0.out)) | exact HB.out)) hb); clear HI0; clear HK; clear HB; have HO436 := n0_; have HI0 := n1_; have HK := n2_; have HB := n3_; clear n0_ n1_ n2_ n3_; clear hb ho37) | ((with_reducible refine gate_callee (f := 64) rfl ?_); refine goesL_ (some 47) rfl rfl Try.func64 (by kernel_rfl) rfl #[.pointer (some ⟨g, 0, none⟩), .int .i64 2] rfl (by (try simp only [List.map_toArray, List.map_cons, List.map_nil]); first | done | rfl | (simp only [List.length_drop, List.length_take]; rfl)) ?_; (with_reducible refine (spec_l1Rd_pick.calls kj3 g s0_0 t427 2 t437 t438 w0 _ ?side1 ?side2 A30.out).mono ?_); (case side1 => repeat (first | (with_reducible first | exact HI0.out | apply IsS103.alloc | apply IsS103.drewN | apply IsS103.drew | apply IsS103.set_1) | exact HI0.out)); (case side2 => repeat (first | (with_reducible first | exact HB.out | apply below_alloc | apply pw_below_drewN | apply below_drew1 | refine below_set ?_ (IsS103.ge HI0.out)) | exact HB.out)); rintro e w38 ⟨rfl, hi, hb, hk⟩; refine ⟨_, rfl, ?_⟩; have n0_ := Aside0.mk (Kd.R_mono (Kd.R_keep (IsS103.apart (show IsS103 w0 _ g s0_0 t427 from by repeat (first | (with_reducible first | exact HI0.out | apply IsS103.alloc | apply IsS103.drewN | apply IsS103.drew | apply IsS103.set_1) | exact HI0.out)) (by (with_reducible repeat (first | apply Kd.R_alloc | apply Kd.R_drewN | apply Kd.R_drew)); exact HO436.out) (by decide)) hk (fun _ h => h.2)) (fun _ h => h.1)); have n1_ := Aside0.mk (KeepBut.trans (by repeat (first | (with_reducible first | exact HK.out | apply KeepBut.set_ | apply keep_drewN | apply keep_drew | apply keep_alloc) | exact HK.out)) hk (.inl rfl)); have n2_ := Aside0.mk (hb); have n3_ := Aside0.mk (hi); clear HO436; clear HK; clear HB; clear HI0; have HO436 := n0_; have HK := n1_; have HB := n2_; have HI0 := n3_; clear n0_ n1_ n2_ n3_; (try clear hb); (try clear hb2); (try clear hk); (try clear hi); obtain ⟨Ao39, co39, eo39⟩ := Kd.R_slice HO436.out; subst eo39; have p439 : 0 ≤ (t437 : Int) := of_decide_eq_true (by first | (with_reducible assumption) | assumption); have q439 : t437 < (y434.length : Int) := of_decide_eq_true (by first | (with_reducible assumption) | assumption); obtain ⟨ad439, e439, hx439_0⟩ := Kd.at_int (Kd.R_reads' HO436.out).2.2 t437 p439 q439; cases e439; replace p439 := eq_true p439; replace q439 := eq_true q439))
              refine bodyPost_ret (results_list (rs := [.tmp 2, .tmp 3, .tmp 4, .tmp 5]) rfl (by simp) (.tmp (.tmp (.tmp (.tmp .nil))))) rfl ?_
              exact ⟨by first | rfl | (simp [errW_none, errW_some] <;> rfl) | (simp [*, errW_none, errW_some] <;> rfl), by repeat (first | (with_reducible first | exact HI0.out | apply IsS103.alloc | apply IsS103.drewN | apply IsS103.drew | apply IsS103.set_1) | exact HI0.out), by repeat (first | (with_reducible first | exact HB.out | apply below_alloc | apply pw_below_drewN | apply below_drew1 | refine below_set ?_ (IsS103.ge HI0.out)) | exact HB.out), by repeat (first | (with_reducible first | exact HK.out | apply KeepBut.set_ | apply keep_drewN | apply keep_drew | apply keep_alloc) | exact HK.out)⟩
            · rw [if_neg c32] at H
              exact absurd H (by simp)
          · rw [if_neg c31] at H
            exact absurd H (by simp)
        · rw [if_neg c29] at H
          have c29b0 : (t426 == 1) = false := beq_eq_false_iff_ne.mpr c29
          have c29b1 : (t426 != 1) = true := bne_iff_ne.mpr c29
          by_cases c40 : t426 = 2
          · rw [if_pos c40] at H
            have c40b0 : (t426 == 2) = true := beq_iff_eq.mpr c40
            have c40b1 : (t426 != 2) = false := bne_eq_false_iff_eq.mpr c40
            clear c40
            by_cases c41 : x7_3.size + 1 ≤ 9223372036854775807
            · rw [if_pos c41] at H
              have c41b0 := eq_true c41
              have c41b1 : decide (x7_3.size + 1 ≤ 9223372036854775807) = true := decide_eq_true c41
              try have c41b2 : (9223372036854775807 < x7_3.size + 1) = False := eq_false (Nat.not_lt.2 c41)
              simp only [Option.some.injEq, Prod.mk.injEq] at H
              obtain ⟨rfl, rfl, rfl, rfl, rfl⟩ := H
              go_wp2_with (first | ((with_reducible refine gate_callee (f := 64) rfl ?_); refine goesL_ (some 30) rfl rfl Try.func64 (by kernel_rfl) rfl #[.pointer (some ⟨g, 0, none⟩), .int .i64 5] rfl (by (try simp only [List.map_toArray, List.map_cons, List.map_nil]); first | done | rfl | (simp only [List.length_drop, List.length_take]; rfl)) ?_; (with_reducible refine (spec_l1Rd_pick.calls kj3 g s0_0 x1001_3 5 t422 t423 w0 _ ?side1 ?side2 A15.out).mono ?_); (case side1 => repeat (first | (with_reducible first | exact HI0.out | apply IsS103.alloc | apply IsS103.drewN | apply IsS103.drew | apply IsS103.set_1) | exact HI0.out)); (case side2 => repeat (first | (with_reducible first | exact HB.out | apply below_alloc | apply pw_below_drewN | apply below_drew1 | refine below_set ?_ (IsS103.ge HI0.out)) | exact HB.out)); rintro e w42 ⟨rfl, hi, hb, hk⟩; refine ⟨_, rfl, ?_⟩; have n0_ := Aside0.mk (KeepBut.trans (by repeat (first | (with_reducible first | exact HK.out | apply KeepBut.set_ | apply keep_drewN | apply keep_drew | apply keep_alloc) | exact HK.out)) hk (.inl rfl)); have n1_ := Aside0.mk (hb); have n2_ := Aside0.mk (hi); clear HK; clear HB; clear HI0; have HK := n0_; have HB := n1_; have HI0 := n2_; clear n0_ n1_ n2_; (try clear hb); (try clear hb2); (try clear hk); (try clear hi)) | ((with_reducible refine gate_callee (f := 64) rfl ?_); refine goesL_ (some 32) rfl rfl Try.func64 (by kernel_rfl) rfl #[.pointer (some ⟨g, 0, none⟩), .int .i64 4] rfl (by (try simp only [List.map_toArray, List.map_cons, List.map_nil]); first | done | rfl | (simp only [List.length_drop, List.length_take]; rfl)) ?_; (with_reducible refine (spec_l1Rd_pick.calls kj3 g s0_0 t423 4 t424 t425 w0 _ ?side1 ?side2 A16.out).mono ?_); (case side1 => repeat (first | (with_reducible first | exact HI0.out | apply IsS103.alloc | apply IsS103.drewN | apply IsS103.drew | apply IsS103.set_1) | exact HI0.out)); (case side2 => repeat (first | (with_reducible first | exact HB.out | apply below_alloc | apply pw_below_drewN | apply below_drew1 | refine below_set ?_ (IsS103.ge HI0.out)) | exact HB.out)); rintro e w43 ⟨rfl, hi, hb, hk⟩; refine ⟨_, rfl, ?_⟩; have n0_ := Aside0.mk (KeepBut.trans (by repeat (first | (with_reducible first | exact HK.out | apply KeepBut.set_ | apply keep_drewN | apply keep_drew | apply keep_alloc) | exact HK.out)) hk (.inl rfl)); have n1_ := Aside0.mk (hb); have n2_ := Aside0.mk (hi); clear HK; clear HB; clear HI0; have HK := n0_; have HB := n1_; have HI0 := n2_; clear n0_ n1_ n2_; (try clear hb); (try clear hb2); (try clear hk); (try clear hi)) | ((with_reducible refine gate_callee (f := 64) rfl ?_); refine goesL_ (some 35) rfl rfl Try.func64 (by kernel_rfl) rfl #[.pointer (some ⟨g, 0, none⟩), .int .i64 16] rfl (by (try simp only [List.map_toArray, List.map_cons, List.map_nil]); first | done | rfl | (simp only [List.length_drop, List.length_take]; rfl)) ?_; (with_reducible refine (spec_l1Rd_pick.calls kj3 g s0_0 t425 16 t426 t427 w0 _ ?side1 ?side2 A17.out).mono ?_); (case side1 => repeat (first | (with_reducible first | exact HI0.out | apply IsS103.alloc | apply IsS103.drewN | apply IsS103.drew | apply IsS103.set_1) | exact HI0.out)); (case side2 => repeat (first | (with_reducible first | exact HB.out | apply below_alloc | apply pw_below_drewN | apply below_drew1 | refine below_set ?_ (IsS103.ge HI0.out)) | exact HB.out)); rintro e w44 ⟨rfl, hi, hb, hk⟩; refine ⟨_, rfl, ?_⟩; have n0_ := Aside0.mk (KeepBut.trans (by repeat (first | (with_reducible first | exact HK.out | apply KeepBut.set_ | apply keep_drewN | apply keep_drew | apply keep_alloc) | exact HK.out)) hk (.inl rfl)); have n1_ := Aside0.mk (hb); have n2_ := Aside0.mk (hi); clear HK; clear HB; clear HI0; have HK := n0_; have HB := n1_; have HI0 := n2_; clear n0_ n1_ n2_; (try clear hb); (try clear hb2); (try clear hk); (try clear hi)))
              refine bodyPost_ret (results_list (rs := [.tmp 2, .tmp 3, .tmp 4, .tmp 5]) rfl (by simp) (.tmp (.tmp (.tmp (.tmp .nil))))) rfl ?_
              exact ⟨by first | rfl | (simp [errW_none, errW_some] <;> rfl) | (simp [*, errW_none, errW_some] <;> rfl), by repeat (first | (with_reducible first | exact HI0.out | apply IsS103.alloc | apply IsS103.drewN | apply IsS103.drew | apply IsS103.set_1) | exact HI0.out), by repeat (first | (with_reducible first | exact HB.out | apply below_alloc | apply pw_below_drewN | apply below_drew1 | refine below_set ?_ (IsS103.ge HI0.out)) | exact HB.out), by repeat (first | (with_reducible first | exact HK.out | apply KeepBut.set_ | apply keep_drewN | apply keep_drew | apply keep_alloc) | exact HK.out)⟩
            · rw [if_neg c41] at H
              exact absurd H (by simp)
          · rw [if_neg c40] at H
            have c40b0 : (t426 == 2) = false := beq_eq_false_iff_ne.mpr c40
            have c40b1 : (t426 != 2) = true := bne_iff_ne.mpr c40
            simp only [Option.some.injEq, Prod.mk.injEq] at H
            obtain ⟨rfl, rfl, rfl, rfl, rfl⟩ := H
            go_wp2_with (first | ((with_reducible refine gate_callee (f := 64) rfl ?_); refine goesL_ (some 30) rfl rfl Try.func64 (by kernel_rfl) rfl #[.pointer (some ⟨g, 0, none⟩), .int .i64 5] rfl (by (try simp only [List.map_toArray, List.map_cons, List.map_nil]); first | done | rfl | (simp only [List.length_drop, List.length_take]; rfl)) ?_; (with_reducible refine (spec_l1Rd_pick.calls kj3 g s0_0 x1001_3 5 t422 t423 w0 _ ?side1 ?side2 A15.out).mono ?_); (case side1 => repeat (first | (with_reducible first | exact HI0.out | apply IsS103.alloc | apply IsS103.drewN | apply IsS103.drew | apply IsS103.set_1) | exact HI0.out)); (case side2 => repeat (first | (with_reducible first | exact HB.out | apply below_alloc | apply pw_below_drewN | apply below_drew1 | refine below_set ?_ (IsS103.ge HI0.out)) | exact HB.out)); rintro e w45 ⟨rfl, hi, hb, hk⟩; refine ⟨_, rfl, ?_⟩; have n0_ := Aside0.mk (KeepBut.trans (by repeat (first | (with_reducible first | exact HK.out | apply KeepBut.set_ | apply keep_drewN | apply keep_drew | apply keep_alloc) | exact HK.out)) hk (.inl rfl)); have n1_ := Aside0.mk (hb); have n2_ := Aside0.mk (hi); clear HK; clear HB; clear HI0; have HK := n0_; have HB := n1_; have HI0 := n2_; clear n0_ n1_ n2_; (try clear hb); (try clear hb2); (try clear hk); (try clear hi)) | ((with_reducible refine gate_callee (f := 64) rfl ?_); refine goesL_ (some 32) rfl rfl Try.func64 (by kernel_rfl) rfl #[.pointer (some ⟨g, 0, none⟩), .int .i64 4] rfl (by (try simp only [List.map_toArray, List.map_cons, List.map_nil]); first | done | rfl | (simp only [List.length_drop, List.length_take]; rfl)) ?_; (with_reducible refine (spec_l1Rd_pick.calls kj3 g s0_0 t423 4 t424 t425 w0 _ ?side1 ?side2 A16.out).mono ?_); (case side1 => repeat (first | (with_reducible first | exact HI0.out | apply IsS103.alloc | apply IsS103.drewN | apply IsS103.drew | apply IsS103.set_1) | exact HI0.out)); (case side2 => repeat (first | (with_reducible first | exact HB.out | apply below_alloc | apply pw_below_drewN | apply below_drew1 | refine below_set ?_ (IsS103.ge HI0.out)) | exact HB.out)); rintro e w46 ⟨rfl, hi, hb, hk⟩; refine ⟨_, rfl, ?_⟩; have n0_ := Aside0.mk (KeepBut.trans (by repeat (first | (with_reducible first | exact HK.out | apply KeepBut.set_ | apply keep_drewN | apply keep_drew | apply keep_alloc) | exact HK.out)) hk (.inl rfl)); have n1_ := Aside0.mk (hb); have n2_ := Aside0.mk (hi); clear HK; clear HB; clear HI0; have HK := n0_; have HB := n1_; have HI0 := n2_; clear n0_ n1_ n2_; (try clear hb); (try clear hb2); (try clear hk); (try clear hi)) | ((with_reducible refine gate_callee (f := 64) rfl ?_); refine goesL_ (some 35) rfl rfl Try.func64 (by kernel_rfl) rfl #[.pointer (some ⟨g, 0, none⟩), .int .i64 16] rfl (by (try simp only [List.map_toArray, List.map_cons, List.map_nil]); first | done | rfl | (simp only [List.length_drop, List.length_take]; rfl)) ?_; (with_reducible refine (spec_l1Rd_pick.calls kj3 g s0_0 t425 16 t426 t427 w0 _ ?side1 ?side2 A17.out).mono ?_); (case side1 => repeat (first | (with_reducible first | exact HI0.out | apply IsS103.alloc | apply IsS103.drewN | apply IsS103.drew | apply IsS103.set_1) | exact HI0.out)); (case side2 => repeat (first | (with_reducible first | exact HB.out | apply below_alloc | apply pw_below_drewN | apply below_drew1 | refine below_set ?_ (IsS103.ge HI0.out)) | exact HB.out)); rintro e w47 ⟨rfl, hi, hb, hk⟩; refine ⟨_, rfl, ?_⟩; have n0_ := Aside0.mk (KeepBut.trans (by repeat (first | (with_reducible first | exact HK.out | apply KeepBut.set_ | apply keep_drewN | apply keep_drew | apply keep_alloc) | exact HK.out)) hk (.inl rfl)); have n1_ := Aside0.mk (hb); have n2_ := Aside0.mk (hi); clear HK; clear HB; clear HI0; have HK := n0_; have HB := n1_; have HI0 := n2_; clear n0_ n1_ n2_; (try clear hb); (try clear hb2); (try clear hk); (try clear hi)))
            refine bodyPost_ret (results_list (rs := [.tmp 2, .tmp 3, .tmp 4, .tmp 5]) rfl (by simp) (.tmp (.tmp (.tmp (.tmp .nil))))) rfl ?_
            exact ⟨by first | rfl | (simp [errW_none, errW_some] <;> rfl) | (simp [*, errW_none, errW_some] <;> rfl), by repeat (first | (with_reducible first | exact HI0.out | apply IsS103.alloc | apply IsS103.drewN | apply IsS103.drew | apply IsS103.set_1) | exact HI0.out), by repeat (first | (with_reducible first | exact HB.out | apply below_alloc | apply pw_below_drewN | apply below_drew1 | refine below_set ?_ (IsS103.ge HI0.out)) | exact HB.out), by repeat (first | (with_reducible first | exact HK.out | apply KeepBut.set_ | apply keep_drewN | apply keep_drew | apply keep_alloc) | exact HK.out)⟩

end Go.Proofs.Yteikopjhekhchaa.P
