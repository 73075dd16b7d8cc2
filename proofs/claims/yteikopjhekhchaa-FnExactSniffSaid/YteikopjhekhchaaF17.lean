-- Written by a program of this session (wip/myprint.py) through the print of the kit: not trusted, Lean checks it.
import Derived.Test.YteikopjhekhchaaF00
import Derived.Test.YteikopjhekhchaaF52
import Derived.Test.YteikopjhekhchaaF53
namespace Go.Proofs.Yteikopjhekhchaa.P
open Go.RowKit Go.Proofs.YteikopjhekhchaaW.PrintWords Go.Proofs.YteikopjhekhchaaW.PrintLast Go.Proofs.YteikopjhekhchaaW.PrintMore
attribute [local go_sem] max2_int min2_int max_two min_two max_three min_three max_four min_four   -- for this text's walks alone
set_option linter.unusedVariables false
set_option linter.unusedSimpArgs false

/-! ### spec_Sniff: function 17 -/
def spec_Sniff.j0 : Nat → ByteArray → Bool → Option (Int)
  | 0, _, _ => none
  | k + 1, x0, x7 => if x7 = true then (some 2) else ((spec_l13Starts.f x0 (⟨#[66, 77]⟩ : ByteArray)).bind fun t112 => (if t112 = true then (some 3) else (if (x0.size : Int) > 1 then (if 0 < (x0.size : Int) then (if (bt x0 0) = 80 then (if 1 < (x0.size : Int) then (if (bt x0 1) ≥ 49 then (if (bt x0 1) ≤ 54 then (some 5) else (some 0)) else (some 0)) else (none)) else (some 0)) else (none)) else (some 0))))
def spec_Sniff.f (k : Nat) (a0 : ByteArray) : Option (Int) := (spec_l9Sign.f).bind fun t108 => ((spec_l13Starts.f a0 t108).bind fun t109 => (if t109 = true then (some 1) else ((spec_l13Starts.f a0 (⟨#[71, 73, 70, 56, 55, 97]⟩ : ByteArray)).bind fun t110 => (if t110 = true then (spec_Sniff.j0 k a0 t110) else ((spec_l13Starts.f a0 (⟨#[71, 73, 70, 56, 57, 97]⟩ : ByteArray)).bind fun t111 => (spec_Sniff.j0 k a0 t111))))))
theorem spec_Sniff.mono_l : ∀ k, (∀ y0 y1, LeO (spec_Sniff.j0 k y0 y1) (spec_Sniff.j0 (k + 1) y0 y1))
  | 0 => fun _ _ r h => by simp [spec_Sniff.j0] at h
  | k + 1 => by
    have ih0 := spec_Sniff.mono_l k
    · intro y0 y1
      unfold spec_Sniff.j0
      repeat' first
      | (with_reducible exact ih0 _ _)
      | (with_reducible exact LeO.refl _)
      | (with_reducible exact LeO.none _)
      | (with_reducible refine LeO.ite ?_ ?_)
      | (with_reducible refine LeO.bind ?_ (fun _ => ?_))
      | exact ih0 _ _
      | exact LeO.none _
      | refine LeO.ite ?_ ?_
      | refine LeO.bind ?_ (fun _ => ?_)
theorem spec_Sniff.mono : ∀ a0 k, LeO (spec_Sniff.f k a0) (spec_Sniff.f (k + 1) a0) := by
  intro a0 k
  have ih0 := spec_Sniff.mono_l k
  unfold spec_Sniff.f
  repeat' first
      | (with_reducible exact ih0 _ _)
      | (with_reducible exact LeO.refl _)
      | (with_reducible exact LeO.none _)
      | (with_reducible refine LeO.ite ?_ ?_)
      | (with_reducible refine LeO.bind ?_ (fun _ => ?_))
      | exact ih0 _ _
      | exact LeO.none _
      | refine LeO.ite ?_ ?_
      | refine LeO.bind ?_ (fun _ => ?_)
set_option maxHeartbeats 8000000 in
set_option maxRecDepth 100000 in
theorem spec_Sniff.calls (k : Nat) (a0 : ByteArray) (r : Int) (w : World) (h : spec_Sniff.f k a0 = some r) :
    Calls Try.prog 17 #[.string a0] w fun e w' => e = .returned (.int .i64 r) ∧ Below w.heap.size w w' := by
  have HB := Aside0.mk (Below.refl w.heap.size w)
  have H : ((spec_l9Sign.f).bind fun t108 => ((spec_l13Starts.f a0 t108).bind fun t109 => (if t109 = true then (some 1) else ((spec_l13Starts.f a0 (⟨#[71, 73, 70, 56, 55, 97]⟩ : ByteArray)).bind fun t110 => (if t110 = true then (spec_Sniff.j0 k a0 t110) else ((spec_l13Starts.f a0 (⟨#[71, 73, 70, 56, 57, 97]⟩ : ByteArray)).bind fun t111 => (spec_Sniff.j0 k a0 t111))))))) = some r := h
  clear h
  replace H := Option.bind_eq_some_iff.mp H
  obtain ⟨t108, A20, H⟩ := H
  replace H : ((spec_l13Starts.f a0 t108).bind fun t109 => (if t109 = true then (some 1) else ((spec_l13Starts.f a0 (⟨#[71, 73, 70, 56, 55, 97]⟩ : ByteArray)).bind fun t110 => (if t110 = true then (spec_Sniff.j0 k a0 t110) else ((spec_l13Starts.f a0 (⟨#[71, 73, 70, 56, 57, 97]⟩ : ByteArray)).bind fun t111 => (spec_Sniff.j0 k a0 t111)))))) = some r := H
  have A2 := Aside0.mk A20
  clear A20
  replace H := Option.bind_eq_some_iff.mp H
  obtain ⟨t109, A30, H⟩ := H
  replace H : (if t109 = true then (some 1) else ((spec_l13Starts.f a0 (⟨#[71, 73, 70, 56, 55, 97]⟩ : ByteArray)).bind fun t110 => (if t110 = true then (spec_Sniff.j0 k a0 t110) else ((spec_l13Starts.f a0 (⟨#[71, 73, 70, 56, 57, 97]⟩ : ByteArray)).bind fun t111 => (spec_Sniff.j0 k a0 t111))))) = some r := H
  have A3 := Aside0.mk A30
  clear A30
  by_cases c4 : t109 = true
  · subst c4
    have H1 : (some 1) = some r := by rw [if_pos rfl] at H; exact H
    clear H
    have H := H1
    clear H1
    obtain rfl := Option.some.inj H
    go_enter Try.func17, Try.ntmps17
    go_wp2_with (first | ((with_reducible refine gate_callee (f := 53) rfl ?_); refine goesL_ (some 5) rfl rfl Try.func53 (by kernel_rfl) rfl #[] rfl (by (try simp only [List.map_toArray, List.map_cons, List.map_nil]); first | done | rfl | (simp only [List.length_drop, List.length_take]; rfl)) ?_; (with_reducible refine (spec_l9Sign.calls  t108 _ A2.out).mono ?_); rintro e w5 ⟨rfl, hb⟩; refine ⟨_, rfl, ?_⟩; have n0_ := Aside0.mk (below_step (by repeat (first | (with_reducible first | exact HB.out | apply below_alloc | apply pw_below_drewN | apply below_drew1) | exact HB.out)) hb); clear HB; have HB := n0_; clear n0_; (try clear hb); (try clear hb2); (try clear hk); (try clear hi)) | ((with_reducible refine gate_callee (f := 52) rfl ?_); refine goesL_ (some 6) rfl rfl Try.func52 (by kernel_rfl) rfl #[.string a0, .string t108] rfl (by (try simp only [List.map_toArray, List.map_cons, List.map_nil]); first | done | rfl | (simp only [List.length_drop, List.length_take]; rfl)) ?_; (with_reducible refine (spec_l13Starts.calls a0 t108 true _ A3.out).mono ?_); rintro e w' ⟨rfl, ⟨nd, rfl⟩⟩; refine ⟨_, rfl, ?_⟩))
    go_ret
    exact ⟨by first | rfl | (simp [errW_none, errW_some] <;> rfl) | (simp [*, errW_none, errW_some] <;> rfl), by repeat (first | (with_reducible first | exact HB.out | apply below_alloc | apply pw_below_drewN | apply below_drew1) | exact HB.out)⟩
  · replace c4 := Bool.eq_false_iff.mpr c4
    subst c4
    have H1 : ((spec_l13Starts.f a0 (⟨#[71, 73, 70, 56, 55, 97]⟩ : ByteArray)).bind fun t110 => (if t110 = true then (spec_Sniff.j0 k a0 t110) else ((spec_l13Starts.f a0 (⟨#[71, 73, 70, 56, 57, 97]⟩ : ByteArray)).bind fun t111 => (spec_Sniff.j0 k a0 t111)))) = some r := by rw [if_neg (show ¬ (false = true) by decide)] at H; exact H
    clear H
    have H := H1
    clear H1
    replace H := Option.bind_eq_some_iff.mp H
    obtain ⟨t110, A60, H⟩ := H
    replace H : (if t110 = true then (spec_Sniff.j0 k a0 t110) else ((spec_l13Starts.f a0 (⟨#[71, 73, 70, 56, 57, 97]⟩ : ByteArray)).bind fun t111 => (spec_Sniff.j0 k a0 t111))) = some r := H
    have A6 := Aside0.mk A60
    clear A60
    have HC7 := Aside0.mk H
    clear H
    go_enter Try.func17, Try.ntmps17
    go_upto_if 7 with (first | ((with_reducible refine gate_callee (f := 53) rfl ?_); refine goesL_ (some 5) rfl rfl Try.func53 (by kernel_rfl) rfl #[] rfl (by (try simp only [List.map_toArray, List.map_cons, List.map_nil]); first | done | rfl | (simp only [List.length_drop, List.length_take]; rfl)) ?_; (with_reducible refine (spec_l9Sign.calls  t108 _ A2.out).mono ?_); rintro e w8 ⟨rfl, hb⟩; refine ⟨_, rfl, ?_⟩; have n0_ := Aside0.mk (below_step (by repeat (first | (with_reducible first | exact HB.out | apply below_alloc | apply pw_below_drewN | apply below_drew1) | exact HB.out)) hb); clear HB; have HB := n0_; clear n0_; (try clear hb); (try clear hb2); (try clear hk); (try clear hi)) | ((with_reducible refine gate_callee (f := 52) rfl ?_); refine goesL_ (some 6) rfl rfl Try.func52 (by kernel_rfl) rfl #[.string a0, .string t108] rfl (by (try simp only [List.map_toArray, List.map_cons, List.map_nil]); first | done | rfl | (simp only [List.length_drop, List.length_take]; rfl)) ?_; (with_reducible refine (spec_l13Starts.calls a0 t108 false _ A3.out).mono ?_); rintro e w' ⟨rfl, ⟨nd, rfl⟩⟩; refine ⟨_, rfl, ?_⟩) | ((with_reducible refine gate_callee (f := 52) rfl ?_); refine goesL_ (some 9) rfl rfl Try.func52 (by kernel_rfl) rfl #[.string a0, .string (⟨#[71, 73, 70, 56, 55, 97]⟩ : ByteArray)] rfl (by (try simp only [List.map_toArray, List.map_cons, List.map_nil]); first | done | rfl | (simp only [List.length_drop, List.length_take]; rfl)) ?_; (with_reducible refine (spec_l13Starts.calls a0 (⟨#[71, 73, 70, 56, 55, 97]⟩ : ByteArray) t110 _ A6.out).mono ?_); rintro e w' ⟨rfl, ⟨nd, rfl⟩⟩; refine ⟨_, rfl, ?_⟩))
    (try simp only [Act.put, List.setIfInBounds_toArray, List.set_cons_zero, List.set_cons_succ])
    go_cut [7] (fun v7 wc => ∃ (kq : Nat) (x7_6 : Bool), v7 = .bool x7_6 ∧ Aside0 (spec_Sniff.j0 kq a0 x7_6 = some r) ∧ Aside0 (kq ≤ k) ∧ Aside0 (Below w.heap.size w wc))
    case first =>
      have H := HC7.out
      clear HC7
      by_cases c9 : t110 = true
      · subst c9
        have H1 : (spec_Sniff.j0 k a0 true) = some r := by rw [if_pos rfl] at H; exact H
        clear H
        have H := H1
        clear H1
        have H' := Aside0.mk H
        clear H
        go_wp2
        go_meet
        case rel => exact ⟨_, (true), (by first | rfl | (simp; done) | (simp [*]; done)), H', ⟨by first | omega | exact Nat.le_refl _⟩, ⟨by repeat (first | (with_reducible first | exact HB.out | apply below_alloc | apply pw_below_drewN | apply below_drew1) | exact HB.out)⟩⟩
      · replace c9 := Bool.eq_false_iff.mpr c9
        subst c9
        have H1 : ((spec_l13Starts.f a0 (⟨#[71, 73, 70, 56, 57, 97]⟩ : ByteArray)).bind fun t111 => (spec_Sniff.j0 k a0 t111)) = some r := by rw [if_neg (show ¬ (false = true) by decide)] at H; exact H
        clear H
        have H := H1
        clear H1
        replace H := Option.bind_eq_some_iff.mp H
        obtain ⟨t111, A100, H⟩ := H
        replace H : (spec_Sniff.j0 k a0 t111) = some r := H
        have A10 := Aside0.mk A100
        clear A100
        have H' := Aside0.mk H
        clear H
        go_wp2_with (first | ((with_reducible refine gate_callee (f := 52) rfl ?_); refine goesL_ (some 11) rfl rfl Try.func52 (by kernel_rfl) rfl #[.string a0, .string (⟨#[71, 73, 70, 56, 57, 97]⟩ : ByteArray)] rfl (by (try simp only [List.map_toArray, List.map_cons, List.map_nil]); first | done | rfl | (simp only [List.length_drop, List.length_take]; rfl)) ?_; (with_reducible refine (spec_l13Starts.calls a0 (⟨#[71, 73, 70, 56, 57, 97]⟩ : ByteArray) t111 _ A10.out).mono ?_); rintro e w' ⟨rfl, ⟨nd, rfl⟩⟩; refine ⟨_, rfl, ?_⟩))
        go_meet
        case rel => exact ⟨_, (t111), (by first | rfl | (simp; done) | (simp [*]; done)), H', ⟨by first | omega | exact Nat.le_refl _⟩, ⟨by repeat (first | (with_reducible first | exact HB.out | apply below_alloc | apply pw_below_drewN | apply below_drew1) | exact HB.out)⟩⟩
    case rest =>
      clear HC7
      try clear c1
      try clear p2
      try clear c4
      try clear c5
      try clear c9
      obtain ⟨kq, x7_6, rfl, HA, HJ6, HB⟩ := hcut
      cases kq with
      | zero => exact absurd HA.out (by simp [spec_Sniff.j0])
      | succ kj6 =>
        have H := HA.out
        clear HA
        simp only [spec_Sniff.j0] at H
        by_cases c11 : x7_6 = true
        · subst c11
          have H1 : (some 2) = some r := by rw [if_pos rfl] at H; exact H
          clear H
          have H := H1
          clear H1
          obtain rfl := Option.some.inj H
          go_wp2
          go_ret
          exact ⟨by first | rfl | (simp [errW_none, errW_some] <;> rfl) | (simp [*, errW_none, errW_some] <;> rfl), by repeat (first | (with_reducible first | exact HB.out | apply below_alloc | apply pw_below_drewN | apply below_drew1) | exact HB.out)⟩
        · replace c11 := Bool.eq_false_iff.mpr c11
          subst c11
          have H1 : ((spec_l13Starts.f a0 (⟨#[66, 77]⟩ : ByteArray)).bind fun t112 => (if t112 = true then (some 3) else (if (a0.size : Int) > 1 then (if 0 < (a0.size : Int) then (if (bt a0 0) = 80 then (if 1 < (a0.size : Int) then (if (bt a0 1) ≥ 49 then (if (bt a0 1) ≤ 54 then (some 5) else (some 0)) else (some 0)) else (none)) else (some 0)) else (none)) else (some 0)))) = some r := by rw [if_neg (show ¬ (false = true) by decide)] at H; exact H
          clear H
          have H := H1
          clear H1
          replace H := Option.bind_eq_some_iff.mp H
          obtain ⟨t112, A120, H⟩ := H
          replace H : (if t112 = true then (some 3) else (if (a0.size : Int) > 1 then (if 0 < (a0.size : Int) then (if (bt a0 0) = 80 then (if 1 < (a0.size : Int) then (if (bt a0 1) ≥ 49 then (if (bt a0 1) ≤ 54 then (some 5) else (some 0)) else (some 0)) else (none)) else (some 0)) else (none)) else (some 0))) = some r := H
          have A12 := Aside0.mk A120
          clear A120
          by_cases c13 : t112 = true
          · subst c13
            have H1 : (some 3) = some r := by rw [if_pos rfl] at H; exact H
            clear H
            have H := H1
            clear H1
            obtain rfl := Option.some.inj H
            go_wp2_with (first | ((with_reducible refine gate_callee (f := 52) rfl ?_); refine goesL_ (some 14) rfl rfl Try.func52 (by kernel_rfl) rfl #[.string a0, .string (⟨#[66, 77]⟩ : ByteArray)] rfl (by (try simp only [List.map_toArray, List.map_cons, List.map_nil]); first | done | rfl | (simp only [List.length_drop, List.length_take]; rfl)) ?_; (with_reducible refine (spec_l13Starts.calls a0 (⟨#[66, 77]⟩ : ByteArray) true _ A12.out).mono ?_); rintro e w' ⟨rfl, ⟨nd, rfl⟩⟩; refine ⟨_, rfl, ?_⟩))
            go_ret
            exact ⟨by first | rfl | (simp [errW_none, errW_some] <;> rfl) | (simp [*, errW_none, errW_some] <;> rfl), by repeat (first | (with_reducible first | exact HB.out | apply below_alloc | apply pw_below_drewN | apply below_drew1) | exact HB.out)⟩
          · replace c13 := Bool.eq_false_iff.mpr c13
            subst c13
            have H1 : (if (a0.size : Int) > 1 then (if 0 < (a0.size : Int) then (if (bt a0 0) = 80 then (if 1 < (a0.size : Int) then (if (bt a0 1) ≥ 49 then (if (bt a0 1) ≤ 54 then (some 5) else (some 0)) else (some 0)) else (none)) else (some 0)) else (none)) else (some 0)) = some r := by rw [if_neg (show ¬ (false = true) by decide)] at H; exact H
            clear H
            have H := H1
            clear H1
            by_cases c14 : (a0.size : Int) > 1
            · rw [if_pos c14] at H
              have c14b0 : decide (1 < (a0.size : Int)) = true := decide_eq_true c14
              have c14b1 : decide (1 < a0.size) = true := decide_eq_true (by omega)
              clear c14
              by_cases c15 : 0 < (a0.size : Int)
              · rw [if_pos c15] at H
                have c15b0 : decide (0 < (a0.size : Int)) = true := decide_eq_true c15
                have c15b1 : decide (0 < a0.size) = true := decide_eq_true (by omega)
                clear c15
                by_cases c17 : (bt a0 0) = 80
                · rw [if_pos c17] at H
                  have c17b0 : ((bt a0 0) == 80) = true := beq_iff_eq.mpr c17
                  have c17b1 : ((bt a0 0) != 80) = false := bne_eq_false_iff_eq.mpr c17
                  clear c17
                  by_cases c18 : 1 < (a0.size : Int)
                  · rw [if_pos c18] at H
                    have c18b0 : decide (1 < (a0.size : Int)) = true := decide_eq_true c18
                    have c18b1 : decide (1 < a0.size) = true := decide_eq_true (by omega)
                    clear c18
                    by_cases c20 : (bt a0 1) ≥ 49
                    · rw [if_pos c20] at H
                      have c20b0 : decide (49 ≤ (bt a0 1)) = true := decide_eq_true c20
                      clear c20
                      by_cases c22 : (bt a0 1) ≤ 54
                      · rw [if_pos c22] at H
                        have c22b0 : decide ((bt a0 1) ≤ 54) = true := decide_eq_true c22
                        clear c22
                        obtain rfl := Option.some.inj H
                        go_wp2_with (first | ((with_reducible refine gate_callee (f := 52) rfl ?_); refine goesL_ (some 14) rfl rfl Try.func52 (by kernel_rfl) rfl #[.string a0, .string (⟨#[66, 77]⟩ : ByteArray)] rfl (by (try simp only [List.map_toArray, List.map_cons, List.map_nil]); first | done | rfl | (simp only [List.length_drop, List.length_take]; rfl)) ?_; (with_reducible refine (spec_l13Starts.calls a0 (⟨#[66, 77]⟩ : ByteArray) false _ A12.out).mono ?_); rintro e w' ⟨rfl, ⟨nd, rfl⟩⟩; refine ⟨_, rfl, ?_⟩; have p16 : 0 ≤ (0 : Int) := (by omega); have q16 : 0 < a0.size := (by have : (0 : Int) < (a0.size : Int) := of_decide_eq_true (by first | (with_reducible assumption) | assumption); omega); have hx16 : ∀ h : 0 < a0.size, ((a0[0]'h).toNat : Int) = bt a0 0 := bt_at a0 0; clear p16; have qi16 : (0 < (a0.size : Int)) = True := eq_true (of_decide_eq_true (by first | (with_reducible assumption) | assumption)); replace q16 := eq_true q16; have p19 : 0 ≤ (1 : Int) := (by omega); have q19 : 1 < a0.size := (by have : (1 : Int) < (a0.size : Int) := of_decide_eq_true (by first | (with_reducible assumption) | assumption); omega); have hx19 : ∀ h : 1 < a0.size, ((a0[1]'h).toNat : Int) = bt a0 1 := bt_at a0 1; clear p19; have qi19 : (1 < (a0.size : Int)) = True := eq_true (of_decide_eq_true (by first | (with_reducible assumption) | assumption)); replace q19 := eq_true q19; have p21 : 0 ≤ (1 : Int) := (by omega); have q21 : 1 < a0.size := (by have : (1 : Int) < (a0.size : Int) := of_decide_eq_true (by first | (with_reducible assumption) | assumption); omega); have hx21 : ∀ h : 1 < a0.size, ((a0[1]'h).toNat : Int) = bt a0 1 := bt_at a0 1; clear p21; have qi21 : (1 < (a0.size : Int)) = True := eq_true (of_decide_eq_true (by first | (with_reducible assumption) | assumption)); replace q21 := eq_true q21))
                        go_ret
                        exact ⟨by first | rfl | (simp [errW_none, errW_some] <;> rfl) | (simp [*, errW_none, errW_some] <;> rfl), by repeat (first | (with_reducible first | exact HB.out | apply below_alloc | apply pw_below_drewN | apply below_drew1) | exact HB.out)⟩
                      · rw [if_neg c22] at H
                        have c22b0 : decide ((bt a0 1) ≤ 54) = false := decide_eq_false c22
                        clear c22
                        obtain rfl := Option.some.inj H
                        go_wp2_with (first | ((with_reducible refine gate_callee (f := 52) rfl ?_); refine goesL_ (some 14) rfl rfl Try.func52 (by kernel_rfl) rfl #[.string a0, .string (⟨#[66, 77]⟩ : ByteArray)] rfl (by (try simp only [List.map_toArray, List.map_cons, List.map_nil]); first | done | rfl | (simp only [List.length_drop, List.length_take]; rfl)) ?_; (with_reducible refine (spec_l13Starts.calls a0 (⟨#[66, 77]⟩ : ByteArray) false _ A12.out).mono ?_); rintro e w' ⟨rfl, ⟨nd, rfl⟩⟩; refine ⟨_, rfl, ?_⟩; have p16 : 0 ≤ (0 : Int) := (by omega); have q16 : 0 < a0.size := (by have : (0 : Int) < (a0.size : Int) := of_decide_eq_true (by first | (with_reducible assumption) | assumption); omega); have hx16 : ∀ h : 0 < a0.size, ((a0[0]'h).toNat : Int) = bt a0 0 := bt_at a0 0; clear p16; have qi16 : (0 < (a0.size : Int)) = True := eq_true (of_decide_eq_true (by first | (with_reducible assumption) | assumption)); replace q16 := eq_true q16; have p19 : 0 ≤ (1 : Int) := (by omega); have q19 : 1 < a0.size := (by have : (1 : Int) < (a0.size : Int) := of_decide_eq_true (by first | (with_reducible assumption) | assumption); omega); have hx19 : ∀ h : 1 < a0.size, ((a0[1]'h).toNat : Int) = bt a0 1 := bt_at a0 1; clear p19; have qi19 : (1 < (a0.size : Int)) = True := eq_true (of_decide_eq_true (by first | (with_reducible assumption) | assumption)); replace q19 := eq_true q19; have p21 : 0 ≤ (1 : Int) := (by omega); have q21 : 1 < a0.size := (by have : (1 : Int) < (a0.size : Int) := of_decide_eq_true (by first | (with_reducible assumption) | assumption); omega); have hx21 : ∀ h : 1 < a0.size, ((a0[1]'h).toNat : Int) = bt a0 1 := bt_at a0 1; clear p21; have qi21 : (1 < (a0.size : Int)) = True := eq_true (of_decide_eq_true (by first | (with_reducible assumption) | assumption)); replace q21 := eq_true q21))
                        go_ret
                        exact ⟨by first | rfl | (simp [errW_none, errW_some] <;> rfl) | (simp [*, errW_none, errW_some] <;> rfl), by repeat (first | (with_reducible first | exact HB.out | apply below_alloc | apply pw_below_drewN | apply below_drew1) | exact HB.out)⟩
                    · rw [if_neg c20] at H
                      have c20b0 : decide (49 ≤ (bt a0 1)) = false := decide_eq_false c20
                      clear c20
                      obtain rfl := Option.some.inj H
                      go_wp2_with (first | ((with_reducible refine gate_callee (f := 52) rfl ?_); refine goesL_ (some 14) rfl rfl Try.func52 (by kernel_rfl) rfl #[.string a0, .string (⟨#[66, 77]⟩ : ByteArray)] rfl (by (try simp only [List.map_toArray, List.map_cons, List.map_nil]); first | done | rfl | (simp only [List.length_drop, List.length_take]; rfl)) ?_; (with_reducible refine (spec_l13Starts.calls a0 (⟨#[66, 77]⟩ : ByteArray) false _ A12.out).mono ?_); rintro e w' ⟨rfl, ⟨nd, rfl⟩⟩; refine ⟨_, rfl, ?_⟩; have p16 : 0 ≤ (0 : Int) := (by omega); have q16 : 0 < a0.size := (by have : (0 : Int) < (a0.size : Int) := of_decide_eq_true (by first | (with_reducible assumption) | assumption); omega); have hx16 : ∀ h : 0 < a0.size, ((a0[0]'h).toNat : Int) = bt a0 0 := bt_at a0 0; clear p16; have qi16 : (0 < (a0.size : Int)) = True := eq_true (of_decide_eq_true (by first | (with_reducible assumption) | assumption)); replace q16 := eq_true q16; have p19 : 0 ≤ (1 : Int) := (by omega); have q19 : 1 < a0.size := (by have : (1 : Int) < (a0.size : Int) := of_decide_eq_true (by first | (with_reducible assumption) | assumption); omega); have hx19 : ∀ h : 1 < a0.size, ((a0[1]'h).toNat : Int) = bt a0 1 := bt_at a0 1; clear p19; have qi19 : (1 < (a0.size : Int)) = True := eq_true (of_decide_eq_true (by first | (with_reducible assumption) | assumption)); replace q19 := eq_true q19))
                      go_ret
                      exact ⟨by first | rfl | (simp [errW_none, errW_some] <;> rfl) | (simp [*, errW_none, errW_some] <;> rfl), by repeat (first | (with_reducible first | exact HB.out | apply below_alloc | apply pw_below_drewN | apply below_drew1) | exact HB.out)⟩
                  · rw [if_neg c18] at H
                    exact absurd H (by simp)
                · rw [if_neg c17] at H
                  have c17b0 : ((bt a0 0) == 80) = false := beq_eq_false_iff_ne.mpr c17
                  have c17b1 : ((bt a0 0) != 80) = true := bne_iff_ne.mpr c17
                  obtain rfl := Option.some.inj H
                  go_wp2_with (first | ((with_reducible refine gate_callee (f := 52) rfl ?_); refine goesL_ (some 14) rfl rfl Try.func52 (by kernel_rfl) rfl #[.string a0, .string (⟨#[66, 77]⟩ : ByteArray)] rfl (by (try simp only [List.map_toArray, List.map_cons, List.map_nil]); first | done | rfl | (simp only [List.length_drop, List.length_take]; rfl)) ?_; (with_reducible refine (spec_l13Starts.calls a0 (⟨#[66, 77]⟩ : ByteArray) false _ A12.out).mono ?_); rintro e w' ⟨rfl, ⟨nd, rfl⟩⟩; refine ⟨_, rfl, ?_⟩; have p16 : 0 ≤ (0 : Int) := (by omega); have q16 : 0 < a0.size := (by have : (0 : Int) < (a0.size : Int) := of_decide_eq_true (by first | (with_reducible assumption) | assumption); omega); have hx16 : ∀ h : 0 < a0.size, ((a0[0]'h).toNat : Int) = bt a0 0 := bt_at a0 0; clear p16; have qi16 : (0 < (a0.size : Int)) = True := eq_true (of_decide_eq_true (by first | (with_reducible assumption) | assumption)); replace q16 := eq_true q16))
                  go_ret
                  exact ⟨by first | rfl | (simp [errW_none, errW_some] <;> rfl) | (simp [*, errW_none, errW_some] <;> rfl), by repeat (first | (with_reducible first | exact HB.out | apply below_alloc | apply pw_below_drewN | apply below_drew1) | exact HB.out)⟩
              · rw [if_neg c15] at H
                exact absurd H (by simp)
            · rw [if_neg c14] at H
              have c14b0 : decide (1 < (a0.size : Int)) = false := decide_eq_false c14
              have c14b1 : decide (1 < a0.size) = false := decide_eq_false (by omega)
              clear c14
              obtain rfl := Option.some.inj H
              go_wp2_with (first | ((with_reducible refine gate_callee (f := 52) rfl ?_); refine goesL_ (some 14) rfl rfl Try.func52 (by kernel_rfl) rfl #[.string a0, .string (⟨#[66, 77]⟩ : ByteArray)] rfl (by (try simp only [List.map_toArray, List.map_cons, List.map_nil]); first | done | rfl | (simp only [List.length_drop, List.length_take]; rfl)) ?_; (with_reducible refine (spec_l13Starts.calls a0 (⟨#[66, 77]⟩ : ByteArray) false _ A12.out).mono ?_); rintro e w' ⟨rfl, ⟨nd, rfl⟩⟩; refine ⟨_, rfl, ?_⟩))
              go_ret
              exact ⟨by first | rfl | (simp [errW_none, errW_some] <;> rfl) | (simp [*, errW_none, errW_some] <;> rfl), by repeat (first | (with_reducible first | exact HB.out | apply below_alloc | apply pw_below_drewN | apply below_drew1) | exact HB.out)⟩

end Go.Proofs.Yteikopjhekhchaa.P
