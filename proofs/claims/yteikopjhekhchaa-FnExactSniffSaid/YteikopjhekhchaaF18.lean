-- Written by a program of this session (wip/myprint.py) through the print of the kit: not trusted, Lean checks it.
import Derived.Test.YteikopjhekhchaaF00
import Derived.Test.YteikopjhekhchaaF51
import Derived.Test.YteikopjhekhchaaF55
namespace Go.Proofs.Yteikopjhekhchaa.P
open Go.RowKit Go.Proofs.YteikopjhekhchaaW.PrintWords Go.Proofs.YteikopjhekhchaaW.PrintLast Go.Proofs.YteikopjhekhchaaW.PrintMore
attribute [local go_sem] max2_int min2_int max_two min_two max_three min_three max_four min_four   -- for this text's walks alone
set_option linter.unusedVariables false
set_option linter.unusedSimpArgs false

/-! ### impl_Sniff: function 18 -/
def impl_Sniff.tail (a0 : ByteArray) : Int := if (a0.size : Int) > 1 then (if bt a0 0 = 80 then (if 49 ≤ bt a0 1 ∧ bt a0 1 ≤ 54 then 5 else 0) else 0) else 0
def impl_Sniff.f (a0 : ByteArray) : Option Int :=
  (strings_HasPrefix.f a0 (⟨#[137, 80, 78, 71, 13, 10, 26, 10]⟩ : ByteArray)).bind fun b1 => if b1 = true then some 1 else
  (strings_HasPrefix.f a0 (⟨#[71, 73, 70, 56, 55, 97]⟩ : ByteArray)).bind fun b2 => if b2 = true then some 2 else
  (strings_HasPrefix.f a0 (⟨#[71, 73, 70, 56, 57, 97]⟩ : ByteArray)).bind fun b3 => if b3 = true then some 2 else
  (strings_HasPrefix.f a0 (⟨#[66, 77]⟩ : ByteArray)).bind fun b4 => if b4 = true then some 3 else some (impl_Sniff.tail a0)
theorem impl_Sniff.closure (p a0 : ByteArray) (B : Nat) (r : Bool) (w : World) (hc : w.cell? ⟨B, 0, none⟩ = some (.string a0)) (h : strings_HasPrefix.f a0 p = some r) :
    Calls Try.prog 54 #[.string p, .pointer (some ⟨B, 0, none⟩)] w fun e w' => e = .returned (.bool r) ∧ Drawn0 w w' := by
  have H := Aside0.mk h
  clear h
  go_enter Try.func54, Try.ntmps54
  go_wp2_with (go_at_call 55; with_reducible refine (strings_HasPrefix.calls a0 p r _ H.out).mono ?_; rintro e w' ⟨rfl, ⟨nd, rfl⟩⟩)
  go_ret
  exact ⟨rfl, by repeat (first | exact Drawn0.refl _ | apply Drawn0.step)⟩
set_option maxHeartbeats 1000000 in
theorem impl_Sniff.calls (a0 : ByteArray) (r : Int) (w : World) (h : impl_Sniff.f a0 = some r) :
    Calls Try.prog 18 #[.string a0] w fun e w' => e = .returned (.int .i64 r) ∧ Below w.heap.size w w' := by
  have hcl := fun (p : ByteArray) (b : Bool) (hp : strings_HasPrefix.f a0 p = some b) (W : World) (hc : W.cell? ⟨w.heap.size, 0, none⟩ = some (.string a0)) => impl_Sniff.closure p a0 w.heap.size b W hc hp
  have HC := Aside0.mk hcl
  clear hcl
  unfold impl_Sniff.f at h
  obtain ⟨b1, h1, h⟩ := Option.bind_eq_some_iff.mp h
  have H1 := Aside0.mk h1
  clear h1
  cases b1 with
  | true =>
    rw [if_pos rfl] at h
    obtain rfl := Option.some.inj h
    go_enter Try.func18, Try.ntmps18
    go_wp2_with (go_at_call 54; with_reducible refine (HC.out _ true H1.out _ (by simp)).mono ?_; rintro e w' ⟨rfl, ⟨nd, rfl⟩⟩)
    go_ret
    exact ⟨rfl, by repeat (first | exact Below.refl _ _ | apply below_alloc | apply pw_below_drewN | apply below_drew1)⟩
  | false =>
    rw [if_neg (by simp)] at h
    obtain ⟨b2, h2, h⟩ := Option.bind_eq_some_iff.mp h
    have H2 := Aside0.mk h2
    clear h2
    cases b2 with
    | true =>
      rw [if_pos rfl] at h
      obtain rfl := Option.some.inj h
      go_enter Try.func18, Try.ntmps18
      go_wp2_with (first | (go_at_call 54; with_reducible refine (HC.out _ false H1.out _ (by simp)).mono ?_; rintro e w' ⟨rfl, ⟨nd, rfl⟩⟩) | (go_at_call 54; with_reducible refine (HC.out _ true H2.out _ (by simp)).mono ?_; rintro e w' ⟨rfl, ⟨nd2, rfl⟩⟩))
      go_ret
      exact ⟨rfl, by repeat (first | exact Below.refl _ _ | apply below_alloc | apply pw_below_drewN | apply below_drew1)⟩
    | false =>
      rw [if_neg (by simp)] at h
      obtain ⟨b3, h3, h⟩ := Option.bind_eq_some_iff.mp h
      have H3 := Aside0.mk h3
      clear h3
      cases b3 with
      | true =>
        rw [if_pos rfl] at h
        obtain rfl := Option.some.inj h
        go_enter Try.func18, Try.ntmps18
        go_wp2_with (first | (go_at_call 54; with_reducible refine (HC.out _ false H1.out _ (by simp)).mono ?_; rintro e w' ⟨rfl, ⟨nd, rfl⟩⟩) | (go_at_call 54; with_reducible refine (HC.out _ false H2.out _ (by simp)).mono ?_; rintro e w' ⟨rfl, ⟨nd2, rfl⟩⟩) | (go_at_call 54; with_reducible refine (HC.out _ true H3.out _ (by simp)).mono ?_; rintro e w' ⟨rfl, ⟨nd3, rfl⟩⟩))
        go_ret
        exact ⟨rfl, by repeat (first | exact Below.refl _ _ | apply below_alloc | apply pw_below_drewN | apply below_drew1)⟩
      | false =>
        rw [if_neg (by simp)] at h
        obtain ⟨b4, h4, h⟩ := Option.bind_eq_some_iff.mp h
        have H4 := Aside0.mk h4
        clear h4
        cases b4 with
        | true =>
          rw [if_pos rfl] at h
          obtain rfl := Option.some.inj h
          go_enter Try.func18, Try.ntmps18
          go_wp2_with (first | (go_at_call 54; with_reducible refine (HC.out _ false H1.out _ (by simp)).mono ?_; rintro e w' ⟨rfl, ⟨nd, rfl⟩⟩) | (go_at_call 54; with_reducible refine (HC.out _ false H2.out _ (by simp)).mono ?_; rintro e w' ⟨rfl, ⟨nd2, rfl⟩⟩) | (go_at_call 54; with_reducible refine (HC.out _ false H3.out _ (by simp)).mono ?_; rintro e w' ⟨rfl, ⟨nd3, rfl⟩⟩) | (go_at_call 54; with_reducible refine (HC.out _ true H4.out _ (by simp)).mono ?_; rintro e w' ⟨rfl, ⟨nd4, rfl⟩⟩))
          go_ret
          exact ⟨rfl, by repeat (first | exact Below.refl _ _ | apply below_alloc | apply pw_below_drewN | apply below_drew1)⟩
        | false =>
          rw [if_neg (by simp)] at h
          have h := (Option.some.inj h).symm
          have hx0 : ∀ h : 0 < a0.size, ((a0[0]'h).toNat : Int) = bt a0 0 := bt_at a0 0
          have hx1 : ∀ h : 1 < a0.size, ((a0[1]'h).toNat : Int) = bt a0 1 := bt_at a0 1
          have hr1 := (bt_range a0 1).1
          have hr2 := (bt_range a0 1).2
          unfold impl_Sniff.tail at h
          have HT0 := Aside0.mk h
          clear h
          by_cases hs : (a0.size : Int) > 1
          · have hs' : 1 < a0.size := by omega
            by_cases hq : bt a0 0 = 80
            · have HI := Aside0.mk (show impl_in.f (bt a0 1) 49 54 = some (decide (49 ≤ bt a0 1 ∧ bt a0 1 ≤ 54)) by
                unfold impl_in.f
                by_cases h1 : bt a0 1 ≥ 49
                · have h1' : 49 ≤ bt a0 1 := h1
                  rw [if_pos h1]; simp [h1']
                · have h1' : ¬ 49 ≤ bt a0 1 := h1
                  rw [if_neg h1]; simp [h1'])
              have hqb : (bt a0 0 == 80) = true := beq_iff_eq.2 hq
              by_cases hi : 49 ≤ bt a0 1 ∧ bt a0 1 ≤ 54
              · rw [decide_eq_true hi] at HI
                have HT := Aside0.mk (show r = 5 by have h := HT0.out; rw [if_pos hs, if_pos hq, if_pos hi] at h; exact h)
                clear HT0 hq hi
                go_enter Try.func18, Try.ntmps18
                go_wp2_with (first | (go_at_call 54; with_reducible refine (HC.out _ false H1.out _ (by simp)).mono ?_; rintro e w' ⟨rfl, ⟨nd1, rfl⟩⟩) | (go_at_call 54; with_reducible refine (HC.out _ false H2.out _ (by simp)).mono ?_; rintro e w' ⟨rfl, ⟨nd2, rfl⟩⟩) | (go_at_call 54; with_reducible refine (HC.out _ false H3.out _ (by simp)).mono ?_; rintro e w' ⟨rfl, ⟨nd3, rfl⟩⟩) | (go_at_call 54; with_reducible refine (HC.out _ false H4.out _ (by simp)).mono ?_; rintro e w' ⟨rfl, ⟨nd4, rfl⟩⟩) | (go_at_call 51; with_reducible refine (impl_in.calls (bt a0 1) 49 54 true _ HI.out).mono ?_; rintro e w' ⟨rfl, ⟨nd5, rfl⟩⟩))
                go_ret
                exact ⟨by rw [HT.out]; rfl, by repeat (first | exact Below.refl _ _ | apply below_alloc | apply pw_below_drewN | apply below_drew1)⟩
              · rw [decide_eq_false hi] at HI
                have HT := Aside0.mk (show r = 0 by have h := HT0.out; rw [if_pos hs, if_pos hq, if_neg hi] at h; exact h)
                clear HT0 hq hi
                go_enter Try.func18, Try.ntmps18
                go_wp2_with (first | (go_at_call 54; with_reducible refine (HC.out _ false H1.out _ (by simp)).mono ?_; rintro e w' ⟨rfl, ⟨nd1, rfl⟩⟩) | (go_at_call 54; with_reducible refine (HC.out _ false H2.out _ (by simp)).mono ?_; rintro e w' ⟨rfl, ⟨nd2, rfl⟩⟩) | (go_at_call 54; with_reducible refine (HC.out _ false H3.out _ (by simp)).mono ?_; rintro e w' ⟨rfl, ⟨nd3, rfl⟩⟩) | (go_at_call 54; with_reducible refine (HC.out _ false H4.out _ (by simp)).mono ?_; rintro e w' ⟨rfl, ⟨nd4, rfl⟩⟩) | (go_at_call 51; with_reducible refine (impl_in.calls (bt a0 1) 49 54 false _ HI.out).mono ?_; rintro e w' ⟨rfl, ⟨nd5, rfl⟩⟩))
                go_ret
                exact ⟨by rw [HT.out]; rfl, by repeat (first | exact Below.refl _ _ | apply below_alloc | apply pw_below_drewN | apply below_drew1)⟩
            · have hqb : (bt a0 0 == 80) = false := beq_eq_false_iff_ne.2 hq
              have HT := Aside0.mk (show r = 0 by have h := HT0.out; rw [if_pos hs, if_neg hq] at h; exact h)
              clear HT0 hq
              go_enter Try.func18, Try.ntmps18
              go_wp2_with (first | (go_at_call 54; with_reducible refine (HC.out _ false H1.out _ (by simp)).mono ?_; rintro e w' ⟨rfl, ⟨nd1, rfl⟩⟩) | (go_at_call 54; with_reducible refine (HC.out _ false H2.out _ (by simp)).mono ?_; rintro e w' ⟨rfl, ⟨nd2, rfl⟩⟩) | (go_at_call 54; with_reducible refine (HC.out _ false H3.out _ (by simp)).mono ?_; rintro e w' ⟨rfl, ⟨nd3, rfl⟩⟩) | (go_at_call 54; with_reducible refine (HC.out _ false H4.out _ (by simp)).mono ?_; rintro e w' ⟨rfl, ⟨nd4, rfl⟩⟩))
              go_ret
              exact ⟨by rw [HT.out]; rfl, by repeat (first | exact Below.refl _ _ | apply below_alloc | apply pw_below_drewN | apply below_drew1)⟩
          · have hs' : ¬ 1 < a0.size := by omega
            have HT := Aside0.mk (show r = 0 by have h := HT0.out; rw [if_neg hs] at h; exact h)
            clear HT0
            go_enter Try.func18, Try.ntmps18
            go_wp2_with (first | (go_at_call 54; with_reducible refine (HC.out _ false H1.out _ (by simp)).mono ?_; rintro e w' ⟨rfl, ⟨nd1, rfl⟩⟩) | (go_at_call 54; with_reducible refine (HC.out _ false H2.out _ (by simp)).mono ?_; rintro e w' ⟨rfl, ⟨nd2, rfl⟩⟩) | (go_at_call 54; with_reducible refine (HC.out _ false H3.out _ (by simp)).mono ?_; rintro e w' ⟨rfl, ⟨nd3, rfl⟩⟩) | (go_at_call 54; with_reducible refine (HC.out _ false H4.out _ (by simp)).mono ?_; rintro e w' ⟨rfl, ⟨nd4, rfl⟩⟩))
            go_ret
            exact ⟨by rw [HT.out]; rfl, by repeat (first | exact Below.refl _ _ | apply below_alloc | apply pw_below_drewN | apply below_drew1)⟩

end Go.Proofs.Yteikopjhekhchaa.P
