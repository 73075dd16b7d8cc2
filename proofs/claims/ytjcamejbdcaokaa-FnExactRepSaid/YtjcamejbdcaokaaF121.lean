-- Written by a program of this session (wip/myprint.py) through the print of the kit: not trusted, Lean checks it.
import Derived.Test.YtjcamejbdcaokaaF00
import Derived.Test.YtjcamejbdcaokaaF69
namespace Go.Proofs.Ytjcamejbdcaokaa.P
open Go.RowKit Go.Proofs.YtjcamejbdcaokaaW.PrintWords Go.Proofs.YtjcamejbdcaokaaW.PrintLast Go.Proofs.YtjcamejbdcaokaaW.PrintMore
attribute [local go_sem] max2_int min2_int max_two min_two max_three min_three max_four min_four   -- for this text's walks alone
set_option linter.unusedVariables false
set_option linter.unusedSimpArgs false

/-! ### impl_outside: function 121 -/
def impl_outside.bad (a1 n : Int) : Bool := !(decide (0 ≤ n) && decide (n ≤ a1))
def impl_outside.f (l0 : List Int) (a1 : Int) : Option Bool := some (l0.any (impl_outside.bad a1))
theorem impl_outside.in_eq (x a1 : Int) : impl_in.f x 0 a1 = some (decide (0 ≤ x) && decide (x ≤ a1)) := by
  unfold impl_in.f
  by_cases h : x ≥ 0
  · have h' : 0 ≤ x := h
    rw [if_pos h]; simp [h']
  · have h' : ¬ 0 ≤ x := h
    rw [if_neg h]; simp [h']
theorem impl_outside.closure (x : Int) (B : Nat) (a1 : Int) (w : World) (hc : w.cell? ⟨B, 0, none⟩ = some (.int .i64 a1)) :
    Calls Try.prog 167 #[.int .i64 x, .pointer (some ⟨B, 0, none⟩)] w fun e w' => e = .returned (.bool (impl_outside.bad a1 x)) ∧ Drawn0 w w' := by
  have hf := Aside0.mk (impl_outside.in_eq x a1)
  obtain ⟨b, hb⟩ : ∃ b, b = (decide (0 ≤ x) && decide (x ≤ a1)) := ⟨_, rfl⟩
  have hfin : Aside0 (impl_outside.bad a1 x = !b) := ⟨by rw [hb]; rfl⟩
  rw [← hb] at hf
  clear hb
  go_enter Try.func167, Try.ntmps167
  go_wp2_with (go_at_call 69; refine (impl_in.calls x 0 a1 b _ hf.out).mono ?_; rintro e w' ⟨rfl, ⟨nd, rfl⟩⟩)
  go_ret
  exact ⟨by rw [hfin.out]; rfl, by repeat (first | exact Drawn0.refl _ | apply Drawn0.step)⟩
def impl_outside.idx (a1 : Int) (l : List Int) (k : Nat) : Nat → Int
  | 0 => -1
  | d + 1 => if impl_outside.bad a1 (rd l k) = true then (k : Int) else impl_outside.idx a1 l (k + 1) d
theorem impl_outside.index (A0 : Option Addr) (c0 : Nat) (l0 : List Int) (B : Nat) (a1 : Int) (r : Int) (hr : impl_outside.idx a1 l0 0 l0.length = r) (w : World) (hr0 : Kd.C (Kd.int .i64) w A0 l0.length l0) (hm : l0.length ≤ 9223372036854775807)
    (hc : w.cell? ⟨B, 0, none⟩ = some (.int .i64 a1)) :
    Calls Try.prog 192 #[.slice A0 l0.length c0, .func (.func 167) #[] #[.pointer (some ⟨B, 0, none⟩)]] w fun e w' => e = .returned (.int .i64 r) ∧ Drawn0 w w' := by
  have HR0 := Aside0.mk hr0
  have HE := Aside0.mk hr
  have HM := Aside0.mk hm
  clear hr0 hr
  go_enter Try.func192, Try.ntmps192
  go_wp2
  go_loopw [8] (fun v8 wr => ∃ (k d : Nat), v8 = .int .i64 k ∧ Aside0 (k + d = l0.length) ∧ Aside0 (impl_outside.idx a1 l0 k d = r) ∧ Drawn0 w wr) (fun i _ => l0.length - (intOf i).toNat)
  case atStart => exact ⟨0, l0.length, rfl, ⟨by simp⟩, HE, Drawn0.refl _⟩
  case round =>
    clear HE
    obtain ⟨k, d, rfl, HD, HE, ⟨m1, rfl⟩⟩ := hrel
    have hc' : (w.drewN m1).cell? ⟨B, 0, none⟩ = some (.int .i64 a1) := hc
    have hkl : k ≤ l0.length := by have := HD.out; omega
    cases d with
    | zero =>
      have hge : ¬ k < l0.length := by have := HD.out; omega
      have HE2 := HE.out
      simp only [impl_outside.idx] at HE2
      have HE3 := Aside0.mk HE2
      clear HE HE2
      go_wp2
      go_ret
      exact ⟨by rw [← HE3.out]; rfl, by repeat (first | exact Drawn0.refl _ | apply Drawn0.step)⟩
    | succ d =>
      have hlt : k < l0.length := by have := HD.out; omega
      obtain ⟨ad, rfl, hx⟩ := Kd.at_int HR0.out (k : Int) (by omega) (by omega)
      obtain ⟨x, hxx⟩ : ∃ x, x = rd l0 k := ⟨_, rfl⟩
      rw [← hxx] at hx
      have HE2 := HE.out
      simp only [impl_outside.idx] at HE2
      rw [← hxx] at HE2
      clear hxx HE
      have hx' : (w.drewN m1).cell? (ad.add k) = some (.int .i64 x) := by simpa using hx
      clear hx
      obtain ⟨b, hb⟩ : ∃ b, b = impl_outside.bad a1 x := ⟨_, rfl⟩
      rw [← hb] at HE2
      have HBq := Aside0.mk hb
      clear hb
      cases b with
      | true =>
        rw [if_pos rfl] at HE2
        have HE3 := Aside0.mk HE2
        clear HE2
        go_wp2_with (go_at_call 167; refine (impl_outside.closure x B a1 _ hc').mono ?_; rintro e w' ⟨rfl, ⟨nd, rfl⟩⟩; rw [← HBq.out])
        go_ret
        exact ⟨by rw [← HE3.out]; rfl, by repeat (first | exact Drawn0.refl _ | apply Drawn0.step)⟩
      | false =>
        rw [if_neg (by simp)] at HE2
        have HE3 := Aside0.mk HE2
        clear HE2
        go_wp2_with (go_at_call 167; refine (impl_outside.closure x B a1 _ hc').mono ?_; rintro e w' ⟨rfl, ⟨nd, rfl⟩⟩; rw [← HBq.out])
        go_roundw
        case rel => exact ⟨k + 1, d, by go_num, ⟨by have := HD.out; omega⟩, HE3, by repeat (first | exact Drawn0.refl _ | apply Drawn0.step)⟩
        case measure => simp [intOf]; omega
theorem impl_outside.idx_any (a1 : Int) (l : List Int) (d : Nat) : ∀ k, k + d = l.length → decide (impl_outside.idx a1 l k d ≥ 0) = (l.drop k).any (impl_outside.bad a1) := by
  induction d with
  | zero =>
    intro k hk
    rw [List.drop_eq_nil_of_le (by omega)]
    rfl
  | succ d ih =>
    intro k hk
    have hlt : k < l.length := by omega
    have e : rd l (k : Int) = l[k] := by
      unfold rd
      rw [List.getD_eq_getElem?_getD]
      simp [hlt]
    rw [List.drop_eq_getElem_cons hlt, List.any_cons, ← ih (k + 1) (by omega)]
    simp only [impl_outside.idx, e]
    cases impl_outside.bad a1 l[k] <;> simp
theorem impl_outside.contains (A0 : Option Addr) (c0 : Nat) (l0 : List Int) (B : Nat) (a1 : Int) (w : World) (hr0 : Kd.C (Kd.int .i64) w A0 l0.length l0) (hm : l0.length ≤ 9223372036854775807)
    (hc : w.cell? ⟨B, 0, none⟩ = some (.int .i64 a1)) :
    Calls Try.prog 166 #[.slice A0 l0.length c0, .func (.func 167) #[] #[.pointer (some ⟨B, 0, none⟩)]] w fun e w' => e = .returned (.bool (l0.any (impl_outside.bad a1))) ∧ Drawn0 w w' := by
  obtain ⟨r, hr⟩ : ∃ r, impl_outside.idx a1 l0 0 l0.length = r := ⟨_, rfl⟩
  have hq := impl_outside.idx_any a1 l0 l0.length 0 (by simp)
  rw [hr, List.drop_zero] at hq
  have HQ := Aside0.mk hq
  have HE := Aside0.mk hr
  clear hr hq
  go_enter Try.func166, Try.ntmps166
  go_wp2_with (go_at_call 192; refine (impl_outside.index A0 c0 l0 B a1 r HE.out _ hr0 hm hc).mono ?_; rintro e w' ⟨rfl, ⟨nd, rfl⟩⟩)
  go_ret
  exact ⟨by rw [← HQ.out]; rfl, by repeat (first | exact Drawn0.refl _ | apply Drawn0.step)⟩
theorem impl_outside.calls (A0 : Option Addr) (c0 : Nat) (l0 : List Int) (a1 : Int) (r : Bool) (w : World) (hr0 : Kd.C (Kd.int .i64) w A0 l0.length l0) (hc0 : l0.length ≤ c0) (h : impl_outside.f l0 a1 = some r) :
    Calls Try.prog 121 #[.slice A0 l0.length c0, .int .i64 a1] w fun e w' => e = .returned (.bool r) ∧ Below w.heap.size w w' := by
  have hm : l0.length ≤ 9223372036854775807 := hr0.2.1
  have HM := Aside0.mk hm
  clear hm
  obtain rfl := Option.some.inj h
  clear h
  have hb := below_alloc (Below.refl w.heap.size w) (.cells #[.int .i64 a1] 3)
  have HC := Aside0.mk (impl_outside.contains A0 c0 l0 w.heap.size a1 (w.alloc (.cells #[.int .i64 a1] 3)) (Kd.C_below hr0 hb) HM.out (by simp))
  clear hr0 hb
  go_enter Try.func121, Try.ntmps121
  go_wp2_with (go_at_call 166; refine HC.out.mono ?_; rintro e w' ⟨rfl, ⟨nd, rfl⟩⟩)
  go_ret
  exact ⟨rfl, by repeat (first | exact Below.refl _ _ | apply below_alloc | apply pw_below_drewN | apply below_drew1)⟩

end Go.Proofs.Ytjcamejbdcaokaa.P
