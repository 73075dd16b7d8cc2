/- Texts of one law put together (wip/merge2.py). -/
import Derived.Test.YtgdbinifnhfcjaaMFnExactTgaPut1
import Derived.Test.YtgdbinifnhfcjaaMFnExactTgaPut3
import Derived.Test.YtgdbinifnhfcjaaMFnExactTgaPut4
import Derived.Test.YtgdbinifnhfcjaaMFnExactTgaPut12
import Derived.Test.YtgdbinifnhfcjaaMFnExactTgaPut9
import Derived.Test.YtgdbinifnhfcjaaMFnExactTgaPut10
namespace Go.Proofs.Ytgdbinifnhfcjaa.P
open Go.RowKit Go.Proofs.YtgdbinifnhfcjaaW.PrintWords Go.Proofs.YtgdbinifnhfcjaaW.PrintLast Go.Proofs.YtgdbinifnhfcjaaW.PrintMore
attribute [local go_sem] max2_int min2_int max_two min_two max_three min_three max_four min_four   -- for this text's walks alone
set_option linter.unusedVariables false
set_option linter.unusedSimpArgs false
/-! ### spec_TgaPut: function 39 -/
def spec_TgaPut.f (k : Nat) (a0_0 : Int) (a0_1 : Int) (a0_2 : Int) (a0_3 : Int) (l0_4 : List Int) (l0_5 : List Int) (a1 : Bool) : Option (ByteArray) := (spec_ImageOk.f k a0_0 a0_1 a0_2 a0_3 l0_4 l0_5).bind fun t836 => (if t836 = true then ((spec_l11Tga.f k a0_0 a0_1 a0_2 a0_3 l0_4 l0_5).bind fun t837 => (if t837 = 0 then (some (⟨#[]⟩ : ByteArray)) else ((spec_l11Put.f k a0_0 a0_1 a0_2 a0_3 l0_4 l0_5 a1).bind fun t838 => (some t838)))) else (some (⟨#[]⟩ : ByteArray)))
theorem spec_TgaPut.mono : ∀ a0 a1 a2 a3 a4 a5 a6 k, LeO (spec_TgaPut.f k a0 a1 a2 a3 a4 a5 a6) (spec_TgaPut.f (k + 1) a0 a1 a2 a3 a4 a5 a6) := by
 intro a0 a1 a2 a3 a4 a5 a6 k; unfold spec_TgaPut.f
 repeat' first
  | (with_reducible exact spec_ImageOk.mono _ _ _ _ _ _ _)
  | (with_reducible exact spec_l11Put.mono _ _ _ _ _ _ _ _)
  | (with_reducible exact spec_l11Tga.mono _ _ _ _ _ _ _)
  | (with_reducible exact LeO.refl _)
  | (with_reducible exact LeO.none _)
  | (with_reducible refine LeO.ite ?_ ?_)
  | (with_reducible refine LeO.bind ?_ (fun _ => ?_))
  | exact spec_ImageOk.mono _ _ _ _ _ _ _
  | exact spec_l11Put.mono _ _ _ _ _ _ _ _
  | exact spec_l11Tga.mono _ _ _ _ _ _ _
  | exact LeO.none _
  | refine LeO.ite ?_ ?_
  | refine LeO.bind ?_ (fun _ => ?_)
set_option maxHeartbeats 8000000 in
set_option maxRecDepth 100000 in
theorem spec_TgaPut.calls (k : Nat) (a0_0 : Int) (a0_1 : Int) (a0_2 : Int) (a0_3 : Int) (A0_4 : Option Addr) (c0_4 : Nat) (l0_4 : List Int) (A0_5 : Option Addr) (c0_5 : Nat) (l0_5 : List Int) (a1 : Bool) (r : ByteArray) (w : World) (hr0_4 : Kd.C (Kd.int .i64) w A0_4 l0_4.length l0_4) (hc0_4 : l0_4.length ≤ c0_4) (hr0_5 : Kd.C (Kd.int .i64) w A0_5 l0_5.length l0_5) (hc0_5 : l0_5.length ≤ c0_5) (h : spec_TgaPut.f k a0_0 a0_1 a0_2 a0_3 l0_4 l0_5 a1 = some r) :
 Calls Try.prog 39 #[.agg #[.int .i64 a0_0, .int .i64 a0_1, .int .i64 a0_2, .int .i64 a0_3, .slice A0_4 l0_4.length c0_4, .slice A0_5 l0_5.length c0_5], .bool a1] w fun e w' => e = .returned (.string r) ∧ Below w.heap.size w w' := by
 have hu40 := Try.underlying40; have HR0_4 := Aside0.mk hr0_4; have HC0_4 := Aside0.mk hc0_4; clear hr0_4 hc0_4; have HR0_5 := Aside0.mk hr0_5; have HC0_5 := Aside0.mk hc0_5; clear hr0_5 hc0_5; have HB := Aside0.mk (Below.refl w.heap.size w); have H : ((spec_ImageOk.f k a0_0 a0_1 a0_2 a0_3 l0_4 l0_5).bind fun t836 => (if t836 = true then ((spec_l11Tga.f k a0_0 a0_1 a0_2 a0_3 l0_4 l0_5).bind fun t837 => (if t837 = 0 then (some (⟨#[]⟩ : ByteArray)) else ((spec_l11Put.f k a0_0 a0_1 a0_2 a0_3 l0_4 l0_5 a1).bind fun t838 => (some t838)))) else (some (⟨#[]⟩ : ByteArray)))) = some r := h; clear h; replace H := Option.bind_eq_some_iff.mp H; obtain ⟨t836, A30, H⟩ := H; have A3 := Aside0.mk A30; clear A30
 by_cases c4 : t836 = true
 ·subst c4; replace H := Sq.t H; replace H := Option.bind_eq_some_iff.mp H; obtain ⟨t837, A50, H⟩ := H; have A5 := Aside0.mk A50; clear A50
  by_cases c6 : t837 = 0
  ·rw [if_pos c6] at H; have c6b0 : (t837 == 0) = true := beq_iff_eq.mpr c6; have c6b1 : (t837 != 0) = false := bne_eq_false_iff_eq.mpr c6; clear c6; obtain rfl := Option.some.inj H; go_enter Try.func39, Try.ntmps39
   go_wp2_with (first | ((with_reducible refine gate_dst (N := 2) rfl ?_); refine box_event ?hg (N := 2) ?hd (cs := #[.int .i64 a0_0, .int .i64 a0_1, .int .i64 a0_2, .int .i64 a0_3, .slice A0_4 l0_4.length c0_4, .slice A0_5 l0_5.length c0_5]) (t := 40) ?hr ?_; (case hd => rfl); (case hg => rfl); (case hr => first | (go_simp; done) | (go_simp; rfl)); intro gb835 hg w7 hbox hb; have n0_ := Sq.s_ HB hb; have n1_ := Aside0.mk (hbox); have n2_ := Sq.g_ HB hg; have n3_ := Sq.g_ HB hg; clear HB; have HB := n0_; have BK835 := n1_; have GW835 := n2_; have GE835 := n3_; have GO835 := Sq.o_ GE835; clear n0_ n1_ n2_ n3_; clear hb hbox hg; obtain ⟨hcz8_0, hcz8_1, hcz8_2, hcz8_3, hcz8_4, hcz8_5, hfz8_0, hfz8_1, hfz8_2, hfz8_3, hfz8_4, hfz8_5⟩ := Sq.cell6 BK835) | ((with_reducible refine gate_callee (f := 57) rfl ?_); refine goesL_ (some 6) rfl rfl Try.func57 (by kernel_rfl) rfl #[.agg #[.int .i64 a0_0, .int .i64 a0_1, .int .i64 a0_2, .int .i64 a0_3, .slice A0_4 l0_4.length c0_4, .slice A0_5 l0_5.length c0_5]] rfl (by (try simp only [Sq.mp]); first | done | rfl | (simp only [List.length_drop, List.length_take]; rfl)) ?_; (with_reducible refine (spec_ImageOk.calls k a0_0 a0_1 a0_2 a0_3 _ _ l0_4 _ _ l0_5 true _ ?side1 ?side2 ?side3 ?side4 A3.out).mono ?_); (case side1 => exact Sq.i_ HR0_4 HB); (case side2 => exact HC0_4.out); (case side3 => exact Sq.i_ HR0_5 HB); (case side4 => exact HC0_5.out); rintro e w9 ⟨rfl, hb⟩; refine ⟨_, rfl, ?_⟩; have n0_ := Sq.b_ BK835 hb; have n1_ := Sq.us HB hb; clear BK835; clear HB; have BK835 := n0_; have HB := n1_; clear n0_ n1_; (try clear hb); (try clear hb2); (try clear hk); (try clear hi); obtain ⟨hcz10_0, hcz10_1, hcz10_2, hcz10_3, hcz10_4, hcz10_5, hfz10_0, hfz10_1, hfz10_2, hfz10_3, hfz10_4, hfz10_5⟩ := Sq.cell6 BK835) | (go_at_call 82; (with_reducible refine (spec_l11Tga.calls k a0_0 a0_1 a0_2 a0_3 _ _ l0_4 _ _ l0_5 t837 _ ?side1 ?side2 ?side3 ?side4 A5.out).mono ?_); (case side1 => exact Sq.i_ HR0_4 HB); (case side2 => exact HC0_4.out); (case side3 => exact Sq.i_ HR0_5 HB); (case side4 => exact HC0_5.out); rintro e w11 ⟨rfl, hb⟩; have n0_ := Sq.b_ BK835 hb; have n1_ := Sq.us HB hb; clear BK835; clear HB; have BK835 := n0_; have HB := n1_; clear n0_ n1_; (try clear hb); (try clear hb2); (try clear hk); (try clear hi)))
   go_ret
   exact ⟨by first | rfl | (simp [errW_none, errW_some] <;> rfl) | (simp [*, errW_none, errW_some] <;> rfl), (Sq.ut HB)⟩
  ·rw [if_neg c6] at H; have c6b0 : (t837 == 0) = false := beq_eq_false_iff_ne.mpr c6; have c6b1 : (t837 != 0) = true := bne_iff_ne.mpr c6; replace H := Option.bind_eq_some_iff.mp H; obtain ⟨t838, A120, H⟩ := H; have A12 := Aside0.mk A120; clear A120; obtain rfl := Option.some.inj H; go_enter Try.func39, Try.ntmps39
   go_wp2_with (first | ((with_reducible refine gate_dst (N := 2) rfl ?_); refine box_event ?hg (N := 2) ?hd (cs := #[.int .i64 a0_0, .int .i64 a0_1, .int .i64 a0_2, .int .i64 a0_3, .slice A0_4 l0_4.length c0_4, .slice A0_5 l0_5.length c0_5]) (t := 40) ?hr ?_; (case hd => rfl); (case hg => rfl); (case hr => first | (go_simp; done) | (go_simp; rfl)); intro gb835 hg w13 hbox hb; have n0_ := Sq.s_ HB hb; have n1_ := Aside0.mk (hbox); have n2_ := Sq.g_ HB hg; have n3_ := Sq.g_ HB hg; clear HB; have HB := n0_; have BK835 := n1_; have GW835 := n2_; have GE835 := n3_; have GO835 := Sq.o_ GE835; clear n0_ n1_ n2_ n3_; clear hb hbox hg; obtain ⟨hcz14_0, hcz14_1, hcz14_2, hcz14_3, hcz14_4, hcz14_5, hfz14_0, hfz14_1, hfz14_2, hfz14_3, hfz14_4, hfz14_5⟩ := Sq.cell6 BK835) | ((with_reducible refine gate_callee (f := 57) rfl ?_); refine goesL_ (some 6) rfl rfl Try.func57 (by kernel_rfl) rfl #[.agg #[.int .i64 a0_0, .int .i64 a0_1, .int .i64 a0_2, .int .i64 a0_3, .slice A0_4 l0_4.length c0_4, .slice A0_5 l0_5.length c0_5]] rfl (by (try simp only [Sq.mp]); first | done | rfl | (simp only [List.length_drop, List.length_take]; rfl)) ?_; (with_reducible refine (spec_ImageOk.calls k a0_0 a0_1 a0_2 a0_3 _ _ l0_4 _ _ l0_5 true _ ?side1 ?side2 ?side3 ?side4 A3.out).mono ?_); (case side1 => exact Sq.i_ HR0_4 HB); (case side2 => exact HC0_4.out); (case side3 => exact Sq.i_ HR0_5 HB); (case side4 => exact HC0_5.out); rintro e w15 ⟨rfl, hb⟩; refine ⟨_, rfl, ?_⟩; have n0_ := Sq.b_ BK835 hb; have n1_ := Sq.us HB hb; clear BK835; clear HB; have BK835 := n0_; have HB := n1_; clear n0_ n1_; (try clear hb); (try clear hb2); (try clear hk); (try clear hi); obtain ⟨hcz16_0, hcz16_1, hcz16_2, hcz16_3, hcz16_4, hcz16_5, hfz16_0, hfz16_1, hfz16_2, hfz16_3, hfz16_4, hfz16_5⟩ := Sq.cell6 BK835) | (go_at_call 82; (with_reducible refine (spec_l11Tga.calls k a0_0 a0_1 a0_2 a0_3 _ _ l0_4 _ _ l0_5 t837 _ ?side1 ?side2 ?side3 ?side4 A5.out).mono ?_); (case side1 => exact Sq.i_ HR0_4 HB); (case side2 => exact HC0_4.out); (case side3 => exact Sq.i_ HR0_5 HB); (case side4 => exact HC0_5.out); rintro e w17 ⟨rfl, hb⟩; have n0_ := Sq.b_ BK835 hb; have n1_ := Sq.us HB hb; clear BK835; clear HB; have BK835 := n0_; have HB := n1_; clear n0_ n1_; (try clear hb); (try clear hb2); (try clear hk); (try clear hi); obtain ⟨hcz18_0, hcz18_1, hcz18_2, hcz18_3, hcz18_4, hcz18_5, hfz18_0, hfz18_1, hfz18_2, hfz18_3, hfz18_4, hfz18_5⟩ := Sq.cell6 BK835) | ((with_reducible refine gate_callee (f := 89) rfl ?_); refine goesL_ (some 15) rfl rfl Try.func89 (by kernel_rfl) rfl #[.agg #[.int .i64 a0_0, .int .i64 a0_1, .int .i64 a0_2, .int .i64 a0_3, .slice A0_4 l0_4.length c0_4, .slice A0_5 l0_5.length c0_5], .bool a1] rfl (by (try simp only [Sq.mp]); first | done | rfl | (simp only [List.length_drop, List.length_take]; rfl)) ?_; (with_reducible refine (spec_l11Put.calls k a0_0 a0_1 a0_2 a0_3 _ _ l0_4 _ _ l0_5 a1 t838 _ ?side1 ?side2 ?side3 ?side4 A12.out).mono ?_); (case side1 => exact Sq.i_ HR0_4 HB); (case side2 => exact HC0_4.out); (case side3 => exact Sq.i_ HR0_5 HB); (case side4 => exact HC0_5.out); rintro e w19 ⟨rfl, hb⟩; refine ⟨_, rfl, ?_⟩; have n0_ := Sq.b_ BK835 hb; have n1_ := Sq.us HB hb; clear BK835; clear HB; have BK835 := n0_; have HB := n1_; clear n0_ n1_; (try clear hb); (try clear hb2); (try clear hk); (try clear hi)))
   go_ret
   exact ⟨by first | rfl | (simp [errW_none, errW_some] <;> rfl) | (simp [*, errW_none, errW_some] <;> rfl), (Sq.ut HB)⟩
 ·replace c4 := Bool.eq_false_iff.mpr c4; subst c4; replace H := Sq.f H; obtain rfl := Option.some.inj H; go_enter Try.func39, Try.ntmps39
  go_wp2_with (first | ((with_reducible refine gate_dst (N := 2) rfl ?_); refine box_event ?hg (N := 2) ?hd (cs := #[.int .i64 a0_0, .int .i64 a0_1, .int .i64 a0_2, .int .i64 a0_3, .slice A0_4 l0_4.length c0_4, .slice A0_5 l0_5.length c0_5]) (t := 40) ?hr ?_; (case hd => rfl); (case hg => rfl); (case hr => first | (go_simp; done) | (go_simp; rfl)); intro gb835 hg w20 hbox hb; have n0_ := Sq.s_ HB hb; have n1_ := Aside0.mk (hbox); have n2_ := Sq.g_ HB hg; have n3_ := Sq.g_ HB hg; clear HB; have HB := n0_; have BK835 := n1_; have GW835 := n2_; have GE835 := n3_; have GO835 := Sq.o_ GE835; clear n0_ n1_ n2_ n3_; clear hb hbox hg; obtain ⟨hcz21_0, hcz21_1, hcz21_2, hcz21_3, hcz21_4, hcz21_5, hfz21_0, hfz21_1, hfz21_2, hfz21_3, hfz21_4, hfz21_5⟩ := Sq.cell6 BK835) | ((with_reducible refine gate_callee (f := 57) rfl ?_); refine goesL_ (some 6) rfl rfl Try.func57 (by kernel_rfl) rfl #[.agg #[.int .i64 a0_0, .int .i64 a0_1, .int .i64 a0_2, .int .i64 a0_3, .slice A0_4 l0_4.length c0_4, .slice A0_5 l0_5.length c0_5]] rfl (by (try simp only [Sq.mp]); first | done | rfl | (simp only [List.length_drop, List.length_take]; rfl)) ?_; (with_reducible refine (spec_ImageOk.calls k a0_0 a0_1 a0_2 a0_3 _ _ l0_4 _ _ l0_5 false _ ?side1 ?side2 ?side3 ?side4 A3.out).mono ?_); (case side1 => exact Sq.i_ HR0_4 HB); (case side2 => exact HC0_4.out); (case side3 => exact Sq.i_ HR0_5 HB); (case side4 => exact HC0_5.out); rintro e w22 ⟨rfl, hb⟩; refine ⟨_, rfl, ?_⟩; have n0_ := Sq.b_ BK835 hb; have n1_ := Sq.us HB hb; clear BK835; clear HB; have BK835 := n0_; have HB := n1_; clear n0_ n1_; (try clear hb); (try clear hb2); (try clear hk); (try clear hi)))
  go_ret
  exact ⟨by first | rfl | (simp [errW_none, errW_some] <;> rfl) | (simp [*, errW_none, errW_some] <;> rfl), (Sq.ut HB)⟩
end Go.Proofs.Ytgdbinifnhfcjaa.P
/- impl.TgaPut and spec.TgaPut: at every picture both write the same text. -/
set_option linter.unusedVariables false
set_option linter.unusedSimpArgs false
namespace Go.Proofs.Ytgdbinifnhfcjaa.Pic
open Go.RowKit Go.Proofs.Ytgdbinifnhfcjaa.P Go.Proofs.Ytgdbinifnhfcjaa.Lib Go.Proofs.YtgdbinifnhfcjaaW.PrintWords Go.Proofs.YtgdbinifnhfcjaaW.PrintLast Go.Proofs.YtgdbinifnhfcjaaW.PrintMore
open Go.Proofs.Ytgdbinifnhfcjaa.Pure (le le_length numv numv_size nums_app append_nil' nil_append' inum_ok snum_ok)
theorem ofInt_i64' (a : Nat) (ha : a < 9223372036854775808) : (BitVec.ofInt 64 (a : Int)).toNat = a := by
  rw [BitVec.ofInt_natCast, BitVec.toNat_ofNat]; exact Nat.mod_eq_of_lt (by omega)
theorem i64_or_nat (a b : Nat) (ha : a < 9223372036854775808) (hb : b < 9223372036854775808) : Go.bits .or .i64 (a : Int) (b : Int) = ((a ||| b : Nat) : Int) := by
  have hx : a ||| b < 2 ^ 63 := Nat.or_lt_two_pow (by omega) (by omega)
  show IntKind.i64.wrap ((BitVec.ofInt 64 (a : Int) ||| BitVec.ofInt 64 (b : Int)).toNat : Int) = _
  rw [BitVec.toNat_or, ofInt_i64' a ha, ofInt_i64' b hb, IntKind.wrap_i64]
  omega
/-- A point's number as a TGA has it: how dense it is ahead of its colour. -/
def dn (kind p : Int) : Int := if kind = 3 then p / 256 + p % 256 * 16777216 else p
theorem rolled_ok (kind p : Int) (h : kind = 3 → 0 ≤ p ∧ p ≤ 4294967295) : impl_rolled.f kind p = some (dn kind p) := by
  unfold impl_rolled.f dn
  by_cases h3 : kind = 3
  · obtain ⟨h1, h2⟩ := h h3
    rw [if_pos h3, if_pos h3, tmod_nn h1]
    obtain ⟨n, rfl⟩ := Int.eq_ofNat_of_zero_le h1
    congr 1
    rw [w64 (by omega) (by omega), show (n : Int) % 256 * 16777216 = ((2 ^ 24 * (n % 256) : Nat) : Int) by omega, show (n : Int) / 256 = ((n / 256 : Nat) : Int) by omega, i64_or_nat _ _ (by omega) (by omega), ← Nat.two_pow_add_eq_or_of_lt (by omega)]
    omega
  · rw [if_neg h3, if_neg h3]
theorem bad_iff (m x : Int) : impl_outside.bad m x = false ↔ 0 ≤ x ∧ x ≤ m := by
  unfold impl_outside.bad
  simp only [Bool.or_eq_false_iff, Bool.not_eq_false', decide_eq_false_iff_not, decide_eq_true_eq, Bool.and_eq_true, Bool.not_eq_true', Bool.not_eq_eq_eq_not, Bool.not_false]
theorem not_any {m : Int} {l : List Int} (h : ¬ l.any (impl_outside.bad m) = true) : ∀ x ∈ l, 0 ≤ x ∧ x ≤ m := by
  intro x hx
  rw [← bad_iff]
  cases hb : impl_outside.bad m x with
  | false => rfl
  | true => exact absurd (List.any_eq_true.2 ⟨x, hx, hb⟩) h
/-- A picture that a TGA can hold: of how many bytes its points are. -/
theorem tga_pic {kind depth w h : Int} {cs ps : List Int} (hok : imok kind depth w h cs ps) (ht : tga kind depth ≠ 0) : ∃ z : Nat, depth = 8 * (z : Int) ∧ (1 ≤ z ∧ z ≤ 4) ∧ (1 ≤ w ∧ w ≤ 20) ∧ (1 ≤ h ∧ h ≤ 20) ∧ ps.length ≤ 400 ∧ (ps.length : Int) = w * h ∧ cs.length ≤ 256 ∧ fits cs 3 ∧ (kind = 3 → ∀ x ∈ ps, 0 ≤ x ∧ x ≤ 4294967295) ∧ fits (ps.map (dn kind)) z ∧ (1 ≤ tga kind depth ∧ tga kind depth ≤ 3) := by
  obtain ⟨h1, h2, h3, h4, h5, h6⟩ := hok
  have hwh : 1 ≤ w * h ∧ w * h ≤ 400 := by
    have e1 : w * h ≤ 20 * 20 := Int.mul_le_mul h2.2 h3.2 (by omega) (by omega)
    have e2 : 1 * 1 ≤ w * h := Int.mul_le_mul h2.1 h3.1 (by omega) (by omega)
    omega
  rw [w64 (by omega) (by omega)] at h4
  have h6' := not_any h6
  have hid : ∀ k : Int, k ≠ 3 → ∀ l : List Int, l.map (dn k) = l := by
    intro k hk l
    have : (dn k) = id := by funext p; unfold dn; rw [if_neg hk]; rfl
    rw [this, List.map_id]
  unfold dok at h1
  unfold colok at h5
  unfold most at h6'
  unfold tga at ht ⊢
  rcases h1 with ⟨hk, hd⟩ | ⟨hk, hd⟩ | ⟨hk, hd⟩
  · have hd8 : depth = 8 := by
      rcases hk with hk | hk <;> subst hk <;> (simp at ht; exact ht)
    subst hd8
    rcases hk with hk | hk
    · subst hk
      rw [if_neg (by omega)] at h5
      have hcs : cs = [] := List.eq_nil_of_length_eq_zero h5
      subst hcs
      refine ⟨1, rfl, ⟨by omega, by omega⟩, h2, h3, by omega, h4, by simp, (fun x hx => by cases hx), (fun h => by omega), ?_, by simp⟩
      rw [hid 1 (by omega)]
      intro x hx
      have := h6' x hx
      rw [if_neg (by omega)] at this
      exact this
    · subst hk
      rw [if_pos rfl] at h5
      obtain ⟨⟨h7, h8⟩, h9⟩ := h5
      have h9' := not_any h9
      have h8' : (cs.length : Int) ≤ 256 := h8
      refine ⟨1, rfl, ⟨by omega, by omega⟩, h2, h3, by omega, h4, by omega, fun x hx => ?_, (fun h => by omega), ?_, by simp⟩
      · have := h9' x hx
        omega
      · rw [hid 4 (by omega)]
        intro x hx
        have := h6' x hx
        rw [if_pos rfl] at this
        omega
  · subst hk hd
    rw [if_neg (by omega)] at h5
    have hcs : cs = [] := List.eq_nil_of_length_eq_zero h5
    subst hcs
    refine ⟨3, rfl, ⟨by omega, by omega⟩, h2, h3, by omega, h4, by simp, (fun x hx => by cases hx), (fun h => by omega), ?_, by simp⟩
    rw [hid 2 (by omega)]
    intro x hx
    have := h6' x hx
    rw [if_neg (by omega)] at this
    exact this
  · subst hk hd
    rw [if_neg (by omega)] at h5
    have hcs : cs = [] := List.eq_nil_of_length_eq_zero h5
    subst hcs
    have h7 : ∀ x ∈ ps, 0 ≤ x ∧ x ≤ 4294967295 := by
      intro x hx
      have := h6' x hx
      rw [if_neg (by omega)] at this
      exact this
    refine ⟨4, rfl, ⟨by omega, by omega⟩, h2, h3, by omega, h4, by simp, (fun x hx => by cases hx), fun _ => h7, ?_, by simp⟩
    intro x hx
    obtain ⟨p, hp, rfl⟩ := List.mem_map.1 hx
    have := h7 p hp
    unfold dn
    rw [if_pos rfl]
    omega
theorem runB_length (row : List Int) (z : Nat) (hz : z ≤ 4) (d : Nat) : ∀ i, i ≤ row.length → (runB row z d i).length ≤ 5 * (row.length - i) := by
  induction d with
  | zero => intro i hi; simp [runB]
  | succ d ih =>
    intro i hi
    simp only [runB]
    by_cases h : i < row.length
    · rw [if_pos h]
      have hr1 := rn_ge row i
      have hr2 := rn_le row i h
      obtain ⟨hm1, hm2, hm3⟩ := oth_bd row i h
      split
      · have := ih (i + min (rn row i) 128) (by omega)
        rw [List.length_cons, List.length_append, le_length]
        omega
      · have := ih (i + oth row i) (by omega)
        rw [List.length_cons, List.length_append, cat_length, List.length_take, List.length_drop]
        have hmm : min (oth row i) (row.length - i) = oth row i := by omega
        rw [hmm]
        have : oth row i * z ≤ oth row i * 4 := Nat.mul_le_mul_left _ hz
        omega
    · rw [if_neg h]
      simp
/-- What a TGA is, byte by byte. -/
def tgaB (knd has bits w h depth last : Int) (cs : List Int) (data : List Int) : List Int :=
  [0, has, knd] ++ (le 0 2 ++ le (cs.length : Int) 2) ++ [bits, 0, 0, 0, 0] ++ (le w 2 ++ le h 2) ++ [depth, last] ++ cat cs 3 ++ data
def tgaV (kind depth w h : Int) (cs ps : List Int) (runs : Bool) : ByteArray :=
  strOfNums (tgaB (tga kind depth + if runs = true then 8 else 0) (if 0 < cs.length then 1 else 0) (if 0 < cs.length then 24 else 0) w h depth (if kind = 3 then 40 else 32) cs (if runs = true then runB (ps.map (dn kind)) (depth.toNat / 8) ps.length 0 else cat (ps.map (dn kind)) (depth.toNat / 8)))
theorem dense_l (kind depth w h : Int) (cs ps : List Int) (hp : ps.length ≤ 1000) (hk : kind = 3 → ∀ x ∈ ps, 0 ≤ x ∧ x ≤ 4294967295) (d : Nat) : ∀ i : Nat, i + d = ps.length → Ok (fun k => spec_l11Dense.l0 k ((ps.map (dn kind)).take i) (i : Int) kind depth w h cs ps) (· = ps.map (dn kind)) := by
  have hlm : (ps.map (dn kind)).length = ps.length := List.length_map _
  induction d with
  | zero =>
    intro i hi
    refine Ok.succ ?_
    simp only [spec_l11Dense.l0]
    exact Ok.no (by omega) (Ok.now _ (List.take_of_length_le (by omega)))
  | succ d ih =>
    intro i hi
    have hlt : ((ps.map (dn kind)).take i).length < 17592186044416 := by rw [List.length_take]; omega
    have hrd : rd (ps.map (dn kind)) (i : Int) = dn kind (rd ps (i : Int)) := by
      unfold rd
      rw [Int.toNat_natCast, List.getD_eq_getElem?_getD, List.getD_eq_getElem?_getD, List.getElem?_map, List.getElem?_eq_getElem (by omega)]
      rfl
    have hst := take_rd (ps.map (dn kind)) i (by omega)
    rw [hrd] at hst
    have hn := ih (i + 1) (by omega)
    refine Ok.succ ?_
    simp only [spec_l11Dense.l0]
    rw [pinc3 i (by omega)]
    refine Ok.yes (by omega) (Ok.yes (by omega) (Ok.ite (fun h3 => Ok.yes hlt ?_) (fun h3 => Ok.yes hlt ?_)))
    · obtain ⟨b1, b2⟩ := hk h3 _ (rd_mem (by omega : (0 : Int) ≤ (i : Int)) (by omega))
      have e : wrap64 (wrap64 (Int.tdiv (rd ps (i : Int)) 256) + wrap64 (Int.tmod (rd ps (i : Int)) 256 * 16777216)) = dn kind (rd ps (i : Int)) := by
        unfold dn
        rw [if_pos h3, tdiv_nn b1, tmod_nn b1]
        generalize rd ps (i : Int) = p at b1 b2
        rw [w64 (x := p / 256) (by omega) (by omega), w64 (x := p % 256 * 16777216) (by omega) (by omega), w64 (by omega) (by omega)]
      rw [e, ← hst]
      exact hn
    · have e : rd ps (i : Int) = dn kind (rd ps (i : Int)) := by unfold dn; rw [if_neg h3]
      rw [← e] at hst
      rw [← hst]
      exact hn
theorem dense_ok (kind depth w h : Int) (cs ps : List Int) (hp : ps.length ≤ 1000) (hk : kind = 3 → ∀ x ∈ ps, 0 ≤ x ∧ x ≤ 4294967295) : Ok (fun k => spec_l11Dense.f k kind depth w h cs ps) (· = ps.map (dn kind)) := by
  unfold spec_l11Dense.f
  exact dense_l kind depth w h cs ps hp hk ps.length 0 (by omega)
theorem flag_ok (b : Bool) : spec_l9Flag.f b = some (if b = true then 1 else 0) := by
  unfold spec_l9Flag.f
  cases b <;> rfl
theorem num2 {n : Int} (h : 0 ≤ n ∧ n ≤ 65535) : Ok (fun k => spec_l1Num.f k n 2 false) (· = strOfNums (le n 2)) := (snum_ok n 2 false (by omega) ⟨h.1, by omega⟩).mono fun r hr => by rw [hr, numv_le]
theorem num4 {n : Int} (h : 0 ≤ n ∧ n ≤ 4294967295) : Ok (fun k => spec_l1Num.f k n 4 false) (· = strOfNums (le n 4)) := (snum_ok n 4 false (by omega) ⟨h.1, by omega⟩).mono fun r hr => by rw [hr, numv_le]
theorem le04 : le 0 4 = [0, 0, 0, 0] := by decide
theorem byte_id {x : Int} (h : 0 ≤ x ∧ x ≤ 255) : x % 256 = x := by omega
theorem sj1 (runs : Bool) (kind : Int) (z : Nat) (w h : Int) (cs ps : List Int) (knd bits last : Int) (h1z : 1 ≤ z) (hz : z ≤ 4) (hw : 1 ≤ w ∧ w ≤ 20) (hh : 1 ≤ h ∧ h ≤ 20) (hp : ps.length ≤ 400) (hc : cs.length ≤ 256) (hcf : fits cs 3) (hk3 : kind = 3 → ∀ x ∈ ps, 0 ≤ x ∧ x ≤ 4294967295) (hf : fits (ps.map (dn kind)) z)
    (hknd : 0 ≤ knd ∧ knd ≤ 255) (hbits : 0 ≤ bits ∧ bits ≤ 255) (hlast : 0 ≤ last ∧ last ≤ 255) :
    Ok (fun k => spec_l11Put.j1 k runs knd bits last kind (8 * (z : Int)) w h cs ps) (· = strOfNums (tgaB knd (if 0 < cs.length then 1 else 0) bits w h (8 * (z : Int)) last cs (if runs = true then runB (ps.map (dn kind)) z ps.length 0 else cat (ps.map (dn kind)) z))) := by
  have hlm : (ps.map (dn kind)).length = ps.length := List.length_map _
  have hdz : wrap64 (Int.tdiv (8 * (z : Int)) 8) = (z : Int) := by rw [tdiv_nn (by omega), w64 (by omega) (by omega)]; omega
  have hfl : spec_l9Flag.f (decide ((cs.length : Int) > 0)) = some (if 0 < cs.length then 1 else 0) := by
    rw [flag_ok]
    congr 1
    simp
  have hhas : (0 : Int) ≤ (if 0 < cs.length then 1 else 0) ∧ ((if 0 < cs.length then 1 else 0 : Int)) ≤ 255 := by split <;> omega
  generalize hhd : (if 0 < cs.length then 1 else 0 : Int) = has at hfl hhas ⊢
  have hcl : (cat cs 3).length ≤ 768 := by rw [cat_length]; omega
  refine Ok.succ ?_
  simp only [spec_l11Put.j1]
  rw [hdz]
  refine Ok.binds hfl (Ok.binds rfl ((num2 (n := 0) ⟨by omega, by omega⟩).bind fun t ht => ?_))
  subst ht
  rw [byte_id hhas, byte_id hknd, nums_app]
  refine Ok.yes (by simp only [strOfNums_size, List.length_cons, List.length_nil, le_length]; omega) ((num2 (n := (cs.length : Int)) ⟨by omega, by omega⟩).bind fun t ht => ?_)
  subst ht
  rw [nums_app]
  refine Ok.yes (by simp only [strOfNums_size, List.length_append, List.length_cons, List.length_nil, le_length]; omega) (Ok.binds rfl ?_)
  rw [byte_id hbits, nums_app]
  refine Ok.yes (by simp only [strOfNums_size, List.length_append, List.length_cons, List.length_nil, le_length]; omega) ((num4 (n := 0) ⟨by omega, by omega⟩).bind fun t ht => ?_)
  subst ht
  rw [nums_app]
  refine Ok.yes (by simp only [strOfNums_size, List.length_append, List.length_cons, List.length_nil, le_length]; omega) ((num2 (n := w) ⟨by omega, by omega⟩).bind fun t ht => ?_)
  subst ht
  rw [nums_app]
  refine Ok.yes (by simp only [strOfNums_size, List.length_append, List.length_cons, List.length_nil, le_length]; omega) ((num2 (n := h) ⟨by omega, by omega⟩).bind fun t ht => ?_)
  subst ht
  rw [nums_app]
  refine Ok.yes (by simp only [strOfNums_size, List.length_append, List.length_cons, List.length_nil, le_length]; omega) (Ok.binds rfl ?_)
  rw [byte_id (x := 8 * (z : Int)) (by omega), byte_id hlast, nums_app]
  refine Ok.yes (by simp only [strOfNums_size, List.length_append, List.length_cons, List.length_nil, le_length]; omega) ((l11Colors_ok cs 3 (by omega) (by omega) hcf).bind fun t ht => ?_)
  subst ht
  rw [nums_app]
  refine Ok.yes (by simp only [strOfNums_size, List.length_append, List.length_cons, List.length_nil, le_length]; omega) ?_
  cases runs with
  | true =>
    have hrl := runB_length (ps.map (dn kind)) z hz ps.length 0 (by omega)
    refine Ok.yes rfl ((dense_ok kind (8 * (z : Int)) w h cs ps (by omega) hk3).bind fun t ht => ?_)
    subst ht
    refine (srun_ok (ps.map (dn kind)) z hz (by omega) hf).bind fun t ht => ?_
    subst ht
    rw [hlm, nums_app]
    refine Ok.yes (by simp only [strOfNums_size, List.length_append, List.length_cons, List.length_nil, le_length]; omega) (Ok.now _ ?_)
    unfold tgaB
    rw [if_pos rfl, le04]
    simp
  | false =>
    have hcl2 : (cat (ps.map (dn kind)) z).length ≤ 1600 := by
      rw [cat_length, hlm]
      have : ps.length * z ≤ 400 * 4 := Nat.mul_le_mul hp hz
      omega
    refine Ok.no (by simp) ((dense_ok kind (8 * (z : Int)) w h cs ps (by omega) hk3).bind fun t ht => ?_)
    subst ht
    refine (l11Colors_ok (ps.map (dn kind)) z hz (by omega) hf).bind fun t ht => ?_
    subst ht
    rw [nums_app]
    refine Ok.yes (by simp only [strOfNums_size, List.length_append, List.length_cons, List.length_nil, le_length]; omega) (Ok.now _ ?_)
    unfold tgaB
    rw [if_neg (by simp), le04]
    simp
theorem sput_ok (kind depth w h : Int) (cs ps : List Int) (runs : Bool) (hok : imok kind depth w h cs ps) (ht : tga kind depth ≠ 0) : Ok (fun k => spec_l11Put.f k kind depth w h cs ps runs) (· = tgaV kind depth w h cs ps runs) := by
  obtain ⟨z, rfl, ⟨h1z, hz⟩, hw, hh, hp, _, hc, hcf, hk3, hf, ht2⟩ := tga_pic hok ht
  have hzz : (8 * (z : Int)).toNat / 8 = z := by omega
  unfold spec_l11Put.f tgaV
  rw [hzz]
  refine (stga_ok kind _ w h cs ps).bind fun t he => Ok.binds (flag_ok runs) ?_
  subst he
  have hkn : wrap64 (tga kind (8 * (z : Int)) + wrap64 (8 * if runs = true then 1 else 0)) = tga kind (8 * (z : Int)) + if runs = true then 8 else 0 := by
    cases runs
    · rw [if_neg (by simp), if_neg (by simp), w64 (x := 8 * 0) (by omega) (by omega), w64 (by omega) (by omega)]
      omega
    · rw [if_pos rfl, if_pos rfl, w64 (x := 8 * 1) (by omega) (by omega), w64 (by omega) (by omega)]
      omega
  rw [hkn]
  have hknd : 0 ≤ (tga kind (8 * (z : Int)) + if runs = true then 8 else 0) ∧ (tga kind (8 * (z : Int)) + if runs = true then 8 else 0) ≤ 255 := by split <;> omega
  generalize (tga kind (8 * (z : Int)) + if runs = true then 8 else 0) = knd at hknd ⊢
  refine Ok.ite (fun hl => ?_) (fun hl => ?_)
  · refine Ok.succ ?_
    simp only [spec_l11Put.j0]
    refine Ok.ite (fun h3 => ?_) (fun h3 => ?_)
    · have hx := sj1 runs kind z w h cs ps knd 24 40 h1z hz hw hh hp hc hcf hk3 hf hknd (by omega) (by omega)
      rw [if_pos h3, if_pos (show 0 < cs.length by omega), if_pos (show 0 < cs.length by omega)]
      rwa [if_pos (show 0 < cs.length by omega)] at hx
    · have hx := sj1 runs kind z w h cs ps knd 24 32 h1z hz hw hh hp hc hcf hk3 hf hknd (by omega) (by omega)
      rw [if_neg h3, if_pos (show 0 < cs.length by omega), if_pos (show 0 < cs.length by omega)]
      rwa [if_pos (show 0 < cs.length by omega)] at hx
  · refine Ok.succ ?_
    simp only [spec_l11Put.j0]
    refine Ok.ite (fun h3 => ?_) (fun h3 => ?_)
    · have hx := sj1 runs kind z w h cs ps knd 0 40 h1z hz hw hh hp hc hcf hk3 hf hknd (by omega) (by omega)
      rw [if_pos h3, if_neg (show ¬ 0 < cs.length by omega), if_neg (show ¬ 0 < cs.length by omega)]
      rwa [if_neg (show ¬ 0 < cs.length by omega)] at hx
    · have hx := sj1 runs kind z w h cs ps knd 0 32 h1z hz hw hh hp hc hcf hk3 hf hknd (by omega) (by omega)
      rw [if_neg h3, if_neg (show ¬ 0 < cs.length by omega), if_neg (show ¬ 0 < cs.length by omega)]
      rwa [if_neg (show ¬ 0 < cs.length by omega)] at hx
theorem inum2 {a b : Int} (ha : 0 ≤ a ∧ a ≤ 65535) (hb : 0 ≤ b ∧ b ≤ 65535) : Ok (fun k => impl_numbers.f k 2 [a, b]) (· = strOfNums (le a 2 ++ le b 2)) := by
  have h := numbers_ok [a, b] 2 (by omega) (by omega) (by simp) (fun x hx => by
    rcases List.mem_cons.1 hx with rfl | hx
    · omega
    · rw [List.mem_singleton.1 hx]; omega)
  refine h.mono fun r hr => ?_
  rw [hr]
  unfold cat
  simp
theorem iend (runs : Bool) (kind : Int) (z : Nat) (w h : Int) (cs ps : List Int) (knd bits last has : Int) (h1z : 1 ≤ z) (hz : z ≤ 4) (hw : 1 ≤ w ∧ w ≤ 20) (hh : 1 ≤ h ∧ h ≤ 20) (hp : ps.length ≤ 400) (hc : cs.length ≤ 256) (hcf : fits cs 3) (hf : fits (ps.map (dn kind)) z)
    (hknd : 0 ≤ knd ∧ knd ≤ 200) (hbits : 0 ≤ bits ∧ bits ≤ 255) (hlast : 0 ≤ last ∧ last ≤ 255) (hhas : 0 ≤ has ∧ has ≤ 255) :
    Ok (fun k => impl_TgaPut.l0 k runs knd has bits last (ps.map (dn kind)) ps (ps.length : Int) (ps.length : Int) kind (8 * (z : Int)) w h cs ps) (· = strOfNums (tgaB (knd + if runs = true then 8 else 0) has bits w h (8 * (z : Int)) last cs (if runs = true then runB (ps.map (dn kind)) z ps.length 0 else cat (ps.map (dn kind)) z))) := by
  have hlm : (ps.map (dn kind)).length = ps.length := List.length_map _
  have hdz : wrap64 (Int.tdiv (8 * (z : Int)) 8) = (z : Int) := by rw [tdiv_nn (by omega), w64 (by omega) (by omega)]; omega
  have hcl : (cat cs 3).length ≤ 768 := by rw [cat_length]; omega
  have hcl2 : (cat (ps.map (dn kind)) z).length ≤ 1600 := by
    rw [cat_length, hlm]
    have : ps.length * z ≤ 400 * 4 := Nat.mul_le_mul hp hz
    omega
  refine Ok.succ ?_
  simp only [impl_TgaPut.l0]
  rw [hdz]
  refine Ok.no (by omega) ((numbers_ok (ps.map (dn kind)) z h1z hz (by omega) hf).bind fun t ht => ?_)
  subst ht
  cases runs with
  | true =>
    clear hcl2
    have hrl := runB_length (ps.map (dn kind)) z hz ps.length 0 (by omega)
    refine Ok.yes rfl ((irun_ok (ps.map (dn kind)) z h1z hz (by omega) hf).bind fun t ht => Ok.binds rfl ?_)
    subst ht
    rw [if_pos rfl, if_pos rfl, hlm, w64 (x := knd + 8) (by omega) (by omega), byte_id (x := knd + 8) (by omega), byte_id hhas]
    generalize runB (ps.map (dn kind)) z ps.length 0 = D at hrl ⊢
    have hrl2 : D.length ≤ 2000 := by omega
    generalize hC : cat cs 3 = C at hcl
    clear hrl hlm hdz
    refine (inum2 (a := 0) (b := (cs.length : Int)) (by omega) (by omega)).bind fun t ht => ?_
    subst ht
    rw [nums_app]
    refine Ok.yes (by simp only [strOfNums_size, List.length_append, List.length_cons, List.length_nil, le_length]; omega) (Ok.binds rfl ?_)
    rw [byte_id hbits, nums_app]
    refine Ok.yes (by simp only [strOfNums_size, List.length_append, List.length_cons, List.length_nil, le_length]; omega) ((inum2 (a := w) (b := h) (by omega) (by omega)).bind fun t ht => ?_)
    subst ht
    rw [nums_app]
    refine Ok.yes (by simp only [strOfNums_size, List.length_append, List.length_cons, List.length_nil, le_length]; omega) (Ok.binds rfl ?_)
    rw [byte_id (x := 8 * (z : Int)) (by omega), byte_id hlast, nums_app]
    refine Ok.yes (by simp only [strOfNums_size, List.length_append, List.length_cons, List.length_nil, le_length]; omega) ((colorsPut_ok cs 3 (by omega) (by omega) (by omega) hcf).bind fun t ht => ?_)
    subst ht
    rw [nums_app, hC]
    refine Ok.yes (by simp only [strOfNums_size, List.length_append, List.length_cons, List.length_nil, le_length]; omega) ?_
    rw [nums_app]
    exact Ok.yes (by simp only [strOfNums_size, List.length_append, List.length_cons, List.length_nil, le_length]; omega) (Ok.now _ (by unfold tgaB; rw [hC]))
  | false =>
    refine Ok.no (by simp) (Ok.binds rfl ?_)
    rw [if_neg (by simp), if_neg (by simp), Int.add_zero, byte_id (x := knd) (by omega), byte_id hhas]
    generalize cat (ps.map (dn kind)) z = D at hcl2 ⊢
    generalize hC : cat cs 3 = C at hcl
    clear hlm hdz
    refine (inum2 (a := 0) (b := (cs.length : Int)) (by omega) (by omega)).bind fun t ht => ?_
    subst ht
    rw [nums_app]
    refine Ok.yes (by simp only [strOfNums_size, List.length_append, List.length_cons, List.length_nil, le_length]; omega) (Ok.binds rfl ?_)
    rw [byte_id hbits, nums_app]
    refine Ok.yes (by simp only [strOfNums_size, List.length_append, List.length_cons, List.length_nil, le_length]; omega) ((inum2 (a := w) (b := h) (by omega) (by omega)).bind fun t ht => ?_)
    subst ht
    rw [nums_app]
    refine Ok.yes (by simp only [strOfNums_size, List.length_append, List.length_cons, List.length_nil, le_length]; omega) (Ok.binds rfl ?_)
    rw [byte_id (x := 8 * (z : Int)) (by omega), byte_id hlast, nums_app]
    refine Ok.yes (by simp only [strOfNums_size, List.length_append, List.length_cons, List.length_nil, le_length]; omega) ((colorsPut_ok cs 3 (by omega) (by omega) (by omega) hcf).bind fun t ht => ?_)
    subst ht
    rw [nums_app, hC]
    refine Ok.yes (by simp only [strOfNums_size, List.length_append, List.length_cons, List.length_nil, le_length]; omega) ?_
    rw [nums_app]
    exact Ok.yes (by simp only [strOfNums_size, List.length_append, List.length_cons, List.length_nil, le_length]; omega) (Ok.now _ (by unfold tgaB; rw [hC]))
theorem iput_l (runs : Bool) (kind depth w h : Int) (cs ps : List Int) (knd bits last has : Int) (Q : ByteArray → Prop) (hp : ps.length ≤ 400) (hk3 : kind = 3 → ∀ x ∈ ps, 0 ≤ x ∧ x ≤ 4294967295)
    (hQ : Ok (fun k => impl_TgaPut.l0 k runs knd has bits last (ps.map (dn kind)) ps (ps.length : Int) (ps.length : Int) kind depth w h cs ps) Q) (d : Nat) : ∀ i : Nat, i + d = ps.length → Ok (fun k => impl_TgaPut.l0 k runs knd has bits last ((ps.map (dn kind)).take i) ps (ps.length : Int) (i : Int) kind depth w h cs ps) Q := by
  have hlm : (ps.map (dn kind)).length = ps.length := List.length_map _
  induction d with
  | zero =>
    intro i hi
    obtain rfl : i = ps.length := by omega
    rw [List.take_of_length_le (by omega)]
    exact hQ
  | succ d ih =>
    intro i hi
    have hlt : ((ps.map (dn kind)).take i).length < 17592186044416 := by rw [List.length_take]; omega
    have hrd : rd (ps.map (dn kind)) (i : Int) = dn kind (rd ps (i : Int)) := by
      unfold rd
      rw [Int.toNat_natCast, List.getD_eq_getElem?_getD, List.getD_eq_getElem?_getD, List.getElem?_map, List.getElem?_eq_getElem (by omega)]
      rfl
    have hst := take_rd (ps.map (dn kind)) i (by omega)
    rw [hrd] at hst
    have hn := ih (i + 1) (by omega)
    rw [hst] at hn
    refine Ok.succ ?_
    simp only [impl_TgaPut.l0]
    rw [pinc3 i (by omega)]
    exact Ok.yes (by omega) (Ok.yes (by omega) (Ok.yes (by omega) (Ok.binds (rolled_ok kind _ (fun h3 => hk3 h3 _ (rd_mem (by omega) (by omega)))) (Ok.yes hlt hn))))
theorem iput_ok (kind depth w h : Int) (cs ps : List Int) (runs : Bool) (hc : cs.length ≤ 1048576) : Ok (fun k => impl_TgaPut.f k kind depth w h cs ps runs) (· = if imok kind depth w h cs ps ∧ tga kind depth ≠ 0 then tgaV kind depth w h cs ps runs else (⟨#[]⟩ : ByteArray)) := by
  unfold impl_TgaPut.f
  refine (itga_ok kind depth w h cs ps).bind fun t ht => ?_
  subst ht
  refine (iImageOk_ok kind depth w h cs ps hc).bind fun t ht => ?_
  subst ht
  by_cases hok : imok kind depth w h cs ps
  · refine Ok.yes (decide_eq_true hok) (Ok.succ ?_)
    simp only [impl_TgaPut.j0]
    by_cases h0 : tga kind depth = 0
    · rw [if_neg (fun h => h.2 h0)]
      exact Ok.yes (beq_iff_eq.2 h0) (Ok.now _ rfl)
    rw [if_pos ⟨hok, h0⟩]
    refine Ok.no (by rw [beq_eq_false_iff_ne.2 h0]; simp) ?_
    obtain ⟨z, rfl, ⟨h1z, hz⟩, hw, hh, hp, _, hc2, hcf, hk3, hf, ht2⟩ := tga_pic hok h0
    have hzz : (8 * (z : Int)).toNat / 8 = z := by omega
    unfold tgaV
    rw [hzz]
    generalize tga kind (8 * (z : Int)) = knd at ht2 h0 ⊢
    have hmain : ∀ (has bits last : Int), (0 ≤ bits ∧ bits ≤ 255) → (0 ≤ last ∧ last ≤ 255) → (0 ≤ has ∧ has ≤ 255) → Ok (fun k => impl_TgaPut.j2 k runs knd has bits last kind (8 * (z : Int)) w h cs ps) (· = strOfNums (tgaB (knd + if runs = true then 8 else 0) has bits w h (8 * (z : Int)) last cs (if runs = true then runB (ps.map (dn kind)) z ps.length 0 else cat (ps.map (dn kind)) z))) := by
      intro has bits last hb hl hs
      refine Ok.succ ?_
      simp only [impl_TgaPut.j2]
      exact iput_l runs kind _ w h cs ps knd bits last has _ hp hk3 (iend runs kind z w h cs ps knd bits last has h1z hz hw hh hp hc2 hcf hf ⟨by omega, by omega⟩ hb hl hs) ps.length 0 (by omega)
    refine Ok.ite (fun hl => ?_) (fun hl => ?_)
    · rw [if_pos (show 0 < cs.length by omega), if_pos (show 0 < cs.length by omega)]
      refine Ok.succ ?_
      simp only [impl_TgaPut.j1]
      refine Ok.ite (fun h3 => ?_) (fun h3 => ?_)
      · rw [if_pos h3, show wrap64 (32 + 8) = 40 from w64 (by omega) (by omega)]
        exact hmain 1 24 40 (by omega) (by omega) (by omega)
      · rw [if_neg h3]
        exact hmain 1 24 32 (by omega) (by omega) (by omega)
    · rw [if_neg (show ¬ 0 < cs.length by omega), if_neg (show ¬ 0 < cs.length by omega)]
      refine Ok.succ ?_
      simp only [impl_TgaPut.j1]
      refine Ok.ite (fun h3 => ?_) (fun h3 => ?_)
      · rw [if_pos h3, show wrap64 (32 + 8) = 40 from w64 (by omega) (by omega)]
        exact hmain 0 0 40 (by omega) (by omega) (by omega)
      · rw [if_neg h3]
        exact hmain 0 0 32 (by omega) (by omega) (by omega)
  · rw [if_neg (fun h => hok h.1)]
    refine Ok.no (by rw [decide_eq_false hok]; simp) (Ok.succ ?_)
    simp only [impl_TgaPut.j0]
    exact Ok.yes trivial (Ok.now _ rfl)
theorem stgaput_ok (kind depth w h : Int) (cs ps : List Int) (runs : Bool) (hc : cs.length ≤ 1048576) (hp : ps.length ≤ 1048576) : Ok (fun k => spec_TgaPut.f k kind depth w h cs ps runs) (· = if imok kind depth w h cs ps ∧ tga kind depth ≠ 0 then tgaV kind depth w h cs ps runs else (⟨#[]⟩ : ByteArray)) := by
  unfold spec_TgaPut.f
  refine (sImageOk_ok kind depth w h cs ps hc hp).bind fun t ht => ?_
  subst ht
  by_cases hok : imok kind depth w h cs ps
  · refine Ok.yes (decide_eq_true hok) ((stga_ok kind depth w h cs ps).bind fun t ht => ?_)
    subst ht
    by_cases h0 : tga kind depth = 0
    · rw [if_neg (fun h => h.2 h0)]
      exact Ok.yes h0 (Ok.now _ rfl)
    · rw [if_pos ⟨hok, h0⟩]
      exact Ok.no h0 ((sput_ok kind depth w h cs ps runs hok h0).bind fun t ht => Ok.now _ ht)
  · rw [if_neg (fun h => hok h.1)]
    exact Ok.no (by rw [decide_eq_false hok]; simp) (Ok.now _ rfl)
end Go.Proofs.Ytgdbinifnhfcjaa.Pic
namespace Go.Proofs.Ytgdbinifnhfcjaa.P
open Go.RowKit Go.Proofs.YtgdbinifnhfcjaaW.PrintWords Go.Proofs.YtgdbinifnhfcjaaW.PrintLast Go.Proofs.YtgdbinifnhfcjaaW.PrintMore
attribute [local go_sem] max2_int min2_int max_two min_two max_three min_three max_four min_four   -- for this text's walks alone
set_option linter.unusedVariables false
set_option linter.unusedSimpArgs false
/-! ### laws_szIntS: function 56 -/
def laws_szIntS.f (l0 : List Int) (a1 : Int) : Option (Int) := if (wrap64 (a1 - (l0.length : Int))) < 0 then (some (-1)) else (some (wrap64 (a1 - (l0.length : Int))))
set_option maxHeartbeats 8000000 in
set_option maxRecDepth 100000 in
theorem laws_szIntS.calls (A0 : Option Addr) (c0 : Nat) (l0 : List Int) (a1 : Int) (r : Int) (w : World) (hr0 : Kd.C (Kd.int .i64) w A0 l0.length l0) (hc0 : l0.length ≤ c0) (h : laws_szIntS.f l0 a1 = some r) :
 Calls Try.prog 56 #[.slice A0 l0.length c0, .int .i64 a1] w fun e w' => e = .returned (.int .i64 r) ∧ Drawn0 w w' := by
 have HR0 := Aside0.mk hr0; have HC0 := Aside0.mk hc0; clear hr0 hc0; have H : (if (wrap64 (a1 - (l0.length : Int))) < 0 then (some (-1)) else (some (wrap64 (a1 - (l0.length : Int))))) = some r := h; clear h
 by_cases c3 : (wrap64 (a1 - (l0.length : Int))) < 0
 ·rw [if_pos c3] at H; have c3b0 : decide ((wrap64 (a1 - (l0.length : Int))) < 0) = true := decide_eq_true c3; clear c3; obtain rfl := Option.some.inj H; go_enter Try.func56, Try.ntmps56
  go_wp2
  go_ret
  exact ⟨by first | rfl | (simp; done) | (simp [*]; done), by repeat (first | exact Drawn0.refl _ | apply Drawn0.step)⟩
 ·rw [if_neg c3] at H; have c3b0 : decide ((wrap64 (a1 - (l0.length : Int))) < 0) = false := decide_eq_false c3; clear c3; obtain rfl := Option.some.inj H; go_enter Try.func56, Try.ntmps56
  go_wp2
  go_ret
  exact ⟨by first | rfl | (simp; done) | (simp [*]; done), by repeat (first | exact Drawn0.refl _ | apply Drawn0.step)⟩
/-! ### laws_szImage: function 23 -/
def laws_szImage.f (a0_0 : Int) (a0_1 : Int) (a0_2 : Int) (a0_3 : Int) (l0_4 : List Int) (l0_5 : List Int) (a1 : Int) : Option (Int) := (laws_szIntS.f l0_4 a1).bind fun t323 => (if t323 < 0 then (some (-1)) else ((laws_szIntS.f l0_5 t323).bind fun t324 => (if t324 < 0 then (some (-1)) else (some t324))))
set_option maxHeartbeats 8000000 in
set_option maxRecDepth 100000 in
theorem laws_szImage.calls (a0_0 : Int) (a0_1 : Int) (a0_2 : Int) (a0_3 : Int) (A0_4 : Option Addr) (c0_4 : Nat) (l0_4 : List Int) (A0_5 : Option Addr) (c0_5 : Nat) (l0_5 : List Int) (a1 : Int) (r : Int) (w : World) (hr0_4 : Kd.C (Kd.int .i64) w A0_4 l0_4.length l0_4) (hc0_4 : l0_4.length ≤ c0_4) (hr0_5 : Kd.C (Kd.int .i64) w A0_5 l0_5.length l0_5) (hc0_5 : l0_5.length ≤ c0_5) (h : laws_szImage.f a0_0 a0_1 a0_2 a0_3 l0_4 l0_5 a1 = some r) :
 Calls Try.prog 23 #[.agg #[.int .i64 a0_0, .int .i64 a0_1, .int .i64 a0_2, .int .i64 a0_3, .slice A0_4 l0_4.length c0_4, .slice A0_5 l0_5.length c0_5], .int .i64 a1] w fun e w' => e = .returned (.int .i64 r) ∧ Below w.heap.size w w' := by
 have hu37 := Try.underlying37; have HR0_4 := Aside0.mk hr0_4; have HC0_4 := Aside0.mk hc0_4; clear hr0_4 hc0_4; have HR0_5 := Aside0.mk hr0_5; have HC0_5 := Aside0.mk hc0_5; clear hr0_5 hc0_5; have HB := Aside0.mk (Below.refl w.heap.size w); have H : ((laws_szIntS.f l0_4 a1).bind fun t323 => (if t323 < 0 then (some (-1)) else ((laws_szIntS.f l0_5 t323).bind fun t324 => (if t324 < 0 then (some (-1)) else (some t324))))) = some r := h; clear h; replace H := Option.bind_eq_some_iff.mp H; obtain ⟨t323, A30, H⟩ := H; have A3 := Aside0.mk A30; clear A30
 by_cases c4 : t323 < 0
 ·rw [if_pos c4] at H; have c4b0 : decide (t323 < 0) = true := decide_eq_true c4; clear c4; obtain rfl := Option.some.inj H; go_enter Try.func23, Try.ntmps23
  go_wp2_with (first | ((with_reducible refine gate_dst (N := 2) rfl ?_); refine box_event ?hg (N := 2) ?hd (cs := #[.int .i64 a0_0, .int .i64 a0_1, .int .i64 a0_2, .int .i64 a0_3, .slice A0_4 l0_4.length c0_4, .slice A0_5 l0_5.length c0_5]) (t := 37) ?hr ?_; (case hd => rfl); (case hg => rfl); (case hr => first | (go_simp; done) | (go_simp; rfl)); intro gb322 hg w5 hbox hb; have n0_ := Sq.s_ HB hb; have n1_ := Aside0.mk (hbox); have n2_ := Sq.g_ HB hg; have n3_ := Sq.g_ HB hg; clear HB; have HB := n0_; have BK322 := n1_; have GW322 := n2_; have GE322 := n3_; have GO322 := Sq.o_ GE322; clear n0_ n1_ n2_ n3_; clear hb hbox hg; obtain ⟨hcz6_0, hcz6_1, hcz6_2, hcz6_3, hcz6_4, hcz6_5, hfz6_0, hfz6_1, hfz6_2, hfz6_3, hfz6_4, hfz6_5⟩ := Sq.cell6 BK322) | ((with_reducible refine gate_callee (f := 56) rfl ?_); refine goesL_ (some 8) rfl rfl Try.func56 (by kernel_rfl) rfl #[.slice A0_4 l0_4.length c0_4, .int .i64 a1] rfl (by (try simp only [Sq.mp]); first | done | rfl | (simp only [List.length_drop, List.length_take]; rfl)) ?_; (with_reducible refine (laws_szIntS.calls _ _ l0_4 a1 t323 _ ?side1 ?side2 A3.out).mono ?_); (case side1 => exact Sq.i_ HR0_4 HB); (case side2 => exact HC0_4.out); rintro e w' ⟨rfl, ⟨nd, rfl⟩⟩; refine ⟨_, rfl, ?_⟩))
  go_ret
  exact ⟨by first | rfl | (simp [errW_none, errW_some] <;> rfl) | (simp [*, errW_none, errW_some] <;> rfl), (Sq.ut HB)⟩
 ·rw [if_neg c4] at H; have c4b0 : decide (t323 < 0) = false := decide_eq_false c4; clear c4; replace H := Option.bind_eq_some_iff.mp H; obtain ⟨t324, A70, H⟩ := H; have A7 := Aside0.mk A70; clear A70
  by_cases c8 : t324 < 0
  ·rw [if_pos c8] at H; have c8b0 : decide (t324 < 0) = true := decide_eq_true c8; clear c8; obtain rfl := Option.some.inj H; go_enter Try.func23, Try.ntmps23
   go_wp2_with (first | ((with_reducible refine gate_dst (N := 2) rfl ?_); refine box_event ?hg (N := 2) ?hd (cs := #[.int .i64 a0_0, .int .i64 a0_1, .int .i64 a0_2, .int .i64 a0_3, .slice A0_4 l0_4.length c0_4, .slice A0_5 l0_5.length c0_5]) (t := 37) ?hr ?_; (case hd => rfl); (case hg => rfl); (case hr => first | (go_simp; done) | (go_simp; rfl)); intro gb322 hg w9 hbox hb; have n0_ := Sq.s_ HB hb; have n1_ := Aside0.mk (hbox); have n2_ := Sq.g_ HB hg; have n3_ := Sq.g_ HB hg; clear HB; have HB := n0_; have BK322 := n1_; have GW322 := n2_; have GE322 := n3_; have GO322 := Sq.o_ GE322; clear n0_ n1_ n2_ n3_; clear hb hbox hg; obtain ⟨hcz10_0, hcz10_1, hcz10_2, hcz10_3, hcz10_4, hcz10_5, hfz10_0, hfz10_1, hfz10_2, hfz10_3, hfz10_4, hfz10_5⟩ := Sq.cell6 BK322) | ((with_reducible refine gate_callee (f := 56) rfl ?_); refine goesL_ (some 8) rfl rfl Try.func56 (by kernel_rfl) rfl #[.slice A0_4 l0_4.length c0_4, .int .i64 a1] rfl (by (try simp only [Sq.mp]); first | done | rfl | (simp only [List.length_drop, List.length_take]; rfl)) ?_; (with_reducible refine (laws_szIntS.calls _ _ l0_4 a1 t323 _ ?side1 ?side2 A3.out).mono ?_); (case side1 => exact Sq.i_ HR0_4 HB); (case side2 => exact HC0_4.out); rintro e w' ⟨rfl, ⟨nd, rfl⟩⟩; refine ⟨_, rfl, ?_⟩) | ((with_reducible refine gate_callee (f := 56) rfl ?_); refine goesL_ (some 14) rfl rfl Try.func56 (by kernel_rfl) rfl #[.slice A0_5 l0_5.length c0_5, .int .i64 t323] rfl (by (try simp only [Sq.mp]); first | done | rfl | (simp only [List.length_drop, List.length_take]; rfl)) ?_; (with_reducible refine (laws_szIntS.calls _ _ l0_5 t323 t324 _ ?side1 ?side2 A7.out).mono ?_); (case side1 => repeat (first | exact (Kd.C_below HR0_5.out (Sq.ut HB)) | (with_reducible refine Kd.C_alloc ?_ _) | (with_reducible refine Kd.C_drewN ?_ _) | (with_reducible refine Kd.C_drew ?_))); (case side2 => exact HC0_5.out); rintro e w' ⟨rfl, ⟨nd, rfl⟩⟩; refine ⟨_, rfl, ?_⟩))
   go_ret
   exact ⟨by first | rfl | (simp [errW_none, errW_some] <;> rfl) | (simp [*, errW_none, errW_some] <;> rfl), (Sq.ut HB)⟩
  ·rw [if_neg c8] at H; have c8b0 : decide (t324 < 0) = false := decide_eq_false c8; clear c8; obtain rfl := Option.some.inj H; go_enter Try.func23, Try.ntmps23
   go_wp2_with (first | ((with_reducible refine gate_dst (N := 2) rfl ?_); refine box_event ?hg (N := 2) ?hd (cs := #[.int .i64 a0_0, .int .i64 a0_1, .int .i64 a0_2, .int .i64 a0_3, .slice A0_4 l0_4.length c0_4, .slice A0_5 l0_5.length c0_5]) (t := 37) ?hr ?_; (case hd => rfl); (case hg => rfl); (case hr => first | (go_simp; done) | (go_simp; rfl)); intro gb322 hg w11 hbox hb; have n0_ := Sq.s_ HB hb; have n1_ := Aside0.mk (hbox); have n2_ := Sq.g_ HB hg; have n3_ := Sq.g_ HB hg; clear HB; have HB := n0_; have BK322 := n1_; have GW322 := n2_; have GE322 := n3_; have GO322 := Sq.o_ GE322; clear n0_ n1_ n2_ n3_; clear hb hbox hg; obtain ⟨hcz12_0, hcz12_1, hcz12_2, hcz12_3, hcz12_4, hcz12_5, hfz12_0, hfz12_1, hfz12_2, hfz12_3, hfz12_4, hfz12_5⟩ := Sq.cell6 BK322) | ((with_reducible refine gate_callee (f := 56) rfl ?_); refine goesL_ (some 8) rfl rfl Try.func56 (by kernel_rfl) rfl #[.slice A0_4 l0_4.length c0_4, .int .i64 a1] rfl (by (try simp only [Sq.mp]); first | done | rfl | (simp only [List.length_drop, List.length_take]; rfl)) ?_; (with_reducible refine (laws_szIntS.calls _ _ l0_4 a1 t323 _ ?side1 ?side2 A3.out).mono ?_); (case side1 => exact Sq.i_ HR0_4 HB); (case side2 => exact HC0_4.out); rintro e w' ⟨rfl, ⟨nd, rfl⟩⟩; refine ⟨_, rfl, ?_⟩) | ((with_reducible refine gate_callee (f := 56) rfl ?_); refine goesL_ (some 14) rfl rfl Try.func56 (by kernel_rfl) rfl #[.slice A0_5 l0_5.length c0_5, .int .i64 t323] rfl (by (try simp only [Sq.mp]); first | done | rfl | (simp only [List.length_drop, List.length_take]; rfl)) ?_; (with_reducible refine (laws_szIntS.calls _ _ l0_5 t323 t324 _ ?side1 ?side2 A7.out).mono ?_); (case side1 => repeat (first | exact (Kd.C_below HR0_5.out (Sq.ut HB)) | (with_reducible refine Kd.C_alloc ?_ _) | (with_reducible refine Kd.C_drewN ?_ _) | (with_reducible refine Kd.C_drew ?_))); (case side2 => exact HC0_5.out); rintro e w' ⟨rfl, ⟨nd, rfl⟩⟩; refine ⟨_, rfl, ?_⟩))
   go_ret
   exact ⟨by first | rfl | (simp [errW_none, errW_some] <;> rfl) | (simp [*, errW_none, errW_some] <;> rfl), (Sq.ut HB)⟩
/-! ### laws_toIntS: function 60 -/
def laws_toIntS.l0 : Nat → List Int → List Int → Int → Option (List Int)
 | 0, _, _, _ => none
 | k + 1, x0, x3, x4 => if x4 < (x0.length : Int) then (if 0 ≤ x4 then (if x4 < (x3.length : Int) then (laws_toIntS.l0 k x0 (x3.set (x4 : Int).toNat (rd x0 x4)) (wrap64 (x4 + 1))) else (none)) else (none)) else (some x3)
def laws_toIntS.f (k : Nat) (l0 : List Int) : Option (List Int) := if 0 ≤ (l0.length : Int) then (if ((l0.length : Int) : Int).toNat ≤ 35184372088832 then (laws_toIntS.l0 k l0 (List.replicate ((l0.length : Int) : Int).toNat 0) 0) else (none)) else (none)
theorem laws_toIntS.mono_l : ∀ k, (∀ y0 y1 y2, LeO (laws_toIntS.l0 k y0 y1 y2) (laws_toIntS.l0 (k + 1) y0 y1 y2))
 | 0 => fun _ _ _ r h => by simp [laws_toIntS.l0] at h
 | k + 1 => by
  have ih0 := laws_toIntS.mono_l k
  ·intro y0 y1 y2; unfold laws_toIntS.l0
   repeat' first
   | (with_reducible exact ih0 _ _ _)
   | (with_reducible exact LeO.refl _)
   | (with_reducible exact LeO.none _)
   | (with_reducible refine LeO.ite ?_ ?_)
   | (with_reducible refine LeO.bind ?_ (fun _ => ?_))
   | exact ih0 _ _ _
   | exact LeO.none _
   | refine LeO.ite ?_ ?_
   | refine LeO.bind ?_ (fun _ => ?_)
theorem laws_toIntS.mono : ∀ a0 k, LeO (laws_toIntS.f k a0) (laws_toIntS.f (k + 1) a0) := by
 intro a0 k; have ih0 := laws_toIntS.mono_l k; unfold laws_toIntS.f
 repeat' first
  | (with_reducible exact ih0 _ _ _)
  | (with_reducible exact LeO.refl _)
  | (with_reducible exact LeO.none _)
  | (with_reducible refine LeO.ite ?_ ?_)
  | (with_reducible refine LeO.bind ?_ (fun _ => ?_))
  | exact ih0 _ _ _
  | exact LeO.none _
  | refine LeO.ite ?_ ?_
  | refine LeO.bind ?_ (fun _ => ?_)
set_option maxHeartbeats 8000000 in
set_option maxRecDepth 100000 in
theorem laws_toIntS.calls (k : Nat) (A0 : Option Addr) (c0 : Nat) (l0 : List Int) (r : List Int) (w : World) (hr0 : Kd.C (Kd.int .i64) w A0 l0.length l0) (hc0 : l0.length ≤ c0) (h : laws_toIntS.f k l0 = some r) :
 Calls Try.prog 60 #[.slice A0 l0.length c0] w fun e w' => ∃ v0_ : Value, e = .returned (v0_) ∧ Kd.R (Kd.int .i64) 3 w' w.heap.size (fun _ => True) v0_ r ∧ Below w.heap.size w w' := by
 have HR0 := Aside0.mk hr0; have HC0 := Aside0.mk hc0; clear hr0 hc0; have HB := Aside0.mk (Below.refl w.heap.size w); have H : (if 0 ≤ (l0.length : Int) then (if ((l0.length : Int) : Int).toNat ≤ 35184372088832 then (laws_toIntS.l0 k l0 (List.replicate ((l0.length : Int) : Int).toNat 0) 0) else (none)) else (none)) = some r := h; clear h
 by_cases c2 : 0 ≤ (l0.length : Int)
 ·rw [if_pos c2] at H; have c2b0 := eq_true c2; have c2b1 : decide (0 ≤ (l0.length : Int)) = true := decide_eq_true c2; clear c2
  by_cases c3 : ((l0.length : Int) : Int).toNat ≤ 35184372088832
  ·rw [if_pos c3] at H; have c3b0 := eq_true c3; have c3b1 : decide (((l0.length : Int) : Int).toNat ≤ 35184372088832) = true := decide_eq_true c3; clear c3; obtain ⟨y390, hy390⟩ : ∃ y_ : List Int, y_ = (List.replicate ((l0.length : Int) : Int).toNat 0) := ⟨_, rfl⟩; rw [← hy390] at H; have Ny390 := Aside0.mk hy390; clear hy390; have H' := Aside0.mk H; clear H; go_enter Try.func60, Try.ntmps60
   go_wp2_with (first | ((with_reducible refine gate_dst (N := 7) rfl ?_); refine Kd.R_make (Kd.int .i64) _ 3 rfl (N := 7) rfl 31 _ _ rfl (l0.length : Int) rfl rfl Try.underlying31 (.int .i64 0) 8 info3 rfl (by decide) (by omega) 0 (ok := fun _ => True) (okp := fun _ => True) rfl (fun _ hk => hk) trivial (of_decide_eq_true (by first | (with_reducible assumption) | assumption)) (Nat.le_trans (Nat.mul_le_mul_right _ (of_decide_eq_true (by first | (with_reducible assumption) | assumption) : (l0.length : Int).toNat ≤ 35184372088832)) (by omega)) (Below.refl _ _) (Nat.le_refl _) ?_; intro v391 w4 ho5 hb hg_ hnew_; clear hg_ hnew_; (first | rw [← Ny390.out] at ho5 | (simp only [Int.reduceToNat] at ho5; rw [← Ny390.out] at ho5)); have n0_ := Aside0.mk (Kd.R_lower ho5 (below_size (by repeat (first | (with_reducible first | exact HB.out | apply below_alloc | apply pw_below_drewN | apply below_drew1) | exact HB.out)))); have n1_ := Sq.s_ HB hb; clear HB; have HO392 := n0_; have HB := n1_; clear n0_ n1_; clear hb ho5))
   go_loopg [4] k (fun kq v4 w' => ∃ (x3_1 : List Int) (x4_1 : Int), v4 = .int .i64 x4_1 ∧ Aside0 (laws_toIntS.l0 kq l0 x3_1 x4_1 = some r) ∧ Aside0 (kq ≤ k) ∧ Aside0 (Kd.R (Kd.int .i64) 3 w' w.heap.size (fun _ => True) v391 x3_1) ∧ Aside0 (Below w.heap.size w w'))
   case atStart => exact ⟨(y390), (0), (by first | rfl | (simp; done) | (simp [*]; done)), H', ⟨Nat.le_refl _⟩, Sq.nn_ HO392, Sq.a_ HB⟩
   case round =>
    clear H'; try clear c2
    try clear c2b0
    try clear c2b1
    try clear p2
    try clear c3
    try clear c3b0
    try clear c3b1
    obtain ⟨x3_1, x4_1, rfl, HA, HK1, HO_3, HB⟩ := hrel; cases gk with
    | zero => exact absurd HA.out (by simp [laws_toIntS.l0])
    | succ k1 =>
     have H := HA.out; clear HA; simp only [laws_toIntS.l0] at H
     by_cases c6 : x4_1 < (l0.length : Int)
     ·rw [if_pos c6] at H; have c6b0 : decide (x4_1 < (l0.length : Int)) = true := decide_eq_true c6; clear c6
      by_cases c7 : 0 ≤ x4_1
      ·rw [if_pos c7] at H; have c7b0 : decide (0 ≤ x4_1) = true := decide_eq_true c7; clear c7
       by_cases c8 : x4_1 < (x3_1.length : Int)
       ·rw [if_pos c8] at H; have c8b0 : decide (x4_1 < (x3_1.length : Int)) = true := decide_eq_true c8; clear c8; obtain ⟨y394, hy394⟩ : ∃ y_ : List Int, y_ = (x3_1.set (x4_1 : Int).toNat (rd l0 x4_1)) := ⟨_, rfl⟩; rw [← hy394] at H; have Ny394 := Aside0.mk hy394; clear hy394; have H' := Aside0.mk H; clear H; have p393 : 0 ≤ (x4_1 : Int) := of_decide_eq_true (by first | (with_reducible assumption) | assumption); have q393 : x4_1 < (l0.length : Int) := of_decide_eq_true (by first | (with_reducible assumption) | assumption); obtain ⟨ad393, e393, hx393_0⟩ := Kd.at_int HR0.out x4_1 p393 q393; cases e393; replace hx393_0 := (HB.out.cell (World.block_lt_of_cell? w _ hx393_0)).trans hx393_0; replace p393 := eq_true p393; replace q393 := eq_true q393; have p9 : 0 ≤ (x4_1 : Int) := of_decide_eq_true (by first | (with_reducible assumption) | assumption); have q9 : (x4_1 : Int) < ((x3_1.length : Int) : Int) := of_decide_eq_true (by first | (with_reducible assumption) | assumption); obtain ⟨go9, co9, eo9, gb9, gl9, cl9, HG9⟩ := Kd.R_form HO_3.out (by omega); (first | cases eo9 | (injection eo9 with ea_ en_ ec_; (first | subst ea_ | (injection ea_ with ea_; subst ea_)); subst ec_; clear en_))
        have GB9 := Aside0.mk gb9; have GG9 := Aside0.mk HG9; clear gb9 gl9 HG9; obtain ⟨hx9_0, hf9_0⟩ := Kd.R_celln 0 HO_3.out (x4_1 : Int) p9 q9; replace p9 := eq_true p9; replace q9 := eq_true q9; have HP10 := Kd.R_putg HO_3.out (x4_1 : Int) (rd l0 x4_1); go_wp2_with (first | ((with_reducible refine gate_store (t := 3) (p := 20) rfl ?_); refine store_event (t := 3) (p := 20) (v := ?vo_w11) (w1 := (wr.setCell ⟨go9, (x4_1 : Int).toNat, none⟩ (.int .i64 (rd l0 x4_1)))) ?hg ?ho ?hn ?hr ?_; (case ho => rfl); (case hg => rfl); (case hn => rfl); (case hr => first | (go_simp; done) | (go_simp; rfl)); intro w11 hw; have hg : wr.grownBy w11 (some go9) := (by rw [hw]; exact HP10.2); have hp_ : Kd.R (Kd.int .i64) 3 w11 w.heap.size (fun _ => True) (.slice (some ⟨go9, 0, none⟩) x3_1.length co9) y394 := (by rw [hw, Ny394.out]; exact HP10.1); clear HP10; have n0_ := Aside0.mk (hp_); have n1_ := Aside0.mk ((by rw [hw]; exact below_set (HB.out) GB9.out : Below w.heap.size w w11)); clear HO_3; clear HB; have HO_3 := n0_; have HB := n1_; clear n0_ n1_; clear hg hw hp_))
        go_roundg k1
        case measure => have := HK1.out; omega
        case rel => exact ⟨(y394), (wrap64 (x4_1 + 1)), (by first | rfl | (simp; done) | (simp [*]; done)), H', ⟨by have := HK1.out; omega⟩, Sq.nn_ HO_3, Sq.a_ HB⟩
       ·rw [if_neg c8] at H; exact absurd H (by simp)
      ·rw [if_neg c7] at H; exact absurd H (by simp)
     ·rw [if_neg c6] at H; have c6b0 : decide (x4_1 < (l0.length : Int)) = false := decide_eq_false c6; clear c6; obtain rfl := Option.some.inj H; go_wp2
      go_ret
      exact ⟨_, by first | rfl | (simp [errW_none, errW_some] <;> rfl) | (simp [*, errW_none, errW_some] <;> rfl), by (with_reducible repeat (first | apply Kd.R_alloc | apply Kd.R_drewN | apply Kd.R_drew)); exact HO_3.out, by repeat (first | (with_reducible first | exact HB.out | apply below_alloc | apply pw_below_drewN | apply below_drew1) | exact HB.out)⟩
  ·rw [if_neg c3] at H; exact absurd H (by simp)
 ·rw [if_neg c2] at H; exact absurd H (by simp)
end Go.Proofs.Ytgdbinifnhfcjaa.P
