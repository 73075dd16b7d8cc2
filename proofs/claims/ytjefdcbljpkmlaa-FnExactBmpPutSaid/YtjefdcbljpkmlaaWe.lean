/- impl: colours, TGA's head. -/
import Derived.Test.YtjefdcbljpkmlaaWc
import Derived.Test.YtjefdcbljpkmlaaWd
set_option linter.unusedVariables false
set_option maxRecDepth 8000
namespace Go.Proofs.Ytjefdcbljpkmlaa.G
open Go
section
variable {g : Nat} {s : ByteArray} {p : Nat} {bad : Bool}
theorem nope {s : ByteArray} {p z : Nat} {bad : Bool} (h : ¬ (bad = false ∧ p + z ≤ s.size)) : bad = true ∨ s.size < p + z := by
  cases bad
  · exact .inr (by have : ¬ p + z ≤ s.size := fun x => h ⟨rfl, x⟩; omega)
  · exact .inl rfl
/-- What a number is that was read; it is bad if it was not there. -/
def Got (s : ByteArray) (p : Nat) (bad : Bool) (z p2 : Nat) (bad2 : Bool) (x : Int) : Prop :=
  0 ≤ x ∧ x ≤ bnd z ∧ p2 ≤ s.size ∧ (bad2 = false → bad = false ∧ p2 = p + z ∧ x = fld s p z false z) ∧ (bad2 = true → bad = true ∨ s.size < p + z)
def GotT (P : Program) (f : FuncId) (args : List Value) (g : Nat) (s : ByteArray) (p : Nat) (bad : Bool) (z : Nat) : Prop :=
  Trip P f args [(g, sc s p bad)] (fun v F' ns => ∃ p2 bad2 x, v = .int .i64 x ∧ F' = [(g, sc s p2 bad2)] ∧ ns = [] ∧ Got s p bad z p2 bad2 x)
theorem number_g {z : Nat} (hs : s.size ≤ 1000000000000) (hp : p ≤ s.size) (h1 : 1 ≤ z) (h2 : z ≤ 4) : GotT Try.prog 70 [ptr g, .int .i64 z] g s p bad z := by
  by_cases h : bad = false ∧ p + z ≤ s.size
  · obtain ⟨rfl, h⟩ := h
    exact (number_t hs h1 h2 h).mono fun v F' ns ⟨h3, h4, h5⟩ => ⟨_, _, _, h3, h4, h5, fld_ge _ _ _ _ _, fld_le _ _ _ _ _, h, fun _ => ⟨rfl, rfl, rfl⟩, fun h => by cases h⟩
  · refine (number_f hs hp h1 h2 (nope h)).mono fun v F' ns ⟨h3, h4, h5⟩ => ⟨_, _, _, h3, h4, h5, Int.le_refl _, ?_, hp, fun h => (by cases h), fun _ => nope h⟩
    exact Int.le_trans (fld_ge s 0 z false z) (fld_le s 0 z false z)
theorem fld_byte : fld s p 1 false 1 = byt s p := by simp [fld]
theorem byte_g (hs : s.size ≤ 1000000000000) (hp : p ≤ s.size) : GotT Try.prog 129 [ptr g] g s p bad 1 := by
  by_cases h : bad = false ∧ p + 1 ≤ s.size
  · obtain ⟨rfl, h⟩ := h
    exact (byte_t hs h).mono fun v F' ns ⟨h3, h4, h5⟩ => ⟨_, _, _, h3, h4, h5, byt_ge _ _, byt_le _ _, h, fun _ => ⟨rfl, rfl, fld_byte.symm⟩, fun h => by cases h⟩
  · refine (byte_f hs hp (nope h)).mono fun v F' ns ⟨h3, h4, h5⟩ => ⟨_, _, _, h3, h4, h5, Int.le_refl _, by simp [bnd], hp, fun h => (by cases h), fun _ => nope h⟩
end
section
variable {P : Program} {ops os : List Oper} {H : Option (List Hint)} {K : Env → GL → Prop} {e : Env} {l : GL} {d : Nat} {T : TypeId} {pos : String} {af : Array Edge} {g : Nat} {s : ByteArray} {p : Nat} {bad : Bool}
theorem gs_got {f : FuncId} {xs : Array Operand} {ts : Array TypeId} {z : Nat} (hent : Ent P f) (h : GotT P f (xs.toList.map (gev e)) g s p bad z) (k : ∀ p2 bad2 x, Got s p bad z p2 bad2 x → gseq P ops os (tl? H) K (upd e d (.int .i64 x)) ((g, sc s p2 bad2) :: l)) (hh : hE [0] H := by trivial) : gseq P ops (⟨some d, .call { callee := .value (.func f), args := xs, argTypes := ts }, T, pos, af, none⟩ :: os) H K e ((g, sc s p bad) :: l) := by
  refine gs_call [0] hent rfl (by decide) h (fun v F' ns ho _ _ => ?_) hh
  obtain ⟨p2, bad2, x, rfl, rfl, rfl, hg⟩ := ho
  simpa [setAll, updo] using k p2 bad2 x hg
end
/-- Colours of three bytes, of so many each. -/
def cols (s : ByteArray) (z : Nat) (big : Bool) (n : Nat) : List Int := (List.range n).map fun i => fld s (z * i) 3 big 3
theorem cols_succ {s : ByteArray} {z : Nat} {big : Bool} {n : Nat} : cols s z big n ++ [fld s (z * n) 3 big 3] = cols s z big (n + 1) := by simp [cols, List.range_succ]
theorem cols_len {s : ByteArray} {z : Nat} {big : Bool} {n : Nat} : (cols s z big n).length = n := by simp [cols]
theorem colorsGet_w {s : ByteArray} {z : Nat} {big : Bool} (hs : s.size ≤ 9000) (h1 : 3 ≤ z) (h2 : z ≤ 4) : Trip Try.prog 73 [.string s, .int .i64 z, .bool big] [] (fun v F' ns => F' = [] ∧ ∃ p, ns = [p] ∧ OI v p (cols s z big (s.size / z))) := by
  refine trip_of Try.func73 rfl (by simp [Try.ntmps73]) ?_
  repeat (first | refine gs_n tyT_ok 0 ?_ | refine gs_gn tyT_ok 0 rfl ?_ | refine gs_no rfl ?_ | refine gs_end ?_ | refine gs_end' ?_ | refine gw_seq ?_ | refine gw_text rfl ?_ | refine gw_skip ?_ | refine gw_yes rfl ?_ | refine gw_no rfl ?_ | refine gw_exit ?_ | refine gw_block ?_ | refine gw_label ?_ | (refine gs_n tyT_ok 0 ?_ (hp := ?hp); case hp => exact ⟨by decide, by decide⟩))
  refine gw_nil ?_
  refine gw_loopL (fun _ (a : Nat × Value × (Nat × GO)) => [(0, .string s), (1, .int .i64 z), (2, .bool big), (7, a.2.1), (8, .int .i64 ((z * a.1 : Nat) : Int))]) (fun _ a => [a.2.2]) (fun m a => a.1 + m = s.size / z ∧ OI a.2.1 a.2.2 (cols s z big a.1)) (s.size / z) (0, .slice none 0 0, (0, .none)) ⟨by simp, OI.nil⟩ rfl ⟨rfl, rfl, rfl, rfl, ?_, trivial⟩ fun m ⟨k, v, p⟩ e ⟨hm, hv⟩ => ?_
  · simp
    rfl
  dsimp only at hm hv
  obtain ⟨a, c, rfl, hl⟩ := hv.ls
  have hdm := Nat.div_add_mod s.size z
  have hlt := Nat.mod_lt s.size (show z > 0 by omega)
  by_cases hk : k < s.size / z
  · have hle : z * k + z ≤ s.size := by
      have := Nat.mul_le_mul_left z (show k + 1 ≤ s.size / z by omega)
      rw [Nat.mul_succ] at this
      omega
    repeat (first | refine gs_n tyT_ok 0 ?_ | refine gs_gn tyT_ok 0 rfl ?_ | refine gs_no rfl ?_ | refine gs_end ?_ | refine gs_end' ?_ | refine gw_seq ?_ | refine gw_text rfl ?_ | refine gw_skip ?_ | refine gw_yes rfl ?_ | refine gw_no rfl ?_ | refine gw_exit ?_ | refine gw_block ?_ | refine gw_label ?_ | (refine gs_n tyT_ok 0 ?_ (hp := ?hp); case hp => exact ⟨by decide, by decide⟩))
    (refine gs_t tyT_ok ?hb ?_; case hb => first | exact decide_eq_true (by omega) | exact congrArg Bool.not (decide_eq_false (by omega)) | (simp; done) | (simp; omega))
    repeat (first | refine gs_n tyT_ok 0 ?_ | refine gs_gn tyT_ok 0 rfl ?_ | refine gs_no rfl ?_ | refine gs_end ?_ | refine gs_end' ?_ | refine gw_seq ?_ | refine gw_text rfl ?_ | refine gw_skip ?_ | refine gw_yes rfl ?_ | refine gw_no rfl ?_ | refine gw_exit ?_ | refine gw_block ?_ | refine gw_label ?_ | (refine gs_n tyT_ok 0 ?_ (hp := ?hp); case hp => exact ⟨by decide, by decide⟩))
    refine gs_pu ent25 (numGet_w s ((z * k : Nat) : Int) 3 big) ?_
    rw [show numGet s ((z * k : Nat) : Int) 3 big = _ from numGet_at (z := 3) (by omega) (by omega) hs (by omega)]
    repeat (first | refine gs_n tyT_ok 0 ?_ | refine gs_gn tyT_ok 0 rfl ?_ | refine gs_no rfl ?_ | refine gs_end ?_ | refine gs_end' ?_ | refine gw_seq ?_ | refine gw_text rfl ?_ | refine gw_skip ?_ | refine gw_yes rfl ?_ | refine gw_no rfl ?_ | refine gw_exit ?_ | refine gw_block ?_ | refine gw_label ?_ | (refine gs_n tyT_ok 0 ?_ (hp := ?hp); case hp => exact ⟨by decide, by decide⟩))
    refine gs_lit tyT_ok rfl rfl rfl (by decide) rfl fun b => ?_
    refine gs_append tyT_ok 0 1 (nw := ints [fld s (z * k) 3 big 3]) rfl rfl (by decide) rfl rfl rfl hv (.inr ⟨b, 0, 1, 1, rfl, rfl, Nat.le_of_ble_eq_true rfl, rfl⟩) rfl ?hb (by decide) (by decide) fun v2 p2 hv2 => ?_
    case hb =>
      have := Nat.div_le_self s.size z
      simp only [ints, List.length_map, cols_len, List.length_singleton]
      show (k + 1) * 8 ≤ 140737488355328 * 1
      omega
    have hv3 : OI v2 p2 (cols s z big (k + 1)) := by
      rw [← cols_succ, OI, ← ints_add]
      exact hv2
    obtain ⟨a2, c2, rfl, hl2⟩ := hv3.ls
    refine gs_n tyT_ok 0 ?_
    refine gs_end ?_
    refine gw_weak [0] (by decide) rfl ?_
    repeat (first | refine gs_n tyT_ok 0 ?_ | refine gs_gn tyT_ok 0 rfl ?_ | refine gs_no rfl ?_ | refine gs_end ?_ | refine gs_end' ?_ | refine gw_seq ?_ | refine gw_text rfl ?_ | refine gw_skip ?_ | refine gw_yes rfl ?_ | refine gw_no rfl ?_ | refine gw_exit ?_ | refine gw_block ?_ | refine gw_label ?_ | (refine gs_n tyT_ok 0 ?_ (hp := ?hp); case hp => exact ⟨by decide, by decide⟩))
    refine ⟨m - 1, by omega, (k + 1, _, p2), ⟨by show k + 1 + (m - 1) = _; omega, hv3⟩, rfl, rfl, rfl, rfl, rfl, ?_, trivial⟩
    · refine congrArg (Value.int .i64) ?_
      show ((z * k : Nat) : Int) + (z : Int) = ((z * (k + 1) : Nat) : Int)
      rw [Nat.mul_succ]
      omega
  · obtain rfl : k = s.size / z := by omega
    repeat (first | refine gs_n tyT_ok 0 ?_ | refine gs_gn tyT_ok 0 rfl ?_ | refine gs_no rfl ?_ | refine gs_end ?_ | refine gs_end' ?_ | refine gw_seq ?_ | refine gw_text rfl ?_ | refine gw_skip ?_ | refine gw_yes rfl ?_ | refine gw_no rfl ?_ | refine gw_exit ?_ | refine gw_block ?_ | refine gw_label ?_ | (refine gs_n tyT_ok 0 ?_ (hp := ?hp); case hp => exact ⟨by decide, by decide⟩))
    refine gs_f tyT_ok ?hb ?_
    case hb => exact decide_eq_false (by show ¬ (((z * (s.size / z) : Nat) : Int) + (z : Int) ≤ (s.size : Int)); omega)
    repeat (first | refine gs_n tyT_ok 0 ?_ | refine gs_gn tyT_ok 0 rfl ?_ | refine gs_no rfl ?_ | refine gs_end ?_ | refine gs_end' ?_ | refine gw_seq ?_ | refine gw_text rfl ?_ | refine gw_skip ?_ | refine gw_yes rfl ?_ | refine gw_no rfl ?_ | refine gw_exit ?_ | refine gw_block ?_ | refine gw_label ?_ | (refine gs_n tyT_ok 0 ?_ (hp := ?hp); case hp => exact ⟨by decide, by decide⟩))
    exact gw_ret ⟨_, [], _, [0], .tmp .nil, ⟨rfl, p, rfl, hv⟩, rfl, rfl, by decide⟩
end Go.Proofs.Ytjefdcbljpkmlaa.G
