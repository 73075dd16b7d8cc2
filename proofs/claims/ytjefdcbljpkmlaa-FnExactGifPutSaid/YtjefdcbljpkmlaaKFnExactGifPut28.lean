/- What the law FnExactGifPut needs, out of the texts Zi. -/
import Derived.Test.YtjefdcbljpkmlaaKFnExactGifPut27
section
set_option linter.unusedVariables false
set_option linter.unusedSimpArgs false
set_option maxRecDepth 10000
namespace Go.Proofs.Ytjefdcbljpkmlaa.G
open Go
theorem ext_none (t : ByteArray) (a : Nat) : t.extract a a = txt [] := by
  apply ByteArray.ext
  apply Array.ext'
  rw [toList_extract]
  simp [txt, strOfNums]
theorem ext_app (t : ByteArray) {a b c : Nat} (h1 : a ≤ b) (h2 : b ≤ c) : t.extract a b ++ t.extract b c = t.extract a c := by
  apply ByteArray.ext
  apply Array.ext'
  rw [ByteArray.data_append, Array.toList_append, toList_extract, toList_extract, toList_extract]
  have hd : (t.data.toList.take c).drop a = ((t.data.toList.take c).take b).drop a ++ (t.data.toList.take c).drop b := by
    have h3 := List.take_append_drop b (t.data.toList.take c)
    have h4 : (t.data.toList.take c).drop a = (((t.data.toList.take c).take b) ++ (t.data.toList.take c).drop b).drop a := by rw [h3]
    rw [h4, List.drop_append]
    by_cases hl : a ≤ ((t.data.toList.take c).take b).length
    · rw [show a - ((t.data.toList.take c).take b).length = 0 by omega, List.drop_zero]
    · have hl2 : (t.data.toList.take c).length ≤ b := by
        simp only [List.length_take] at hl ⊢
        omega
      have : (t.data.toList.take c).drop b = [] := List.drop_eq_nil_of_le hl2
      rw [this]
      simp
  rw [hd, List.take_take, Nat.min_eq_left h2]
section
variable {ops os : List Oper} {H : Option (List Hint)} {K : Env → GL → Prop} {e : Env} {l : GL} {d : Nat} {T : TypeId} {pos : String} {af : Array Edge}
/-- Two texts, one behind the other: any texts. -/
theorem gs_catt {x y : Operand} {a b : ByteArray} {t u : TypeId} (hx : gev e x = .string a) (hy : gev e y = .string b) (hs : a.size + b.size ≤ 1000000000000) (k : gseq Try.prog ops os (tl? H) K (upd e d (.string (a ++ b))) l) (hh : hN H := by trivial) :
    gseq Try.prog ops (⟨some d, .binOp .add t x y u, T, pos, af, none⟩ :: os) H K e l := by
  refine gs_n tyT_ok 0 (p := a.size + b.size ≤ 9223372036854775807) (v := .string (a ++ b)) k ?_ (by omega) hh
  simp only [dval, hx, hy, binV]
end
/-- Where the reference stands. -/
structure Lr where
  i : Nat
  v : Value
  p : Nat × GO
  u : Value
  q : Nat × GO
set_option maxHeartbeats 4000000 in
theorem l6Put_w {t : ByteArray} {bits : Nat} {wide : Bool} (hok : lzOk (bits : Int) wide) (h5 : t.size ≤ 5000) (hfit : fitsZ bits t) : Trip Try.prog 107 [.string t, .int .i64 (bits : Int), .bool wide] [] (fun v F' ns => ∃ p, F' = [] ∧ ns = [p] ∧ OBt v p (lzL t bits wide)) := by
  obtain ⟨⟨hb2, hb8⟩, hw8⟩ := hok
  have hb2 : 2 ≤ bits := by omega
  have hb8 : bits ≤ 8 := by omega
  have h8 : 2 ^ bits ≤ 2 ^ 8 := Nat.pow_le_pow_right (by decide) hb8
  have h81 : 1 ≤ 2 ^ bits := Nat.one_le_two_pow
  have hB := lzB_le hb8
  have hF := fullZ_le wide
  refine trip_of Try.func107 rfl (by simp [Try.ntmps107]) ?_
  repeat (first | refine gs_n tyT_ok 0 ?_ | refine gs_gn tyT_ok 0 rfl ?_ | refine gs_no rfl ?_ | refine gs_end ?_ | refine gs_end' ?_ | refine gw_seq ?_ | refine gw_text rfl ?_ | refine gw_skip ?_ | refine gw_yes rfl ?_ | refine gw_no rfl ?_ | refine gw_exit ?_ | refine gw_block ?_ | refine gw_label ?_ | (refine gs_n tyT_ok 0 ?_ (hp := ?hp); case hp => exact ⟨by decide, by decide⟩))
  refine gs_pu ent115 (pow_w (by omega)) ?_
  repeat (first | refine gs_n tyT_ok 0 ?_ | refine gs_gn tyT_ok 0 rfl ?_ | refine gs_no rfl ?_ | refine gs_end ?_ | refine gs_end' ?_ | refine gw_seq ?_ | refine gw_text rfl ?_ | refine gw_skip ?_ | refine gw_yes rfl ?_ | refine gw_no rfl ?_ | refine gw_exit ?_ | refine gw_block ?_ | refine gw_label ?_ | (refine gs_n tyT_ok 0 ?_ (hp := ?hp); case hp => exact ⟨by decide, by decide⟩))
  refine gs_call [] ent165 rfl (by decide) (l6Start_w hb8) fun v F' ns ho _ _ => ?_
  obtain ⟨p, rfl, rfl, hv⟩ := ho
  obtain ⟨va, vc, rfl⟩ := hv.sl
  repeat (first | refine gs_n tyT_ok 0 ?_ | refine gs_gn tyT_ok 0 rfl ?_ | refine gs_no rfl ?_ | refine gs_end ?_ | refine gs_end' ?_ | refine gw_seq ?_ | refine gw_text rfl ?_ | refine gw_skip ?_ | refine gw_yes rfl ?_ | refine gw_no rfl ?_ | refine gw_exit ?_ | refine gw_block ?_ | refine gw_label ?_ | (refine gs_n tyT_ok 0 ?_ (hp := ?hp); case hp => exact ⟨by decide, by decide⟩))
  refine gs_lit tyT_ok (cs := bitV [(2 ^ bits, bits + 1)]) rfl rfl rfl (by decide) rfl fun b9 => ?_
  repeat (first | refine gs_n tyT_ok 0 ?_ | refine gs_gn tyT_ok 0 rfl ?_ | refine gs_no rfl ?_ | refine gs_end ?_ | refine gs_end' ?_ | refine gw_seq ?_ | refine gw_text rfl ?_ | refine gw_skip ?_ | refine gw_yes rfl ?_ | refine gw_no rfl ?_ | refine gw_exit ?_ | refine gw_block ?_ | refine gw_label ?_ | (refine gs_n tyT_ok 0 ?_ (hp := ?hp); case hp => exact ⟨by decide, by decide⟩))
  have hO : OBt (.slice (some ⟨b9, 0, none⟩) 1 1) (b9, .row 108 (bitV [(2 ^ bits, bits + 1)]) 2) [(2 ^ bits, bits + 1)] := .inr ⟨b9, 1, 1, 2, rfl, rfl, rfl, Nat.le_refl _, Nat.le_refl _⟩
  refine gw_loopW (fun _ (s : Lr) => [(0, .string t), (1, .int .i64 (bits : Int)), (2, .bool wide), (7, .int .i64 ((2 ^ bits : Nat) : Int)), (8, s.v), (9, s.u), (10, .string (t.extract (runZ t bits wide s.i).a s.i)), (11, .int .i64 (s.i : Int))]) (fun _ s => [s.p, s.q]) (fun m s => s.i + m = t.size ∧ OT s.v s.p (allL bits (runZ t bits wide s.i).D) ∧ OBt s.u s.q (runZ t bits wide s.i).out) t.size ⟨0, _, p, _, _⟩ ⟨by simp, hv, hO⟩ ⟨[0, 1], by decide, rfl⟩ ⟨rfl, rfl, rfl, rfl, rfl, rfl, by show Value.string _ = Value.string (t.extract 0 0); rw [ext_none]; rfl, rfl, trivial⟩ fun m s e ⟨hm, hv, hu⟩ => ?_
  obtain ⟨i, v, p, u, q⟩ := s
  dsimp only at hm hv hu ⊢
  have hinv := inv_run (wide := wide) hb2 hb8 hfit i (by omega)
  have hst : runZ t bits wide (i + 1) = stepZ t bits wide (runZ t bits wide i) i := rfl
  have hend : i = t.size → endZ t bits wide = if t.size = 0 then ([(2 ^ bits, bits + 1)], lzB bits) else ((runZ t bits wide i).out ++ [(numZ bits (runZ t bits wide i).D (t.extract (runZ t bits wide i).a i), widZ bits wide (knoZ bits (runZ t bits wide i).D.length))], lzB bits + (runZ t bits wide i).D.length) := fun h => by rw [endZ, h]
  have hz0 : t.size = 0 → (runZ t bits wide i).out = [(2 ^ bits, bits + 1)] ∧ (runZ t bits wide i).D = [] ∧ (runZ t bits wide i).a = 0 := fun h => by
    obtain rfl : i = 0 := by omega
    exact ⟨rfl, rfl, rfl⟩
  generalize runZ t bits wide i = R at *
  obtain ⟨D, A, out⟩ := R
  have hfull := hinv.full
  have hat := hinv.at_
  obtain ⟨cc, cc1, cc2⟩ := hinv.len
  dsimp only at hv hu hfull hat cc1 cc2 hst hend hz0 ⊢
  have hAi : A ≤ i := by rcases hat with ⟨h1, h2, _⟩ | ⟨h1, _⟩ <;> omega
  have hal := allL_len bits D
  obtain ⟨va, vc, rfl⟩ := hv.sl
  obtain ⟨ua, uc, rfl⟩ := hu.sl
  have hkn : knoZ bits ((allL bits D).length - lzB bits) = knoZ bits D.length := by rw [hal, Nat.add_sub_cancel_left]
  have hcode := l6Code_w (a := va) (c := vc) (u := numZ bits D (t.extract A i)) (n := (allL bits D).length) (wide := wide) hb8 (by omega) (by omega)
  rw [hkn] at hcode
  have hnum : ¬ i = 0 → numS (allL bits D) (t.extract A i) = (numZ bits D (t.extract A i) : Int) := fun h0 => by
    rcases hat with ⟨h1, _⟩ | ⟨h1, h2⟩
    · exact absurd h1 h0
    · rw [numS_all (by rw [size_ex hAi (by omega)]; omega), if_pos h2]
  repeat (first | refine gs_n tyT_ok 0 ?_ | refine gs_gn tyT_ok 0 rfl ?_ | refine gs_no rfl ?_ | refine gs_end ?_ | refine gs_end' ?_ | refine gw_seq ?_ | refine gw_text rfl ?_ | refine gw_skip ?_ | refine gw_yes rfl ?_ | refine gw_no rfl ?_ | refine gw_exit ?_ | refine gw_block ?_ | refine gw_label ?_ | (refine gs_n tyT_ok 0 ?_ (hp := ?hp); case hp => exact ⟨by decide, by decide⟩))
  by_cases hlt : i < t.size
  case neg =>
    obtain rfl : i = t.size := by omega
    have hend := hend rfl
    (refine gs_f tyT_ok ?hb ?_; case hb => first | exact decide_eq_false (by omega) | exact congrArg Bool.not (decide_eq_true (by omega)) | (simp; done) | (simp; omega))
    repeat (first | refine gs_n tyT_ok 0 ?_ | refine gs_gn tyT_ok 0 rfl ?_ | refine gs_no rfl ?_ | refine gs_end ?_ | refine gs_end' ?_ | refine gw_seq ?_ | refine gw_text rfl ?_ | refine gw_skip ?_ | refine gw_yes rfl ?_ | refine gw_no rfl ?_ | refine gw_exit ?_ | refine gw_block ?_ | refine gw_label ?_ | (refine gs_n tyT_ok 0 ?_ (hp := ?hp); case hp => exact ⟨by decide, by decide⟩))
    by_cases h0 : t.size = 0
    · obtain ⟨z1, z2, z3⟩ := hz0 h0
      subst z1 z2 z3
      rw [if_pos h0] at hend
      refine gs_f tyT_ok ?hb ?_
      case hb =>
        rw [h0, ext_none]
        rfl
      repeat (first | refine gs_n tyT_ok 0 ?_ | refine gs_gn tyT_ok 0 rfl ?_ | refine gs_no rfl ?_ | refine gs_end ?_ | refine gs_end' ?_ | refine gw_seq ?_ | refine gw_text rfl ?_ | refine gw_skip ?_ | refine gw_yes rfl ?_ | refine gw_no rfl ?_ | refine gw_exit ?_ | refine gw_block ?_ | refine gw_label ?_ | (refine gs_n tyT_ok 0 ?_ (hp := ?hp); case hp => exact ⟨by decide, by decide⟩))
      refine gs_pu ent167 (l6Code_w (u := 2 ^ bits + 1) (n := (allL bits []).length) (wide := wide) hb8 (by omega) (by omega)) ?_
      refine gs_pushb 1 (u := 2 ^ bits + 1) (z := widZ bits wide (knoZ bits ((allL bits []).length - lzB bits))) rfl rfl hu (fun _ => rfl) (by simp) fun b5 a5 c5 p5 hv5 => ?_
      repeat (first | refine gs_n tyT_ok 0 ?_ | refine gs_gn tyT_ok 0 rfl ?_ | refine gs_no rfl ?_ | refine gs_end ?_ | refine gs_end' ?_ | refine gw_seq ?_ | refine gw_text rfl ?_ | refine gw_skip ?_ | refine gw_yes rfl ?_ | refine gw_no rfl ?_ | refine gw_exit ?_ | refine gw_block ?_ | refine gw_label ?_ | (refine gs_n tyT_ok 0 ?_ (hp := ?hp); case hp => exact ⟨by decide, by decide⟩))
      have hlz : lzL t bits wide = [(2 ^ bits, bits + 1)] ++ [(2 ^ bits + 1, widZ bits wide (knoZ bits ((allL bits []).length - lzB bits)))] := by
        rw [lzL, hend]
        dsimp only
        rw [hal]
        simp [knoZ]
      exact gw_ret ⟨_, [], [p5], [1], .tmp .nil, ⟨p5, rfl, rfl, by rw [hlz]; exact hv5⟩, rfl, rfl, by decide⟩
    · rw [if_neg h0] at hend
      have hlt2 : A < t.size := by
        rcases hat with ⟨h1, _⟩ | ⟨h1, _⟩
        · exact absurd h1 h0
        · exact h1
      have hnum := hnum h0
      refine gs_t tyT_ok ?hb ?_
      case hb =>
        have : t.extract A t.size ≠ ⟨#[]⟩ := fun e => by
          have h := congrArg ByteArray.size e
          rw [size_ex hAi (Nat.le_refl _)] at h
          have h0' : (⟨#[]⟩ : ByteArray).size = 0 := rfl
          omega
        simp [this]
      repeat (first | refine gs_n tyT_ok 0 ?_ | refine gs_gn tyT_ok 0 rfl ?_ | refine gs_no rfl ?_ | refine gs_end ?_ | refine gs_end' ?_ | refine gw_seq ?_ | refine gw_text rfl ?_ | refine gw_skip ?_ | refine gw_yes rfl ?_ | refine gw_no rfl ?_ | refine gw_exit ?_ | refine gw_block ?_ | refine gw_label ?_ | (refine gs_n tyT_ok 0 ?_ (hp := ?hp); case hp => exact ⟨by decide, by decide⟩))
      refine gs_rd [0] ent166 rfl (by decide) (l6Num_w hv (by omega) (by rw [size_ex hAi (Nat.le_refl _)]; omega)) ?_
      rw [hnum]
      repeat (first | refine gs_n tyT_ok 0 ?_ | refine gs_gn tyT_ok 0 rfl ?_ | refine gs_no rfl ?_ | refine gs_end ?_ | refine gs_end' ?_ | refine gw_seq ?_ | refine gw_text rfl ?_ | refine gw_skip ?_ | refine gw_yes rfl ?_ | refine gw_no rfl ?_ | refine gw_exit ?_ | refine gw_block ?_ | refine gw_label ?_ | (refine gs_n tyT_ok 0 ?_ (hp := ?hp); case hp => exact ⟨by decide, by decide⟩))
      refine gs_pu ent167 hcode ?_
      refine gs_pushb 1 (u := numZ bits D (t.extract A t.size)) (z := widZ bits wide (knoZ bits D.length)) rfl rfl hu (fun _ => rfl) (by omega) fun b5 a5 c5 p5 hv5 => ?_
      repeat (first | refine gs_n tyT_ok 0 ?_ | refine gs_gn tyT_ok 0 rfl ?_ | refine gs_no rfl ?_ | refine gs_end ?_ | refine gs_end' ?_ | refine gw_seq ?_ | refine gw_text rfl ?_ | refine gw_skip ?_ | refine gw_yes rfl ?_ | refine gw_no rfl ?_ | refine gw_exit ?_ | refine gw_block ?_ | refine gw_label ?_ | (refine gs_n tyT_ok 0 ?_ (hp := ?hp); case hp => exact ⟨by decide, by decide⟩))
      refine gs_pusht 0 (s := txt []) rfl rfl hv (fun _ => rfl) (by omega) fun b6 a6 c6 p6 hv6 => ?_
      repeat (first | refine gs_n tyT_ok 0 ?_ | refine gs_gn tyT_ok 0 rfl ?_ | refine gs_no rfl ?_ | refine gs_end ?_ | refine gs_end' ?_ | refine gw_seq ?_ | refine gw_text rfl ?_ | refine gw_skip ?_ | refine gw_yes rfl ?_ | refine gw_no rfl ?_ | refine gw_exit ?_ | refine gw_block ?_ | refine gw_label ?_ | (refine gs_n tyT_ok 0 ?_ (hp := ?hp); case hp => exact ⟨by decide, by decide⟩))
      refine gs_pu ent167 (l6Code_w (u := 2 ^ bits + 1) (n := (allL bits D).length + 1) (wide := wide) hb8 (by omega) (by omega)) ?_
      refine gs_pushb 1 (u := 2 ^ bits + 1) (z := widZ bits wide (knoZ bits ((allL bits D).length + 1 - lzB bits))) rfl rfl hv5 (fun _ => rfl) (by simp; omega) fun b7 a7 c7 p7 hv7 => ?_
      repeat (first | refine gs_n tyT_ok 0 ?_ | refine gs_gn tyT_ok 0 rfl ?_ | refine gs_no rfl ?_ | refine gs_end ?_ | refine gs_end' ?_ | refine gw_seq ?_ | refine gw_text rfl ?_ | refine gw_skip ?_ | refine gw_yes rfl ?_ | refine gw_no rfl ?_ | refine gw_exit ?_ | refine gw_block ?_ | refine gw_label ?_ | (refine gs_n tyT_ok 0 ?_ (hp := ?hp); case hp => exact ⟨by decide, by decide⟩))
      have hlz : lzL t bits wide = (out ++ [(numZ bits D (t.extract A t.size), widZ bits wide (knoZ bits D.length))]) ++ [(2 ^ bits + 1, widZ bits wide (knoZ bits ((allL bits D).length + 1 - lzB bits)))] := by
        rw [lzL, hend]
        dsimp only
        have e : knoZ bits ((allL bits D).length + 1 - lzB bits) = lzB bits + D.length := by
          unfold knoZ
          rw [hal, if_neg (by omega)]
          omega
        rw [e]
      exact gw_ret ⟨_, [], [p7], [1], .tmp .nil, ⟨p7, rfl, rfl, by rw [hlz]; exact hv7⟩, rfl, rfl, by decide⟩
  have hin : ((i : Int) + 1).toNat = i + 1 := by omega
  (refine gs_t tyT_ok ?hb ?_; case hb => first | exact decide_eq_true (by omega) | exact congrArg Bool.not (decide_eq_false (by omega)) | (simp; done) | (simp; omega))
  repeat (first | refine gs_n tyT_ok 0 ?_ | refine gs_gn tyT_ok 0 rfl ?_ | refine gs_no rfl ?_ | refine gs_end ?_ | refine gs_end' ?_ | refine gw_seq ?_ | refine gw_text rfl ?_ | refine gw_skip ?_ | refine gw_yes rfl ?_ | refine gw_no rfl ?_ | refine gw_exit ?_ | refine gw_block ?_ | refine gw_label ?_ | (refine gs_n tyT_ok 0 ?_ (hp := ?hp); case hp => exact ⟨by decide, by decide⟩))
  refine gs_catt (a := t.extract A i) (b := t.extract i (i + 1)) rfl (by show Value.string (t.extract i ((i : Int) + 1).toNat) = _; rw [hin]) (by rw [size_ex hAi (by omega), size_ex (by omega) (by omega)]; omega) ?_
  rw [ext_app t hAi (by omega)]
  repeat (first | refine gs_n tyT_ok 0 ?_ | refine gs_gn tyT_ok 0 rfl ?_ | refine gs_no rfl ?_ | refine gs_end ?_ | refine gs_end' ?_ | refine gw_seq ?_ | refine gw_text rfl ?_ | refine gw_skip ?_ | refine gw_yes rfl ?_ | refine gw_no rfl ?_ | refine gw_exit ?_ | refine gw_block ?_ | refine gw_label ?_ | (refine gs_n tyT_ok 0 ?_ (hp := ?hp); case hp => exact ⟨by decide, by decide⟩))
  have hsz : (t.extract A (i + 1)).size = i + 1 - A := size_ex (by omega) (by omega)
  refine gs_rd [0] ent166 rfl (by decide) (l6Num_w hv (by omega) (by omega)) ?_
  rw [numS_all (by omega)]
  by_cases hh : hasZ D (t.extract A (i + 1))
  · rw [if_pos hh]
    have hst2 : runZ t bits wide (i + 1) = ⟨D, A, out⟩ := by rw [hst, stepZ, if_pos hh]
    refine gs_t tyT_ok ?hb ?_
    case hb => exact decide_eq_true (by omega)
    repeat (first | refine gs_n tyT_ok 0 ?_ | refine gs_gn tyT_ok 0 rfl ?_ | refine gs_no rfl ?_ | refine gs_end ?_ | refine gs_end' ?_ | refine gw_seq ?_ | refine gw_text rfl ?_ | refine gw_skip ?_ | refine gw_yes rfl ?_ | refine gw_no rfl ?_ | refine gw_exit ?_ | refine gw_block ?_ | refine gw_label ?_ | (refine gs_n tyT_ok 0 ?_ (hp := ?hp); case hp => exact ⟨by decide, by decide⟩))
    refine ⟨m - 1, by omega, ⟨i + 1, _, p, _, q⟩, ⟨by show i + 1 + (m - 1) = _; omega, by rw [hst2]; exact hv, by rw [hst2]; exact hu⟩, ⟨[0, 1], by decide, rfl⟩, rfl, rfl, rfl, rfl, rfl, rfl, by rw [hst2]; rfl, rfl, trivial⟩
  rw [if_neg hh]
  have h0 : ¬ i = 0 := by
    intro h0
    rcases hat with ⟨h1, h2, h3⟩ | ⟨h1, _⟩
    · exact hh (.inl (by rw [hsz]; omega))
    · omega
  have hnum := hnum h0
  refine gs_f tyT_ok ?hb ?_
  case hb => exact decide_eq_false (by omega)
  repeat (first | refine gs_n tyT_ok 0 ?_ | refine gs_gn tyT_ok 0 rfl ?_ | refine gs_no rfl ?_ | refine gs_end ?_ | refine gs_end' ?_ | refine gw_seq ?_ | refine gw_text rfl ?_ | refine gw_skip ?_ | refine gw_yes rfl ?_ | refine gw_no rfl ?_ | refine gw_exit ?_ | refine gw_block ?_ | refine gw_label ?_ | (refine gs_n tyT_ok 0 ?_ (hp := ?hp); case hp => exact ⟨by decide, by decide⟩))
  refine gs_rd [0] ent166 rfl (by decide) (l6Num_w hv (by omega) (by rw [size_ex hAi (by omega)]; omega)) ?_
  rw [hnum]
  repeat (first | refine gs_n tyT_ok 0 ?_ | refine gs_gn tyT_ok 0 rfl ?_ | refine gs_no rfl ?_ | refine gs_end ?_ | refine gs_end' ?_ | refine gw_seq ?_ | refine gw_text rfl ?_ | refine gw_skip ?_ | refine gw_yes rfl ?_ | refine gw_no rfl ?_ | refine gw_exit ?_ | refine gw_block ?_ | refine gw_label ?_ | (refine gs_n tyT_ok 0 ?_ (hp := ?hp); case hp => exact ⟨by decide, by decide⟩))
  refine gs_pu ent167 hcode ?_
  refine gs_pushb 1 (u := numZ bits D (t.extract A i)) (z := widZ bits wide (knoZ bits D.length)) rfl rfl hu (fun _ => rfl) (by omega) fun b5 a5 c5 p5 hv5 => ?_
  repeat (first | refine gs_n tyT_ok 0 ?_ | refine gs_gn tyT_ok 0 rfl ?_ | refine gs_no rfl ?_ | refine gs_end ?_ | refine gs_end' ?_ | refine gw_seq ?_ | refine gw_text rfl ?_ | refine gw_skip ?_ | refine gw_yes rfl ?_ | refine gw_no rfl ?_ | refine gw_exit ?_ | refine gw_block ?_ | refine gw_label ?_ | (refine gs_n tyT_ok 0 ?_ (hp := ?hp); case hp => exact ⟨by decide, by decide⟩))
  refine gs_pusht 0 (s := t.extract A (i + 1)) rfl rfl hv (fun _ => rfl) (by omega) fun b6 a6 c6 p6 hv6 => ?_
  rw [allL_snoc] at hv6
  repeat (first | refine gs_n tyT_ok 0 ?_ | refine gs_gn tyT_ok 0 rfl ?_ | refine gs_no rfl ?_ | refine gs_end ?_ | refine gs_end' ?_ | refine gw_seq ?_ | refine gw_text rfl ?_ | refine gw_skip ?_ | refine gw_yes rfl ?_ | refine gw_no rfl ?_ | refine gw_exit ?_ | refine gw_block ?_ | refine gw_label ?_ | (refine gs_n tyT_ok 0 ?_ (hp := ?hp); case hp => exact ⟨by decide, by decide⟩))
  refine gs_pu ent168 l6Full_w ?_
  by_cases hfu : fullZ wide ≤ lzB bits + (D.length + 1)
  · have hst2 : runZ t bits wide (i + 1) = ⟨[], i, out ++ [(numZ bits D (t.extract A i), widZ bits wide (knoZ bits D.length))] ++ [(2 ^ bits, widZ bits wide (knoZ bits (D.length + 1)))]⟩ := by rw [hst, stepZ, if_neg hh, if_pos hfu]
    refine gs_t tyT_ok ?hb ?_
    case hb => exact decide_eq_true (by omega)
    repeat (first | refine gs_n tyT_ok 0 ?_ | refine gs_gn tyT_ok 0 rfl ?_ | refine gs_no rfl ?_ | refine gs_end ?_ | refine gs_end' ?_ | refine gw_seq ?_ | refine gw_text rfl ?_ | refine gw_skip ?_ | refine gw_yes rfl ?_ | refine gw_no rfl ?_ | refine gw_exit ?_ | refine gw_block ?_ | refine gw_label ?_ | (refine gs_n tyT_ok 0 ?_ (hp := ?hp); case hp => exact ⟨by decide, by decide⟩))
    have hk2 : (allL bits D).length + 1 - lzB bits = D.length + 1 := by omega
    have hc2 := l6Code_w (a := a6) (c := c6) (u := 2 ^ bits) (n := (allL bits D).length + 1) (wide := wide) hb8 (by omega) (by omega)
    rw [hk2] at hc2
    refine gs_pu ent167 hc2 ?_
    refine gs_pushb 1 (u := 2 ^ bits) (z := widZ bits wide (knoZ bits (D.length + 1))) rfl rfl hv5 (fun _ => rfl) (by simp; omega) fun b7 a7 c7 p7 hv7 => ?_
    repeat (first | refine gs_n tyT_ok 0 ?_ | refine gs_gn tyT_ok 0 rfl ?_ | refine gs_no rfl ?_ | refine gs_end ?_ | refine gs_end' ?_ | refine gw_seq ?_ | refine gw_text rfl ?_ | refine gw_skip ?_ | refine gw_yes rfl ?_ | refine gw_no rfl ?_ | refine gw_exit ?_ | refine gw_block ?_ | refine gw_label ?_ | (refine gs_n tyT_ok 0 ?_ (hp := ?hp); case hp => exact ⟨by decide, by decide⟩))
    refine gs_call [] ent165 rfl (by decide) (l6Start_w hb8) fun v F' ns ho _ _ => ?_
    obtain ⟨p8, rfl, rfl, hv8⟩ := ho
    obtain ⟨a8, c8, rfl⟩ := hv8.sl
    repeat (first | refine gs_n tyT_ok 0 ?_ | refine gs_gn tyT_ok 0 rfl ?_ | refine gs_no rfl ?_ | refine gs_end ?_ | refine gs_end' ?_ | refine gw_seq ?_ | refine gw_text rfl ?_ | refine gw_skip ?_ | refine gw_yes rfl ?_ | refine gw_no rfl ?_ | refine gw_exit ?_ | refine gw_block ?_ | refine gw_label ?_ | (refine gs_n tyT_ok 0 ?_ (hp := ?hp); case hp => exact ⟨by decide, by decide⟩))
    rw [hin]
    refine ⟨m - 1, by omega, ⟨i + 1, _, p8, _, p7⟩, ⟨by show i + 1 + (m - 1) = _; omega, by rw [hst2]; exact hv8, by rw [hst2]; exact hv7⟩, ⟨[5, 1], by decide, rfl⟩, rfl, rfl, rfl, rfl, rfl, rfl, by rw [hst2]; rfl, rfl, trivial⟩
  · have hst2 : runZ t bits wide (i + 1) = ⟨D ++ [t.extract A (i + 1)], i, out ++ [(numZ bits D (t.extract A i), widZ bits wide (knoZ bits D.length))]⟩ := by rw [hst, stepZ, if_neg hh, if_neg hfu]
    refine gs_f tyT_ok ?hb ?_
    case hb => exact decide_eq_false (by omega)
    repeat (first | refine gs_n tyT_ok 0 ?_ | refine gs_gn tyT_ok 0 rfl ?_ | refine gs_no rfl ?_ | refine gs_end ?_ | refine gs_end' ?_ | refine gw_seq ?_ | refine gw_text rfl ?_ | refine gw_skip ?_ | refine gw_yes rfl ?_ | refine gw_no rfl ?_ | refine gw_exit ?_ | refine gw_block ?_ | refine gw_label ?_ | (refine gs_n tyT_ok 0 ?_ (hp := ?hp); case hp => exact ⟨by decide, by decide⟩))
    rw [hin]
    refine ⟨m - 1, by omega, ⟨i + 1, _, p6, _, p5⟩, ⟨by show i + 1 + (m - 1) = _; omega, by rw [hst2]; exact hv6, by rw [hst2]; exact hv5⟩, ⟨[0, 1], by decide, rfl⟩, rfl, rfl, rfl, rfl, rfl, rfl, by rw [hst2]; rfl, rfl, trivial⟩
end Go.Proofs.Ytjefdcbljpkmlaa.G
end
