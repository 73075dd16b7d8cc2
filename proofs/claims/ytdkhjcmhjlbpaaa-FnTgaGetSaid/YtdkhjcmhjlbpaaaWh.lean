/- impl: RunGet. -/
import Derived.Test.YtdkhjcmhjlbpaaaMd
import Derived.Test.YtdkhjcmhjlbpaaaWa
set_option linter.unusedVariables false
set_option maxRecDepth 10000
namespace Go.Proofs.Ytdkhjcmhjlbpaaa.G
open Go
def RunOut (R : Option (List Int × Nat)) : OutT := fun v F' ns => F' = [] ∧ ((v = .tuple #[.slice none 0 0, .int .i64 0, .bool false] ∧ ns = [] ∧ R = none) ∨
  ∃ w p l a, v = .tuple #[w, .int .i64 ((a : Nat) : Int), .bool true] ∧ ns = [p] ∧ OI w p l ∧ R = some (l, a))
/-- What a round does: told numbers, each times times. -/
theorem runL_step {s : ByteArray} {z count m : Nat} {out : List Int} {a told times : Nat} (h1 : out.length < count) (h2 : a < s.size) (ht : (128 ≤ byt s a ∧ told = 1 ∧ times = (byt s a).toNat - 127) ∨ (byt s a < 128 ∧ told = (byt s a).toNat + 1 ∧ times = 1)) :
    runL s z count (m + 1) out a = if s.size < a + 1 + told * z ∨ count < out.length + told * times then none else runL s z count m (out ++ many s z (a + 1) times told) (a + 1 + told * z) := by
  rw [runL, if_neg (by omega), if_neg (by omega)]
  rcases ht with ⟨h3, rfl, rfl⟩ | ⟨h3, rfl, rfl⟩
  · rw [if_pos h3, many_one]
    simp only [Nat.one_mul]
  · rw [if_neg (by omega), many_each]
    simp only [Nat.mul_one]
set_option maxHeartbeats 1000000 in
theorem runGet_w {s : ByteArray} {a0 z count : Nat} (hs : s.size ≤ 9000) (h1 : 1 ≤ z) (h2 : z ≤ 4) (h3 : count ≤ 1000) (h4 : a0 ≤ s.size) : Trip Try.prog 84 [.string s, .int .i64 a0, .int .i64 z, .int .i64 count] [] (RunOut (runL s z count count [] a0)) := by
  refine trip_of Try.func84 rfl (by simp [Try.ntmps84]) ?_
  repeat (first | refine gs_n tyT_ok 0 ?_ | refine gs_gn tyT_ok 0 rfl ?_ | refine gs_no rfl ?_ | refine gs_end ?_ | refine gs_end' ?_ | refine gw_seq ?_ | refine gw_text rfl ?_ | refine gw_skip ?_ | refine gw_yes rfl ?_ | refine gw_no rfl ?_ | refine gw_exit ?_ | refine gw_block ?_ | refine gw_label ?_ | (refine gs_n tyT_ok 0 ?_ (hp := ?hp); case hp => exact ⟨by decide, by decide⟩))
  refine gs_pu ent59 (in_t ⟨by omega, by omega⟩) ?_
  repeat (first | refine gs_n tyT_ok 0 ?_ | refine gs_gn tyT_ok 0 rfl ?_ | refine gs_no rfl ?_ | refine gs_end ?_ | refine gs_end' ?_ | refine gw_seq ?_ | refine gw_text rfl ?_ | refine gw_skip ?_ | refine gw_yes rfl ?_ | refine gw_no rfl ?_ | refine gw_exit ?_ | refine gw_block ?_ | refine gw_label ?_ | (refine gs_n tyT_ok 0 ?_ (hp := ?hp); case hp => exact ⟨by decide, by decide⟩))
  refine gs_pug ent59 rfl (in_t ⟨by omega, by omega⟩) ?_
  repeat (first | refine gs_n tyT_ok 0 ?_ | refine gs_gn tyT_ok 0 rfl ?_ | refine gs_no rfl ?_ | refine gs_end ?_ | refine gs_end' ?_ | refine gw_seq ?_ | refine gw_text rfl ?_ | refine gw_skip ?_ | refine gw_yes rfl ?_ | refine gw_no rfl ?_ | refine gw_exit ?_ | refine gw_block ?_ | refine gw_label ?_ | (refine gs_n tyT_ok 0 ?_ (hp := ?hp); case hp => exact ⟨by decide, by decide⟩))
  refine gs_pug ent59 rfl (in_t ⟨by omega, by omega⟩) ?_
  repeat (first | refine gs_n tyT_ok 0 ?_ | refine gs_gn tyT_ok 0 rfl ?_ | refine gs_no rfl ?_ | refine gs_end ?_ | refine gs_end' ?_ | refine gw_seq ?_ | refine gw_text rfl ?_ | refine gw_skip ?_ | refine gw_yes rfl ?_ | refine gw_no rfl ?_ | refine gw_exit ?_ | refine gw_block ?_ | refine gw_label ?_ | (refine gs_n tyT_ok 0 ?_ (hp := ?hp); case hp => exact ⟨by decide, by decide⟩) | (refine gs_tg tyT_ok rfl ?hb ?_; case hb => first | exact decide_eq_true (by omega) | exact congrArg Bool.not (decide_eq_false (by omega)) | (simp; done) | (simp; omega)) | (refine gs_fg tyT_ok rfl ?hb ?_; case hb => first | exact decide_eq_false (by omega) | exact congrArg Bool.not (decide_eq_true (by omega)) | (simp; done) | (simp; omega)) | (refine gs_t tyT_ok ?hb ?_; case hb => first | exact decide_eq_true (by omega) | exact congrArg Bool.not (decide_eq_false (by omega)) | (simp; done) | (simp; omega)) | (refine gs_f tyT_ok ?hb ?_; case hb => first | exact decide_eq_false (by omega) | exact congrArg Bool.not (decide_eq_true (by omega)) | (simp; done) | (simp; omega)))
  refine gw_nil ?_
  refine gw_loopL (fun _ (x : List Int × Nat × Value × (Nat × GO)) => [(0, .string s), (1, .int .i64 x.2.1), (2, .int .i64 z), (3, .int .i64 count), (11, x.2.2.1)]) (fun _ x => [x.2.2.2]) (fun m x => count ≤ x.1.length + m ∧ x.1.length ≤ count ∧ x.2.1 ≤ s.size ∧ OI x.2.2.1 x.2.2.2 x.1 ∧ runL s z count count [] a0 = runL s z count m x.1 x.2.1) count ([], a0, .slice none 0 0, (0, .none)) ⟨by simp, by simp, h4, OI.nil, rfl⟩ rfl ⟨rfl, rfl, rfl, rfl, rfl, trivial⟩ fun m ⟨out, a, v, p⟩ e ⟨hm, hlen, ha, hv, hR⟩ => ?_
  dsimp only at hm hlen ha hv hR
  obtain ⟨va, vc, rfl, hl⟩ := hv.ls
  repeat (first | refine gs_n tyT_ok 0 ?_ | refine gs_gn tyT_ok 0 rfl ?_ | refine gs_no rfl ?_ | refine gs_end ?_ | refine gs_end' ?_ | refine gw_seq ?_ | refine gw_text rfl ?_ | refine gw_skip ?_ | refine gw_yes rfl ?_ | refine gw_no rfl ?_ | refine gw_exit ?_ | refine gw_block ?_ | refine gw_label ?_ | (refine gs_n tyT_ok 0 ?_ (hp := ?hp); case hp => exact ⟨by decide, by decide⟩))
  by_cases g1 : out.length < count
  case neg =>
    (refine gs_f tyT_ok ?hb ?_; case hb => first | exact decide_eq_false (by omega) | exact congrArg Bool.not (decide_eq_true (by omega)) | (simp; done) | (simp; omega))
    repeat (first | refine gs_n tyT_ok 0 ?_ | refine gs_gn tyT_ok 0 rfl ?_ | refine gs_no rfl ?_ | refine gs_end ?_ | refine gs_end' ?_ | refine gw_seq ?_ | refine gw_text rfl ?_ | refine gw_skip ?_ | refine gw_yes rfl ?_ | refine gw_no rfl ?_ | refine gw_exit ?_ | refine gw_block ?_ | refine gw_label ?_ | (refine gs_n tyT_ok 0 ?_ (hp := ?hp); case hp => exact ⟨by decide, by decide⟩))
    refine gw_ret ⟨_, [], [p], [0], .tmp (.tmp (.tmp .nil)), ⟨rfl, .inr ⟨_, p, out, a, rfl, rfl, hv, ?_⟩⟩, rfl, rfl, by decide⟩
    rw [hR]
    cases m with
    | zero => rfl
    | succ m => rw [runL, if_pos (by omega)]
  obtain ⟨m, rfl⟩ : ∃ k, m = k + 1 := ⟨m - 1, by omega⟩
  (refine gs_t tyT_ok ?hb ?_; case hb => first | exact decide_eq_true (by omega) | exact congrArg Bool.not (decide_eq_false (by omega)) | (simp; done) | (simp; omega))
  repeat (first | refine gs_n tyT_ok 0 ?_ | refine gs_gn tyT_ok 0 rfl ?_ | refine gs_no rfl ?_ | refine gs_end ?_ | refine gs_end' ?_ | refine gw_seq ?_ | refine gw_text rfl ?_ | refine gw_skip ?_ | refine gw_yes rfl ?_ | refine gw_no rfl ?_ | refine gw_exit ?_ | refine gw_block ?_ | refine gw_label ?_ | (refine gs_n tyT_ok 0 ?_ (hp := ?hp); case hp => exact ⟨by decide, by decide⟩))
  by_cases g2 : a = s.size
  case pos =>
    (refine gs_t tyT_ok ?hb ?_; case hb => first | exact decide_eq_true (by omega) | exact congrArg Bool.not (decide_eq_false (by omega)) | (simp; done) | (simp; omega))
    repeat (first | refine gs_n tyT_ok 0 ?_ | refine gs_gn tyT_ok 0 rfl ?_ | refine gs_no rfl ?_ | refine gs_end ?_ | refine gs_end' ?_ | refine gw_seq ?_ | refine gw_text rfl ?_ | refine gw_skip ?_ | refine gw_yes rfl ?_ | refine gw_no rfl ?_ | refine gw_exit ?_ | refine gw_block ?_ | refine gw_label ?_ | (refine gs_n tyT_ok 0 ?_ (hp := ?hp); case hp => exact ⟨by decide, by decide⟩))
    refine gw_ret ⟨_, [], [], [], .tmp (.tmp (.tmp .nil)), ⟨rfl, .inl ⟨rfl, rfl, ?_⟩⟩, rfl, rfl, by decide⟩
    rw [hR, runL, if_neg (by omega), if_pos (by omega)]
  (refine gs_f tyT_ok ?hb ?_; case hb => first | exact decide_eq_false (by omega) | exact congrArg Bool.not (decide_eq_true (by omega)) | (simp; done) | (simp; omega))
  repeat (first | refine gs_n tyT_ok 0 ?_ | refine gs_gn tyT_ok 0 rfl ?_ | refine gs_no rfl ?_ | refine gs_end ?_ | refine gs_end' ?_ | refine gw_seq ?_ | refine gw_text rfl ?_ | refine gw_skip ?_ | refine gw_yes rfl ?_ | refine gw_no rfl ?_ | refine gw_exit ?_ | refine gw_block ?_ | refine gw_label ?_ | (refine gs_n tyT_ok 0 ?_ (hp := ?hp); case hp => exact ⟨by decide, by decide⟩))
  obtain ⟨B, hB⟩ : ∃ B : Nat, (s.data.toList.getD ((a : Nat) : Int).toNat 0).toNat = B := ⟨_, rfl⟩
  have hB2 : byt s a = (B : Int) := by rw [← hB]; rfl
  have hB3 : B ≤ 255 := by have := byt_le s a; omega
  have ha2 : a < s.size := by omega
  rw [hB]
  repeat (first | refine gs_n tyT_ok 0 ?_ | refine gs_gn tyT_ok 0 rfl ?_ | refine gs_no rfl ?_ | refine gs_end ?_ | refine gs_end' ?_ | refine gw_seq ?_ | refine gw_text rfl ?_ | refine gw_skip ?_ | refine gw_label ?_)
  refine gs_n tyT_ok 1 ?_
  repeat (first | refine gs_n tyT_ok 0 ?_ | refine gs_gn tyT_ok 0 rfl ?_ | refine gs_no rfl ?_ | refine gs_end ?_ | refine gs_end' ?_ | refine gw_seq ?_ | refine gw_text rfl ?_ | refine gw_skip ?_ | refine gw_label ?_)
  refine gw_join (α := Nat × Nat) (fun x => [(0, .string s), (1, .int .i64 ((a + 1 : Nat) : Int)), (2, .int .i64 z), (3, .int .i64 count), (11, .slice va out.length vc), (13, .int .i64 x.1), (14, .int .i64 x.2)]) (fun _ => [p]) (fun x => (128 ≤ B ∧ x.1 = 1 ∧ x.2 = B - 127) ∨ (B < 128 ∧ x.1 = B + 1 ∧ x.2 = 1)) ?_ fun ⟨told, times⟩ e ht => ?_
  · refine gw_cond (t := decide ((128 : Int) ≤ B)) rfl (fun h => ?_) (fun h => ?_)
    · have h := of_decide_eq_true h
      repeat (first | refine gs_n tyT_ok 0 ?_ | refine gs_gn tyT_ok 0 rfl ?_ | refine gs_no rfl ?_ | refine gs_end ?_ | refine gs_end' ?_ | refine gw_seq ?_ | refine gw_text rfl ?_ | refine gw_skip ?_ | refine gw_label ?_)
      refine ⟨(1, B - 127), .inl ⟨by omega, rfl, rfl⟩, rfl, rfl, rfl, rfl, rfl, rfl, rfl, ?_, trivial⟩
      refine congrArg (Value.int .i64) ?_
      show (B : Int) - 127 = ((B - 127 : Nat) : Int)
      omega
    · have h := of_decide_eq_false h
      repeat (first | refine gs_n tyT_ok 0 ?_ | refine gs_gn tyT_ok 0 rfl ?_ | refine gs_no rfl ?_ | refine gs_end ?_ | refine gs_end' ?_ | refine gw_seq ?_ | refine gw_text rfl ?_ | refine gw_skip ?_ | refine gw_label ?_)
      exact ⟨(B + 1, 1), .inr ⟨by omega, rfl, rfl⟩, rfl, rfl, rfl, rfl, rfl, rfl, rfl, rfl, trivial⟩
  dsimp only at ht ⊢
  have hstep := runL_step (s := s) (z := z) (count := count) (m := m) (out := out) (a := a) (told := told) (times := times) g1 ha2 (by rw [hB2]; simp only [Int.toNat_natCast]; omega)
  have hmul : told * times ≤ 256 ∧ 0 < told ∧ 0 < times := by
    rcases ht with ⟨h, rfl, rfl⟩ | ⟨h, rfl, rfl⟩
    · simp; omega
    · simp; omega
  have hpos := Nat.mul_pos hmul.2.1 hmul.2.2
  have hcast : (told : Int) * (times : Int) = ((told * times : Nat) : Int) := by simp
  repeat (first | refine gs_n tyT_ok 0 ?_ | refine gs_gn tyT_ok 0 rfl ?_ | refine gs_no rfl ?_ | refine gs_end ?_ | refine gs_end' ?_ | refine gw_seq ?_ | refine gw_text rfl ?_ | refine gw_skip ?_ | refine gw_label ?_)
  by_cases g3 : count < out.length + told * times
  case pos =>
    refine gs_t tyT_ok ?hb ?_
    case hb =>
      refine decide_eq_true ?_
      show (count : Int) - (out.length : Int) < (told : Int) * (times : Int)
      rw [hcast]
      omega
    repeat (first | refine gs_n tyT_ok 0 ?_ | refine gs_gn tyT_ok 0 rfl ?_ | refine gs_no rfl ?_ | refine gs_end ?_ | refine gs_end' ?_ | refine gw_seq ?_ | refine gw_text rfl ?_ | refine gw_skip ?_ | refine gw_yes rfl ?_ | refine gw_no rfl ?_ | refine gw_exit ?_ | refine gw_block ?_ | refine gw_label ?_ | (refine gs_n tyT_ok 0 ?_ (hp := ?hp); case hp => exact ⟨by decide, by decide⟩))
    refine gw_ret ⟨_, [], [], [], .tmp (.tmp (.tmp .nil)), ⟨rfl, .inl ⟨rfl, rfl, ?_⟩⟩, rfl, rfl, by decide⟩
    rw [hR, hstep, if_pos (.inr g3)]
  refine gs_f tyT_ok ?hb ?_
  case hb =>
    refine decide_eq_false ?_
    show ¬ ((count : Int) - (out.length : Int) < (told : Int) * (times : Int))
    rw [hcast]
    omega
  repeat (first | refine gs_n tyT_ok 0 ?_ | refine gs_gn tyT_ok 0 rfl ?_ | refine gs_no rfl ?_ | refine gs_end ?_ | refine gs_end' ?_ | refine gw_seq ?_ | refine gw_text rfl ?_ | refine gw_skip ?_ | refine gw_yes rfl ?_ | refine gw_no rfl ?_ | refine gw_exit ?_ | refine gw_block ?_ | refine gw_label ?_ | (refine gs_n tyT_ok 0 ?_ (hp := ?hp); case hp => exact ⟨by decide, by decide⟩))
  refine gw_loopL (fun _ (x : Nat × Value × (Nat × GO)) => [(0, .string s), (1, .int .i64 ((a + 1 + x.1 * z : Nat) : Int)), (2, .int .i64 z), (3, .int .i64 count), (11, x.2.1), (14, .int .i64 times), (65, .int .i64 told), (66, .int .i64 x.1)]) (fun _ x => [x.2.2]) (fun m x => x.1 + m = told ∧ a + 1 + x.1 * z ≤ s.size ∧ OI x.2.1 x.2.2 (out ++ many s z (a + 1) times x.1)) told (0, .slice va out.length vc, p) ⟨by simp, by omega, by simpa [many] using hv⟩ rfl ⟨rfl, ?_, rfl, rfl, rfl, rfl, rfl, rfl, trivial⟩ fun m2 ⟨j, v2, p2⟩ e2 ⟨hj, hj2, hv2⟩ => ?_
  · simp
    rfl
  dsimp only at hj hj2 hv2 ⊢
  have hl2 : (out ++ many s z (a + 1) times j).length = out.length + j * times := by rw [List.length_append, many_len]
  have hjt : j * times ≤ told * times := Nat.mul_le_mul_right times (by omega)
  obtain ⟨va2, vc2, rfl, _⟩ := hv2.ls
  repeat (first | refine gs_n tyT_ok 0 ?_ | refine gs_gn tyT_ok 0 rfl ?_ | refine gs_no rfl ?_ | refine gs_end ?_ | refine gs_end' ?_ | refine gw_seq ?_ | refine gw_text rfl ?_ | refine gw_skip ?_ | refine gw_yes rfl ?_ | refine gw_no rfl ?_ | refine gw_exit ?_ | refine gw_block ?_ | refine gw_label ?_ | (refine gs_n tyT_ok 0 ?_ (hp := ?hp); case hp => exact ⟨by decide, by decide⟩))
  by_cases g5 : j < told
  case neg =>
    obtain rfl : j = told := by omega
    (refine gs_f tyT_ok ?hb ?_; case hb => first | exact decide_eq_false (by omega) | exact congrArg Bool.not (decide_eq_true (by omega)) | (simp; done) | (simp; omega))
    repeat (first | refine gs_n tyT_ok 0 ?_ | refine gs_gn tyT_ok 0 rfl ?_ | refine gs_no rfl ?_ | refine gs_end ?_ | refine gs_end' ?_ | refine gw_seq ?_ | refine gw_text rfl ?_ | refine gw_skip ?_ | refine gw_yes rfl ?_ | refine gw_no rfl ?_ | refine gw_exit ?_ | refine gw_block ?_ | refine gw_label ?_ | (refine gs_n tyT_ok 0 ?_ (hp := ?hp); case hp => exact ⟨by decide, by decide⟩))
    refine ⟨m, by omega, (_, a + 1 + j * z, _, p2), ⟨by show count ≤ (out ++ many s z (a + 1) times j).length + m; omega, by show (out ++ many s z (a + 1) times j).length ≤ count; omega, hj2, hv2, ?_⟩, rfl, rfl, rfl, rfl, rfl, rfl, trivial⟩
    rw [hR, hstep, if_neg (by omega)]
  (refine gs_t tyT_ok ?hb ?_; case hb => first | exact decide_eq_true (by omega) | exact congrArg Bool.not (decide_eq_false (by omega)) | (simp; done) | (simp; omega))
  repeat (first | refine gs_n tyT_ok 0 ?_ | refine gs_gn tyT_ok 0 rfl ?_ | refine gs_no rfl ?_ | refine gs_end ?_ | refine gs_end' ?_ | refine gw_seq ?_ | refine gw_text rfl ?_ | refine gw_skip ?_ | refine gw_yes rfl ?_ | refine gw_no rfl ?_ | refine gw_exit ?_ | refine gw_block ?_ | refine gw_label ?_ | (refine gs_n tyT_ok 0 ?_ (hp := ?hp); case hp => exact ⟨by decide, by decide⟩))
  have hjz : j * z + z ≤ told * z := by
    have := Nat.mul_le_mul_right z (show j + 1 ≤ told by omega)
    rw [Nat.succ_mul] at this
    exact this
  refine gs_pu ent23 (numGet_w s ((a + 1 + j * z : Nat) : Int) z false) ?_
  by_cases g6 : a + 1 + j * z + z ≤ s.size
  case neg =>
    rw [show numGet s ((a + 1 + j * z : Nat) : Int) z false = (0, false) from if_neg (by omega)]
    repeat (first | refine gs_n tyT_ok 0 ?_ | refine gs_gn tyT_ok 0 rfl ?_ | refine gs_no rfl ?_ | refine gs_end ?_ | refine gs_end' ?_ | refine gw_seq ?_ | refine gw_text rfl ?_ | refine gw_skip ?_ | refine gw_yes rfl ?_ | refine gw_no rfl ?_ | refine gw_exit ?_ | refine gw_block ?_ | refine gw_label ?_ | (refine gs_n tyT_ok 0 ?_ (hp := ?hp); case hp => exact ⟨by decide, by decide⟩))
    refine gw_ret ⟨_, [], [], [], .tmp (.tmp (.tmp .nil)), ⟨rfl, .inl ⟨rfl, rfl, ?_⟩⟩, rfl, rfl, by decide⟩
    rw [hR, hstep, if_pos (.inl (by omega))]
  rw [show numGet s ((a + 1 + j * z : Nat) : Int) z false = _ from numGet_at h1 h2 hs g6]
  repeat (first | refine gs_n tyT_ok 0 ?_ | refine gs_gn tyT_ok 0 rfl ?_ | refine gs_no rfl ?_ | refine gs_end ?_ | refine gs_end' ?_ | refine gw_seq ?_ | refine gw_text rfl ?_ | refine gw_skip ?_ | refine gw_yes rfl ?_ | refine gw_no rfl ?_ | refine gw_exit ?_ | refine gw_block ?_ | refine gw_label ?_ | (refine gs_n tyT_ok 0 ?_ (hp := ?hp); case hp => exact ⟨by decide, by decide⟩))
  refine gw_loopL (fun _ (x : Nat × Value × (Nat × GO)) => [(0, .string s), (1, .int .i64 ((a + 1 + j * z + z : Nat) : Int)), (2, .int .i64 z), (3, .int .i64 count), (11, x.2.1), (14, .int .i64 times), (15, .int .i64 (fld s (a + 1 + j * z) z false z)), (65, .int .i64 told), (66, .int .i64 j), (80, .int .i64 times), (81, .int .i64 x.1)]) (fun _ x => [x.2.2]) (fun m x => x.1 + m = times ∧ OI x.2.1 x.2.2 (out ++ many s z (a + 1) times j ++ List.replicate x.1 (fld s (a + 1 + j * z) z false z))) times (0, .slice va2 (out ++ many s z (a + 1) times j).length vc2, p2) ⟨by simp, by simpa using hv2⟩ rfl ⟨rfl, rfl, rfl, rfl, rfl, rfl, rfl, rfl, rfl, rfl, rfl, trivial⟩ fun m3 ⟨i, v3, p3⟩ e3 ⟨hi, hv3⟩ => ?_
  dsimp only at hi hv3 ⊢
  have hv3' := hv3
  obtain ⟨va3, vc3, rfl, _⟩ := hv3'.ls
  repeat (first | refine gs_n tyT_ok 0 ?_ | refine gs_gn tyT_ok 0 rfl ?_ | refine gs_no rfl ?_ | refine gs_end ?_ | refine gs_end' ?_ | refine gw_seq ?_ | refine gw_text rfl ?_ | refine gw_skip ?_ | refine gw_yes rfl ?_ | refine gw_no rfl ?_ | refine gw_exit ?_ | refine gw_block ?_ | refine gw_label ?_ | (refine gs_n tyT_ok 0 ?_ (hp := ?hp); case hp => exact ⟨by decide, by decide⟩))
  by_cases g7 : i < times
  case neg =>
    obtain rfl : i = times := by omega
    (refine gs_f tyT_ok ?hb ?_; case hb => first | exact decide_eq_false (by omega) | exact congrArg Bool.not (decide_eq_true (by omega)) | (simp; done) | (simp; omega))
    repeat (first | refine gs_n tyT_ok 0 ?_ | refine gs_gn tyT_ok 0 rfl ?_ | refine gs_no rfl ?_ | refine gs_end ?_ | refine gs_end' ?_ | refine gw_seq ?_ | refine gw_text rfl ?_ | refine gw_skip ?_ | refine gw_yes rfl ?_ | refine gw_no rfl ?_ | refine gw_exit ?_ | refine gw_block ?_ | refine gw_label ?_ | (refine gs_n tyT_ok 0 ?_ (hp := ?hp); case hp => exact ⟨by decide, by decide⟩))
    refine ⟨m2 - 1, by omega, (j + 1, _, p3), ⟨by show j + 1 + (m2 - 1) = _; omega, by show a + 1 + (j + 1) * z ≤ _; rw [Nat.succ_mul]; omega, by rw [many_succ, ← List.append_assoc]; exact hv3⟩, rfl, rfl, ?_, rfl, rfl, rfl, rfl, rfl, rfl, trivial⟩
    refine congrArg (Value.int .i64) ?_
    show ((a + 1 + j * z + z : Nat) : Int) = ((a + 1 + (j + 1) * z : Nat) : Int)
    rw [Nat.succ_mul]
    omega
  (refine gs_t tyT_ok ?hb ?_; case hb => first | exact decide_eq_true (by omega) | exact congrArg Bool.not (decide_eq_false (by omega)) | (simp; done) | (simp; omega))
  repeat (first | refine gs_n tyT_ok 0 ?_ | refine gs_gn tyT_ok 0 rfl ?_ | refine gs_no rfl ?_ | refine gs_end ?_ | refine gs_end' ?_ | refine gw_seq ?_ | refine gw_text rfl ?_ | refine gw_skip ?_ | refine gw_yes rfl ?_ | refine gw_no rfl ?_ | refine gw_exit ?_ | refine gw_block ?_ | refine gw_label ?_ | (refine gs_n tyT_ok 0 ?_ (hp := ?hp); case hp => exact ⟨by decide, by decide⟩))
  have hl3 : (out ++ many s z (a + 1) times j ++ List.replicate i (fld s (a + 1 + j * z) z false z)).length = out.length + j * times + i := by rw [List.length_append, hl2, List.length_replicate]
  have hjt2 : j * times + times ≤ told * times := by
    have := Nat.mul_le_mul_right times (show j + 1 ≤ told by omega)
    rw [Nat.succ_mul] at this
    exact this
  refine gs_push 0 (n := fld s (a + 1 + j * z) z false z) rfl rfl hv3 (fun _ => rfl) (by omega) fun b va4 vc4 p4 hv4 => ?_
  refine gs_n tyT_ok 0 ?_
  refine gs_end ?_
  refine gw_weak [0] (by decide) rfl ?_
  repeat (first | refine gs_n tyT_ok 0 ?_ | refine gs_gn tyT_ok 0 rfl ?_ | refine gs_no rfl ?_ | refine gs_end ?_ | refine gs_end' ?_ | refine gw_seq ?_ | refine gw_text rfl ?_ | refine gw_skip ?_ | refine gw_yes rfl ?_ | refine gw_no rfl ?_ | refine gw_exit ?_ | refine gw_block ?_ | refine gw_label ?_ | (refine gs_n tyT_ok 0 ?_ (hp := ?hp); case hp => exact ⟨by decide, by decide⟩))
  refine ⟨m3 - 1, by omega, (i + 1, _, p4), ⟨by show i + 1 + (m3 - 1) = _; omega, ?_⟩, rfl, rfl, rfl, rfl, rfl, rfl, rfl, rfl, rfl, rfl, rfl, rfl, trivial⟩
  show OI _ p4 (out ++ many s z (a + 1) times j ++ List.replicate (i + 1) _)
  rw [List.replicate_succ', ← List.append_assoc]
  exact hv4
end Go.Proofs.Ytdkhjcmhjlbpaaa.G
