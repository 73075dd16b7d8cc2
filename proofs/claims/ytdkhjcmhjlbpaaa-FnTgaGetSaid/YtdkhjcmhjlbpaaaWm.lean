/- spec: RunGet. -/
import Derived.Test.YtdkhjcmhjlbpaaaWk
set_option linter.unusedVariables false
set_option maxRecDepth 10000
namespace Go.Proofs.Ytdkhjcmhjlbpaaa.G
open Go
def RunOut2 (R : Option (List Int × Nat)) : OutT := fun v F' ns => F' = [] ∧ ∃ w p l a ok, v = .tuple #[w, .int .i64 ((a : Nat) : Int), .bool ok] ∧ ns = [p] ∧ OI w p l ∧ (ok = true → R = some (l, a)) ∧ (ok = false → R = none)
/-- One of a round's numbers. -/
def sNum (s : ByteArray) (z a : Nat) (same : Bool) (i : Nat) : Int := fld s (a + (if same then 0 else i * z)) z false z
theorem runL_step2 {s : ByteArray} {z count m : Nat} {out : List Int} {a B : Nat} (h1 : out.length < count) (h2 : a < s.size) (hB : byt s a = (B : Int)) (hB3 : B ≤ 255) :
    runL s z count (m + 1) out a = if s.size < a + 1 + (if decide (128 ≤ B) = true then z else (B % 128 + 1) * z) ∨ count < out.length + (B % 128 + 1) then none else runL s z count m (out ++ (List.range (B % 128 + 1)).map (sNum s z (a + 1) (decide (128 ≤ B)))) (a + 1 + (if decide (128 ≤ B) = true then z else (B % 128 + 1) * z)) := by
  rw [runL, if_neg (by omega), if_neg (by omega), hB]
  simp only [Int.toNat_natCast]
  by_cases h : 128 ≤ B
  · have e : B - 127 = B % 128 + 1 := by omega
    have e2 : (List.range (B % 128 + 1)).map (sNum s z (a + 1) true) = List.replicate (B % 128 + 1) (fld s (a + 1) z false z) := by
      rw [List.eq_replicate_iff]
      refine ⟨by simp, fun x hx => ?_⟩
      obtain ⟨i, _, rfl⟩ := List.mem_map.1 hx
      rfl
    rw [if_pos (by omega), decide_eq_true h, if_pos rfl, e, e2]
  · have e : B % 128 + 1 = B + 1 := by omega
    rw [if_neg (show ¬ (128 : Int) ≤ (B : Int) by omega), decide_eq_false h, e]
    simp only [Bool.false_eq_true, if_false]
    rfl
set_option maxHeartbeats 1000000 in
theorem sRunGet_w {s : ByteArray} {a0 z count : Nat} (hs : s.size ≤ 9000) (h1 : 1 ≤ z) (h2 : z ≤ 4) (h3 : count ≤ 1000) (h4 : a0 ≤ s.size) : Trip Try.prog 124 [.string s, .int .i64 a0, .int .i64 z, .int .i64 count] [] (RunOut2 (runL s z count count [] a0)) := by
  refine trip_of Try.func124 rfl (by simp [Try.ntmps124]) ?_
  repeat (first | refine gs_n tyT_ok 0 ?_ | refine gs_gn tyT_ok 0 rfl ?_ | refine gs_no rfl ?_ | refine gs_end ?_ | refine gs_end' ?_ | refine gw_seq ?_ | refine gw_text rfl ?_ | refine gw_skip ?_ | refine gw_yes rfl ?_ | refine gw_no rfl ?_ | refine gw_exit ?_ | refine gw_block ?_ | refine gw_label ?_ | (refine gs_n tyT_ok 0 ?_ (hp := ?hp); case hp => exact ⟨by decide, by decide⟩))
  refine gs_lit tyT_ok (cs := []) rfl rfl rfl (by decide) rfl fun b0 => ?_
  repeat (first | refine gs_n tyT_ok 0 ?_ | refine gs_gn tyT_ok 0 rfl ?_ | refine gs_no rfl ?_ | refine gs_end ?_ | refine gs_end' ?_ | refine gw_seq ?_ | refine gw_text rfl ?_ | refine gw_skip ?_ | refine gw_yes rfl ?_ | refine gw_no rfl ?_ | refine gw_exit ?_ | refine gw_block ?_ | refine gw_label ?_ | (refine gs_n tyT_ok 0 ?_ (hp := ?hp); case hp => exact ⟨by decide, by decide⟩))
  refine gs_pu ent52 (sIn_t ⟨by omega, by omega⟩) ?_
  repeat (first | refine gs_n tyT_ok 0 ?_ | refine gs_gn tyT_ok 0 rfl ?_ | refine gs_no rfl ?_ | refine gs_end ?_ | refine gs_end' ?_ | refine gw_seq ?_ | refine gw_text rfl ?_ | refine gw_skip ?_ | refine gw_yes rfl ?_ | refine gw_no rfl ?_ | refine gw_exit ?_ | refine gw_block ?_ | refine gw_label ?_ | (refine gs_n tyT_ok 0 ?_ (hp := ?hp); case hp => exact ⟨by decide, by decide⟩))
  refine gs_pug ent52 rfl (sIn_t ⟨by omega, by omega⟩) ?_
  repeat (first | refine gs_n tyT_ok 0 ?_ | refine gs_gn tyT_ok 0 rfl ?_ | refine gs_no rfl ?_ | refine gs_end ?_ | refine gs_end' ?_ | refine gw_seq ?_ | refine gw_text rfl ?_ | refine gw_skip ?_ | refine gw_yes rfl ?_ | refine gw_no rfl ?_ | refine gw_exit ?_ | refine gw_block ?_ | refine gw_label ?_ | (refine gs_n tyT_ok 0 ?_ (hp := ?hp); case hp => exact ⟨by decide, by decide⟩) | (refine gs_tg tyT_ok rfl ?hb ?_; case hb => first | exact decide_eq_true (by omega) | exact congrArg Bool.not (decide_eq_false (by omega)) | (simp; done) | (simp; omega)) | (refine gs_fg tyT_ok rfl ?hb ?_; case hb => first | exact decide_eq_false (by omega) | exact congrArg Bool.not (decide_eq_true (by omega)) | (simp; done) | (simp; omega)) | (refine gs_t tyT_ok ?hb ?_; case hb => first | exact decide_eq_true (by omega) | exact congrArg Bool.not (decide_eq_false (by omega)) | (simp; done) | (simp; omega)) | (refine gs_f tyT_ok ?hb ?_; case hb => first | exact decide_eq_false (by omega) | exact congrArg Bool.not (decide_eq_true (by omega)) | (simp; done) | (simp; omega)))
  refine gs_pug ent52 rfl (sIn_t ⟨by omega, by omega⟩) ?_
  repeat (first | refine gs_n tyT_ok 0 ?_ | refine gs_gn tyT_ok 0 rfl ?_ | refine gs_no rfl ?_ | refine gs_end ?_ | refine gs_end' ?_ | refine gw_seq ?_ | refine gw_text rfl ?_ | refine gw_skip ?_ | refine gw_yes rfl ?_ | refine gw_no rfl ?_ | refine gw_exit ?_ | refine gw_block ?_ | refine gw_label ?_ | (refine gs_n tyT_ok 0 ?_ (hp := ?hp); case hp => exact ⟨by decide, by decide⟩) | (refine gs_tg tyT_ok rfl ?hb ?_; case hb => first | exact decide_eq_true (by omega) | exact congrArg Bool.not (decide_eq_false (by omega)) | (simp; done) | (simp; omega)) | (refine gs_fg tyT_ok rfl ?hb ?_; case hb => first | exact decide_eq_false (by omega) | exact congrArg Bool.not (decide_eq_true (by omega)) | (simp; done) | (simp; omega)) | (refine gs_t tyT_ok ?hb ?_; case hb => first | exact decide_eq_true (by omega) | exact congrArg Bool.not (decide_eq_false (by omega)) | (simp; done) | (simp; omega)) | (refine gs_f tyT_ok ?hb ?_; case hb => first | exact decide_eq_false (by omega) | exact congrArg Bool.not (decide_eq_true (by omega)) | (simp; done) | (simp; omega)))
  refine gw_loopL (fun _ (x : List Int × Nat × Value × (Nat × GO)) => [(0, .string s), (1, .int .i64 x.2.1), (2, .int .i64 z), (3, .int .i64 count), (11, x.2.2.1)]) (fun _ x => [x.2.2.2]) (fun m x => count ≤ x.1.length + m ∧ x.1.length ≤ count ∧ x.2.1 ≤ s.size ∧ OI x.2.2.1 x.2.2.2 x.1 ∧ runL s z count count [] a0 = runL s z count m x.1 x.2.1) count ([], a0, .slice (some ⟨b0, 0, none⟩) 0 0, (b0, .row 3 [] 0)) ⟨by simp, by simp, h4, OI.empty, rfl⟩ rfl ⟨rfl, rfl, rfl, rfl, rfl, trivial⟩ fun m ⟨out, a, v, p⟩ e ⟨hm, hlen, ha, hv, hR⟩ => ?_
  dsimp only at hm hlen ha hv hR
  obtain ⟨va, vc, rfl, hl⟩ := hv.ls
  repeat (first | refine gs_n tyT_ok 0 ?_ | refine gs_gn tyT_ok 0 rfl ?_ | refine gs_no rfl ?_ | refine gs_end ?_ | refine gs_end' ?_ | refine gw_seq ?_ | refine gw_text rfl ?_ | refine gw_skip ?_ | refine gw_yes rfl ?_ | refine gw_no rfl ?_ | refine gw_exit ?_ | refine gw_block ?_ | refine gw_label ?_ | (refine gs_n tyT_ok 0 ?_ (hp := ?hp); case hp => exact ⟨by decide, by decide⟩))
  by_cases g1 : out.length < count
  case neg =>
    (refine gs_f tyT_ok ?hb ?_; case hb => first | exact decide_eq_false (by omega) | exact congrArg Bool.not (decide_eq_true (by omega)) | (simp; done) | (simp; omega))
    repeat (first | refine gs_n tyT_ok 0 ?_ | refine gs_gn tyT_ok 0 rfl ?_ | refine gs_no rfl ?_ | refine gs_end ?_ | refine gs_end' ?_ | refine gw_seq ?_ | refine gw_text rfl ?_ | refine gw_skip ?_ | refine gw_yes rfl ?_ | refine gw_no rfl ?_ | refine gw_exit ?_ | refine gw_block ?_ | refine gw_label ?_ | (refine gs_n tyT_ok 0 ?_ (hp := ?hp); case hp => exact ⟨by decide, by decide⟩))
    refine gw_ret ⟨_, [], [p], [0], .tmp (.tmp (.tmp .nil)), ⟨rfl, _, p, out, a, true, rfl, rfl, hv, fun _ => ?_, fun h => (by cases h)⟩, rfl, rfl, by decide⟩
    rw [hR]
    cases m with
    | zero => rfl
    | succ m => rw [runL, if_pos (by omega)]
  obtain ⟨m, rfl⟩ : ∃ k, m = k + 1 := ⟨m - 1, by omega⟩
  (refine gs_t tyT_ok ?hb ?_; case hb => first | exact decide_eq_true (by omega) | exact congrArg Bool.not (decide_eq_false (by omega)) | (simp; done) | (simp; omega))
  repeat (first | refine gs_n tyT_ok 0 ?_ | refine gs_gn tyT_ok 0 rfl ?_ | refine gs_no rfl ?_ | refine gs_end ?_ | refine gs_end' ?_ | refine gw_seq ?_ | refine gw_text rfl ?_ | refine gw_skip ?_ | refine gw_yes rfl ?_ | refine gw_no rfl ?_ | refine gw_exit ?_ | refine gw_block ?_ | refine gw_label ?_ | (refine gs_n tyT_ok 0 ?_ (hp := ?hp); case hp => exact ⟨by decide, by decide⟩))
  by_cases g2 : a = s.size
  case pos =>
    (refine gs_t tyT_ok ?hb ?_; case hb => first | exact decide_eq_true (by omega) | exact congrArg Bool.not (decide_eq_false (by omega)) | (simp; done) | (simp; omega))
    repeat (first | refine gs_n tyT_ok 0 ?_ | refine gs_gn tyT_ok 0 rfl ?_ | refine gs_no rfl ?_ | refine gs_end ?_ | refine gs_end' ?_ | refine gw_seq ?_ | refine gw_text rfl ?_ | refine gw_skip ?_ | refine gw_yes rfl ?_ | refine gw_no rfl ?_ | refine gw_exit ?_ | refine gw_block ?_ | refine gw_label ?_ | (refine gs_n tyT_ok 0 ?_ (hp := ?hp); case hp => exact ⟨by decide, by decide⟩))
    refine gs_lit tyT_ok (cs := []) rfl rfl rfl (by decide) rfl fun b1 => ?_
    repeat (first | refine gs_n tyT_ok 0 ?_ | refine gs_gn tyT_ok 0 rfl ?_ | refine gs_no rfl ?_ | refine gs_end ?_ | refine gs_end' ?_ | refine gw_seq ?_ | refine gw_text rfl ?_ | refine gw_skip ?_ | refine gw_yes rfl ?_ | refine gw_no rfl ?_ | refine gw_exit ?_ | refine gw_block ?_ | refine gw_label ?_ | (refine gs_n tyT_ok 0 ?_ (hp := ?hp); case hp => exact ⟨by decide, by decide⟩))
    refine gw_ret ⟨_, [], [(b1, .row 3 [] 0)], [1], .tmp (.tmp (.tmp .nil)), ⟨rfl, _, _, [], 0, false, rfl, rfl, OI.empty, (fun h => by cases h), fun _ => ?_⟩, rfl, rfl, by decide⟩
    rw [hR, runL, if_neg (by omega), if_pos (by omega)]
  (refine gs_f tyT_ok ?hb ?_; case hb => first | exact decide_eq_false (by omega) | exact congrArg Bool.not (decide_eq_true (by omega)) | (simp; done) | (simp; omega))
  repeat (first | refine gs_n tyT_ok 0 ?_ | refine gs_gn tyT_ok 0 rfl ?_ | refine gs_no rfl ?_ | refine gs_end ?_ | refine gs_end' ?_ | refine gw_seq ?_ | refine gw_text rfl ?_ | refine gw_skip ?_ | refine gw_yes rfl ?_ | refine gw_no rfl ?_ | refine gw_exit ?_ | refine gw_block ?_ | refine gw_label ?_ | (refine gs_n tyT_ok 0 ?_ (hp := ?hp); case hp => exact ⟨by decide, by decide⟩))
  obtain ⟨B, hB⟩ : ∃ B : Nat, (s.data.toList.getD ((a : Nat) : Int).toNat 0).toNat = B := ⟨_, rfl⟩
  have hB2 : byt s a = (B : Int) := by rw [← hB]; rfl
  have hB3 : B ≤ 255 := by have := byt_le s a; omega
  have ha2 : a < s.size := by omega
  rw [hB]
  have hstep := runL_step2 (z := z) (m := m) g1 ha2 hB2 hB3
  obtain ⟨N, hN⟩ : ∃ N, N = B % 128 + 1 := ⟨_, rfl⟩
  have hNz : N * z ≤ 128 * 4 := Nat.mul_le_mul (by omega) h2
  rw [show ((B : Int) % 128 + 1) = ((N : Nat) : Int) by omega]
  rw [← hN] at hstep
  repeat (first | refine gs_n tyT_ok 0 ?_ | refine gs_gn tyT_ok 0 rfl ?_ | refine gs_no rfl ?_ | refine gs_end ?_ | refine gs_end' ?_ | refine gw_seq ?_ | refine gw_text rfl ?_ | refine gw_skip ?_ | refine gw_label ?_)
  refine gs_n tyT_ok 1 ?_
  rw [show decide ((128 : Int) ≤ ((B : Nat) : Int)) = decide (128 ≤ B) from decide_eq_decide.2 (by omega)]
  obtain ⟨sm, hsm⟩ : ∃ sm, sm = decide (128 ≤ B) := ⟨_, rfl⟩
  rw [← hsm] at hstep ⊢
  repeat (first | refine gs_n tyT_ok 0 ?_ | refine gs_gn tyT_ok 0 rfl ?_ | refine gs_no rfl ?_ | refine gs_end ?_ | refine gs_end' ?_ | refine gw_seq ?_ | refine gw_text rfl ?_ | refine gw_skip ?_ | refine gw_label ?_)
  refine gw_join (α := Unit) (fun _ => [(0, .string s), (1, .int .i64 ((a + 1 : Nat) : Int)), (2, .int .i64 z), (3, .int .i64 count), (11, .slice va out.length vc), (12, .int .i64 N), (13, .bool sm), (14, .int .i64 ((if sm = true then z else N * z : Nat) : Int))]) (fun _ => [p]) (fun _ => True) ?_ fun _ e _ => ?_
  · refine gw_cond (t := sm) rfl (fun h => ?_) (fun h => ?_)
    · rw [if_pos h]
      repeat (first | refine gs_n tyT_ok 0 ?_ | refine gs_gn tyT_ok 0 rfl ?_ | refine gs_no rfl ?_ | refine gs_end ?_ | refine gs_end' ?_ | refine gw_seq ?_ | refine gw_text rfl ?_ | refine gw_skip ?_ | refine gw_label ?_)
      exact ⟨(), trivial, rfl, rfl, rfl, rfl, rfl, rfl, rfl, rfl, rfl, trivial⟩
    · rw [if_neg (by rw [h]; simp)]
      repeat (first | refine gs_n tyT_ok 0 ?_ | refine gs_gn tyT_ok 0 rfl ?_ | refine gs_no rfl ?_ | refine gs_end ?_ | refine gs_end' ?_ | refine gw_seq ?_ | refine gw_text rfl ?_ | refine gw_skip ?_ | refine gw_label ?_)
      refine ⟨(), trivial, rfl, rfl, rfl, rfl, rfl, rfl, rfl, rfl, ?_, trivial⟩
      refine congrArg (Value.int .i64) ?_
      show (N : Int) * (z : Int) = ((N * z : Nat) : Int)
      simp
  obtain ⟨need, hneed⟩ : ∃ need, need = (if sm = true then z else N * z) := ⟨_, rfl⟩
  rw [← hneed] at hstep ⊢
  have hneed2 : need ≤ 512 := by
    rw [hneed]
    split <;> omega
  repeat (first | refine gs_n tyT_ok 0 ?_ | refine gs_gn tyT_ok 0 rfl ?_ | refine gs_no rfl ?_ | refine gs_end ?_ | refine gs_end' ?_ | refine gw_seq ?_ | refine gw_text rfl ?_ | refine gw_skip ?_ | refine gw_label ?_)
  by_cases g3 : s.size < a + 1 + need
  case pos =>
    repeat (first | refine gs_n tyT_ok 0 ?_ | refine gs_gn tyT_ok 0 rfl ?_ | refine gs_no rfl ?_ | refine gs_end ?_ | refine gs_end' ?_ | refine gw_seq ?_ | refine gw_text rfl ?_ | refine gw_skip ?_ | refine gw_yes rfl ?_ | refine gw_no rfl ?_ | refine gw_exit ?_ | refine gw_block ?_ | refine gw_label ?_ | (refine gs_n tyT_ok 0 ?_ (hp := ?hp); case hp => exact ⟨by decide, by decide⟩) | (refine gs_tg tyT_ok rfl ?hb ?_; case hb => first | exact decide_eq_true (by omega) | exact congrArg Bool.not (decide_eq_false (by omega)) | (simp; done) | (simp; omega)) | (refine gs_fg tyT_ok rfl ?hb ?_; case hb => first | exact decide_eq_false (by omega) | exact congrArg Bool.not (decide_eq_true (by omega)) | (simp; done) | (simp; omega)) | (refine gs_t tyT_ok ?hb ?_; case hb => first | exact decide_eq_true (by omega) | exact congrArg Bool.not (decide_eq_false (by omega)) | (simp; done) | (simp; omega)) | (refine gs_f tyT_ok ?hb ?_; case hb => first | exact decide_eq_false (by omega) | exact congrArg Bool.not (decide_eq_true (by omega)) | (simp; done) | (simp; omega)))
    refine gs_lit tyT_ok (cs := []) rfl rfl rfl (by decide) rfl fun b1 => ?_
    repeat (first | refine gs_n tyT_ok 0 ?_ | refine gs_gn tyT_ok 0 rfl ?_ | refine gs_no rfl ?_ | refine gs_end ?_ | refine gs_end' ?_ | refine gw_seq ?_ | refine gw_text rfl ?_ | refine gw_skip ?_ | refine gw_yes rfl ?_ | refine gw_no rfl ?_ | refine gw_exit ?_ | refine gw_block ?_ | refine gw_label ?_ | (refine gs_n tyT_ok 0 ?_ (hp := ?hp); case hp => exact ⟨by decide, by decide⟩))
    refine gw_ret ⟨_, [], [(b1, .row 3 [] 0)], [1], .tmp (.tmp (.tmp .nil)), ⟨rfl, _, _, [], 0, false, rfl, rfl, OI.empty, (fun h => by cases h), fun _ => ?_⟩, rfl, rfl, by decide⟩
    rw [hR, hstep, if_pos (.inl g3)]
  by_cases g4 : count < out.length + N
  case pos =>
    repeat (first | refine gs_n tyT_ok 0 ?_ | refine gs_gn tyT_ok 0 rfl ?_ | refine gs_no rfl ?_ | refine gs_end ?_ | refine gs_end' ?_ | refine gw_seq ?_ | refine gw_text rfl ?_ | refine gw_skip ?_ | refine gw_yes rfl ?_ | refine gw_no rfl ?_ | refine gw_exit ?_ | refine gw_block ?_ | refine gw_label ?_ | (refine gs_n tyT_ok 0 ?_ (hp := ?hp); case hp => exact ⟨by decide, by decide⟩) | (refine gs_tg tyT_ok rfl ?hb ?_; case hb => first | exact decide_eq_true (by omega) | exact congrArg Bool.not (decide_eq_false (by omega)) | (simp; done) | (simp; omega)) | (refine gs_fg tyT_ok rfl ?hb ?_; case hb => first | exact decide_eq_false (by omega) | exact congrArg Bool.not (decide_eq_true (by omega)) | (simp; done) | (simp; omega)) | (refine gs_t tyT_ok ?hb ?_; case hb => first | exact decide_eq_true (by omega) | exact congrArg Bool.not (decide_eq_false (by omega)) | (simp; done) | (simp; omega)) | (refine gs_f tyT_ok ?hb ?_; case hb => first | exact decide_eq_false (by omega) | exact congrArg Bool.not (decide_eq_true (by omega)) | (simp; done) | (simp; omega)))
    refine gs_lit tyT_ok (cs := []) rfl rfl rfl (by decide) rfl fun b1 => ?_
    repeat (first | refine gs_n tyT_ok 0 ?_ | refine gs_gn tyT_ok 0 rfl ?_ | refine gs_no rfl ?_ | refine gs_end ?_ | refine gs_end' ?_ | refine gw_seq ?_ | refine gw_text rfl ?_ | refine gw_skip ?_ | refine gw_yes rfl ?_ | refine gw_no rfl ?_ | refine gw_exit ?_ | refine gw_block ?_ | refine gw_label ?_ | (refine gs_n tyT_ok 0 ?_ (hp := ?hp); case hp => exact ⟨by decide, by decide⟩))
    refine gw_ret ⟨_, [], [(b1, .row 3 [] 0)], [1], .tmp (.tmp (.tmp .nil)), ⟨rfl, _, _, [], 0, false, rfl, rfl, OI.empty, (fun h => by cases h), fun _ => ?_⟩, rfl, rfl, by decide⟩
    rw [hR, hstep, if_pos (.inr g4)]
  repeat (first | refine gs_n tyT_ok 0 ?_ | refine gs_gn tyT_ok 0 rfl ?_ | refine gs_no rfl ?_ | refine gs_end ?_ | refine gs_end' ?_ | refine gw_seq ?_ | refine gw_text rfl ?_ | refine gw_skip ?_ | refine gw_yes rfl ?_ | refine gw_no rfl ?_ | refine gw_exit ?_ | refine gw_block ?_ | refine gw_label ?_ | (refine gs_n tyT_ok 0 ?_ (hp := ?hp); case hp => exact ⟨by decide, by decide⟩) | (refine gs_tg tyT_ok rfl ?hb ?_; case hb => first | exact decide_eq_true (by omega) | exact congrArg Bool.not (decide_eq_false (by omega)) | (simp; done) | (simp; omega)) | (refine gs_fg tyT_ok rfl ?hb ?_; case hb => first | exact decide_eq_false (by omega) | exact congrArg Bool.not (decide_eq_true (by omega)) | (simp; done) | (simp; omega)) | (refine gs_t tyT_ok ?hb ?_; case hb => first | exact decide_eq_true (by omega) | exact congrArg Bool.not (decide_eq_false (by omega)) | (simp; done) | (simp; omega)) | (refine gs_f tyT_ok ?hb ?_; case hb => first | exact decide_eq_false (by omega) | exact congrArg Bool.not (decide_eq_true (by omega)) | (simp; done) | (simp; omega)))
  refine gw_loopL (fun _ (x : Nat × Value × (Nat × GO)) => [(0, .string s), (1, .int .i64 ((a + 1 : Nat) : Int)), (2, .int .i64 z), (3, .int .i64 count), (11, x.2.1), (12, .int .i64 N), (13, .bool sm), (14, .int .i64 need), (15, .int .i64 x.1)]) (fun _ x => [x.2.2]) (fun m x => x.1 + m = N ∧ OI x.2.1 x.2.2 (out ++ (List.range x.1).map (sNum s z (a + 1) sm))) N (0, .slice va out.length vc, p) ⟨by simp, by simpa using hv⟩ rfl ⟨rfl, rfl, rfl, rfl, rfl, rfl, rfl, rfl, rfl, trivial⟩ fun m2 ⟨i, v2, p2⟩ e2 ⟨hi, hv2⟩ => ?_
  dsimp only at hi hv2 ⊢
  have hv2' := hv2
  obtain ⟨ua, uc, rfl, _⟩ := hv2'.ls
  have hl2 : (out ++ (List.range i).map (sNum s z (a + 1) sm)).length = out.length + i := by simp
  repeat (first | refine gs_n tyT_ok 0 ?_ | refine gs_gn tyT_ok 0 rfl ?_ | refine gs_no rfl ?_ | refine gs_end ?_ | refine gs_end' ?_ | refine gw_seq ?_ | refine gw_text rfl ?_ | refine gw_skip ?_ | refine gw_yes rfl ?_ | refine gw_no rfl ?_ | refine gw_exit ?_ | refine gw_block ?_ | refine gw_label ?_ | (refine gs_n tyT_ok 0 ?_ (hp := ?hp); case hp => exact ⟨by decide, by decide⟩))
  by_cases g5 : i < N
  case neg =>
    obtain rfl : i = N := by omega
    (refine gs_f tyT_ok ?hb ?_; case hb => first | exact decide_eq_false (by omega) | exact congrArg Bool.not (decide_eq_true (by omega)) | (simp; done) | (simp; omega))
    repeat (first | refine gs_n tyT_ok 0 ?_ | refine gs_gn tyT_ok 0 rfl ?_ | refine gs_no rfl ?_ | refine gs_end ?_ | refine gs_end' ?_ | refine gw_seq ?_ | refine gw_text rfl ?_ | refine gw_skip ?_ | refine gw_yes rfl ?_ | refine gw_no rfl ?_ | refine gw_exit ?_ | refine gw_block ?_ | refine gw_label ?_ | (refine gs_n tyT_ok 0 ?_ (hp := ?hp); case hp => exact ⟨by decide, by decide⟩))
    refine ⟨m, by omega, (_, a + 1 + need, _, p2), ⟨by show count ≤ (out ++ (List.range i).map (sNum s z (a + 1) sm)).length + m; omega, by show (out ++ (List.range i).map (sNum s z (a + 1) sm)).length ≤ count; omega, by show a + 1 + need ≤ s.size; omega, hv2, ?_⟩, rfl, rfl, ?_, rfl, rfl, rfl, trivial⟩
    · rw [hR, hstep, if_neg (by omega)]
    · rfl
  (refine gs_t tyT_ok ?hb ?_; case hb => first | exact decide_eq_true (by omega) | exact congrArg Bool.not (decide_eq_false (by omega)) | (simp; done) | (simp; omega))
  have hiz : i * z + z ≤ N * z := by
    have := Nat.mul_le_mul_right z (show i + 1 ≤ N by omega)
    rw [Nat.succ_mul] at this
    exact this
  repeat (first | refine gs_n tyT_ok 0 ?_ | refine gs_gn tyT_ok 0 rfl ?_ | refine gs_no rfl ?_ | refine gs_end ?_ | refine gs_end' ?_ | refine gw_seq ?_ | refine gw_text rfl ?_ | refine gw_skip ?_ | refine gw_yes rfl ?_ | refine gw_no rfl ?_ | refine gw_exit ?_ | refine gw_block ?_ | refine gw_label ?_ | (refine gs_n tyT_ok 0 ?_ (hp := ?hp); case hp => exact ⟨by decide, by decide⟩))
  refine gw_join (α := Unit) (fun _ => [(0, .string s), (1, .int .i64 ((a + 1 : Nat) : Int)), (2, .int .i64 z), (3, .int .i64 count), (11, .slice ua (out ++ (List.range i).map (sNum s z (a + 1) sm)).length uc), (12, .int .i64 N), (13, .bool sm), (14, .int .i64 need), (15, .int .i64 i), (16, .int .i64 ((a + 1 + (if sm = true then 0 else i * z) : Nat) : Int))]) (fun _ => [p2]) (fun _ => True) ?_ fun _ e3 _ => ?_
  · refine gw_cond (t := !sm) rfl (fun h => ?_) (fun h => ?_)
    · have h : sm = false := by simpa using h
      rw [h]
      repeat (first | refine gs_n tyT_ok 0 ?_ | refine gs_gn tyT_ok 0 rfl ?_ | refine gs_no rfl ?_ | refine gs_end ?_ | refine gs_end' ?_ | refine gw_seq ?_ | refine gw_text rfl ?_ | refine gw_skip ?_ | refine gw_label ?_)
      refine ⟨(), trivial, rfl, rfl, rfl, rfl, rfl, rfl, rfl, rfl, rfl, rfl, ?_, trivial⟩
      refine congrArg (Value.int .i64) ?_
      show ((a + 1 : Nat) : Int) + (i : Int) * (z : Int) = ((a + 1 + i * z : Nat) : Int)
      simp
    · have h : sm = true := by simpa using h
      rw [h]
      repeat (first | refine gs_n tyT_ok 0 ?_ | refine gs_gn tyT_ok 0 rfl ?_ | refine gs_no rfl ?_ | refine gs_end ?_ | refine gs_end' ?_ | refine gw_seq ?_ | refine gw_text rfl ?_ | refine gw_skip ?_ | refine gw_label ?_)
      exact ⟨(), trivial, rfl, rfl, rfl, rfl, rfl, rfl, rfl, rfl, rfl, rfl, rfl, trivial⟩
  have hoff : (if sm = true then 0 else i * z) + z ≤ need := by
    rw [hneed]
    split <;> omega
  repeat (first | refine gs_n tyT_ok 0 ?_ | refine gs_gn tyT_ok 0 rfl ?_ | refine gs_no rfl ?_ | refine gs_end ?_ | refine gs_end' ?_ | refine gw_seq ?_ | refine gw_text rfl ?_ | refine gw_skip ?_ | refine gw_label ?_)
  refine gs_pu ent49 (sField_w hs h2 (by omega)) ?_
  refine gs_push 0 (n := sNum s z (a + 1) sm i) rfl rfl hv2 (fun _ => rfl) (by omega) fun b2 ua3 uc3 p3 hv3 => ?_
  refine gs_n tyT_ok 0 ?_
  refine gs_end ?_
  refine gw_weak [0] (by decide) rfl ?_
  repeat (first | refine gs_n tyT_ok 0 ?_ | refine gs_gn tyT_ok 0 rfl ?_ | refine gs_no rfl ?_ | refine gs_end ?_ | refine gs_end' ?_ | refine gw_seq ?_ | refine gw_text rfl ?_ | refine gw_skip ?_ | refine gw_yes rfl ?_ | refine gw_no rfl ?_ | refine gw_exit ?_ | refine gw_block ?_ | refine gw_label ?_ | (refine gs_n tyT_ok 0 ?_ (hp := ?hp); case hp => exact ⟨by decide, by decide⟩))
  refine ⟨m2 - 1, by omega, (i + 1, _, p3), ⟨by show i + 1 + (m2 - 1) = _; omega, ?_⟩, rfl, rfl, rfl, rfl, rfl, rfl, rfl, rfl, rfl, rfl, trivial⟩
  show OI _ p3 (out ++ (List.range (i + 1)).map (sNum s z (a + 1) sm))
  rw [List.range_succ, List.map_append, ← List.append_assoc]
  exact hv3
end Go.Proofs.Ytdkhjcmhjlbpaaa.G
