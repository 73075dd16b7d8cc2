/- What the law FnExactGifPut needs, out of the texts Wr. -/
import Derived.Test.YtjefdcbljpkmlaaKFnExactGifPut10
import Derived.Test.YtjefdcbljpkmlaaKFnExactGifPut13
section
set_option linter.unusedVariables false
set_option maxRecDepth 10000
namespace Go.Proofs.Ytjefdcbljpkmlaa.G
open Go
set_option maxHeartbeats 400000 in
theorem flag_w (b : Bool) : Pu Try.prog 144 [.bool b] (.int .i64 (if b then 1 else 0)) := by
  refine trip_of Try.func144 rfl (by simp [Try.ntmps144]) ?_
  cases b
  · repeat (first | refine gs_n tyT_ok 0 ?_ | refine gs_gn tyT_ok 0 rfl ?_ | refine gs_no rfl ?_ | refine gs_end ?_ | refine gs_end' ?_ | refine gw_seq ?_ | refine gw_text rfl ?_ | refine gw_skip ?_ | refine gw_yes rfl ?_ | refine gw_no rfl ?_ | refine gw_exit ?_ | refine gw_block ?_ | refine gw_label ?_ | (refine gs_n tyT_ok 0 ?_ (hp := ?hp); case hp => exact ⟨by decide, by decide⟩))
    exact gw_ret ⟨_, [], [], [], (.tmp .nil), ⟨rfl, rfl, rfl⟩, rfl, rfl, List.nodup_nil⟩
  · repeat (first | refine gs_n tyT_ok 0 ?_ | refine gs_gn tyT_ok 0 rfl ?_ | refine gs_no rfl ?_ | refine gs_end ?_ | refine gs_end' ?_ | refine gw_seq ?_ | refine gw_text rfl ?_ | refine gw_skip ?_ | refine gw_yes rfl ?_ | refine gw_no rfl ?_ | refine gw_exit ?_ | refine gw_block ?_ | refine gw_label ?_ | (refine gs_n tyT_ok 0 ?_ (hp := ?hp); case hp => exact ⟨by decide, by decide⟩))
    exact gw_ret ⟨_, [], [], [], (.tmp .nil), ⟨rfl, rfl, rfl⟩, rfl, rfl, List.nodup_nil⟩
set_option maxHeartbeats 1000000 in
theorem l1Num_w (n : Nat) (z : Nat) (hz : z ≤ 4) (hn : n < 9223372036854775808) : Pu Try.prog 143 [.int .i64 n, .int .i64 z, .bool false] (.string (txt (le n z))) := by
  refine trip_of Try.func143 rfl (by simp [Try.ntmps143]) ?_
  repeat (first | refine gs_n tyT_ok 0 ?_ | refine gs_gn tyT_ok 0 rfl ?_ | refine gs_no rfl ?_ | refine gs_end ?_ | refine gs_end' ?_ | refine gw_seq ?_ | refine gw_text rfl ?_ | refine gw_skip ?_ | refine gw_yes rfl ?_ | refine gw_no rfl ?_ | refine gw_exit ?_ | refine gw_block ?_ | refine gw_label ?_ | (refine gs_n tyT_ok 0 ?_ (hp := ?hp); case hp => exact ⟨by decide, by decide⟩))
  refine gw_loopL (fun _ (i : Nat) => [(0, .int .i64 ((n / 256 ^ i : Nat) : Int)), (1, .int .i64 z), (2, .bool false), (7, .string (txt (le n i))), (8, .int .i64 i)]) (fun _ _ => []) (fun m i => i + m = z) z 0 (by omega) rfl ⟨by show Value.int _ _ = _; simp, rfl, rfl, rfl, rfl, trivial⟩ fun m i e hm => ?_
  repeat (first | refine gs_n tyT_ok 0 ?_ | refine gs_gn tyT_ok 0 rfl ?_ | refine gs_no rfl ?_ | refine gs_end ?_ | refine gs_end' ?_ | refine gw_seq ?_ | refine gw_text rfl ?_ | refine gw_skip ?_ | refine gw_yes rfl ?_ | refine gw_no rfl ?_ | refine gw_exit ?_ | refine gw_block ?_ | refine gw_label ?_ | (refine gs_n tyT_ok 0 ?_ (hp := ?hp); case hp => exact ⟨by decide, by decide⟩))
  by_cases g : i < z
  · (refine gs_t tyT_ok ?hb ?_; case hb => first | exact decide_eq_true (by omega) | exact congrArg Bool.not (decide_eq_false (by omega)) | (simp; done) | (simp; omega))
    have hb : n / 256 ^ i < 9223372036854775808 := Nat.lt_of_le_of_lt (Nat.div_le_self _ _) hn
    obtain ⟨y, hy⟩ : ∃ y, y = n / 256 ^ i := ⟨_, rfl⟩
    rw [← hy] at hb ⊢
    repeat (first | refine gs_n tyT_ok 0 ?_ | refine gs_gn tyT_ok 0 rfl ?_ | refine gs_no rfl ?_ | refine gs_end ?_ | refine gs_end' ?_ | refine gw_seq ?_ | refine gw_text rfl ?_ | refine gw_skip ?_ | refine gw_yes rfl ?_ | refine gw_no rfl ?_ | refine gw_exit ?_ | refine gw_block ?_ | refine gw_label ?_ | (refine gs_n tyT_ok 0 ?_ (hp := ?hp); case hp => exact ⟨by decide, by decide⟩))
    refine gs_lit tyT_ok (cs := bytesV [(y : Int) % 256]) rfl rfl rfl (by decide) rfl fun b => ?_
    refine gs_txt 0 (xs := [(y : Int) % 256]) rfl rfl rfl ?_
    repeat (first | refine gs_n tyT_ok 0 ?_ | refine gs_gn tyT_ok 0 rfl ?_ | refine gs_no rfl ?_ | refine gs_end ?_ | refine gs_end' ?_ | refine gw_seq ?_ | refine gw_text rfl ?_ | refine gw_skip ?_ | refine gw_yes rfl ?_ | refine gw_no rfl ?_ | refine gw_exit ?_ | refine gw_block ?_ | refine gw_label ?_ | (refine gs_n tyT_ok 0 ?_ (hp := ?hp); case hp => exact ⟨by decide, by decide⟩))
    refine gs_cat (a := le n i) (b := [(y : Int) % 256]) rfl rfl (by rw [le_len, List.length_singleton]; omega) ?_
    refine gs_n tyT_ok 0 ?_
    refine gs_end ?_
    refine gw_weak [] (by decide) rfl ?_
    repeat (first | refine gs_n tyT_ok 0 ?_ | refine gs_gn tyT_ok 0 rfl ?_ | refine gs_no rfl ?_ | refine gs_end ?_ | refine gs_end' ?_ | refine gw_seq ?_ | refine gw_text rfl ?_ | refine gw_skip ?_ | refine gw_yes rfl ?_ | refine gw_no rfl ?_ | refine gw_exit ?_ | refine gw_block ?_ | refine gw_label ?_ | (refine gs_n tyT_ok 0 ?_ (hp := ?hp); case hp => exact ⟨by decide, by decide⟩))
    refine ⟨m - 1, by omega, i + 1, by omega, rfl, ?_, rfl, rfl, ?_, rfl, trivial⟩
    · show Value.int .i64 ((y : Int) / 256) = _
      rw [hy, Nat.pow_succ, ← Nat.div_div_eq_div_mul]
      simp
    · show Value.string (txt (le n i ++ [(y : Int) % 256])) = _
      rw [le_succ, ← hy]
      simp
  · obtain rfl : i = z := by omega
    (refine gs_f tyT_ok ?hb ?_; case hb => first | exact decide_eq_false (by omega) | exact congrArg Bool.not (decide_eq_true (by omega)) | (simp; done) | (simp; omega))
    repeat (first | refine gs_n tyT_ok 0 ?_ | refine gs_gn tyT_ok 0 rfl ?_ | refine gs_no rfl ?_ | refine gs_end ?_ | refine gs_end' ?_ | refine gw_seq ?_ | refine gw_text rfl ?_ | refine gw_skip ?_ | refine gw_yes rfl ?_ | refine gw_no rfl ?_ | refine gw_exit ?_ | refine gw_block ?_ | refine gw_label ?_ | (refine gs_n tyT_ok 0 ?_ (hp := ?hp); case hp => exact ⟨by decide, by decide⟩))
    exact gw_ret ⟨_, [], [], [], (.tmp .nil), ⟨rfl, rfl, rfl⟩, rfl, rfl, List.nodup_nil⟩
set_option maxHeartbeats 1000000 in
theorem numPut_w {n : Int} {z : Nat} (hz : 1 ≤ z ∧ z ≤ 4) (hn : 0 ≤ n ∧ n < ((256 ^ z : Nat) : Int)) : Pu Try.prog 120 [.int .i64 n, .int .i64 z, .bool false] (.string (txt (le n.toNat z))) := by
  obtain ⟨e1, e2, e3⟩ := pow8 hz.1 hz.2
  obtain ⟨N, rfl⟩ := Int.eq_ofNat_of_zero_le hn.1
  refine trip_of Try.func120 rfl (by simp [Try.ntmps120]) ?_
  repeat (first | refine gs_n tyT_ok 0 ?_ | refine gs_gn tyT_ok 0 rfl ?_ | refine gs_no rfl ?_ | refine gs_end ?_ | refine gs_end' ?_ | refine gw_seq ?_ | refine gw_text rfl ?_ | refine gw_skip ?_ | refine gw_yes rfl ?_ | refine gw_no rfl ?_ | refine gw_exit ?_ | refine gw_block ?_ | refine gw_label ?_ | (refine gs_n tyT_ok 0 ?_ (hp := ?hp); case hp => exact ⟨by decide, by decide⟩))
  refine gs_pu ent72 (in_t (by omega)) ?_
  repeat (first | refine gs_n tyT_ok 0 ?_ | refine gs_gn tyT_ok 0 rfl ?_ | refine gs_no rfl ?_ | refine gs_end ?_ | refine gs_end' ?_ | refine gw_seq ?_ | refine gw_text rfl ?_ | refine gw_skip ?_ | refine gw_yes rfl ?_ | refine gw_no rfl ?_ | refine gw_exit ?_ | refine gw_block ?_ | refine gw_label ?_ | (refine gs_n tyT_ok 0 ?_ (hp := ?hp); case hp => exact ⟨by decide, by decide⟩))
  refine gs_gn tyT_ok 0 rfl ?_ (hp := ?hp)
  case hp =>
    refine ⟨by show (0 : Int) ≤ 8 * (z : Int); omega, by show 8 * (z : Int) ≤ 64; omega, ?_⟩
    rw [e1]
    exact ⟨by omega, by omega⟩
  rw [e1]
  repeat (first | refine gs_n tyT_ok 0 ?_ | refine gs_gn tyT_ok 0 rfl ?_ | refine gs_no rfl ?_ | refine gs_end ?_ | refine gs_end' ?_ | refine gw_seq ?_ | refine gw_text rfl ?_ | refine gw_skip ?_ | refine gw_yes rfl ?_ | refine gw_no rfl ?_ | refine gw_exit ?_ | refine gw_block ?_ | refine gw_label ?_ | (refine gs_n tyT_ok 0 ?_ (hp := ?hp); case hp => exact ⟨by decide, by decide⟩))
  refine gs_pug ent72 rfl (in_t (by omega)) ?_
  repeat (first | refine gs_n tyT_ok 0 ?_ | refine gs_gn tyT_ok 0 rfl ?_ | refine gs_no rfl ?_ | refine gs_end ?_ | refine gs_end' ?_ | refine gw_seq ?_ | refine gw_text rfl ?_ | refine gw_skip ?_ | refine gw_yes rfl ?_ | refine gw_no rfl ?_ | refine gw_exit ?_ | refine gw_block ?_ | refine gw_label ?_ | (refine gs_n tyT_ok 0 ?_ (hp := ?hp); case hp => exact ⟨by decide, by decide⟩))
  refine gs_make tyT_ok (n := z) rfl rfl rfl rfl rfl (by omega) (by decide) fun b => ?_
  repeat (first | refine gs_n tyT_ok 0 ?_ | refine gs_gn tyT_ok 0 rfl ?_ | refine gs_no rfl ?_ | refine gs_end ?_ | refine gs_end' ?_ | refine gw_seq ?_ | refine gw_text rfl ?_ | refine gw_skip ?_ | refine gw_yes rfl ?_ | refine gw_no rfl ?_ | refine gw_exit ?_ | refine gw_block ?_ | refine gw_label ?_ | (refine gs_n tyT_ok 0 ?_ (hp := ?hp); case hp => exact ⟨by decide, by decide⟩))
  refine gw_loopL (fun _ (i : Nat) => [(0, .int .i64 (N : Int)), (1, .int .i64 z), (2, .bool false), (7, .slice (some ⟨b, 0, none⟩) z z), (25, .int .i64 z), (26, .int .i64 i)]) (fun _ i => [(b, .row 5 (bytesV (lpart N z i)) (z * 1))]) (fun m i => i + m = z) z 0 (by omega) ?_ ⟨rfl, rfl, rfl, rfl, rfl, rfl, trivial⟩ fun m i e hm => ?_
  · simp only [lpart, le_zero, List.nil_append, Nat.sub_zero, bytesV, List.map_replicate]
    show [(b, GO.row 5 (List.replicate z [Value.int .u8 0]).flatten (z * 1))] = _
    simp [List.flatten_replicate_singleton]
  repeat (first | refine gs_n tyT_ok 0 ?_ | refine gs_gn tyT_ok 0 rfl ?_ | refine gs_no rfl ?_ | refine gs_end ?_ | refine gs_end' ?_ | refine gw_seq ?_ | refine gw_text rfl ?_ | refine gw_skip ?_ | refine gw_yes rfl ?_ | refine gw_no rfl ?_ | refine gw_exit ?_ | refine gw_block ?_ | refine gw_label ?_ | (refine gs_n tyT_ok 0 ?_ (hp := ?hp); case hp => exact ⟨by decide, by decide⟩))
  by_cases g : i < z
  · (refine gs_t tyT_ok ?hb ?_; case hb => first | exact decide_eq_true (by omega) | exact congrArg Bool.not (decide_eq_false (by omega)) | (simp; done) | (simp; omega))
    repeat (first | refine gs_n tyT_ok 0 ?_ | refine gs_gn tyT_ok 0 rfl ?_ | refine gs_no rfl ?_ | refine gs_end ?_ | refine gs_end' ?_ | refine gw_seq ?_ | refine gw_text rfl ?_ | refine gw_skip ?_ | refine gw_yes rfl ?_ | refine gw_no rfl ?_ | refine gw_exit ?_ | refine gw_block ?_ | refine gw_label ?_ | (refine gs_n tyT_ok 0 ?_ (hp := ?hp); case hp => exact ⟨by decide, by decide⟩))
    refine gs_n tyT_ok 0 ?_ (hp := ?hp)
    case hp => exact ⟨by omega, by show 8 * (i : Int) ≤ 64; omega⟩
    refine gs_n tyT_ok 1 ?_
    rw [wrap_u8, shr8]
    repeat (first | refine gs_n tyT_ok 0 ?_ | refine gs_gn tyT_ok 0 rfl ?_ | refine gs_no rfl ?_ | refine gs_end ?_ | refine gs_end' ?_ | refine gw_seq ?_ | refine gw_text rfl ?_ | refine gw_skip ?_ | refine gw_yes rfl ?_ | refine gw_no rfl ?_ | refine gw_exit ?_ | refine gw_block ?_ | refine gw_label ?_ | (refine gs_n tyT_ok 0 ?_ (hp := ?hp); case hp => exact ⟨by decide, by decide⟩))
    refine gs_store tyT_ok 0 (b := b) (off := i) ?hx rfl rfl rfl rfl rfl ?hle ?hn ?_
    case hx =>
      show Value.pointer (some ⟨b, 0 + i * 1, none⟩) = _
      rw [Nat.zero_add, Nat.mul_one]
    case hle =>
      rw [bytesV, List.length_map, lpart_len (by omega)]
      omega
    case hn =>
      show i + 1 ≤ z * 1
      omega
    repeat (first | refine gs_n tyT_ok 0 ?_ | refine gs_gn tyT_ok 0 rfl ?_ | refine gs_no rfl ?_ | refine gs_end ?_ | refine gs_end' ?_ | refine gw_seq ?_ | refine gw_text rfl ?_ | refine gw_skip ?_ | refine gw_yes rfl ?_ | refine gw_no rfl ?_ | refine gw_exit ?_ | refine gw_block ?_ | refine gw_label ?_ | (refine gs_n tyT_ok 0 ?_ (hp := ?hp); case hp => exact ⟨by decide, by decide⟩))
    refine ⟨m - 1, by omega, i + 1, by omega, ?_, rfl, rfl, rfl, rfl, rfl, rfl, trivial⟩
    show [(b, GO.row 5 (put (bytesV (lpart N z i)) i [.int .u8 (((N / 256 ^ i : Nat) : Int) % 256)]) (z * 1))] = _
    rw [← lpart_set g]
    simp
  · obtain rfl : i = z := by omega
    (refine gs_f tyT_ok ?hb ?_; case hb => first | exact decide_eq_false (by omega) | exact congrArg Bool.not (decide_eq_true (by omega)) | (simp; done) | (simp; omega))
    repeat (first | refine gs_n tyT_ok 0 ?_ | refine gs_gn tyT_ok 0 rfl ?_ | refine gs_no rfl ?_ | refine gs_end ?_ | refine gs_end' ?_ | refine gw_seq ?_ | refine gw_text rfl ?_ | refine gw_skip ?_ | refine gw_yes rfl ?_ | refine gw_no rfl ?_ | refine gw_exit ?_ | refine gw_block ?_ | refine gw_label ?_ | (refine gs_n tyT_ok 0 ?_ (hp := ?hp); case hp => exact ⟨by decide, by decide⟩))
    refine gs_txt 0 (xs := lpart N i i) rfl rfl (lpart_len (Nat.le_refl _)) ?_
    rw [show lpart N i i = le N i by simp [lpart]]
    repeat (first | refine gs_n tyT_ok 0 ?_ | refine gs_gn tyT_ok 0 rfl ?_ | refine gs_no rfl ?_ | refine gs_end ?_ | refine gs_end' ?_ | refine gw_seq ?_ | refine gw_text rfl ?_ | refine gw_skip ?_ | refine gw_yes rfl ?_ | refine gw_no rfl ?_ | refine gw_exit ?_ | refine gw_block ?_ | refine gw_label ?_ | (refine gs_n tyT_ok 0 ?_ (hp := ?hp); case hp => exact ⟨by decide, by decide⟩))
    exact gw_ret ⟨_, [], [], [], (.tmp .nil), ⟨rfl, rfl, rfl⟩, rfl, rfl, List.nodup_nil⟩
end Go.Proofs.Ytjefdcbljpkmlaa.G
end
