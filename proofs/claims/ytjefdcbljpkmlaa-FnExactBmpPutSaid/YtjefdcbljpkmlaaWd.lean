/- impl: the scanner. -/
import Derived.Test.YtjefdcbljpkmlaaMc
import Derived.Test.YtjefdcbljpkmlaaWa
set_option linter.unusedVariables false
set_option maxRecDepth 8000
namespace Go.Proofs.Ytjefdcbljpkmlaa.G
open Go
abbrev sc (s : ByteArray) (p : Nat) (bad : Bool) : GO := .row 73 [.string s, .int .i64 p, .bool bad] 3
section
variable {g : Nat} {s : ByteArray} {p : Nat} {bad : Bool}
theorem take_t {m : Nat} (hs : s.size ≤ 1000000000000) (h : p + m ≤ s.size) : Wr Try.prog 71 [ptr g, .int .i64 m] [(g, sc s p false)] [(g, sc s (p + m) false)] (.string (s.extract p (p + m))) := by
  refine trip_of Try.func71 rfl (by simp [Try.ntmps71]) ?_
  repeat (first | refine gs_n tyT_ok 0 ?_ | refine gs_gn tyT_ok 0 rfl ?_ | refine gs_no rfl ?_ | refine gs_end ?_ | refine gs_end' ?_ | refine gw_seq ?_ | refine gw_text rfl ?_ | refine gw_skip ?_ | refine gw_yes rfl ?_ | refine gw_no rfl ?_ | refine gw_exit ?_ | refine gw_block ?_ | refine gw_label ?_ | (refine gs_n tyT_ok 0 ?_ (hp := ?hp); case hp => exact ⟨by decide, by decide⟩))
  refine gw_any [.N, .N, .N, .L 0, .N, .N, .N, .N, .N, .L 0, .N, .N, .N, .N, .L 0, .N, .N, .N] rfl rfl rfl ?_
  repeat (first | refine gs_n tyT_ok 0 ?_ | refine gs_gn tyT_ok 0 rfl ?_ | refine gs_no rfl ?_ | refine gs_l tyT_ok 0 ?_ | refine gs_gl tyT_ok 0 rfl ?_ | (refine gs_l tyT_ok 0 ?_ (hp := ?hp); case hp => exact ⟨rfl, Nat.le_of_ble_eq_true rfl⟩) | (refine gs_gl tyT_ok 0 rfl ?_ (hp := ?hp); case hp => exact ⟨rfl, Nat.le_of_ble_eq_true rfl⟩) | refine gs_end ?_ | refine gs_end' ?_ | refine gw_seq ?_ | refine gw_text rfl ?_ | refine gw_skip ?_ | refine gw_yes rfl ?_ | refine gw_no rfl ?_ | refine gw_exit ?_ | refine gw_block ?_ | refine gw_label ?_ | (refine gs_n tyT_ok 0 ?_ (hp := ?hp); case hp => exact ⟨by decide, by decide⟩))
  (refine gs_fg tyT_ok rfl ?hb ?_; case hb => first | exact decide_eq_false (by omega) | exact congrArg Bool.not (decide_eq_true (by omega)) | (simp; done) | (simp; omega))
  repeat (first | refine gs_n tyT_ok 0 ?_ | refine gs_gn tyT_ok 0 rfl ?_ | refine gs_no rfl ?_ | refine gs_l tyT_ok 0 ?_ | refine gs_gl tyT_ok 0 rfl ?_ | (refine gs_l tyT_ok 0 ?_ (hp := ?hp); case hp => exact ⟨rfl, Nat.le_of_ble_eq_true rfl⟩) | (refine gs_gl tyT_ok 0 rfl ?_ (hp := ?hp); case hp => exact ⟨rfl, Nat.le_of_ble_eq_true rfl⟩) | refine gs_end ?_ | refine gs_end' ?_ | refine gw_seq ?_ | refine gw_text rfl ?_ | refine gw_skip ?_ | refine gw_yes rfl ?_ | refine gw_no rfl ?_ | refine gw_exit ?_ | refine gw_block ?_ | refine gw_label ?_ | (refine gs_n tyT_ok 0 ?_ (hp := ?hp); case hp => exact ⟨by decide, by decide⟩))
  refine gs_store tyT_ok 0 rfl rfl rfl rfl rfl rfl (Nat.le_of_ble_eq_true rfl) (Nat.le_of_ble_eq_true rfl) ?_
  repeat (first | refine gs_n tyT_ok 0 ?_ | refine gs_gn tyT_ok 0 rfl ?_ | refine gs_no rfl ?_ | refine gs_end ?_ | refine gs_end' ?_ | refine gw_seq ?_ | refine gw_text rfl ?_ | refine gw_skip ?_ | refine gw_yes rfl ?_ | refine gw_no rfl ?_ | refine gw_exit ?_ | refine gw_block ?_ | refine gw_label ?_ | (refine gs_n tyT_ok 0 ?_ (hp := ?hp); case hp => exact ⟨by decide, by decide⟩))
  refine gw_any [.N, .N, .N, .L 0, .N, .N, .N, .L 0, .N, .N, .N, .N, .N, .L 0, .N, .N] rfl rfl rfl ?_
  repeat (first | refine gs_n tyT_ok 0 ?_ | refine gs_gn tyT_ok 0 rfl ?_ | refine gs_no rfl ?_ | refine gs_l tyT_ok 0 ?_ | refine gs_gl tyT_ok 0 rfl ?_ | (refine gs_l tyT_ok 0 ?_ (hp := ?hp); case hp => exact ⟨rfl, Nat.le_of_ble_eq_true rfl⟩) | (refine gs_gl tyT_ok 0 rfl ?_ (hp := ?hp); case hp => exact ⟨rfl, Nat.le_of_ble_eq_true rfl⟩) | refine gs_end ?_ | refine gs_end' ?_ | refine gw_seq ?_ | refine gw_text rfl ?_ | refine gw_skip ?_ | refine gw_yes rfl ?_ | refine gw_no rfl ?_ | refine gw_exit ?_ | refine gw_block ?_ | refine gw_label ?_ | (refine gs_n tyT_ok 0 ?_ (hp := ?hp); case hp => exact ⟨by decide, by decide⟩))
  refine gw_ret ⟨_, [(g, sc s (p + m) false)], [], [0], .tmp .nil, ⟨?_, rfl, rfl⟩, rfl, rfl, by decide⟩
  show Value.string _ = _
  congr 2 <;> omega
theorem take_f {m : Nat} (hs : s.size ≤ 1000000000000) (hp : p ≤ s.size) (hm : m ≤ 1000000000) (h : bad = true ∨ s.size < p + m) : Wr Try.prog 71 [ptr g, .int .i64 m] [(g, sc s p bad)] [(g, sc s p true)] (.string (zeros m)) := by
  refine trip_of Try.func71 rfl (by simp [Try.ntmps71]) ?_
  repeat (first | refine gs_n tyT_ok 0 ?_ | refine gs_gn tyT_ok 0 rfl ?_ | refine gs_no rfl ?_ | refine gs_end ?_ | refine gs_end' ?_ | refine gw_seq ?_ | refine gw_text rfl ?_ | refine gw_skip ?_ | refine gw_yes rfl ?_ | refine gw_no rfl ?_ | refine gw_exit ?_ | refine gw_block ?_ | refine gw_label ?_ | (refine gs_n tyT_ok 0 ?_ (hp := ?hp); case hp => exact ⟨by decide, by decide⟩))
  cases bad
  · have h : s.size < p + m := h.resolve_left (by simp)
    refine gw_any [.N, .N, .N, .L 0, .N, .N, .N, .N, .N, .L 0, .N, .N, .N, .N, .L 0, .N, .N, .N] rfl rfl rfl ?_
    repeat (first | refine gs_n tyT_ok 0 ?_ | refine gs_gn tyT_ok 0 rfl ?_ | refine gs_no rfl ?_ | refine gs_l tyT_ok 0 ?_ | refine gs_gl tyT_ok 0 rfl ?_ | (refine gs_l tyT_ok 0 ?_ (hp := ?hp); case hp => exact ⟨rfl, Nat.le_of_ble_eq_true rfl⟩) | (refine gs_gl tyT_ok 0 rfl ?_ (hp := ?hp); case hp => exact ⟨rfl, Nat.le_of_ble_eq_true rfl⟩) | refine gs_end ?_ | refine gs_end' ?_ | refine gw_seq ?_ | refine gw_text rfl ?_ | refine gw_skip ?_ | refine gw_yes rfl ?_ | refine gw_no rfl ?_ | refine gw_exit ?_ | refine gw_block ?_ | refine gw_label ?_ | (refine gs_n tyT_ok 0 ?_ (hp := ?hp); case hp => exact ⟨by decide, by decide⟩))
    (refine gs_tg tyT_ok rfl ?hb ?_; case hb => first | exact decide_eq_true (by omega) | exact congrArg Bool.not (decide_eq_false (by omega)) | (simp; done) | (simp; omega))
    repeat (first | refine gs_n tyT_ok 0 ?_ | refine gs_gn tyT_ok 0 rfl ?_ | refine gs_no rfl ?_ | refine gs_l tyT_ok 0 ?_ | refine gs_gl tyT_ok 0 rfl ?_ | (refine gs_l tyT_ok 0 ?_ (hp := ?hp); case hp => exact ⟨rfl, Nat.le_of_ble_eq_true rfl⟩) | (refine gs_gl tyT_ok 0 rfl ?_ (hp := ?hp); case hp => exact ⟨rfl, Nat.le_of_ble_eq_true rfl⟩) | refine gs_end ?_ | refine gs_end' ?_ | refine gw_seq ?_ | refine gw_text rfl ?_ | refine gw_skip ?_ | refine gw_yes rfl ?_ | refine gw_no rfl ?_ | refine gw_exit ?_ | refine gw_block ?_ | refine gw_label ?_ | (refine gs_n tyT_ok 0 ?_ (hp := ?hp); case hp => exact ⟨by decide, by decide⟩))
    refine gs_store tyT_ok 0 rfl rfl rfl rfl rfl rfl (Nat.le_of_ble_eq_true rfl) (Nat.le_of_ble_eq_true rfl) ?_
    repeat (first | refine gs_n tyT_ok 0 ?_ | refine gs_gn tyT_ok 0 rfl ?_ | refine gs_no rfl ?_ | refine gs_end ?_ | refine gs_end' ?_ | refine gw_seq ?_ | refine gw_text rfl ?_ | refine gw_skip ?_ | refine gw_yes rfl ?_ | refine gw_no rfl ?_ | refine gw_exit ?_ | refine gw_block ?_ | refine gw_label ?_ | (refine gs_n tyT_ok 0 ?_ (hp := ?hp); case hp => exact ⟨by decide, by decide⟩))
    refine gs_pu ent148 (repeat_w hm) ?_
    repeat (first | refine gs_n tyT_ok 0 ?_ | refine gs_gn tyT_ok 0 rfl ?_ | refine gs_no rfl ?_ | refine gs_end ?_ | refine gs_end' ?_ | refine gw_seq ?_ | refine gw_text rfl ?_ | refine gw_skip ?_ | refine gw_yes rfl ?_ | refine gw_no rfl ?_ | refine gw_exit ?_ | refine gw_block ?_ | refine gw_label ?_ | (refine gs_n tyT_ok 0 ?_ (hp := ?hp); case hp => exact ⟨by decide, by decide⟩))
    exact gw_ret ⟨_, _, [], [0], .tmp .nil, ⟨rfl, rfl, rfl⟩, rfl, rfl, by decide⟩
  · refine gw_any [.N, .N, .N, .L 0, .N, .N, .N, .N, .N, .N, .N, .N, .N, .N, .N, .N, .N, .N] rfl rfl rfl ?_
    repeat (first | refine gs_n tyT_ok 0 ?_ | refine gs_gn tyT_ok 0 rfl ?_ | refine gs_no rfl ?_ | refine gs_l tyT_ok 0 ?_ | refine gs_gl tyT_ok 0 rfl ?_ | (refine gs_l tyT_ok 0 ?_ (hp := ?hp); case hp => exact ⟨rfl, Nat.le_of_ble_eq_true rfl⟩) | (refine gs_gl tyT_ok 0 rfl ?_ (hp := ?hp); case hp => exact ⟨rfl, Nat.le_of_ble_eq_true rfl⟩) | refine gs_end ?_ | refine gs_end' ?_ | refine gw_seq ?_ | refine gw_text rfl ?_ | refine gw_skip ?_ | refine gw_yes rfl ?_ | refine gw_no rfl ?_ | refine gw_exit ?_ | refine gw_block ?_ | refine gw_label ?_ | (refine gs_n tyT_ok 0 ?_ (hp := ?hp); case hp => exact ⟨by decide, by decide⟩))
    refine gs_store tyT_ok 0 rfl rfl rfl rfl rfl rfl (Nat.le_of_ble_eq_true rfl) (Nat.le_of_ble_eq_true rfl) ?_
    repeat (first | refine gs_n tyT_ok 0 ?_ | refine gs_gn tyT_ok 0 rfl ?_ | refine gs_no rfl ?_ | refine gs_end ?_ | refine gs_end' ?_ | refine gw_seq ?_ | refine gw_text rfl ?_ | refine gw_skip ?_ | refine gw_yes rfl ?_ | refine gw_no rfl ?_ | refine gw_exit ?_ | refine gw_block ?_ | refine gw_label ?_ | (refine gs_n tyT_ok 0 ?_ (hp := ?hp); case hp => exact ⟨by decide, by decide⟩))
    refine gs_pu ent148 (repeat_w hm) ?_
    repeat (first | refine gs_n tyT_ok 0 ?_ | refine gs_gn tyT_ok 0 rfl ?_ | refine gs_no rfl ?_ | refine gs_end ?_ | refine gs_end' ?_ | refine gw_seq ?_ | refine gw_text rfl ?_ | refine gw_skip ?_ | refine gw_yes rfl ?_ | refine gw_no rfl ?_ | refine gw_exit ?_ | refine gw_block ?_ | refine gw_label ?_ | (refine gs_n tyT_ok 0 ?_ (hp := ?hp); case hp => exact ⟨by decide, by decide⟩))
    exact gw_ret ⟨_, _, [], [0], .tmp .nil, ⟨rfl, rfl, rfl⟩, rfl, rfl, by decide⟩
theorem number_t {z : Nat} (hs : s.size ≤ 1000000000000) (h1 : 1 ≤ z) (h2 : z ≤ 4) (h : p + z ≤ s.size) : Wr Try.prog 70 [ptr g, .int .i64 z] [(g, sc s p false)] [(g, sc s (p + z) false)] (.int .i64 (fld s p z false z)) := by
  refine trip_of Try.func70 rfl (by simp [Try.ntmps70]) ?_
  repeat (first | refine gs_n tyT_ok 0 ?_ | refine gs_gn tyT_ok 0 rfl ?_ | refine gs_no rfl ?_ | refine gs_end ?_ | refine gs_end' ?_ | refine gw_seq ?_ | refine gw_text rfl ?_ | refine gw_skip ?_ | refine gw_yes rfl ?_ | refine gw_no rfl ?_ | refine gw_exit ?_ | refine gw_block ?_ | refine gw_label ?_ | (refine gs_n tyT_ok 0 ?_ (hp := ?hp); case hp => exact ⟨by decide, by decide⟩))
  refine gs_wr [0] ent71 rfl (by decide) (take_t hs h) rfl ?_
  repeat (first | refine gs_n tyT_ok 0 ?_ | refine gs_gn tyT_ok 0 rfl ?_ | refine gs_no rfl ?_ | refine gs_end ?_ | refine gs_end' ?_ | refine gw_seq ?_ | refine gw_text rfl ?_ | refine gw_skip ?_ | refine gw_yes rfl ?_ | refine gw_no rfl ?_ | refine gw_exit ?_ | refine gw_block ?_ | refine gw_label ?_ | (refine gs_n tyT_ok 0 ?_ (hp := ?hp); case hp => exact ⟨by decide, by decide⟩))
  refine gs_pu ent25 (numGet_w _ 0 z false) ?_
  rw [show numGet (s.extract p (p + z)) 0 z false = _ from numGet_at (p := 0) h1 h2 (by rw [size_extract h]; omega) (by rw [size_extract h]; omega), fld_extract h]
  repeat (first | refine gs_n tyT_ok 0 ?_ | refine gs_gn tyT_ok 0 rfl ?_ | refine gs_no rfl ?_ | refine gs_end ?_ | refine gs_end' ?_ | refine gw_seq ?_ | refine gw_text rfl ?_ | refine gw_skip ?_ | refine gw_yes rfl ?_ | refine gw_no rfl ?_ | refine gw_exit ?_ | refine gw_block ?_ | refine gw_label ?_ | (refine gs_n tyT_ok 0 ?_ (hp := ?hp); case hp => exact ⟨by decide, by decide⟩))
  exact gw_ret ⟨_, _, [], [0], .tmp .nil, ⟨rfl, rfl, rfl⟩, rfl, rfl, by decide⟩
theorem number_f {z : Nat} (hs : s.size ≤ 1000000000000) (hp : p ≤ s.size) (h1 : 1 ≤ z) (h2 : z ≤ 4) (h : bad = true ∨ s.size < p + z) : Wr Try.prog 70 [ptr g, .int .i64 z] [(g, sc s p bad)] [(g, sc s p true)] (.int .i64 0) := by
  refine trip_of Try.func70 rfl (by simp [Try.ntmps70]) ?_
  repeat (first | refine gs_n tyT_ok 0 ?_ | refine gs_gn tyT_ok 0 rfl ?_ | refine gs_no rfl ?_ | refine gs_end ?_ | refine gs_end' ?_ | refine gw_seq ?_ | refine gw_text rfl ?_ | refine gw_skip ?_ | refine gw_yes rfl ?_ | refine gw_no rfl ?_ | refine gw_exit ?_ | refine gw_block ?_ | refine gw_label ?_ | (refine gs_n tyT_ok 0 ?_ (hp := ?hp); case hp => exact ⟨by decide, by decide⟩))
  refine gs_wr [0] ent71 rfl (by decide) (take_f hs hp (by omega) h) rfl ?_
  repeat (first | refine gs_n tyT_ok 0 ?_ | refine gs_gn tyT_ok 0 rfl ?_ | refine gs_no rfl ?_ | refine gs_end ?_ | refine gs_end' ?_ | refine gw_seq ?_ | refine gw_text rfl ?_ | refine gw_skip ?_ | refine gw_yes rfl ?_ | refine gw_no rfl ?_ | refine gw_exit ?_ | refine gw_block ?_ | refine gw_label ?_ | (refine gs_n tyT_ok 0 ?_ (hp := ?hp); case hp => exact ⟨by decide, by decide⟩))
  refine gs_pu ent25 (numGet_w _ 0 z false) ?_
  rw [show numGet (zeros z) 0 z false = _ from numGet_at (p := 0) h1 h2 (by rw [zeros_size]; omega) (by rw [zeros_size]; omega), zeros_fld]
  repeat (first | refine gs_n tyT_ok 0 ?_ | refine gs_gn tyT_ok 0 rfl ?_ | refine gs_no rfl ?_ | refine gs_end ?_ | refine gs_end' ?_ | refine gw_seq ?_ | refine gw_text rfl ?_ | refine gw_skip ?_ | refine gw_yes rfl ?_ | refine gw_no rfl ?_ | refine gw_exit ?_ | refine gw_block ?_ | refine gw_label ?_ | (refine gs_n tyT_ok 0 ?_ (hp := ?hp); case hp => exact ⟨by decide, by decide⟩))
  exact gw_ret ⟨_, _, [], [0], .tmp .nil, ⟨rfl, rfl, rfl⟩, rfl, rfl, by decide⟩
theorem byte_t (hs : s.size ≤ 1000000000000) (h : p + 1 ≤ s.size) : Wr Try.prog 129 [ptr g] [(g, sc s p false)] [(g, sc s (p + 1) false)] (.int .i64 (byt s p)) := by
  refine trip_of Try.func129 rfl (by simp [Try.ntmps129]) ?_
  repeat (first | refine gs_n tyT_ok 0 ?_ | refine gs_gn tyT_ok 0 rfl ?_ | refine gs_no rfl ?_ | refine gs_end ?_ | refine gs_end' ?_ | refine gw_seq ?_ | refine gw_text rfl ?_ | refine gw_skip ?_ | refine gw_yes rfl ?_ | refine gw_no rfl ?_ | refine gw_exit ?_ | refine gw_block ?_ | refine gw_label ?_ | (refine gs_n tyT_ok 0 ?_ (hp := ?hp); case hp => exact ⟨by decide, by decide⟩))
  refine gs_wr [0] ent71 rfl (by decide) (take_t (m := 1) hs h) rfl ?_
  refine gs_n tyT_ok 0 ?_ (hp := ?hp)
  case hp => exact ⟨by omega, by rw [size_extract h]; omega⟩
  have e : byt (s.extract p (p + 1)) 0 = byt s p := byt_extract (by omega) h
  refine gs_n tyT_ok 0 ?_ (hp := ?hp)
  case hp => exact inr_byte _ _
  repeat (first | refine gs_n tyT_ok 0 ?_ | refine gs_gn tyT_ok 0 rfl ?_ | refine gs_no rfl ?_ | refine gs_end ?_ | refine gs_end' ?_ | refine gw_seq ?_ | refine gw_text rfl ?_ | refine gw_skip ?_ | refine gw_yes rfl ?_ | refine gw_no rfl ?_ | refine gw_exit ?_ | refine gw_block ?_ | refine gw_label ?_ | (refine gs_n tyT_ok 0 ?_ (hp := ?hp); case hp => exact ⟨by decide, by decide⟩))
  exact gw_ret ⟨_, _, [], [0], .tmp .nil, ⟨congrArg (Value.int .i64) e, rfl, rfl⟩, rfl, rfl, by decide⟩
theorem byte_f (hs : s.size ≤ 1000000000000) (hp : p ≤ s.size) (h : bad = true ∨ s.size < p + 1) : Wr Try.prog 129 [ptr g] [(g, sc s p bad)] [(g, sc s p true)] (.int .i64 0) := by
  refine trip_of Try.func129 rfl (by simp [Try.ntmps129]) ?_
  repeat (first | refine gs_n tyT_ok 0 ?_ | refine gs_gn tyT_ok 0 rfl ?_ | refine gs_no rfl ?_ | refine gs_end ?_ | refine gs_end' ?_ | refine gw_seq ?_ | refine gw_text rfl ?_ | refine gw_skip ?_ | refine gw_yes rfl ?_ | refine gw_no rfl ?_ | refine gw_exit ?_ | refine gw_block ?_ | refine gw_label ?_ | (refine gs_n tyT_ok 0 ?_ (hp := ?hp); case hp => exact ⟨by decide, by decide⟩))
  refine gs_wr [0] ent71 rfl (by decide) (take_f (m := 1) hs hp (by omega) h) rfl ?_
  refine gs_n tyT_ok 0 ?_ (hp := ?hp)
  case hp => exact ⟨by omega, by rw [zeros_size]; omega⟩
  have e : byt (zeros 1) 0 = 0 := zeros_byt 1 0
  refine gs_n tyT_ok 0 ?_ (hp := ?hp)
  case hp => exact inr_byte _ _
  repeat (first | refine gs_n tyT_ok 0 ?_ | refine gs_gn tyT_ok 0 rfl ?_ | refine gs_no rfl ?_ | refine gs_end ?_ | refine gs_end' ?_ | refine gw_seq ?_ | refine gw_text rfl ?_ | refine gw_skip ?_ | refine gw_yes rfl ?_ | refine gw_no rfl ?_ | refine gw_exit ?_ | refine gw_block ?_ | refine gw_label ?_ | (refine gs_n tyT_ok 0 ?_ (hp := ?hp); case hp => exact ⟨by decide, by decide⟩))
  exact gw_ret ⟨_, _, [], [0], .tmp .nil, ⟨congrArg (Value.int .i64) e, rfl, rfl⟩, rfl, rfl, by decide⟩
end
end Go.Proofs.Ytjefdcbljpkmlaa.G
