/- DrawTgaPut; the laws' wiInts, wiImage; Rep of a TGA. -/
import Derived.Test.YtdkhjcmhjlbpaaaWz
import Derived.Test.YtdkhjcmhjlbpaaaWv
set_option linter.unusedVariables false
set_option maxRecDepth 10000
namespace Go.Proofs.Ytdkhjcmhjlbpaaa.G
open Go
def DrawnPut (q : Nat × GO) : OutT := fun v F' ns => ∃ k d w h a1 n1 c1 a2 n2 c2 e1 e2 cs ps runs, v = .tuple #[img k d w h (.slice a1 n1 c1) (.slice a2 n2 c2), .bool runs] ∧ F' = [q] ∧ ns = [e1, e2] ∧ LS a1 n1 c1 e1 cs ∧ LS a2 n2 c2 e2 ps ∧ cs.length ≤ 2000 ∧ ps.length ≤ 2000
set_option maxHeartbeats 1000000 in
theorem drawTgaPut_w {a : Option Addr} {n c : Nat} {q : Nat × GO} {zs : List Int} (hb : LB a n c q zs) (hn : n ≤ 1000000000000) : Trip Try.prog 30 [.slice a n c] [q] (DrawnPut q) := by
  refine trip_of Try.func30 rfl (by simp [Try.ntmps30]) ?_
  refine gw_seq (gw_text rfl ?_)
  refine gs_alloc tyT_ok rfl fun b2 => ?_
  repeat (first | refine gs_n tyT_ok 0 ?_ | refine gs_gn tyT_ok 0 rfl ?_ | refine gs_no rfl ?_ | refine gs_end ?_ | refine gs_end' ?_ | refine gw_seq ?_ | refine gw_text rfl ?_ | refine gw_skip ?_ | refine gw_yes rfl ?_ | refine gw_no rfl ?_ | refine gw_exit ?_ | refine gw_block ?_ | refine gw_label ?_ | (refine gs_n tyT_ok 0 ?_ (hp := ?hp); case hp => exact ⟨by decide, by decide⟩))
  refine gs_call [0] ent66 rfl (by decide) (open_w hb hn) fun v F' ns ho _ _ => ?_
  obtain ⟨g, p, rfl, rfl, rfl, hr⟩ := ho
  repeat (first | refine gs_n tyT_ok 0 ?_ | refine gs_gn tyT_ok 0 rfl ?_ | refine gs_no rfl ?_ | refine gs_end ?_ | refine gs_end' ?_ | refine gw_seq ?_ | refine gw_text rfl ?_ | refine gw_skip ?_ | refine gw_yes rfl ?_ | refine gw_no rfl ?_ | refine gw_exit ?_ | refine gw_block ?_ | refine gw_label ?_ | (refine gs_n tyT_ok 0 ?_ (hp := ?hp); case hp => exact ⟨by decide, by decide⟩))
  refine gs_pick 2 0 hr rfl rfl rfl rfl (by decide) (by omega) (by omega) fun x p1 hr1 xa xb => ?_
  by_cases k1 : x = 0
  · (refine gs_t tyT_ok ?hb ?_; case hb => first | exact decide_eq_true (by omega) | exact congrArg Bool.not (decide_eq_false (by omega)) | (simp; done) | (simp; omega))
    repeat (first | refine gs_n tyT_ok 0 ?_ | refine gs_gn tyT_ok 0 rfl ?_ | refine gs_no rfl ?_ | refine gs_end ?_ | refine gs_end' ?_ | refine gw_seq ?_ | refine gw_text rfl ?_ | refine gw_skip ?_ | refine gw_yes rfl ?_ | refine gw_no rfl ?_ | refine gw_exit ?_ | refine gw_block ?_ | refine gw_label ?_ | (refine gs_n tyT_ok 0 ?_ (hp := ?hp); case hp => exact ⟨by decide, by decide⟩))
    refine gs_call [2, 0] ent68 rfl (by decide) (any_w hr1 (by omega)) fun v F' ns ho _ _ => ?_
    obtain ⟨k, d, w, h, a1, n1, c1, a2, n2, c2, e1, e2, cs, ps, p2, rfl, rfl, rfl, i1, i2, i3, i4, hr2⟩ := ho
    repeat (first | refine gs_n tyT_ok 0 ?_ | refine gs_gn tyT_ok 0 rfl ?_ | refine gs_no rfl ?_ | refine gs_end ?_ | refine gs_end' ?_ | refine gw_seq ?_ | refine gw_text rfl ?_ | refine gw_skip ?_ | refine gw_yes rfl ?_ | refine gw_no rfl ?_ | refine gw_exit ?_ | refine gw_block ?_ | refine gw_label ?_ | (refine gs_n tyT_ok 0 ?_ (hp := ?hp); case hp => exact ⟨by decide, by decide⟩))
    refine gs_pick 2 0 hr2 rfl rfl rfl rfl (by decide) (by omega) (by omega) fun y p3 hr3 ya yb => ?_
    refine gs_n tyT_ok 1 ?_
    repeat (first | refine gs_n tyT_ok 0 ?_ | refine gs_gn tyT_ok 0 rfl ?_ | refine gs_no rfl ?_ | refine gs_end ?_ | refine gs_end' ?_ | refine gw_seq ?_ | refine gw_text rfl ?_ | refine gw_skip ?_ | refine gw_yes rfl ?_ | refine gw_no rfl ?_ | refine gw_exit ?_ | refine gw_block ?_ | refine gw_label ?_ | (refine gs_n tyT_ok 0 ?_ (hp := ?hp); case hp => exact ⟨by decide, by decide⟩))
    refine gs_store tyT_ok 1 rfl rfl rfl rfl rfl rfl (Nat.le_of_ble_eq_true rfl) (Nat.le_of_ble_eq_true rfl) ?_
    repeat (first | refine gs_n tyT_ok 0 ?_ | refine gs_gn tyT_ok 0 rfl ?_ | refine gs_no rfl ?_ | refine gs_end ?_ | refine gs_end' ?_ | refine gw_seq ?_ | refine gw_text rfl ?_ | refine gw_skip ?_ | refine gw_yes rfl ?_ | refine gw_no rfl ?_ | refine gw_exit ?_ | refine gw_block ?_ | refine gw_label ?_ | (refine gs_n tyT_ok 0 ?_ (hp := ?hp); case hp => exact ⟨by decide, by decide⟩))
    exact gw_ret ⟨_, [q], [e1, e2], [0, 3, 4], rv_cell tyT_ok 1 rfl rfl rfl rfl rfl (Nat.le_of_ble_eq_true rfl) (.tmp .nil), ⟨k, d, w, h, a1, n1, c1, a2, n2, c2, e1, e2, cs, ps, _, rfl, rfl, rfl, i1, i2, i3, i4⟩, rfl, rfl, by decide⟩
  · (refine gs_f tyT_ok ?hb ?_; case hb => first | exact decide_eq_false (by omega) | exact congrArg Bool.not (decide_eq_true (by omega)) | (simp; done) | (simp; omega))
    repeat (first | refine gs_n tyT_ok 0 ?_ | refine gs_gn tyT_ok 0 rfl ?_ | refine gs_no rfl ?_ | refine gs_end ?_ | refine gs_end' ?_ | refine gw_seq ?_ | refine gw_text rfl ?_ | refine gw_skip ?_ | refine gw_yes rfl ?_ | refine gw_no rfl ?_ | refine gw_exit ?_ | refine gw_block ?_ | refine gw_label ?_ | (refine gs_n tyT_ok 0 ?_ (hp := ?hp); case hp => exact ⟨by decide, by decide⟩))
    refine gs_call [2, 0] ent69 rfl (by decide) (eight_w hr1 (by omega)) fun v F' ns ho _ _ => ?_
    obtain ⟨k, d, w, h, a1, n1, c1, a2, n2, c2, e1, e2, cs, ps, p2, rfl, rfl, rfl, i1, i2, i3, i4, hr2⟩ := ho
    repeat (first | refine gs_n tyT_ok 0 ?_ | refine gs_gn tyT_ok 0 rfl ?_ | refine gs_no rfl ?_ | refine gs_end ?_ | refine gs_end' ?_ | refine gw_seq ?_ | refine gw_text rfl ?_ | refine gw_skip ?_ | refine gw_yes rfl ?_ | refine gw_no rfl ?_ | refine gw_exit ?_ | refine gw_block ?_ | refine gw_label ?_ | (refine gs_n tyT_ok 0 ?_ (hp := ?hp); case hp => exact ⟨by decide, by decide⟩))
    refine gs_pick 2 0 hr2 rfl rfl rfl rfl (by decide) (by omega) (by omega) fun y p3 hr3 ya yb => ?_
    refine gs_n tyT_ok 1 ?_
    repeat (first | refine gs_n tyT_ok 0 ?_ | refine gs_gn tyT_ok 0 rfl ?_ | refine gs_no rfl ?_ | refine gs_end ?_ | refine gs_end' ?_ | refine gw_seq ?_ | refine gw_text rfl ?_ | refine gw_skip ?_ | refine gw_yes rfl ?_ | refine gw_no rfl ?_ | refine gw_exit ?_ | refine gw_block ?_ | refine gw_label ?_ | (refine gs_n tyT_ok 0 ?_ (hp := ?hp); case hp => exact ⟨by decide, by decide⟩))
    refine gs_store tyT_ok 1 rfl rfl rfl rfl rfl rfl (Nat.le_of_ble_eq_true rfl) (Nat.le_of_ble_eq_true rfl) ?_
    repeat (first | refine gs_n tyT_ok 0 ?_ | refine gs_gn tyT_ok 0 rfl ?_ | refine gs_no rfl ?_ | refine gs_end ?_ | refine gs_end' ?_ | refine gw_seq ?_ | refine gw_text rfl ?_ | refine gw_skip ?_ | refine gw_yes rfl ?_ | refine gw_no rfl ?_ | refine gw_exit ?_ | refine gw_block ?_ | refine gw_label ?_ | (refine gs_n tyT_ok 0 ?_ (hp := ?hp); case hp => exact ⟨by decide, by decide⟩))
    exact gw_ret ⟨_, [q], [e1, e2], [0, 3, 4], rv_cell tyT_ok 1 rfl rfl rfl rfl rfl (Nat.le_of_ble_eq_true rfl) (.tmp .nil), ⟨k, d, w, h, a1, n1, c1, a2, n2, c2, e1, e2, cs, ps, _, rfl, rfl, rfl, i1, i2, i3, i4⟩, rfl, rfl, by decide⟩
set_option maxHeartbeats 1000000 in
theorem wiInts_w {a1 a2 : Option Addr} {n1 c1 n2 c2 : Nat} {q1 q2 : Nat × GO} {xs : List Int} (h1 : LS a1 n1 c1 q1 xs) (h2 : LS a2 n2 c2 q2 xs) (hz : xs.length ≤ 1000000000000) :
    Rd Try.prog 73 [.slice a1 n1 c1, .slice a2 n2 c2] [q1, q2] (.bool true) := by
  obtain rfl := h1.1
  obtain rfl := h2.1
  refine trip_of Try.func73 rfl (by simp [Try.ntmps73]) ?_
  repeat (first | refine gs_n tyT_ok 0 ?_ | refine gs_gn tyT_ok 0 rfl ?_ | refine gs_no rfl ?_ | refine gs_end ?_ | refine gs_end' ?_ | refine gw_seq ?_ | refine gw_text rfl ?_ | refine gw_skip ?_ | refine gw_yes rfl ?_ | refine gw_no rfl ?_ | refine gw_exit ?_ | refine gw_block ?_ | refine gw_label ?_ | (refine gs_n tyT_ok 0 ?_ (hp := ?hp); case hp => exact ⟨by decide, by decide⟩))
  (refine gs_f tyT_ok ?hb ?_; case hb => first | exact decide_eq_false (by omega) | exact congrArg Bool.not (decide_eq_true (by omega)) | (simp; done) | (simp; omega))
  repeat (first | refine gs_n tyT_ok 0 ?_ | refine gs_gn tyT_ok 0 rfl ?_ | refine gs_no rfl ?_ | refine gs_end ?_ | refine gs_end' ?_ | refine gw_seq ?_ | refine gw_text rfl ?_ | refine gw_skip ?_ | refine gw_yes rfl ?_ | refine gw_no rfl ?_ | refine gw_exit ?_ | refine gw_block ?_ | refine gw_label ?_ | (refine gs_n tyT_ok 0 ?_ (hp := ?hp); case hp => exact ⟨by decide, by decide⟩))
  refine gw_loopL (fun _ (i : Nat) => [(0, .slice a1 xs.length c1), (1, .slice a2 xs.length c2), (5, .int .i64 i)]) (fun _ _ => [q1, q2]) (fun m i => i + m = xs.length) xs.length 0 (by omega) rfl ⟨rfl, rfl, rfl, trivial⟩ fun m i e hm => ?_
  repeat (first | refine gs_n tyT_ok 0 ?_ | refine gs_gn tyT_ok 0 rfl ?_ | refine gs_no rfl ?_ | refine gs_end ?_ | refine gs_end' ?_ | refine gw_seq ?_ | refine gw_text rfl ?_ | refine gw_skip ?_ | refine gw_yes rfl ?_ | refine gw_no rfl ?_ | refine gw_exit ?_ | refine gw_block ?_ | refine gw_label ?_ | (refine gs_n tyT_ok 0 ?_ (hp := ?hp); case hp => exact ⟨by decide, by decide⟩))
  by_cases g : i < xs.length
  · (refine gs_t tyT_ok ?hb ?_; case hb => first | exact decide_eq_true (by omega) | exact congrArg Bool.not (decide_eq_false (by omega)) | (simp; done) | (simp; omega))
    obtain ⟨o1, rfl, ho1⟩ := h1.at g
    obtain ⟨o2, rfl, ho2⟩ := h2.at g
    repeat (first | refine gs_n tyT_ok 0 ?_ | refine gs_gn tyT_ok 0 rfl ?_ | refine gs_no rfl ?_ | refine gs_end ?_ | refine gs_end' ?_ | refine gw_seq ?_ | refine gw_text rfl ?_ | refine gw_skip ?_ | refine gw_yes rfl ?_ | refine gw_no rfl ?_ | refine gw_exit ?_ | refine gw_block ?_ | refine gw_label ?_ | (refine gs_n tyT_ok 0 ?_ (hp := ?hp); case hp => exact ⟨by decide, by decide⟩))
    refine gw_any [.N, .N, .N, .L 0, .N, .N, .N, .L 1, .N] rfl rfl rfl ?_
    repeat (first | refine gs_n tyT_ok 0 ?_ | refine gs_gn tyT_ok 0 rfl ?_ | refine gs_no rfl ?_)
    refine gs_at 0 tyT_ok rfl rfl rfl rfl ho1 ?_
    repeat (first | refine gs_n tyT_ok 0 ?_ | refine gs_gn tyT_ok 0 rfl ?_ | refine gs_no rfl ?_)
    refine gs_at 1 tyT_ok rfl rfl rfl rfl ho2 ?_
    refine gs_f tyT_ok ?hb ?_
    case hb =>
      show (!decide (xs.getD i 0 = xs.getD i 0)) = false
      simp
    repeat (first | refine gs_n tyT_ok 0 ?_ | refine gs_gn tyT_ok 0 rfl ?_ | refine gs_no rfl ?_ | refine gs_end ?_ | refine gs_end' ?_ | refine gw_seq ?_ | refine gw_text rfl ?_ | refine gw_skip ?_ | refine gw_yes rfl ?_ | refine gw_no rfl ?_ | refine gw_exit ?_ | refine gw_block ?_ | refine gw_label ?_ | (refine gs_n tyT_ok 0 ?_ (hp := ?hp); case hp => exact ⟨by decide, by decide⟩))
    exact ⟨m - 1, by omega, i + 1, by omega, rfl, rfl, rfl, rfl, trivial⟩
  · (refine gs_f tyT_ok ?hb ?_; case hb => first | exact decide_eq_false (by omega) | exact congrArg Bool.not (decide_eq_true (by omega)) | (simp; done) | (simp; omega))
    repeat (first | refine gs_n tyT_ok 0 ?_ | refine gs_gn tyT_ok 0 rfl ?_ | refine gs_no rfl ?_ | refine gs_end ?_ | refine gs_end' ?_ | refine gw_seq ?_ | refine gw_text rfl ?_ | refine gw_skip ?_ | refine gw_yes rfl ?_ | refine gw_no rfl ?_ | refine gw_exit ?_ | refine gw_block ?_ | refine gw_label ?_ | (refine gs_n tyT_ok 0 ?_ (hp := ?hp); case hp => exact ⟨by decide, by decide⟩))
    exact gw_ret ⟨_, _, [], [0, 1], .tmp .nil, ⟨rfl, rfl, rfl⟩, rfl, rfl, by decide⟩
set_option maxHeartbeats 1000000 in
theorem wiImage_w {k d w h : Int} {a1 a2 a3 a4 : Option Addr} {n1 c1 n2 c2 n3 c3 n4 c4 : Nat} {q1 q2 q3 q4 : Nat × GO} {cs ps : List Int} (h1 : LS a1 n1 c1 q1 cs) (h2 : LS a2 n2 c2 q2 ps) (h3 : LS a3 n3 c3 q3 cs) (h4 : LS a4 n4 c4 q4 ps) (z1 : cs.length ≤ 1000000000000) (z2 : ps.length ≤ 1000000000000) :
    Rd Try.prog 24 [img k d w h (.slice a1 n1 c1) (.slice a2 n2 c2), img k d w h (.slice a3 n3 c3) (.slice a4 n4 c4)] [q1, q2, q3, q4] (.bool true) := by
  have ek : ∀ x : Int, (decide (x = x)) = true := by simp
  refine trip_of Try.func24 rfl (by simp [Try.ntmps24]) ?_
  refine gw_seq (gw_text rfl ?_)
  refine gs_box fun b1 => ?_
  refine gs_box fun b2 => ?_
  repeat (first | refine gs_n tyT_ok 0 ?_ | refine gs_gn tyT_ok 0 rfl ?_ | refine gs_no rfl ?_ | refine gs_l tyT_ok 4 ?_ | refine gs_gl tyT_ok 4 rfl ?_ | (refine gs_l tyT_ok 4 ?_ (hp := ?hp); case hp => exact ⟨rfl, Nat.le_of_ble_eq_true rfl⟩) | (refine gs_gl tyT_ok 4 rfl ?_ (hp := ?hp); case hp => exact ⟨rfl, Nat.le_of_ble_eq_true rfl⟩) | refine gs_l tyT_ok 5 ?_ | refine gs_gl tyT_ok 5 rfl ?_ | (refine gs_l tyT_ok 5 ?_ (hp := ?hp); case hp => exact ⟨rfl, Nat.le_of_ble_eq_true rfl⟩) | (refine gs_gl tyT_ok 5 rfl ?_ (hp := ?hp); case hp => exact ⟨rfl, Nat.le_of_ble_eq_true rfl⟩) | refine gs_end ?_ | refine gs_end' ?_ | refine gw_seq ?_ | refine gw_text rfl ?_ | refine gw_skip ?_ | refine gw_yes rfl ?_ | refine gw_no rfl ?_ | refine gw_exit ?_ | refine gw_block ?_ | refine gw_label ?_ | (refine gs_n tyT_ok 0 ?_ (hp := ?hp); case hp => exact ⟨by decide, by decide⟩))
  refine gs_t tyT_ok (ek k) ?_
  repeat (first | refine gs_n tyT_ok 0 ?_ | refine gs_gn tyT_ok 0 rfl ?_ | refine gs_no rfl ?_ | refine gs_l tyT_ok 4 ?_ | refine gs_gl tyT_ok 4 rfl ?_ | (refine gs_l tyT_ok 4 ?_ (hp := ?hp); case hp => exact ⟨rfl, Nat.le_of_ble_eq_true rfl⟩) | (refine gs_gl tyT_ok 4 rfl ?_ (hp := ?hp); case hp => exact ⟨rfl, Nat.le_of_ble_eq_true rfl⟩) | refine gs_l tyT_ok 5 ?_ | refine gs_gl tyT_ok 5 rfl ?_ | (refine gs_l tyT_ok 5 ?_ (hp := ?hp); case hp => exact ⟨rfl, Nat.le_of_ble_eq_true rfl⟩) | (refine gs_gl tyT_ok 5 rfl ?_ (hp := ?hp); case hp => exact ⟨rfl, Nat.le_of_ble_eq_true rfl⟩) | refine gs_end ?_ | refine gs_end' ?_ | refine gw_seq ?_ | refine gw_text rfl ?_ | refine gw_skip ?_ | refine gw_yes rfl ?_ | refine gw_no rfl ?_ | refine gw_exit ?_ | refine gw_block ?_ | refine gw_label ?_ | (refine gs_n tyT_ok 0 ?_ (hp := ?hp); case hp => exact ⟨by decide, by decide⟩))
  refine gs_tg tyT_ok rfl (ek d) ?_
  repeat (first | refine gs_n tyT_ok 0 ?_ | refine gs_gn tyT_ok 0 rfl ?_ | refine gs_no rfl ?_ | refine gs_l tyT_ok 4 ?_ | refine gs_gl tyT_ok 4 rfl ?_ | (refine gs_l tyT_ok 4 ?_ (hp := ?hp); case hp => exact ⟨rfl, Nat.le_of_ble_eq_true rfl⟩) | (refine gs_gl tyT_ok 4 rfl ?_ (hp := ?hp); case hp => exact ⟨rfl, Nat.le_of_ble_eq_true rfl⟩) | refine gs_l tyT_ok 5 ?_ | refine gs_gl tyT_ok 5 rfl ?_ | (refine gs_l tyT_ok 5 ?_ (hp := ?hp); case hp => exact ⟨rfl, Nat.le_of_ble_eq_true rfl⟩) | (refine gs_gl tyT_ok 5 rfl ?_ (hp := ?hp); case hp => exact ⟨rfl, Nat.le_of_ble_eq_true rfl⟩) | refine gs_end ?_ | refine gs_end' ?_ | refine gw_seq ?_ | refine gw_text rfl ?_ | refine gw_skip ?_ | refine gw_yes rfl ?_ | refine gw_no rfl ?_ | refine gw_exit ?_ | refine gw_block ?_ | refine gw_label ?_ | (refine gs_n tyT_ok 0 ?_ (hp := ?hp); case hp => exact ⟨by decide, by decide⟩))
  refine gs_tg tyT_ok rfl (ek w) ?_
  repeat (first | refine gs_n tyT_ok 0 ?_ | refine gs_gn tyT_ok 0 rfl ?_ | refine gs_no rfl ?_ | refine gs_l tyT_ok 4 ?_ | refine gs_gl tyT_ok 4 rfl ?_ | (refine gs_l tyT_ok 4 ?_ (hp := ?hp); case hp => exact ⟨rfl, Nat.le_of_ble_eq_true rfl⟩) | (refine gs_gl tyT_ok 4 rfl ?_ (hp := ?hp); case hp => exact ⟨rfl, Nat.le_of_ble_eq_true rfl⟩) | refine gs_l tyT_ok 5 ?_ | refine gs_gl tyT_ok 5 rfl ?_ | (refine gs_l tyT_ok 5 ?_ (hp := ?hp); case hp => exact ⟨rfl, Nat.le_of_ble_eq_true rfl⟩) | (refine gs_gl tyT_ok 5 rfl ?_ (hp := ?hp); case hp => exact ⟨rfl, Nat.le_of_ble_eq_true rfl⟩) | refine gs_end ?_ | refine gs_end' ?_ | refine gw_seq ?_ | refine gw_text rfl ?_ | refine gw_skip ?_ | refine gw_yes rfl ?_ | refine gw_no rfl ?_ | refine gw_exit ?_ | refine gw_block ?_ | refine gw_label ?_ | (refine gs_n tyT_ok 0 ?_ (hp := ?hp); case hp => exact ⟨by decide, by decide⟩))
  refine gs_tg tyT_ok rfl (ek h) ?_
  repeat (first | refine gs_n tyT_ok 0 ?_ | refine gs_gn tyT_ok 0 rfl ?_ | refine gs_no rfl ?_ | refine gs_l tyT_ok 4 ?_ | refine gs_gl tyT_ok 4 rfl ?_ | (refine gs_l tyT_ok 4 ?_ (hp := ?hp); case hp => exact ⟨rfl, Nat.le_of_ble_eq_true rfl⟩) | (refine gs_gl tyT_ok 4 rfl ?_ (hp := ?hp); case hp => exact ⟨rfl, Nat.le_of_ble_eq_true rfl⟩) | refine gs_l tyT_ok 5 ?_ | refine gs_gl tyT_ok 5 rfl ?_ | (refine gs_l tyT_ok 5 ?_ (hp := ?hp); case hp => exact ⟨rfl, Nat.le_of_ble_eq_true rfl⟩) | (refine gs_gl tyT_ok 5 rfl ?_ (hp := ?hp); case hp => exact ⟨rfl, Nat.le_of_ble_eq_true rfl⟩) | refine gs_end ?_ | refine gs_end' ?_ | refine gw_seq ?_ | refine gw_text rfl ?_ | refine gw_skip ?_ | refine gw_yes rfl ?_ | refine gw_no rfl ?_ | refine gw_exit ?_ | refine gw_block ?_ | refine gw_label ?_ | (refine gs_n tyT_ok 0 ?_ (hp := ?hp); case hp => exact ⟨by decide, by decide⟩))
  refine gs_rdg [0, 2] ent73 rfl rfl (by decide) (wiInts_w h1 h3 z1) ?_
  repeat (first | refine gs_n tyT_ok 0 ?_ | refine gs_gn tyT_ok 0 rfl ?_ | refine gs_no rfl ?_ | refine gs_l tyT_ok 4 ?_ | refine gs_gl tyT_ok 4 rfl ?_ | (refine gs_l tyT_ok 4 ?_ (hp := ?hp); case hp => exact ⟨rfl, Nat.le_of_ble_eq_true rfl⟩) | (refine gs_gl tyT_ok 4 rfl ?_ (hp := ?hp); case hp => exact ⟨rfl, Nat.le_of_ble_eq_true rfl⟩) | refine gs_l tyT_ok 5 ?_ | refine gs_gl tyT_ok 5 rfl ?_ | (refine gs_l tyT_ok 5 ?_ (hp := ?hp); case hp => exact ⟨rfl, Nat.le_of_ble_eq_true rfl⟩) | (refine gs_gl tyT_ok 5 rfl ?_ (hp := ?hp); case hp => exact ⟨rfl, Nat.le_of_ble_eq_true rfl⟩) | refine gs_end ?_ | refine gs_end' ?_ | refine gw_seq ?_ | refine gw_text rfl ?_ | refine gw_skip ?_ | refine gw_yes rfl ?_ | refine gw_no rfl ?_ | refine gw_exit ?_ | refine gw_block ?_ | refine gw_label ?_ | (refine gs_n tyT_ok 0 ?_ (hp := ?hp); case hp => exact ⟨by decide, by decide⟩))
  refine gs_rdg [1, 3] ent73 rfl rfl (by decide) (wiInts_w h2 h4 z2) ?_
  repeat (first | refine gs_n tyT_ok 0 ?_ | refine gs_gn tyT_ok 0 rfl ?_ | refine gs_no rfl ?_ | refine gs_end ?_ | refine gs_end' ?_ | refine gw_seq ?_ | refine gw_text rfl ?_ | refine gw_skip ?_ | refine gw_yes rfl ?_ | refine gw_no rfl ?_ | refine gw_exit ?_ | refine gw_block ?_ | refine gw_label ?_ | (refine gs_n tyT_ok 0 ?_ (hp := ?hp); case hp => exact ⟨by decide, by decide⟩))
  exact gw_ret ⟨_, _, [], [0, 1, 2, 3], .tmp .nil, ⟨rfl, rfl, rfl⟩, rfl, rfl, by decide⟩
set_option maxHeartbeats 1000000 in
theorem repTga_w {k d w h : Int} {a1 a2 : Option Addr} {n1 c1 n2 c2 : Nat} {q1 q2 : Nat × GO} {cs ps : List Int} (h1 : LS a1 n1 c1 q1 cs) (h2 : LS a2 n2 c2 q2 ps) (z1 : cs.length ≤ 1000000) (z2 : ps.length ≤ 1000000) :
    Rd Try.prog 27 [.int .i64 4, img k d w h (.slice a1 n1 c1) (.slice a2 n2 c2)] [q1, q2] (.bool (decide (imgOk k d w h cs ps ∧ tT k d ≠ 0))) := by
  obtain rfl := h1.1
  obtain rfl := h2.1
  refine trip_of Try.func27 rfl (by simp [Try.ntmps27]) ?_
  refine gw_seq (gw_text rfl ?_)
  refine gs_box fun b => ?_
  repeat (first | refine gs_n tyT_ok 0 ?_ | refine gs_gn tyT_ok 0 rfl ?_ | refine gs_no rfl ?_ | refine gs_l tyT_ok 2 ?_ | refine gs_gl tyT_ok 2 rfl ?_ | (refine gs_l tyT_ok 2 ?_ (hp := ?hp); case hp => exact ⟨rfl, Nat.le_of_ble_eq_true rfl⟩) | (refine gs_gl tyT_ok 2 rfl ?_ (hp := ?hp); case hp => exact ⟨rfl, Nat.le_of_ble_eq_true rfl⟩) | refine gs_end ?_ | refine gs_end' ?_ | refine gw_seq ?_ | refine gw_text rfl ?_ | refine gw_skip ?_ | refine gw_yes rfl ?_ | refine gw_no rfl ?_ | refine gw_exit ?_ | refine gw_block ?_ | refine gw_label ?_ | (refine gs_n tyT_ok 0 ?_ (hp := ?hp); case hp => exact ⟨by decide, by decide⟩))
  refine gs_rd [0, 1] ent63 rfl (by decide) (imageOk_w h1 h2 (by omega) (by omega)) ?_
  by_cases hok : imgOk k d w h cs ps
  case neg =>
    rw [decide_eq_false hok, decide_eq_false fun h => hok h.1]
    repeat (first | refine gs_n tyT_ok 0 ?_ | refine gs_gn tyT_ok 0 rfl ?_ | refine gs_no rfl ?_ | refine gs_end ?_ | refine gs_end' ?_ | refine gw_seq ?_ | refine gw_text rfl ?_ | refine gw_skip ?_ | refine gw_yes rfl ?_ | refine gw_no rfl ?_ | refine gw_exit ?_ | refine gw_block ?_ | refine gw_label ?_ | (refine gs_n tyT_ok 0 ?_ (hp := ?hp); case hp => exact ⟨by decide, by decide⟩))
    exact gw_ret ⟨_, _, [], [0, 1], .tmp .nil, ⟨rfl, rfl, rfl⟩, rfl, rfl, by decide⟩
  rw [decide_eq_true hok]
  repeat (first | refine gs_n tyT_ok 0 ?_ | refine gs_gn tyT_ok 0 rfl ?_ | refine gs_no rfl ?_ | refine gs_l tyT_ok 2 ?_ | refine gs_gl tyT_ok 2 rfl ?_ | (refine gs_l tyT_ok 2 ?_ (hp := ?hp); case hp => exact ⟨rfl, Nat.le_of_ble_eq_true rfl⟩) | (refine gs_gl tyT_ok 2 rfl ?_ (hp := ?hp); case hp => exact ⟨rfl, Nat.le_of_ble_eq_true rfl⟩) | refine gs_end ?_ | refine gs_end' ?_ | refine gw_seq ?_ | refine gw_text rfl ?_ | refine gw_skip ?_ | refine gw_yes rfl ?_ | refine gw_no rfl ?_ | refine gw_exit ?_ | refine gw_block ?_ | refine gw_label ?_ | (refine gs_n tyT_ok 0 ?_ (hp := ?hp); case hp => exact ⟨by decide, by decide⟩) | (refine gs_tg tyT_ok rfl ?hb ?_; case hb => first | exact decide_eq_true (by omega) | exact congrArg Bool.not (decide_eq_false (by omega)) | (simp; done) | (simp; omega)) | (refine gs_fg tyT_ok rfl ?hb ?_; case hb => first | exact decide_eq_false (by omega) | exact congrArg Bool.not (decide_eq_true (by omega)) | (simp; done) | (simp; omega)) | (refine gs_t tyT_ok ?hb ?_; case hb => first | exact decide_eq_true (by omega) | exact congrArg Bool.not (decide_eq_false (by omega)) | (simp; done) | (simp; omega)) | (refine gs_f tyT_ok ?hb ?_; case hb => first | exact decide_eq_false (by omega) | exact congrArg Bool.not (decide_eq_true (by omega)) | (simp; done) | (simp; omega)))
  refine gs_pu ent78 tgaType_w ?_
  have hT := tT_eq k d
  by_cases k1 : tT k d = 0
  · rw [decide_eq_false fun h => h.2 k1]
    (refine gs_f tyT_ok ?hb ?_; case hb => first | exact decide_eq_false (by omega) | exact congrArg Bool.not (decide_eq_true (by omega)) | (simp; done) | (simp; omega))
    repeat (first | refine gs_n tyT_ok 0 ?_ | refine gs_gn tyT_ok 0 rfl ?_ | refine gs_no rfl ?_ | refine gs_end ?_ | refine gs_end' ?_ | refine gw_seq ?_ | refine gw_text rfl ?_ | refine gw_skip ?_ | refine gw_yes rfl ?_ | refine gw_no rfl ?_ | refine gw_exit ?_ | refine gw_block ?_ | refine gw_label ?_ | (refine gs_n tyT_ok 0 ?_ (hp := ?hp); case hp => exact ⟨by decide, by decide⟩))
    exact gw_ret ⟨_, _, [], [0, 1], .tmp .nil, ⟨rfl, rfl, rfl⟩, rfl, rfl, by decide⟩
  · rw [decide_eq_true ⟨hok, k1⟩]
    (refine gs_t tyT_ok ?hb ?_; case hb => first | exact decide_eq_true (by omega) | exact congrArg Bool.not (decide_eq_false (by omega)) | (simp; done) | (simp; omega))
    repeat (first | refine gs_n tyT_ok 0 ?_ | refine gs_gn tyT_ok 0 rfl ?_ | refine gs_no rfl ?_ | refine gs_end ?_ | refine gs_end' ?_ | refine gw_seq ?_ | refine gw_text rfl ?_ | refine gw_skip ?_ | refine gw_yes rfl ?_ | refine gw_no rfl ?_ | refine gw_exit ?_ | refine gw_block ?_ | refine gw_label ?_ | (refine gs_n tyT_ok 0 ?_ (hp := ?hp); case hp => exact ⟨by decide, by decide⟩))
    exact gw_ret ⟨_, _, [], [0, 1], .tmp .nil, ⟨rfl, rfl, rfl⟩, rfl, rfl, by decide⟩
set_option maxHeartbeats 1000000 in
theorem sRepTga_w {k d w h : Int} {a1 a2 : Option Addr} {n1 c1 n2 c2 : Nat} {q1 q2 : Nat × GO} {cs ps : List Int} (h1 : LS a1 n1 c1 q1 cs) (h2 : LS a2 n2 c2 q2 ps) (z1 : cs.length ≤ 1000000) (z2 : ps.length ≤ 1000000) :
    Rd Try.prog 22 [.int .i64 4, img k d w h (.slice a1 n1 c1) (.slice a2 n2 c2)] [q1, q2] (.bool (decide (imgOk k d w h cs ps ∧ tT k d ≠ 0))) := by
  obtain rfl := h1.1
  obtain rfl := h2.1
  refine trip_of Try.func22 rfl (by simp [Try.ntmps22]) ?_
  refine gw_seq (gw_text rfl ?_)
  refine gs_box fun b => ?_
  repeat (first | refine gs_n tyT_ok 0 ?_ | refine gs_gn tyT_ok 0 rfl ?_ | refine gs_no rfl ?_ | refine gs_l tyT_ok 2 ?_ | refine gs_gl tyT_ok 2 rfl ?_ | (refine gs_l tyT_ok 2 ?_ (hp := ?hp); case hp => exact ⟨rfl, Nat.le_of_ble_eq_true rfl⟩) | (refine gs_gl tyT_ok 2 rfl ?_ (hp := ?hp); case hp => exact ⟨rfl, Nat.le_of_ble_eq_true rfl⟩) | refine gs_end ?_ | refine gs_end' ?_ | refine gw_seq ?_ | refine gw_text rfl ?_ | refine gw_skip ?_ | refine gw_yes rfl ?_ | refine gw_no rfl ?_ | refine gw_exit ?_ | refine gw_block ?_ | refine gw_label ?_ | (refine gs_n tyT_ok 0 ?_ (hp := ?hp); case hp => exact ⟨by decide, by decide⟩))
  refine gs_rd [0, 1] ent38 rfl (by decide) (sImageOk_w h1 h2 (by omega) (by omega)) ?_
  by_cases hok : imgOk k d w h cs ps
  case neg =>
    rw [decide_eq_false hok, decide_eq_false fun h => hok h.1]
    repeat (first | refine gs_n tyT_ok 0 ?_ | refine gs_gn tyT_ok 0 rfl ?_ | refine gs_no rfl ?_ | refine gs_end ?_ | refine gs_end' ?_ | refine gw_seq ?_ | refine gw_text rfl ?_ | refine gw_skip ?_ | refine gw_yes rfl ?_ | refine gw_no rfl ?_ | refine gw_exit ?_ | refine gw_block ?_ | refine gw_label ?_ | (refine gs_n tyT_ok 0 ?_ (hp := ?hp); case hp => exact ⟨by decide, by decide⟩))
    exact gw_ret ⟨_, _, [], [0, 1], .tmp .nil, ⟨rfl, rfl, rfl⟩, rfl, rfl, by decide⟩
  rw [decide_eq_true hok]
  repeat (first | refine gs_n tyT_ok 0 ?_ | refine gs_gn tyT_ok 0 rfl ?_ | refine gs_no rfl ?_ | refine gs_l tyT_ok 2 ?_ | refine gs_gl tyT_ok 2 rfl ?_ | (refine gs_l tyT_ok 2 ?_ (hp := ?hp); case hp => exact ⟨rfl, Nat.le_of_ble_eq_true rfl⟩) | (refine gs_gl tyT_ok 2 rfl ?_ (hp := ?hp); case hp => exact ⟨rfl, Nat.le_of_ble_eq_true rfl⟩) | refine gs_end ?_ | refine gs_end' ?_ | refine gw_seq ?_ | refine gw_text rfl ?_ | refine gw_skip ?_ | refine gw_yes rfl ?_ | refine gw_no rfl ?_ | refine gw_exit ?_ | refine gw_block ?_ | refine gw_label ?_ | (refine gs_n tyT_ok 0 ?_ (hp := ?hp); case hp => exact ⟨by decide, by decide⟩) | (refine gs_tg tyT_ok rfl ?hb ?_; case hb => first | exact decide_eq_true (by omega) | exact congrArg Bool.not (decide_eq_false (by omega)) | (simp; done) | (simp; omega)) | (refine gs_fg tyT_ok rfl ?hb ?_; case hb => first | exact decide_eq_false (by omega) | exact congrArg Bool.not (decide_eq_true (by omega)) | (simp; done) | (simp; omega)) | (refine gs_t tyT_ok ?hb ?_; case hb => first | exact decide_eq_true (by omega) | exact congrArg Bool.not (decide_eq_false (by omega)) | (simp; done) | (simp; omega)) | (refine gs_f tyT_ok ?hb ?_; case hb => first | exact decide_eq_false (by omega) | exact congrArg Bool.not (decide_eq_true (by omega)) | (simp; done) | (simp; omega)))
  refine gs_pu ent71 l11Tga_w ?_
  have hT := tT_eq k d
  by_cases k1 : tT k d = 0
  · rw [decide_eq_false fun h => h.2 k1]
    (refine gs_f tyT_ok ?hb ?_; case hb => first | exact decide_eq_false (by omega) | exact congrArg Bool.not (decide_eq_true (by omega)) | (simp; done) | (simp; omega))
    repeat (first | refine gs_n tyT_ok 0 ?_ | refine gs_gn tyT_ok 0 rfl ?_ | refine gs_no rfl ?_ | refine gs_end ?_ | refine gs_end' ?_ | refine gw_seq ?_ | refine gw_text rfl ?_ | refine gw_skip ?_ | refine gw_yes rfl ?_ | refine gw_no rfl ?_ | refine gw_exit ?_ | refine gw_block ?_ | refine gw_label ?_ | (refine gs_n tyT_ok 0 ?_ (hp := ?hp); case hp => exact ⟨by decide, by decide⟩))
    exact gw_ret ⟨_, _, [], [0, 1], .tmp .nil, ⟨rfl, rfl, rfl⟩, rfl, rfl, by decide⟩
  · rw [decide_eq_true ⟨hok, k1⟩]
    (refine gs_t tyT_ok ?hb ?_; case hb => first | exact decide_eq_true (by omega) | exact congrArg Bool.not (decide_eq_false (by omega)) | (simp; done) | (simp; omega))
    repeat (first | refine gs_n tyT_ok 0 ?_ | refine gs_gn tyT_ok 0 rfl ?_ | refine gs_no rfl ?_ | refine gs_end ?_ | refine gs_end' ?_ | refine gw_seq ?_ | refine gw_text rfl ?_ | refine gw_skip ?_ | refine gw_yes rfl ?_ | refine gw_no rfl ?_ | refine gw_exit ?_ | refine gw_block ?_ | refine gw_label ?_ | (refine gs_n tyT_ok 0 ?_ (hp := ?hp); case hp => exact ⟨by decide, by decide⟩))
    exact gw_ret ⟨_, _, [], [0, 1], .tmp .nil, ⟨rfl, rfl, rfl⟩, rfl, rfl, by decide⟩
end Go.Proofs.Ytdkhjcmhjlbpaaa.G
