/- impl: same, cut, RunPut. -/
import Derived.Test.YtdkhjcmhjlbpaaaMi
set_option linter.unusedVariables false
set_option maxRecDepth 10000
namespace Go.Proofs.Ytdkhjcmhjlbpaaa.G
open Go
set_option maxHeartbeats 1000000 in
theorem same_w {a1 : Option Addr} {n1 c1 : Nat} {q1 : Nat × GO} {l : List Int} {a : Nat} (h1 : LS a1 n1 c1 q1 l) (hl : l.length ≤ 1000000) (ha : a < l.length) :
    Rd Try.prog 113 [.slice a1 n1 c1, .int .i64 a] [q1] (.int .i64 (sm l a)) := by
  obtain rfl := h1.1
  obtain ⟨o, rfl, ho⟩ := h1.at ha
  refine trip_of Try.func113 rfl (by simp [Try.ntmps113]) ?_
  repeat (first | refine gs_n tyT_ok 0 ?_ | refine gs_gn tyT_ok 0 rfl ?_ | refine gs_no rfl ?_ | refine gs_end ?_ | refine gs_end' ?_ | refine gw_seq ?_ | refine gw_text rfl ?_ | refine gw_skip ?_ | refine gw_yes rfl ?_ | refine gw_no rfl ?_ | refine gw_exit ?_ | refine gw_block ?_ | refine gw_label ?_ | (refine gs_n tyT_ok 0 ?_ (hp := ?hp); case hp => exact ⟨by decide, by decide⟩))
  refine gw_loopL (fun _ (n : Nat) => [(0, .slice (some ⟨q1.1, o, none⟩) l.length c1), (1, .int .i64 a), (5, .int .i64 n)]) (fun _ _ => [q1]) (fun m n => eqF l a (l.length + 1) m n = sm l a ∧ n ≤ l.length ∧ l.length ≤ n + m) l.length 1 ⟨rfl, by omega, by omega⟩ rfl ⟨rfl, rfl, rfl, trivial⟩ fun m n e ⟨hm, hn, hnm⟩ => ?_
  refine gw_seq (gw_seq ?_)
  by_cases g : a + n < l.length
  case neg =>
    have hs : sm l a = n := by rw [← hm, eqF_stop (by omega)]
    rw [hs]
    refine gw_any [.N, .N, .N, .N, .N, .N, .N, .N, .N, .N, .N, .N, .N, .N, .N, .N, .N, .N, .N] rfl rfl rfl ?_
    repeat (first | refine gs_n tyT_ok 0 ?_ | refine gs_gn tyT_ok 0 rfl ?_ | refine gs_no rfl ?_ | refine gs_end ?_ | refine gs_end' ?_ | refine gw_seq ?_ | refine gw_text rfl ?_ | refine gw_skip ?_ | refine gw_yes rfl ?_ | refine gw_no rfl ?_ | refine gw_exit ?_ | refine gw_block ?_ | refine gw_label ?_ | (refine gs_n tyT_ok 0 ?_ (hp := ?hp); case hp => exact ⟨by decide, by decide⟩) | (refine gs_tg tyT_ok rfl ?hb ?_; case hb => first | exact decide_eq_true (by omega) | exact congrArg Bool.not (decide_eq_false (by omega)) | (simp; done) | (simp; omega)) | (refine gs_fg tyT_ok rfl ?hb ?_; case hb => first | exact decide_eq_false (by omega) | exact congrArg Bool.not (decide_eq_true (by omega)) | (simp; done) | (simp; omega)) | (refine gs_t tyT_ok ?hb ?_; case hb => first | exact decide_eq_true (by omega) | exact congrArg Bool.not (decide_eq_false (by omega)) | (simp; done) | (simp; omega)) | (refine gs_f tyT_ok ?hb ?_; case hb => first | exact decide_eq_false (by omega) | exact congrArg Bool.not (decide_eq_true (by omega)) | (simp; done) | (simp; omega)))
    exact gw_ret ⟨_, _, [], [0], .tmp .nil, ⟨rfl, rfl, rfl⟩, rfl, rfl, by decide⟩
  obtain ⟨o2, he, ho2⟩ := h1.at g
  cases he
  refine gw_any [.N, .N, .N, .N, .N, .N, .N, .N, .N, .N, .N, .N, .L 0, .N, .N, .N, .L 0, .N, .N] rfl rfl rfl ?_
  have ho3 : (cellsG q1.2)[o + ((a : Int) + (n : Int)).toNat * 1]? = some (.int .i64 (l.getD (a + n) 0)) := by rw [show ((a : Int) + (n : Int)).toNat = a + n by omega]; exact ho2
  repeat (first | refine gs_n tyT_ok 0 ?_ | refine gs_gn tyT_ok 0 rfl ?_ | refine gs_no rfl ?_ | refine gs_end ?_ | refine gs_end' ?_ | refine gw_seq ?_ | refine gw_text rfl ?_ | refine gw_skip ?_ | refine gw_yes rfl ?_ | refine gw_no rfl ?_ | refine gw_exit ?_ | refine gw_block ?_ | refine gw_label ?_ | (refine gs_n tyT_ok 0 ?_ (hp := ?hp); case hp => exact ⟨by decide, by decide⟩) | (refine gs_tg tyT_ok rfl ?hb ?_; case hb => first | exact decide_eq_true (by omega) | exact congrArg Bool.not (decide_eq_false (by omega)) | (simp; done) | (simp; omega)) | (refine gs_fg tyT_ok rfl ?hb ?_; case hb => first | exact decide_eq_false (by omega) | exact congrArg Bool.not (decide_eq_true (by omega)) | (simp; done) | (simp; omega)) | (refine gs_t tyT_ok ?hb ?_; case hb => first | exact decide_eq_true (by omega) | exact congrArg Bool.not (decide_eq_false (by omega)) | (simp; done) | (simp; omega)) | (refine gs_f tyT_ok ?hb ?_; case hb => first | exact decide_eq_false (by omega) | exact congrArg Bool.not (decide_eq_true (by omega)) | (simp; done) | (simp; omega)))
  refine gs_atg 0 rfl rfl rfl rfl rfl ho3 ?_
  repeat (first | refine gs_n tyT_ok 0 ?_ | refine gs_gn tyT_ok 0 rfl ?_ | refine gs_no rfl ?_ | refine gs_end ?_ | refine gs_end' ?_ | refine gw_seq ?_ | refine gw_text rfl ?_ | refine gw_skip ?_ | refine gw_yes rfl ?_ | refine gw_no rfl ?_ | refine gw_exit ?_ | refine gw_block ?_ | refine gw_label ?_ | (refine gs_n tyT_ok 0 ?_ (hp := ?hp); case hp => exact ⟨by decide, by decide⟩) | (refine gs_tg tyT_ok rfl ?hb ?_; case hb => first | exact decide_eq_true (by omega) | exact congrArg Bool.not (decide_eq_false (by omega)) | (simp; done) | (simp; omega)) | (refine gs_fg tyT_ok rfl ?hb ?_; case hb => first | exact decide_eq_false (by omega) | exact congrArg Bool.not (decide_eq_true (by omega)) | (simp; done) | (simp; omega)) | (refine gs_t tyT_ok ?hb ?_; case hb => first | exact decide_eq_true (by omega) | exact congrArg Bool.not (decide_eq_false (by omega)) | (simp; done) | (simp; omega)) | (refine gs_f tyT_ok ?hb ?_; case hb => first | exact decide_eq_false (by omega) | exact congrArg Bool.not (decide_eq_true (by omega)) | (simp; done) | (simp; omega)))
  refine gs_atg 0 rfl rfl rfl rfl rfl ho ?_
  by_cases g2 : l.getD (a + n) 0 = l.getD a 0
  · refine gs_tg tyT_ok rfl (decide_eq_true g2) ?_
    repeat (first | refine gs_n tyT_ok 0 ?_ | refine gs_gn tyT_ok 0 rfl ?_ | refine gs_no rfl ?_ | refine gs_end ?_ | refine gs_end' ?_ | refine gw_seq ?_ | refine gw_text rfl ?_ | refine gw_skip ?_ | refine gw_yes rfl ?_ | refine gw_no rfl ?_ | refine gw_exit ?_ | refine gw_block ?_ | refine gw_label ?_ | (refine gs_n tyT_ok 0 ?_ (hp := ?hp); case hp => exact ⟨by decide, by decide⟩) | (refine gs_tg tyT_ok rfl ?hb ?_; case hb => first | exact decide_eq_true (by omega) | exact congrArg Bool.not (decide_eq_false (by omega)) | (simp; done) | (simp; omega)) | (refine gs_fg tyT_ok rfl ?hb ?_; case hb => first | exact decide_eq_false (by omega) | exact congrArg Bool.not (decide_eq_true (by omega)) | (simp; done) | (simp; omega)) | (refine gs_t tyT_ok ?hb ?_; case hb => first | exact decide_eq_true (by omega) | exact congrArg Bool.not (decide_eq_false (by omega)) | (simp; done) | (simp; omega)) | (refine gs_f tyT_ok ?hb ?_; case hb => first | exact decide_eq_false (by omega) | exact congrArg Bool.not (decide_eq_true (by omega)) | (simp; done) | (simp; omega)))
    refine ⟨m - 1, by omega, n + 1, ⟨?_, by omega, by omega⟩, rfl, rfl, rfl, rfl, trivial⟩
    obtain ⟨m', rfl⟩ : ∃ m', m = m' + 1 := ⟨m - 1, by omega⟩
    rw [← hm]
    exact (if_pos ⟨by omega, g, g2⟩).symm
  · refine gs_fg tyT_ok rfl (decide_eq_false g2) ?_
    have hs : sm l a = n := by rw [← hm, eqF_stop fun h => g2 h.2.2]
    rw [hs]
    repeat (first | refine gs_n tyT_ok 0 ?_ | refine gs_gn tyT_ok 0 rfl ?_ | refine gs_no rfl ?_ | refine gs_end ?_ | refine gs_end' ?_ | refine gw_seq ?_ | refine gw_text rfl ?_ | refine gw_skip ?_ | refine gw_yes rfl ?_ | refine gw_no rfl ?_ | refine gw_exit ?_ | refine gw_block ?_ | refine gw_label ?_ | (refine gs_n tyT_ok 0 ?_ (hp := ?hp); case hp => exact ⟨by decide, by decide⟩) | (refine gs_tg tyT_ok rfl ?hb ?_; case hb => first | exact decide_eq_true (by omega) | exact congrArg Bool.not (decide_eq_false (by omega)) | (simp; done) | (simp; omega)) | (refine gs_fg tyT_ok rfl ?hb ?_; case hb => first | exact decide_eq_false (by omega) | exact congrArg Bool.not (decide_eq_true (by omega)) | (simp; done) | (simp; omega)) | (refine gs_t tyT_ok ?hb ?_; case hb => first | exact decide_eq_true (by omega) | exact congrArg Bool.not (decide_eq_false (by omega)) | (simp; done) | (simp; omega)) | (refine gs_f tyT_ok ?hb ?_; case hb => first | exact decide_eq_false (by omega) | exact congrArg Bool.not (decide_eq_true (by omega)) | (simp; done) | (simp; omega)))
    exact gw_ret ⟨_, _, [], [0], .tmp .nil, ⟨rfl, rfl, rfl⟩, rfl, rfl, by decide⟩
set_option maxHeartbeats 1000000 in
theorem cut_w {a1 : Option Addr} {n1 c1 : Nat} {q1 : Nat × GO} {l : List Int} {a : Nat} (h1 : LS a1 n1 c1 q1 l) (hl : l.length ≤ 1000000) (ha : a < l.length) :
    Rd Try.prog 127 [.slice a1 n1 c1, .int .i64 a, .int .i64 2] [q1] (.tuple #[.int .i64 ((if 2 ≤ sm l a then min 128 (sm l a) else ot l a : Nat) : Int), .bool (decide (2 ≤ sm l a))]) := by
  have hn := h1.1
  have hsm := sm_le ha
  refine trip_of Try.func127 rfl (by simp [Try.ntmps127]) ?_
  repeat (first | refine gs_n tyT_ok 0 ?_ | refine gs_gn tyT_ok 0 rfl ?_ | refine gs_no rfl ?_ | refine gs_end ?_ | refine gs_end' ?_ | refine gw_seq ?_ | refine gw_text rfl ?_ | refine gw_skip ?_ | refine gw_yes rfl ?_ | refine gw_no rfl ?_ | refine gw_exit ?_ | refine gw_block ?_ | refine gw_label ?_ | (refine gs_n tyT_ok 0 ?_ (hp := ?hp); case hp => exact ⟨by decide, by decide⟩))
  refine gs_rd [0] ent113 rfl (by decide) (same_w h1 hl ha) ?_
  repeat (first | refine gs_n tyT_ok 0 ?_ | refine gs_gn tyT_ok 0 rfl ?_ | refine gs_no rfl ?_ | refine gs_end ?_ | refine gs_end' ?_ | refine gw_seq ?_ | refine gw_text rfl ?_ | refine gw_skip ?_ | refine gw_yes rfl ?_ | refine gw_no rfl ?_ | refine gw_exit ?_ | refine gw_block ?_ | refine gw_label ?_ | (refine gs_n tyT_ok 0 ?_ (hp := ?hp); case hp => exact ⟨by decide, by decide⟩))
  by_cases g : 2 ≤ sm l a
  · rw [if_pos g, decide_eq_true g]
    (refine gs_t tyT_ok ?hb ?_; case hb => first | exact decide_eq_true (by omega) | exact congrArg Bool.not (decide_eq_false (by omega)) | (simp; done) | (simp; omega))
    repeat (first | refine gs_n tyT_ok 0 ?_ | refine gs_gn tyT_ok 0 rfl ?_ | refine gs_no rfl ?_ | refine gs_end ?_ | refine gs_end' ?_ | refine gw_seq ?_ | refine gw_text rfl ?_ | refine gw_skip ?_ | refine gw_yes rfl ?_ | refine gw_no rfl ?_ | refine gw_exit ?_ | refine gw_block ?_ | refine gw_label ?_ | (refine gs_n tyT_ok 0 ?_ (hp := ?hp); case hp => exact ⟨by decide, by decide⟩))
    have hmin : (if (128 : Int) < ((sm l a : Nat) : Int) then 128 else ((sm l a : Nat) : Int)) = ((min 128 (sm l a) : Nat) : Int) := by split <;> omega
    refine gw_ret ⟨_, [q1], [], [0], .tmp (.tmp .nil), ⟨?_, rfl, rfl⟩, rfl, rfl, by decide⟩
    show Value.tuple #[.int .i64 (if (128 : Int) < ((sm l a : Nat) : Int) then 128 else ((sm l a : Nat) : Int)), .bool true] = _
    rw [hmin]
  rw [if_neg g, decide_eq_false g]
  (refine gs_f tyT_ok ?hb ?_; case hb => first | exact decide_eq_false (by omega) | exact congrArg Bool.not (decide_eq_true (by omega)) | (simp; done) | (simp; omega))
  repeat (first | refine gs_n tyT_ok 0 ?_ | refine gs_gn tyT_ok 0 rfl ?_ | refine gs_no rfl ?_ | refine gs_end ?_ | refine gs_end' ?_ | refine gw_seq ?_ | refine gw_text rfl ?_ | refine gw_skip ?_ | refine gw_yes rfl ?_ | refine gw_no rfl ?_ | refine gw_exit ?_ | refine gw_block ?_ | refine gw_label ?_ | (refine gs_n tyT_ok 0 ?_ (hp := ?hp); case hp => exact ⟨by decide, by decide⟩))
  subst hn
  refine gw_loopL (fun _ (n : Nat) => [(0, .slice a1 l.length c1), (1, .int .i64 a), (2, .int .i64 2), (9, .int .i64 n)]) (fun _ _ => [q1]) (fun m n => otF l a m n = ot l a ∧ a + n ≤ l.length ∧ n ≤ 128 ∧ 129 ≤ n + m ∧ 1 ≤ n) 128 1 ⟨rfl, by omega, by omega, by omega, by omega⟩ rfl ⟨rfl, rfl, rfl, rfl, trivial⟩ fun m n e ⟨hm, h2, h3, h4, h5⟩ => ?_
  repeat (first | refine gs_n tyT_ok 0 ?_ | refine gs_gn tyT_ok 0 rfl ?_ | refine gs_no rfl ?_ | refine gs_end ?_ | refine gs_end' ?_ | refine gw_seq ?_ | refine gw_text rfl ?_ | refine gw_skip ?_ | refine gw_yes rfl ?_ | refine gw_no rfl ?_ | refine gw_exit ?_ | refine gw_block ?_ | refine gw_label ?_ | (refine gs_n tyT_ok 0 ?_ (hp := ?hp); case hp => exact ⟨by decide, by decide⟩))
  by_cases k1 : n < 128
  case neg =>
    have hs : ot l a = n := by rw [← hm, otF_stop (by omega)]
    rw [hs]
    repeat (first | refine gs_n tyT_ok 0 ?_ | refine gs_gn tyT_ok 0 rfl ?_ | refine gs_no rfl ?_ | refine gs_end ?_ | refine gs_end' ?_ | refine gw_seq ?_ | refine gw_text rfl ?_ | refine gw_skip ?_ | refine gw_yes rfl ?_ | refine gw_no rfl ?_ | refine gw_exit ?_ | refine gw_block ?_ | refine gw_label ?_ | (refine gs_n tyT_ok 0 ?_ (hp := ?hp); case hp => exact ⟨by decide, by decide⟩) | (refine gs_tg tyT_ok rfl ?hb ?_; case hb => first | exact decide_eq_true (by omega) | exact congrArg Bool.not (decide_eq_false (by omega)) | (simp; done) | (simp; omega)) | (refine gs_fg tyT_ok rfl ?hb ?_; case hb => first | exact decide_eq_false (by omega) | exact congrArg Bool.not (decide_eq_true (by omega)) | (simp; done) | (simp; omega)) | (refine gs_t tyT_ok ?hb ?_; case hb => first | exact decide_eq_true (by omega) | exact congrArg Bool.not (decide_eq_false (by omega)) | (simp; done) | (simp; omega)) | (refine gs_f tyT_ok ?hb ?_; case hb => first | exact decide_eq_false (by omega) | exact congrArg Bool.not (decide_eq_true (by omega)) | (simp; done) | (simp; omega)))
    exact gw_ret ⟨_, [q1], [], [0], .tmp (.tmp .nil), ⟨rfl, rfl, rfl⟩, rfl, rfl, by decide⟩
  by_cases k2 : a + n < l.length
  case neg =>
    have hs : ot l a = n := by rw [← hm, otF_stop (by omega)]
    rw [hs]
    repeat (first | refine gs_n tyT_ok 0 ?_ | refine gs_gn tyT_ok 0 rfl ?_ | refine gs_no rfl ?_ | refine gs_end ?_ | refine gs_end' ?_ | refine gw_seq ?_ | refine gw_text rfl ?_ | refine gw_skip ?_ | refine gw_yes rfl ?_ | refine gw_no rfl ?_ | refine gw_exit ?_ | refine gw_block ?_ | refine gw_label ?_ | (refine gs_n tyT_ok 0 ?_ (hp := ?hp); case hp => exact ⟨by decide, by decide⟩) | (refine gs_tg tyT_ok rfl ?hb ?_; case hb => first | exact decide_eq_true (by omega) | exact congrArg Bool.not (decide_eq_false (by omega)) | (simp; done) | (simp; omega)) | (refine gs_fg tyT_ok rfl ?hb ?_; case hb => first | exact decide_eq_false (by omega) | exact congrArg Bool.not (decide_eq_true (by omega)) | (simp; done) | (simp; omega)) | (refine gs_t tyT_ok ?hb ?_; case hb => first | exact decide_eq_true (by omega) | exact congrArg Bool.not (decide_eq_false (by omega)) | (simp; done) | (simp; omega)) | (refine gs_f tyT_ok ?hb ?_; case hb => first | exact decide_eq_false (by omega) | exact congrArg Bool.not (decide_eq_true (by omega)) | (simp; done) | (simp; omega)))
    exact gw_ret ⟨_, [q1], [], [0], .tmp (.tmp .nil), ⟨rfl, rfl, rfl⟩, rfl, rfl, by decide⟩
  repeat (first | refine gs_n tyT_ok 0 ?_ | refine gs_gn tyT_ok 0 rfl ?_ | refine gs_no rfl ?_ | refine gs_end ?_ | refine gs_end' ?_ | refine gw_seq ?_ | refine gw_text rfl ?_ | refine gw_skip ?_ | refine gw_yes rfl ?_ | refine gw_no rfl ?_ | refine gw_exit ?_ | refine gw_block ?_ | refine gw_label ?_ | (refine gs_n tyT_ok 0 ?_ (hp := ?hp); case hp => exact ⟨by decide, by decide⟩) | (refine gs_tg tyT_ok rfl ?hb ?_; case hb => first | exact decide_eq_true (by omega) | exact congrArg Bool.not (decide_eq_false (by omega)) | (simp; done) | (simp; omega)) | (refine gs_fg tyT_ok rfl ?hb ?_; case hb => first | exact decide_eq_false (by omega) | exact congrArg Bool.not (decide_eq_true (by omega)) | (simp; done) | (simp; omega)) | (refine gs_t tyT_ok ?hb ?_; case hb => first | exact decide_eq_true (by omega) | exact congrArg Bool.not (decide_eq_false (by omega)) | (simp; done) | (simp; omega)) | (refine gs_f tyT_ok ?hb ?_; case hb => first | exact decide_eq_false (by omega) | exact congrArg Bool.not (decide_eq_true (by omega)) | (simp; done) | (simp; omega)))
  refine gs_rdg [0] ent113 rfl rfl (by decide) (same_w (a := a + n) h1 hl k2) ?_
  have hsm2 := sm_le k2
  by_cases k3 : sm l (a + n) < 2
  · repeat (first | refine gs_n tyT_ok 0 ?_ | refine gs_gn tyT_ok 0 rfl ?_ | refine gs_no rfl ?_ | refine gs_end ?_ | refine gs_end' ?_ | refine gw_seq ?_ | refine gw_text rfl ?_ | refine gw_skip ?_ | refine gw_yes rfl ?_ | refine gw_no rfl ?_ | refine gw_exit ?_ | refine gw_block ?_ | refine gw_label ?_ | (refine gs_n tyT_ok 0 ?_ (hp := ?hp); case hp => exact ⟨by decide, by decide⟩) | (refine gs_tg tyT_ok rfl ?hb ?_; case hb => first | exact decide_eq_true (by omega) | exact congrArg Bool.not (decide_eq_false (by omega)) | (simp; done) | (simp; omega)) | (refine gs_fg tyT_ok rfl ?hb ?_; case hb => first | exact decide_eq_false (by omega) | exact congrArg Bool.not (decide_eq_true (by omega)) | (simp; done) | (simp; omega)) | (refine gs_t tyT_ok ?hb ?_; case hb => first | exact decide_eq_true (by omega) | exact congrArg Bool.not (decide_eq_false (by omega)) | (simp; done) | (simp; omega)) | (refine gs_f tyT_ok ?hb ?_; case hb => first | exact decide_eq_false (by omega) | exact congrArg Bool.not (decide_eq_true (by omega)) | (simp; done) | (simp; omega)))
    refine ⟨m - 1, by omega, n + 1, ⟨?_, by omega, by omega, by omega, by omega⟩, rfl, rfl, rfl, rfl, rfl, trivial⟩
    obtain ⟨m', rfl⟩ : ∃ m', m = m' + 1 := ⟨m - 1, by omega⟩
    rw [← hm]
    exact (if_pos ⟨k1, k2, k3⟩).symm
  · have hs : ot l a = n := by rw [← hm, otF_stop (by omega)]
    rw [hs]
    repeat (first | refine gs_n tyT_ok 0 ?_ | refine gs_gn tyT_ok 0 rfl ?_ | refine gs_no rfl ?_ | refine gs_end ?_ | refine gs_end' ?_ | refine gw_seq ?_ | refine gw_text rfl ?_ | refine gw_skip ?_ | refine gw_yes rfl ?_ | refine gw_no rfl ?_ | refine gw_exit ?_ | refine gw_block ?_ | refine gw_label ?_ | (refine gs_n tyT_ok 0 ?_ (hp := ?hp); case hp => exact ⟨by decide, by decide⟩) | (refine gs_tg tyT_ok rfl ?hb ?_; case hb => first | exact decide_eq_true (by omega) | exact congrArg Bool.not (decide_eq_false (by omega)) | (simp; done) | (simp; omega)) | (refine gs_fg tyT_ok rfl ?hb ?_; case hb => first | exact decide_eq_false (by omega) | exact congrArg Bool.not (decide_eq_true (by omega)) | (simp; done) | (simp; omega)) | (refine gs_t tyT_ok ?hb ?_; case hb => first | exact decide_eq_true (by omega) | exact congrArg Bool.not (decide_eq_false (by omega)) | (simp; done) | (simp; omega)) | (refine gs_f tyT_ok ?hb ?_; case hb => first | exact decide_eq_false (by omega) | exact congrArg Bool.not (decide_eq_true (by omega)) | (simp; done) | (simp; omega)))
    exact gw_ret ⟨_, [q1], [], [0], .tmp (.tmp .nil), ⟨rfl, rfl, rfl⟩, rfl, rfl, by decide⟩
theorem LS.part {a1 : Option Addr} {n1 c1 : Nat} {q1 : Nat × GO} {l : List Int} (h : LS a1 n1 c1 q1 l) {a n : Nat} (hn : a + n ≤ l.length) (hn1 : 1 ≤ n) : ∃ o, a1 = some ⟨q1.1, o, none⟩ ∧ LS (some ⟨q1.1, o + a * 1, none⟩) n (c1 - a) q1 (seg l a n) := by
  obtain ⟨h1, h2, ⟨rfl, h3⟩ | ⟨o, rfl, h4, h5⟩⟩ := h
  · omega
  · refine ⟨o, rfl, by simp [seg]; omega, by omega, .inr ⟨o + a * 1, rfl, by simp [seg]; omega, ?_⟩⟩
    have e : (seg l a n).length = n := by simp [seg]; omega
    rw [e]
    have : ((cellsG q1.2).drop (o + a * 1)).take n = ((((cellsG q1.2).drop o).take l.length).drop a).take n := by
      rw [List.drop_take, List.drop_drop, List.take_take, Nat.mul_one]
      congr 1
      omega
    rw [this, h5]
    simp [seg, ints, List.map_take, List.map_drop]
set_option maxHeartbeats 1000000 in
theorem runPut_w {a1 : Option Addr} {n1 c1 : Nat} {q1 : Nat × GO} {l : List Int} {z : Nat} (h1 : LS a1 n1 c1 q1 l) (hf : fits z l) (hz : 1 ≤ z ∧ z ≤ 4) (hl : l.length ≤ 1000) :
    Rd Try.prog 87 [.slice a1 n1 c1, .int .i64 z] [q1] (.string (txt (pack l z))) := by
  obtain rfl := h1.1
  obtain ⟨e1, e2, e3⟩ := pow8 hz.1 hz.2
  refine trip_of Try.func87 rfl (by simp [Try.ntmps87]) ?_
  repeat (first | refine gs_n tyT_ok 0 ?_ | refine gs_gn tyT_ok 0 rfl ?_ | refine gs_no rfl ?_ | refine gs_end ?_ | refine gs_end' ?_ | refine gw_seq ?_ | refine gw_text rfl ?_ | refine gw_skip ?_ | refine gw_yes rfl ?_ | refine gw_no rfl ?_ | refine gw_exit ?_ | refine gw_block ?_ | refine gw_label ?_ | (refine gs_n tyT_ok 0 ?_ (hp := ?hp); case hp => exact ⟨by decide, by decide⟩))
  (refine gs_f tyT_ok ?hb ?_; case hb => first | exact decide_eq_false (by omega) | exact congrArg Bool.not (decide_eq_true (by omega)) | (simp; done) | (simp; omega))
  repeat (first | refine gs_n tyT_ok 0 ?_ | refine gs_gn tyT_ok 0 rfl ?_ | refine gs_no rfl ?_ | refine gs_end ?_ | refine gs_end' ?_ | refine gw_seq ?_ | refine gw_text rfl ?_ | refine gw_skip ?_ | refine gw_yes rfl ?_ | refine gw_no rfl ?_ | refine gw_exit ?_ | refine gw_block ?_ | refine gw_label ?_ | (refine gs_n tyT_ok 0 ?_ (hp := ?hp); case hp => exact ⟨by decide, by decide⟩))
  refine gs_pug ent59 rfl (in_t (by omega)) ?_
  repeat (first | refine gs_n tyT_ok 0 ?_ | refine gs_gn tyT_ok 0 rfl ?_ | refine gs_no rfl ?_ | refine gs_end ?_ | refine gs_end' ?_ | refine gw_seq ?_ | refine gw_text rfl ?_ | refine gw_skip ?_ | refine gw_yes rfl ?_ | refine gw_no rfl ?_ | refine gw_exit ?_ | refine gw_block ?_ | refine gw_label ?_ | (refine gs_n tyT_ok 0 ?_ (hp := ?hp); case hp => exact ⟨by decide, by decide⟩))
  refine gw_loopL (fun _ (i : Nat) => [(0, .slice a1 l.length c1), (1, .int .i64 z), (22, .slice a1 l.length c1), (23, .int .i64 l.length), (24, .int .i64 i)]) (fun _ _ => [q1]) (fun m i => i + m = l.length) l.length 0 (by omega) rfl ⟨rfl, rfl, rfl, rfl, rfl, trivial⟩ fun m i e hm => ?_
  repeat (first | refine gs_n tyT_ok 0 ?_ | refine gs_gn tyT_ok 0 rfl ?_ | refine gs_no rfl ?_ | refine gs_end ?_ | refine gs_end' ?_ | refine gw_seq ?_ | refine gw_text rfl ?_ | refine gw_skip ?_ | refine gw_yes rfl ?_ | refine gw_no rfl ?_ | refine gw_exit ?_ | refine gw_block ?_ | refine gw_label ?_ | (refine gs_n tyT_ok 0 ?_ (hp := ?hp); case hp => exact ⟨by decide, by decide⟩))
  by_cases g : i < l.length
  · (refine gs_t tyT_ok ?hb ?_; case hb => first | exact decide_eq_true (by omega) | exact congrArg Bool.not (decide_eq_false (by omega)) | (simp; done) | (simp; omega))
    obtain ⟨o1, rfl, ho1⟩ := h1.at g
    have hx := fits_at hf g
    repeat (first | refine gs_n tyT_ok 0 ?_ | refine gs_gn tyT_ok 0 rfl ?_ | refine gs_no rfl ?_ | refine gs_end ?_ | refine gs_end' ?_ | refine gw_seq ?_ | refine gw_text rfl ?_ | refine gw_skip ?_ | refine gw_yes rfl ?_ | refine gw_no rfl ?_ | refine gw_exit ?_ | refine gw_block ?_ | refine gw_label ?_ | (refine gs_n tyT_ok 0 ?_ (hp := ?hp); case hp => exact ⟨by decide, by decide⟩))
    refine gs_at 0 tyT_ok rfl rfl rfl rfl ho1 ?_
    repeat (first | refine gs_n tyT_ok 0 ?_ | refine gs_gn tyT_ok 0 rfl ?_ | refine gs_no rfl ?_ | refine gs_end ?_ | refine gs_end' ?_ | refine gw_seq ?_ | refine gw_text rfl ?_ | refine gw_skip ?_ | refine gw_yes rfl ?_ | refine gw_no rfl ?_ | refine gw_exit ?_ | refine gw_block ?_ | refine gw_label ?_ | (refine gs_n tyT_ok 0 ?_ (hp := ?hp); case hp => exact ⟨by decide, by decide⟩))
    refine gs_n tyT_ok 0 ?_ (hp := ?hp)
    case hp =>
      refine ⟨by show (0 : Int) ≤ 8 * (z : Int); omega, by show 8 * (z : Int) ≤ 64; omega, ?_⟩
      rw [e1]
      exact ⟨by omega, by omega⟩
    rw [e1]
    repeat (first | refine gs_n tyT_ok 0 ?_ | refine gs_gn tyT_ok 0 rfl ?_ | refine gs_no rfl ?_ | refine gs_end ?_ | refine gs_end' ?_ | refine gw_seq ?_ | refine gw_text rfl ?_ | refine gw_skip ?_ | refine gw_yes rfl ?_ | refine gw_no rfl ?_ | refine gw_exit ?_ | refine gw_block ?_ | refine gw_label ?_ | (refine gs_n tyT_ok 0 ?_ (hp := ?hp); case hp => exact ⟨by decide, by decide⟩))
    refine gs_pu ent59 (in_t (by omega)) ?_
    repeat (first | refine gs_n tyT_ok 0 ?_ | refine gs_gn tyT_ok 0 rfl ?_ | refine gs_no rfl ?_ | refine gs_end ?_ | refine gs_end' ?_ | refine gw_seq ?_ | refine gw_text rfl ?_ | refine gw_skip ?_ | refine gw_yes rfl ?_ | refine gw_no rfl ?_ | refine gw_exit ?_ | refine gw_block ?_ | refine gw_label ?_ | (refine gs_n tyT_ok 0 ?_ (hp := ?hp); case hp => exact ⟨by decide, by decide⟩))
    exact ⟨m - 1, by omega, i + 1, by omega, rfl, rfl, rfl, rfl, rfl, rfl, trivial⟩
  (refine gs_f tyT_ok ?hb ?_; case hb => first | exact decide_eq_false (by omega) | exact congrArg Bool.not (decide_eq_true (by omega)) | (simp; done) | (simp; omega))
  repeat (first | refine gs_n tyT_ok 0 ?_ | refine gs_gn tyT_ok 0 rfl ?_ | refine gs_no rfl ?_ | refine gs_end ?_ | refine gs_end' ?_ | refine gw_seq ?_ | refine gw_text rfl ?_ | refine gw_skip ?_ | refine gw_yes rfl ?_ | refine gw_no rfl ?_ | refine gw_exit ?_ | refine gw_block ?_ | refine gw_label ?_ | (refine gs_n tyT_ok 0 ?_ (hp := ?hp); case hp => exact ⟨by decide, by decide⟩))
  refine gw_loopL (fun _ (x : Nat × List Int) => [(0, .slice a1 l.length c1), (1, .int .i64 z), (7, .string (txt x.2)), (8, .int .i64 x.1)]) (fun _ _ => [q1]) (fun m x => packF l z m x.1 x.2 = pack l z ∧ x.1 ≤ l.length ∧ l.length ≤ x.1 + m ∧ x.2.length ≤ 5 * x.1) l.length (0, []) ⟨rfl, by omega, by simp, by simp⟩ rfl ⟨rfl, rfl, rfl, rfl, trivial⟩ fun m ⟨a, out⟩ e ⟨hm, h2, h3, h4⟩ => ?_
  dsimp only at hm h2 h3 h4 ⊢
  repeat (first | refine gs_n tyT_ok 0 ?_ | refine gs_gn tyT_ok 0 rfl ?_ | refine gs_no rfl ?_ | refine gs_end ?_ | refine gs_end' ?_ | refine gw_seq ?_ | refine gw_text rfl ?_ | refine gw_skip ?_ | refine gw_yes rfl ?_ | refine gw_no rfl ?_ | refine gw_exit ?_ | refine gw_block ?_ | refine gw_label ?_ | (refine gs_n tyT_ok 0 ?_ (hp := ?hp); case hp => exact ⟨by decide, by decide⟩))
  by_cases k1 : a < l.length
  case neg =>
    have hp : pack l z = out := by rw [← hm, packF_stop k1]
    rw [hp]
    (refine gs_f tyT_ok ?hb ?_; case hb => first | exact decide_eq_false (by omega) | exact congrArg Bool.not (decide_eq_true (by omega)) | (simp; done) | (simp; omega))
    repeat (first | refine gs_n tyT_ok 0 ?_ | refine gs_gn tyT_ok 0 rfl ?_ | refine gs_no rfl ?_ | refine gs_end ?_ | refine gs_end' ?_ | refine gw_seq ?_ | refine gw_text rfl ?_ | refine gw_skip ?_ | refine gw_yes rfl ?_ | refine gw_no rfl ?_ | refine gw_exit ?_ | refine gw_block ?_ | refine gw_label ?_ | (refine gs_n tyT_ok 0 ?_ (hp := ?hp); case hp => exact ⟨by decide, by decide⟩))
    exact gw_ret ⟨_, _, [], [0], .tmp .nil, ⟨rfl, rfl, rfl⟩, rfl, rfl, by decide⟩
  (refine gs_t tyT_ok ?hb ?_; case hb => first | exact decide_eq_true (by omega) | exact congrArg Bool.not (decide_eq_false (by omega)) | (simp; done) | (simp; omega))
  repeat (first | refine gs_n tyT_ok 0 ?_ | refine gs_gn tyT_ok 0 rfl ?_ | refine gs_no rfl ?_ | refine gs_end ?_ | refine gs_end' ?_ | refine gw_seq ?_ | refine gw_text rfl ?_ | refine gw_skip ?_ | refine gw_yes rfl ?_ | refine gw_no rfl ?_ | refine gw_exit ?_ | refine gw_block ?_ | refine gw_label ?_ | (refine gs_n tyT_ok 0 ?_ (hp := ?hp); case hp => exact ⟨by decide, by decide⟩))
  obtain ⟨m', rfl⟩ : ∃ m', m = m' + 1 := ⟨m - 1, by omega⟩
  rw [packF_step k1] at hm
  obtain ⟨r1, r2, r3, r4, r5, r6⟩ := pk_le k1
  refine gs_rd [0] ent127 rfl (by decide) (cut_w h1 (by omega) k1) ?_
  rw [show ((if 2 ≤ sm l a then min 128 (sm l a) else ot l a : Nat) : Int) = ((pkN l a : Nat) : Int) from rfl]
  obtain ⟨o, rfl, hseg⟩ := h1.part (a := a) (n := pkK l a) (by omega) r4
  have hcap := h1.2.1
  repeat (first | refine gs_n tyT_ok 0 ?_ | refine gs_gn tyT_ok 0 rfl ?_ | refine gs_no rfl ?_)
  refine gs_end ?_
  refine gw_seq (gw_text rfl ?_)
  repeat (first | refine gs_n tyT_ok 0 ?_ | refine gs_gn tyT_ok 0 rfl ?_ | refine gs_no rfl ?_)
  refine gs_end ?_
  refine gw_seq ?_
  refine gw_join (α := Nat × GO) (fun _ => [(0, .slice (some ⟨q1.1, o, none⟩) l.length c1), (1, .int .i64 z), (7, .string (txt (out ++ [((pkH l a : Nat) : Int)]))), (8, .int .i64 a), (9, .int .i64 (pkN l a)), (11, .slice (some ⟨q1.1, o + a * 1, none⟩) (pkK l a) (c1 - a))]) (fun x => [q1, x]) (fun _ => True) ?_ fun junk e _ => ?_
  · by_cases k2 : 2 ≤ sm l a
    · rw [decide_eq_true k2]
      have eN : pkN l a = min 128 (sm l a) := if_pos k2
      have eH : pkH l a = 127 + min 128 (sm l a) := if_pos k2
      have eK : pkK l a = 1 := if_pos k2
      rw [eH, eK, ← eN, show ((127 + pkN l a : Nat) : Int) = 127 + (pkN l a : Int) by omega]
      repeat (first | refine gs_n tyT_ok 0 ?_ | refine gs_gn tyT_ok 0 rfl ?_ | refine gs_no rfl ?_ | refine gs_end ?_ | refine gs_end' ?_ | refine gw_seq ?_ | refine gw_text rfl ?_ | refine gw_skip ?_ | refine gw_yes rfl ?_ | refine gw_no rfl ?_ | refine gw_exit ?_ | refine gw_block ?_ | refine gw_label ?_ | (refine gs_n tyT_ok 0 ?_ (hp := ?hp); case hp => exact ⟨by decide, by decide⟩))
      refine gs_lit tyT_ok (cs := bytesV [127 + (pkN l a : Int)]) rfl rfl rfl (by decide) rfl fun b => ?_
      refine gs_txt 1 (xs := [127 + (pkN l a : Int)]) rfl rfl rfl ?_
      refine gs_cat (a := out) (b := [127 + (pkN l a : Int)]) rfl rfl (by rw [List.length_singleton]; omega) ?_
      repeat (first | refine gs_n tyT_ok 0 ?_ | refine gs_gn tyT_ok 0 rfl ?_ | refine gs_no rfl ?_ | refine gs_end ?_ | refine gs_end' ?_ | refine gw_seq ?_ | refine gw_text rfl ?_ | refine gw_skip ?_ | refine gw_yes rfl ?_ | refine gw_no rfl ?_ | refine gw_exit ?_ | refine gw_block ?_ | refine gw_label ?_ | (refine gs_n tyT_ok 0 ?_ (hp := ?hp); case hp => exact ⟨by decide, by decide⟩))
      exact ⟨(b, _), trivial, rfl, rfl, rfl, rfl, rfl, rfl, rfl, trivial⟩
    · rw [decide_eq_false k2]
      have eN : pkN l a = ot l a := if_neg k2
      have eH : pkH l a = ot l a - 1 := if_neg k2
      have eK : pkK l a = ot l a := if_neg k2
      rw [eH, eK, ← eN, show ((pkN l a - 1 : Nat) : Int) = (pkN l a : Int) - 1 by omega]
      repeat (first | refine gs_n tyT_ok 0 ?_ | refine gs_gn tyT_ok 0 rfl ?_ | refine gs_no rfl ?_ | refine gs_end ?_ | refine gs_end' ?_ | refine gw_seq ?_ | refine gw_text rfl ?_ | refine gw_skip ?_ | refine gw_yes rfl ?_ | refine gw_no rfl ?_ | refine gw_exit ?_ | refine gw_block ?_ | refine gw_label ?_ | (refine gs_n tyT_ok 0 ?_ (hp := ?hp); case hp => exact ⟨by decide, by decide⟩))
      refine gs_lit tyT_ok (cs := bytesV [(pkN l a : Int) - 1]) rfl rfl rfl (by decide) rfl fun b => ?_
      refine gs_txt 1 (xs := [(pkN l a : Int) - 1]) rfl rfl rfl ?_
      refine gs_cat (a := out) (b := [(pkN l a : Int) - 1]) rfl rfl (by rw [List.length_singleton]; omega) ?_
      repeat (first | refine gs_n tyT_ok 0 ?_ | refine gs_gn tyT_ok 0 rfl ?_ | refine gs_no rfl ?_ | refine gs_end ?_ | refine gs_end' ?_ | refine gw_seq ?_ | refine gw_text rfl ?_ | refine gw_skip ?_ | refine gw_yes rfl ?_ | refine gw_no rfl ?_ | refine gw_exit ?_ | refine gw_block ?_ | refine gw_label ?_ | (refine gs_n tyT_ok 0 ?_ (hp := ?hp); case hp => exact ⟨by decide, by decide⟩))
      refine ⟨(b, _), trivial, rfl, rfl, rfl, rfl, rfl, rfl, ?_, trivial⟩
      show Value.slice (some ⟨q1.1, o + a * 1, none⟩) (a + pkN l a - a) (c1 - a) = _
      rw [Nat.add_sub_cancel_left]
  refine gw_weak [0] (by decide) rfl ?_
  have hk := pk_le k1
  have hsl := seg_len (l := l) (a := a) (n := pkK l a) (by omega)
  have hsf : fits z (seg l a (pkK l a)) := fun x hx => hf x (seg_mem hx)
  repeat (first | refine gs_n tyT_ok 0 ?_ | refine gs_gn tyT_ok 0 rfl ?_ | refine gs_no rfl ?_ | refine gs_end ?_ | refine gs_end' ?_ | refine gw_seq ?_ | refine gw_text rfl ?_ | refine gw_skip ?_ | refine gw_yes rfl ?_ | refine gw_no rfl ?_ | refine gw_exit ?_ | refine gw_block ?_ | refine gw_label ?_ | (refine gs_n tyT_ok 0 ?_ (hp := ?hp); case hp => exact ⟨by decide, by decide⟩))
  refine gw_loopL (fun _ (j : Nat) => [(0, .slice (some ⟨q1.1, o, none⟩) l.length c1), (1, .int .i64 z), (7, .string (txt (out ++ [((pkH l a : Nat) : Int)] ++ les z ((seg l a (pkK l a)).take j)))), (8, .int .i64 a), (9, .int .i64 (pkN l a)), (69, .slice (some ⟨q1.1, o + a * 1, none⟩) (pkK l a) (c1 - a)), (70, .int .i64 (pkK l a)), (71, .int .i64 j)]) (fun _ _ => [q1]) (fun m j => j + m = pkK l a) (pkK l a) 0 (by omega) rfl ⟨rfl, rfl, congrArg (fun x => Value.string (txt x)) (by simp [les]), rfl, rfl, rfl, rfl, rfl, trivial⟩ fun m2 j e hj => ?_
  repeat (first | refine gs_n tyT_ok 0 ?_ | refine gs_gn tyT_ok 0 rfl ?_ | refine gs_no rfl ?_ | refine gs_end ?_ | refine gs_end' ?_ | refine gw_seq ?_ | refine gw_text rfl ?_ | refine gw_skip ?_ | refine gw_yes rfl ?_ | refine gw_no rfl ?_ | refine gw_exit ?_ | refine gw_block ?_ | refine gw_label ?_ | (refine gs_n tyT_ok 0 ?_ (hp := ?hp); case hp => exact ⟨by decide, by decide⟩))
  by_cases k3 : j < pkK l a
  · (refine gs_t tyT_ok ?hb ?_; case hb => first | exact decide_eq_true (by omega) | exact congrArg Bool.not (decide_eq_false (by omega)) | (simp; done) | (simp; omega))
    obtain ⟨o2, he, ho2⟩ := hseg.at (k := j) (by omega)
    cases he
    have hx := fits_at hsf (i := j) (by omega)
    have htk := les_take z (seg l a (pkK l a)) (i := j) (by omega)
    have hlen := les_take_len z (seg l a (pkK l a)) j hz.2 (by omega)
    repeat (first | refine gs_n tyT_ok 0 ?_ | refine gs_gn tyT_ok 0 rfl ?_ | refine gs_no rfl ?_ | refine gs_end ?_ | refine gs_end' ?_ | refine gw_seq ?_ | refine gw_text rfl ?_ | refine gw_skip ?_ | refine gw_yes rfl ?_ | refine gw_no rfl ?_ | refine gw_exit ?_ | refine gw_block ?_ | refine gw_label ?_ | (refine gs_n tyT_ok 0 ?_ (hp := ?hp); case hp => exact ⟨by decide, by decide⟩))
    refine gs_at 0 tyT_ok rfl rfl rfl rfl ho2 ?_
    repeat (first | refine gs_n tyT_ok 0 ?_ | refine gs_gn tyT_ok 0 rfl ?_ | refine gs_no rfl ?_ | refine gs_end ?_ | refine gs_end' ?_ | refine gw_seq ?_ | refine gw_text rfl ?_ | refine gw_skip ?_ | refine gw_yes rfl ?_ | refine gw_no rfl ?_ | refine gw_exit ?_ | refine gw_block ?_ | refine gw_label ?_ | (refine gs_n tyT_ok 0 ?_ (hp := ?hp); case hp => exact ⟨by decide, by decide⟩))
    refine gs_pu ent114 (numPut_w hz hx) ?_
    refine gs_cat (a := out ++ [((pkH l a : Nat) : Int)] ++ les z ((seg l a (pkK l a)).take j)) (b := le ((seg l a (pkK l a)).getD j 0).toNat z) rfl rfl (by rw [le_len, List.length_append, List.length_append, List.length_singleton]; omega) ?_
    rw [List.append_assoc (out ++ [((pkH l a : Nat) : Int)]), ← htk]
    repeat (first | refine gs_n tyT_ok 0 ?_ | refine gs_gn tyT_ok 0 rfl ?_ | refine gs_no rfl ?_ | refine gs_end ?_ | refine gs_end' ?_ | refine gw_seq ?_ | refine gw_text rfl ?_ | refine gw_skip ?_ | refine gw_yes rfl ?_ | refine gw_no rfl ?_ | refine gw_exit ?_ | refine gw_block ?_ | refine gw_label ?_ | (refine gs_n tyT_ok 0 ?_ (hp := ?hp); case hp => exact ⟨by decide, by decide⟩))
    exact ⟨m2 - 1, by omega, j + 1, by omega, rfl, rfl, rfl, rfl, rfl, rfl, rfl, rfl, rfl, trivial⟩
  obtain rfl : j = pkK l a := by omega
  (refine gs_f tyT_ok ?hb ?_; case hb => first | exact decide_eq_false (by omega) | exact congrArg Bool.not (decide_eq_true (by omega)) | (simp; done) | (simp; omega))
  repeat (first | refine gs_n tyT_ok 0 ?_ | refine gs_gn tyT_ok 0 rfl ?_ | refine gs_no rfl ?_ | refine gs_end ?_ | refine gs_end' ?_ | refine gw_seq ?_ | refine gw_text rfl ?_ | refine gw_skip ?_ | refine gw_yes rfl ?_ | refine gw_no rfl ?_ | refine gw_exit ?_ | refine gw_block ?_ | refine gw_label ?_ | (refine gs_n tyT_ok 0 ?_ (hp := ?hp); case hp => exact ⟨by decide, by decide⟩))
  rw [List.take_of_length_le (by omega)]
  refine ⟨m', by omega, (a + pkN l a, _), ⟨hm, by show a + pkN l a ≤ _; omega, by show l.length ≤ a + pkN l a + m'; omega, ?_⟩, rfl, rfl, rfl, rfl, rfl, trivial⟩
  show (out ++ [((pkH l a : Nat) : Int)] ++ les z (seg l a (pkK l a))).length ≤ 5 * (a + pkN l a)
  rw [List.length_append, List.length_append, List.length_singleton, les_len, hsl]
  have := Nat.mul_le_mul_left (pkK l a) hz.2
  omega
end Go.Proofs.Ytdkhjcmhjlbpaaa.G
