/- impl: same, cut, RunPut. -/
import Derived.Test.YtjefdcbljpkmlaaMi
set_option linter.unusedVariables false
set_option maxRecDepth 10000
namespace Go.Proofs.Ytjefdcbljpkmlaa.G
open Go
set_option maxHeartbeats 1000000 in
theorem same_w {a1 : Option Addr} {n1 c1 : Nat} {q1 : Nat × GO} {l : List Int} {a : Nat} (h1 : LS a1 n1 c1 q1 l) (hl : l.length ≤ 1000000) (ha : a < l.length) :
    Rd Try.prog 146 [.slice a1 n1 c1, .int .i64 a] [q1] (.int .i64 (sm l a)) := by
  obtain rfl := h1.1
  obtain ⟨o, rfl, ho⟩ := h1.at ha
  refine trip_of Try.func146 rfl (by simp [Try.ntmps146]) ?_
  repeat (first | refine gs_n tyT_ok 0 ?_ | refine gs_gn tyT_ok 0 rfl ?_ | refine gs_no rfl ?_ | refine gs_end ?_ | refine gs_end' ?_ | refine gw_seq ?_ | refine gw_text rfl ?_ | refine gw_skip ?_ | refine gw_yes rfl ?_ | refine gw_no rfl ?_ | refine gw_exit ?_ | refine gw_block ?_ | refine gw_label ?_ | (refine gs_n tyT_ok 0 ?_ (hp := ?hp); case hp => exact ⟨by decide, by decide⟩))
  refine gw_loopL (fun _ (n : Nat) => [(0, .slice (some ⟨q1.1, o, none⟩) l.length c1), (1, .int .i64 a), (5, .int .i64 n)]) (fun _ _ => [q1]) (fun m n => eqF l a (l.length + 1) m n = sm l a ∧ n ≤ l.length ∧ l.length ≤ n + m) l.length 1 ⟨rfl, by omega, by omega⟩ rfl ⟨rfl, rfl, rfl, trivial⟩ fun m n e ⟨hm, hn, hnm⟩ => ?_
  refine gw_seq (gw_seq ?_)
  by_cases g : a + n < l.length
  case neg =>
    have hs : sm l a = n := by rw [← hm, eqF_stop (by omega)]
    rw [hs]
    refine gw_any [.N, .N, .N, .N, .N, .N, .N, .N, .N, .N, .N, .N, .N, .N, .N, .N, .N, .N, .N] rfl rfl rfl ?_
    repeat (first | refine gs_n tyT_ok 0 ?_ | refine gs_gn tyT_ok 0 rfl ?_ | refine gs_no rfl ?_ | refine gs_end ?_ | refine gs_end' ?_ | refine gw_seq ?_ | refine gw_text rfl ?_ | refine gw_skip ?_ | refine gw_yes rfl ?_ | refine gw_no rfl ?_ | refine gw_exit ?_ | refine gw_block ?_ | refine gw_label ?_ | (refine gs_n tyT_ok 0 ?_ (hp := ?hp); case hp => exact ⟨by decide, by decide⟩) | (refine gs_tg tyT_ok rfl ?hb ?_; case hb => first | exact decide_eq_true (by omega) | exact congrArg Bool.not (decide_eq_false (by omega)) | (simp; done) | (simp; omega)) | (refine gs_fg tyT_ok rfl ?hb ?_; case hb => first | exact decide_eq_false (by omega) | exact congrArg Bool.not (decide_eq_true (by omega)) | (simp; done) | (simp; omega)) | (refine gs_t tyT_ok ?hb ?_; case hb => first | exact decide_eq_true (by omega) | exact congrArg Bool.not (decide_eq_false (by omega)) | (simp; done) | (simp; omega)) | (refine gs_f tyT_ok ?hb ?_; case hb => first | exact decide_eq_false (by omega) | exact congrArg Bool.not (decide_eq_true (by omega)) | (simp; done) | (simp; omega)))
    exact gw_ret ⟨_, _, [], [0], .tmp .nil, ⟨rfl, rfl, rfl⟩, rfl, rfl, by decide⟩
  obtain ⟨o2, he, ho2⟩ := h1.at g
  cases he
  refine gw_any [.N, .N, .N, .N, .N, .N, .N, .N, .N, .N, .N, .N, .L 0, .N, .N, .N, .L 0, .N, .N] rfl rfl rfl ?_
  have ho3 : (cellsG q1.2)[o + ((a : Int) + (n : Int)).toNat * 1]? = some (.int .i64 (l.getD (a + n) 0)) := by rw [show ((a : Int) + (n : Int)).toNat = a + n by omega]; exact ho2
  repeat (first | refine gs_n tyT_ok 0 ?_ | refine gs_gn tyT_ok 0 rfl ?_ | refine gs_no rfl ?_ | refine gs_end ?_ | refine gs_end' ?_ | refine gw_seq ?_ | refine gw_text rfl ?_ | refine gw_skip ?_ | refine gw_yes rfl ?_ | refine gw_no rfl ?_ | refine gw_exit ?_ | refine gw_block ?_ | refine gw_label ?_ | (refine gs_n tyT_ok 0 ?_ (hp := ?hp); case hp => exact ⟨by decide, by decide⟩) | (refine gs_tg tyT_ok rfl ?hb ?_; case hb => first | exact decide_eq_true (by omega) | exact congrArg Bool.not (decide_eq_false (by omega)) | (simp; done) | (simp; omega)) | (refine gs_fg tyT_ok rfl ?hb ?_; case hb => first | exact decide_eq_false (by omega) | exact congrArg Bool.not (decide_eq_true (by omega)) | (simp; done) | (simp; omega)) | (refine gs_t tyT_ok ?hb ?_; case hb => first | exact decide_eq_true (by omega) | exact congrArg Bool.not (decide_eq_false (by omega)) | (simp; done) | (simp; omega)) | (refine gs_f tyT_ok ?hb ?_; case hb => first | exact decide_eq_false (by omega) | exact congrArg Bool.not (decide_eq_true (by omega)) | (simp; done) | (simp; omega)))
  refine gs_atg 0 rfl rfl rfl rfl rfl ho3 ?_
  repeat (first | refine gs_n tyT_ok 0 ?_ | refine gs_gn tyT_ok 0 rfl ?_ | refine gs_no rfl ?_ | refine gs_end ?_ | refine gs_end' ?_ | refine gw_seq ?_ | refine gw_text rfl ?_ | refine gw_skip ?_ | refine gw_yes rfl ?_ | refine gw_no rfl ?_ | refine gw_exit ?_ | refine gw_block ?_ | refine gw_label ?_ | (refine gs_n tyT_ok 0 ?_ (hp := ?hp); case hp => exact ⟨by decide, by decide⟩) | (refine gs_tg tyT_ok rfl ?hb ?_; case hb => first | exact decide_eq_true (by omega) | exact congrArg Bool.not (decide_eq_false (by omega)) | (simp; done) | (simp; omega)) | (refine gs_fg tyT_ok rfl ?hb ?_; case hb => first | exact decide_eq_false (by omega) | exact congrArg Bool.not (decide_eq_true (by omega)) | (simp; done) | (simp; omega)) | (refine gs_t tyT_ok ?hb ?_; case hb => first | exact decide_eq_true (by omega) | exact congrArg Bool.not (decide_eq_false (by omega)) | (simp; done) | (simp; omega)) | (refine gs_f tyT_ok ?hb ?_; case hb => first | exact decide_eq_false (by omega) | exact congrArg Bool.not (decide_eq_true (by omega)) | (simp; done) | (simp; omega)))
  refine gs_atg 0 rfl rfl rfl rfl rfl ho ?_
  by_cases g2 : l.getD (a + n) 0 = l.getD a 0
  · refine gs_tg tyT_ok rfl (decide_eq_true g2) ?_
    repeat (first | refine gs_n tyT_ok 0 ?_ | refine gs_gn tyT_ok 0 rfl ?_ | refine gs_no rfl ?_ | refine gs_end ?_ | refine gs_end' ?_ | refine gw_seq ?_ | refine gw_text rfl ?_ | refine gw_skip ?_ | refine gw_yes rfl ?_ | refine gw_no rfl ?_ | refine gw_exit ?_ | refine gw_block ?_ | refine gw_label ?_ | (refine gs_n tyT_ok 0 ?_ (hp := ?hp); case hp => exact ⟨by decide, by decide⟩) | (refine gs_tg tyT_ok rfl ?hb ?_; case hb => first | exact decide_eq_true (by omega) | exact congrArg Bool.not (decide_eq_false (by omega)) | (simp; done) | (simp; omega)) | (refine gs_fg tyT_ok rfl ?hb ?_; case hb => first | exact decide_eq_false (by omega) | exact congrArg Bool.not (decide_eq_true (by omega)) | (simp; done) | (simp; omega)) | (refine gs_t tyT_ok ?hb ?_; case hb => first | exact decide_eq_true (by omega) | exact congrArg Bool.not (decide_eq_false (by omega)) | (simp; done) | (simp; omega)) | (refine gs_f tyT_ok ?hb ?_; case hb => first | exact decide_eq_false (by omega) | exact congrArg Bool.not (decide_eq_true (by omega)) | (simp; done) | (simp; omega)))
    refine ⟨m - 1, by omega, n + 1, ⟨?_, by omega, by omega⟩, rfl, rfl, rfl, rfl, trivial⟩
    obtain ⟨m', rfl⟩ : ∃ m', m = m' + 1 := ⟨m - 1, by omega⟩
    rw [← hm]
    exact (if_pos ⟨by omega, g, g2⟩).symm
  · refine gs_fg tyT_ok rfl (decide_eq_false g2) ?_
    have hs : sm l a = n := by rw [← hm, eqF_stop fun h => g2 h.2.2]
    rw [hs]
    repeat (first | refine gs_n tyT_ok 0 ?_ | refine gs_gn tyT_ok 0 rfl ?_ | refine gs_no rfl ?_ | refine gs_end ?_ | refine gs_end' ?_ | refine gw_seq ?_ | refine gw_text rfl ?_ | refine gw_skip ?_ | refine gw_yes rfl ?_ | refine gw_no rfl ?_ | refine gw_exit ?_ | refine gw_block ?_ | refine gw_label ?_ | (refine gs_n tyT_ok 0 ?_ (hp := ?hp); case hp => exact ⟨by decide, by decide⟩) | (refine gs_tg tyT_ok rfl ?hb ?_; case hb => first | exact decide_eq_true (by omega) | exact congrArg Bool.not (decide_eq_false (by omega)) | (simp; done) | (simp; omega)) | (refine gs_fg tyT_ok rfl ?hb ?_; case hb => first | exact decide_eq_false (by omega) | exact congrArg Bool.not (decide_eq_true (by omega)) | (simp; done) | (simp; omega)) | (refine gs_t tyT_ok ?hb ?_; case hb => first | exact decide_eq_true (by omega) | exact congrArg Bool.not (decide_eq_false (by omega)) | (simp; done) | (simp; omega)) | (refine gs_f tyT_ok ?hb ?_; case hb => first | exact decide_eq_false (by omega) | exact congrArg Bool.not (decide_eq_true (by omega)) | (simp; done) | (simp; omega)))
    exact gw_ret ⟨_, _, [], [0], .tmp .nil, ⟨rfl, rfl, rfl⟩, rfl, rfl, by decide⟩
theorem LS.part {a1 : Option Addr} {n1 c1 : Nat} {q1 : Nat × GO} {l : List Int} (h : LS a1 n1 c1 q1 l) {a n : Nat} (hn : a + n ≤ l.length) (hn1 : 1 ≤ n) : ∃ o, a1 = some ⟨q1.1, o, none⟩ ∧ LS (some ⟨q1.1, o + a * 1, none⟩) n (c1 - a) q1 (seg l a n) := by
  obtain ⟨h1, h2, ⟨rfl, h3⟩ | ⟨o, rfl, h4, h5⟩⟩ := h
  · omega
  · refine ⟨o, rfl, by simp [seg]; omega, by omega, .inr ⟨o + a * 1, rfl, by simp [seg]; omega, ?_⟩⟩
    have e : (seg l a n).length = n := by simp [seg]; omega
    rw [e]
    have : ((cellsG q1.2).drop (o + a * 1)).take n = ((((cellsG q1.2).drop o).take l.length).drop a).take n := by
      rw [List.drop_take, List.drop_drop, List.take_take, Nat.mul_one]
      congr 1
      omega
    rw [this, h5]
    simp [seg, ints, List.map_take, List.map_drop]
end Go.Proofs.Ytjefdcbljpkmlaa.G
