/- spec: l7Equal, l7Other, l7Run. -/
import Derived.Test.YtdkhjcmhjlbpaaaMi
set_option linter.unusedVariables false
set_option maxRecDepth 10000
namespace Go.Proofs.Ytdkhjcmhjlbpaaa.G
open Go
theorem eqF_stop2 {l : List Int} {a most n f : Nat} (h : ¬ (n < most ∧ a + n < l.length ∧ l.getD (a + n) 0 = l.getD a 0)) : eqF l a most f n = n := eqF_stop h f
set_option maxHeartbeats 1000000 in
theorem l7Equal_w {a1 : Option Addr} {n1 c1 : Nat} {q1 : Nat × GO} {l : List Int} {a most : Nat} (h1 : LS a1 n1 c1 q1 l) (hl : l.length ≤ 1000000) (ha : a < l.length) (hm1 : 1 ≤ most ∧ most ≤ 1000000) :
    Rd Try.prog 156 [.slice a1 n1 c1, .int .i64 a, .int .i64 most] [q1] (.int .i64 ((min most (sm l a) : Nat) : Int)) := by
  obtain rfl := h1.1
  obtain ⟨o, rfl, ho⟩ := h1.at ha
  refine trip_of Try.func156 rfl (by simp [Try.ntmps156]) ?_
  have hmin : eqF l a most l.length 1 = min most (sm l a) := by
    have h2 := eqF_min (l := l) (a := a) (most := most) (most' := max most (l.length + 1)) (by omega) l.length 1 hm1.1
    have h3 := eqF_min (l := l) (a := a) (most := l.length + 1) (most' := max most (l.length + 1)) (by omega) l.length 1 (by omega)
    have h4 := (eqF_le (l := l) (a := a) (most := max most (l.length + 1)) l.length 1 (by omega) (by omega)).2.1
    have h5 : sm l a = eqF l a (l.length + 1) l.length 1 := rfl
    rw [h2, h5, h3]
    omega
  rw [← hmin]
  repeat (first | refine gs_n tyT_ok 0 ?_ | refine gs_gn tyT_ok 0 rfl ?_ | refine gs_no rfl ?_ | refine gs_end ?_ | refine gs_end' ?_ | refine gw_seq ?_ | refine gw_text rfl ?_ | refine gw_skip ?_ | refine gw_yes rfl ?_ | refine gw_no rfl ?_ | refine gw_exit ?_ | refine gw_block ?_ | refine gw_label ?_ | (refine gs_n tyT_ok 0 ?_ (hp := ?hp); case hp => exact ⟨by decide, by decide⟩))
  refine gw_loopL (fun _ (n : Nat) => [(0, .slice (some ⟨q1.1, o, none⟩) l.length c1), (1, .int .i64 a), (2, .int .i64 most), (7, .int .i64 n)]) (fun _ _ => [q1]) (fun m n => eqF l a most m n = eqF l a most l.length 1 ∧ n ≤ l.length ∧ l.length ≤ n + m) l.length 1 ⟨rfl, by omega, by omega⟩ rfl ⟨rfl, rfl, rfl, rfl, trivial⟩ fun m n e ⟨hm, hn, hnm⟩ => ?_
  refine gw_seq (gw_seq ?_)
  by_cases g0 : n < most
  case neg =>
    rw [← hm, eqF_stop (by omega)]
    refine gw_any [.N, .N, .N, .N, .N, .N, .N, .N, .N, .N, .N, .N, .N, .N, .N, .N, .N, .N, .N, .N, .N, .N, .N, .N] rfl rfl rfl ?_
    repeat (first | refine gs_n tyT_ok 0 ?_ | refine gs_gn tyT_ok 0 rfl ?_ | refine gs_no rfl ?_ | refine gs_end ?_ | refine gs_end' ?_ | refine gw_seq ?_ | refine gw_text rfl ?_ | refine gw_skip ?_ | refine gw_yes rfl ?_ | refine gw_no rfl ?_ | refine gw_exit ?_ | refine gw_block ?_ | refine gw_label ?_ | (refine gs_n tyT_ok 0 ?_ (hp := ?hp); case hp => exact ⟨by decide, by decide⟩) | (refine gs_tg tyT_ok rfl ?hb ?_; case hb => first | exact decide_eq_true (by omega) | exact congrArg Bool.not (decide_eq_false (by omega)) | (simp; done) | (simp; omega)) | (refine gs_fg tyT_ok rfl ?hb ?_; case hb => first | exact decide_eq_false (by omega) | exact congrArg Bool.not (decide_eq_true (by omega)) | (simp; done) | (simp; omega)) | (refine gs_t tyT_ok ?hb ?_; case hb => first | exact decide_eq_true (by omega) | exact congrArg Bool.not (decide_eq_false (by omega)) | (simp; done) | (simp; omega)) | (refine gs_f tyT_ok ?hb ?_; case hb => first | exact decide_eq_false (by omega) | exact congrArg Bool.not (decide_eq_true (by omega)) | (simp; done) | (simp; omega)))
    exact gw_ret ⟨_, _, [], [0], .tmp .nil, ⟨rfl, rfl, rfl⟩, rfl, rfl, by decide⟩
  by_cases g : a + n < l.length
  case neg =>
    rw [← hm, eqF_stop (by omega)]
    refine gw_any [.N, .N, .N, .N, .N, .N, .N, .N, .N, .N, .N, .N, .N, .N, .N, .N, .N, .N, .N, .N, .N, .N, .N, .N] rfl rfl rfl ?_
    repeat (first | refine gs_n tyT_ok 0 ?_ | refine gs_gn tyT_ok 0 rfl ?_ | refine gs_no rfl ?_ | refine gs_end ?_ | refine gs_end' ?_ | refine gw_seq ?_ | refine gw_text rfl ?_ | refine gw_skip ?_ | refine gw_yes rfl ?_ | refine gw_no rfl ?_ | refine gw_exit ?_ | refine gw_block ?_ | refine gw_label ?_ | (refine gs_n tyT_ok 0 ?_ (hp := ?hp); case hp => exact ⟨by decide, by decide⟩) | (refine gs_tg tyT_ok rfl ?hb ?_; case hb => first | exact decide_eq_true (by omega) | exact congrArg Bool.not (decide_eq_false (by omega)) | (simp; done) | (simp; omega)) | (refine gs_fg tyT_ok rfl ?hb ?_; case hb => first | exact decide_eq_false (by omega) | exact congrArg Bool.not (decide_eq_true (by omega)) | (simp; done) | (simp; omega)) | (refine gs_t tyT_ok ?hb ?_; case hb => first | exact decide_eq_true (by omega) | exact congrArg Bool.not (decide_eq_false (by omega)) | (simp; done) | (simp; omega)) | (refine gs_f tyT_ok ?hb ?_; case hb => first | exact decide_eq_false (by omega) | exact congrArg Bool.not (decide_eq_true (by omega)) | (simp; done) | (simp; omega)))
    exact gw_ret ⟨_, _, [], [0], .tmp .nil, ⟨rfl, rfl, rfl⟩, rfl, rfl, by decide⟩
  obtain ⟨o2, he, ho2⟩ := h1.at g
  cases he
  have ho3 : (cellsG q1.2)[o + ((a : Int) + (n : Int)).toNat * 1]? = some (.int .i64 (l.getD (a + n) 0)) := by rw [show ((a : Int) + (n : Int)).toNat = a + n by omega]; exact ho2
  refine gw_any [.N, .N, .N, .N, .N, .N, .N, .N, .N, .N, .N, .N, .N, .N, .N, .N, .N, .L 0, .N, .N, .N, .L 0, .N, .N] rfl rfl rfl ?_
  repeat (first | refine gs_n tyT_ok 0 ?_ | refine gs_gn tyT_ok 0 rfl ?_ | refine gs_no rfl ?_ | refine gs_end ?_ | refine gs_end' ?_ | refine gw_seq ?_ | refine gw_text rfl ?_ | refine gw_skip ?_ | refine gw_yes rfl ?_ | refine gw_no rfl ?_ | refine gw_exit ?_ | refine gw_block ?_ | refine gw_label ?_ | (refine gs_n tyT_ok 0 ?_ (hp := ?hp); case hp => exact ⟨by decide, by decide⟩) | (refine gs_tg tyT_ok rfl ?hb ?_; case hb => first | exact decide_eq_true (by omega) | exact congrArg Bool.not (decide_eq_false (by omega)) | (simp; done) | (simp; omega)) | (refine gs_fg tyT_ok rfl ?hb ?_; case hb => first | exact decide_eq_false (by omega) | exact congrArg Bool.not (decide_eq_true (by omega)) | (simp; done) | (simp; omega)) | (refine gs_t tyT_ok ?hb ?_; case hb => first | exact decide_eq_true (by omega) | exact congrArg Bool.not (decide_eq_false (by omega)) | (simp; done) | (simp; omega)) | (refine gs_f tyT_ok ?hb ?_; case hb => first | exact decide_eq_false (by omega) | exact congrArg Bool.not (decide_eq_true (by omega)) | (simp; done) | (simp; omega)))
  refine gs_atg 0 rfl rfl rfl rfl rfl ho3 ?_
  repeat (first | refine gs_n tyT_ok 0 ?_ | refine gs_gn tyT_ok 0 rfl ?_ | refine gs_no rfl ?_ | refine gs_end ?_ | refine gs_end' ?_ | refine gw_seq ?_ | refine gw_text rfl ?_ | refine gw_skip ?_ | refine gw_yes rfl ?_ | refine gw_no rfl ?_ | refine gw_exit ?_ | refine gw_block ?_ | refine gw_label ?_ | (refine gs_n tyT_ok 0 ?_ (hp := ?hp); case hp => exact ⟨by decide, by decide⟩) | (refine gs_tg tyT_ok rfl ?hb ?_; case hb => first | exact decide_eq_true (by omega) | exact congrArg Bool.not (decide_eq_false (by omega)) | (simp; done) | (simp; omega)) | (refine gs_fg tyT_ok rfl ?hb ?_; case hb => first | exact decide_eq_false (by omega) | exact congrArg Bool.not (decide_eq_true (by omega)) | (simp; done) | (simp; omega)) | (refine gs_t tyT_ok ?hb ?_; case hb => first | exact decide_eq_true (by omega) | exact congrArg Bool.not (decide_eq_false (by omega)) | (simp; done) | (simp; omega)) | (refine gs_f tyT_ok ?hb ?_; case hb => first | exact decide_eq_false (by omega) | exact congrArg Bool.not (decide_eq_true (by omega)) | (simp; done) | (simp; omega)))
  refine gs_atg 0 rfl rfl rfl rfl rfl ho ?_
  by_cases g2 : l.getD (a + n) 0 = l.getD a 0
  · refine gs_tg tyT_ok rfl (decide_eq_true g2) ?_
    repeat (first | refine gs_n tyT_ok 0 ?_ | refine gs_gn tyT_ok 0 rfl ?_ | refine gs_no rfl ?_ | refine gs_end ?_ | refine gs_end' ?_ | refine gw_seq ?_ | refine gw_text rfl ?_ | refine gw_skip ?_ | refine gw_yes rfl ?_ | refine gw_no rfl ?_ | refine gw_exit ?_ | refine gw_block ?_ | refine gw_label ?_ | (refine gs_n tyT_ok 0 ?_ (hp := ?hp); case hp => exact ⟨by decide, by decide⟩) | (refine gs_tg tyT_ok rfl ?hb ?_; case hb => first | exact decide_eq_true (by omega) | exact congrArg Bool.not (decide_eq_false (by omega)) | (simp; done) | (simp; omega)) | (refine gs_fg tyT_ok rfl ?hb ?_; case hb => first | exact decide_eq_false (by omega) | exact congrArg Bool.not (decide_eq_true (by omega)) | (simp; done) | (simp; omega)) | (refine gs_t tyT_ok ?hb ?_; case hb => first | exact decide_eq_true (by omega) | exact congrArg Bool.not (decide_eq_false (by omega)) | (simp; done) | (simp; omega)) | (refine gs_f tyT_ok ?hb ?_; case hb => first | exact decide_eq_false (by omega) | exact congrArg Bool.not (decide_eq_true (by omega)) | (simp; done) | (simp; omega)))
    refine ⟨m - 1, by omega, n + 1, ⟨?_, by omega, by omega⟩, rfl, rfl, rfl, rfl, rfl, trivial⟩
    obtain ⟨m', rfl⟩ : ∃ m', m = m' + 1 := ⟨m - 1, by omega⟩
    rw [← hm]
    exact (if_pos ⟨g0, g, g2⟩).symm
  · refine gs_fg tyT_ok rfl (decide_eq_false g2) ?_
    rw [← hm, eqF_stop2 fun h => g2 h.2.2]
    repeat (first | refine gs_n tyT_ok 0 ?_ | refine gs_gn tyT_ok 0 rfl ?_ | refine gs_no rfl ?_ | refine gs_end ?_ | refine gs_end' ?_ | refine gw_seq ?_ | refine gw_text rfl ?_ | refine gw_skip ?_ | refine gw_yes rfl ?_ | refine gw_no rfl ?_ | refine gw_exit ?_ | refine gw_block ?_ | refine gw_label ?_ | (refine gs_n tyT_ok 0 ?_ (hp := ?hp); case hp => exact ⟨by decide, by decide⟩) | (refine gs_tg tyT_ok rfl ?hb ?_; case hb => first | exact decide_eq_true (by omega) | exact congrArg Bool.not (decide_eq_false (by omega)) | (simp; done) | (simp; omega)) | (refine gs_fg tyT_ok rfl ?hb ?_; case hb => first | exact decide_eq_false (by omega) | exact congrArg Bool.not (decide_eq_true (by omega)) | (simp; done) | (simp; omega)) | (refine gs_t tyT_ok ?hb ?_; case hb => first | exact decide_eq_true (by omega) | exact congrArg Bool.not (decide_eq_false (by omega)) | (simp; done) | (simp; omega)) | (refine gs_f tyT_ok ?hb ?_; case hb => first | exact decide_eq_false (by omega) | exact congrArg Bool.not (decide_eq_true (by omega)) | (simp; done) | (simp; omega)))
    exact gw_ret ⟨_, _, [], [0], .tmp .nil, ⟨rfl, rfl, rfl⟩, rfl, rfl, by decide⟩
set_option maxHeartbeats 1000000 in
theorem l7Other_w {a1 : Option Addr} {n1 c1 : Nat} {q1 : Nat × GO} {l : List Int} {a : Nat} (h1 : LS a1 n1 c1 q1 l) (hl : l.length ≤ 1000000) (ha : a < l.length) :
    Rd Try.prog 157 [.slice a1 n1 c1, .int .i64 a, .int .i64 128] [q1] (.int .i64 ((ot l a : Nat) : Int)) := by
  obtain rfl := h1.1
  refine trip_of Try.func157 rfl (by simp [Try.ntmps157]) ?_
  repeat (first | refine gs_n tyT_ok 0 ?_ | refine gs_gn tyT_ok 0 rfl ?_ | refine gs_no rfl ?_ | refine gs_end ?_ | refine gs_end' ?_ | refine gw_seq ?_ | refine gw_text rfl ?_ | refine gw_skip ?_ | refine gw_yes rfl ?_ | refine gw_no rfl ?_ | refine gw_exit ?_ | refine gw_block ?_ | refine gw_label ?_ | (refine gs_n tyT_ok 0 ?_ (hp := ?hp); case hp => exact ⟨by decide, by decide⟩))
  refine gw_loopL (fun _ (n : Nat) => [(0, .slice a1 l.length c1), (1, .int .i64 a), (2, .int .i64 128), (7, .int .i64 n)]) (fun _ _ => [q1]) (fun m n => otF l a m n = ot l a ∧ a + n ≤ l.length ∧ n ≤ 128 ∧ 129 ≤ n + m ∧ 1 ≤ n) 128 1 ⟨rfl, by omega, by omega, by omega, by omega⟩ rfl ⟨rfl, rfl, rfl, rfl, trivial⟩ fun m n e ⟨hm, h2, h3, h4, h5⟩ => ?_
  repeat (first | refine gs_n tyT_ok 0 ?_ | refine gs_gn tyT_ok 0 rfl ?_ | refine gs_no rfl ?_ | refine gs_end ?_ | refine gs_end' ?_ | refine gw_seq ?_ | refine gw_text rfl ?_ | refine gw_skip ?_ | refine gw_yes rfl ?_ | refine gw_no rfl ?_ | refine gw_exit ?_ | refine gw_block ?_ | refine gw_label ?_ | (refine gs_n tyT_ok 0 ?_ (hp := ?hp); case hp => exact ⟨by decide, by decide⟩))
  by_cases k1 : n < 128
  case neg =>
    have hs : ot l a = n := by rw [← hm, otF_stop (by omega)]
    rw [hs]
    repeat (first | refine gs_n tyT_ok 0 ?_ | refine gs_gn tyT_ok 0 rfl ?_ | refine gs_no rfl ?_ | refine gs_end ?_ | refine gs_end' ?_ | refine gw_seq ?_ | refine gw_text rfl ?_ | refine gw_skip ?_ | refine gw_yes rfl ?_ | refine gw_no rfl ?_ | refine gw_exit ?_ | refine gw_block ?_ | refine gw_label ?_ | (refine gs_n tyT_ok 0 ?_ (hp := ?hp); case hp => exact ⟨by decide, by decide⟩) | (refine gs_tg tyT_ok rfl ?hb ?_; case hb => first | exact decide_eq_true (by omega) | exact congrArg Bool.not (decide_eq_false (by omega)) | (simp; done) | (simp; omega)) | (refine gs_fg tyT_ok rfl ?hb ?_; case hb => first | exact decide_eq_false (by omega) | exact congrArg Bool.not (decide_eq_true (by omega)) | (simp; done) | (simp; omega)) | (refine gs_t tyT_ok ?hb ?_; case hb => first | exact decide_eq_true (by omega) | exact congrArg Bool.not (decide_eq_false (by omega)) | (simp; done) | (simp; omega)) | (refine gs_f tyT_ok ?hb ?_; case hb => first | exact decide_eq_false (by omega) | exact congrArg Bool.not (decide_eq_true (by omega)) | (simp; done) | (simp; omega)))
    exact gw_ret ⟨_, _, [], [0], .tmp .nil, ⟨rfl, rfl, rfl⟩, rfl, rfl, by decide⟩
  by_cases k2 : a + n < l.length
  case neg =>
    have hs : ot l a = n := by rw [← hm, otF_stop (by omega)]
    rw [hs]
    repeat (first | refine gs_n tyT_ok 0 ?_ | refine gs_gn tyT_ok 0 rfl ?_ | refine gs_no rfl ?_ | refine gs_end ?_ | refine gs_end' ?_ | refine gw_seq ?_ | refine gw_text rfl ?_ | refine gw_skip ?_ | refine gw_yes rfl ?_ | refine gw_no rfl ?_ | refine gw_exit ?_ | refine gw_block ?_ | refine gw_label ?_ | (refine gs_n tyT_ok 0 ?_ (hp := ?hp); case hp => exact ⟨by decide, by decide⟩) | (refine gs_tg tyT_ok rfl ?hb ?_; case hb => first | exact decide_eq_true (by omega) | exact congrArg Bool.not (decide_eq_false (by omega)) | (simp; done) | (simp; omega)) | (refine gs_fg tyT_ok rfl ?hb ?_; case hb => first | exact decide_eq_false (by omega) | exact congrArg Bool.not (decide_eq_true (by omega)) | (simp; done) | (simp; omega)) | (refine gs_t tyT_ok ?hb ?_; case hb => first | exact decide_eq_true (by omega) | exact congrArg Bool.not (decide_eq_false (by omega)) | (simp; done) | (simp; omega)) | (refine gs_f tyT_ok ?hb ?_; case hb => first | exact decide_eq_false (by omega) | exact congrArg Bool.not (decide_eq_true (by omega)) | (simp; done) | (simp; omega)))
    exact gw_ret ⟨_, _, [], [0], .tmp .nil, ⟨rfl, rfl, rfl⟩, rfl, rfl, by decide⟩
  repeat (first | refine gs_n tyT_ok 0 ?_ | refine gs_gn tyT_ok 0 rfl ?_ | refine gs_no rfl ?_ | refine gs_end ?_ | refine gs_end' ?_ | refine gw_seq ?_ | refine gw_text rfl ?_ | refine gw_skip ?_ | refine gw_yes rfl ?_ | refine gw_no rfl ?_ | refine gw_exit ?_ | refine gw_block ?_ | refine gw_label ?_ | (refine gs_n tyT_ok 0 ?_ (hp := ?hp); case hp => exact ⟨by decide, by decide⟩) | (refine gs_tg tyT_ok rfl ?hb ?_; case hb => first | exact decide_eq_true (by omega) | exact congrArg Bool.not (decide_eq_false (by omega)) | (simp; done) | (simp; omega)) | (refine gs_fg tyT_ok rfl ?hb ?_; case hb => first | exact decide_eq_false (by omega) | exact congrArg Bool.not (decide_eq_true (by omega)) | (simp; done) | (simp; omega)) | (refine gs_t tyT_ok ?hb ?_; case hb => first | exact decide_eq_true (by omega) | exact congrArg Bool.not (decide_eq_false (by omega)) | (simp; done) | (simp; omega)) | (refine gs_f tyT_ok ?hb ?_; case hb => first | exact decide_eq_false (by omega) | exact congrArg Bool.not (decide_eq_true (by omega)) | (simp; done) | (simp; omega)))
  refine gs_rdg [0] ent156 rfl rfl (by decide) (l7Equal_w (a := a + n) (most := 2) h1 hl k2 (by omega)) ?_
  have hsm2 := sm_le k2
  by_cases k3 : sm l (a + n) < 2
  · repeat (first | refine gs_n tyT_ok 0 ?_ | refine gs_gn tyT_ok 0 rfl ?_ | refine gs_no rfl ?_ | refine gs_end ?_ | refine gs_end' ?_ | refine gw_seq ?_ | refine gw_text rfl ?_ | refine gw_skip ?_ | refine gw_yes rfl ?_ | refine gw_no rfl ?_ | refine gw_exit ?_ | refine gw_block ?_ | refine gw_label ?_ | (refine gs_n tyT_ok 0 ?_ (hp := ?hp); case hp => exact ⟨by decide, by decide⟩) | (refine gs_tg tyT_ok rfl ?hb ?_; case hb => first | exact decide_eq_true (by omega) | exact congrArg Bool.not (decide_eq_false (by omega)) | (simp; done) | (simp; omega)) | (refine gs_fg tyT_ok rfl ?hb ?_; case hb => first | exact decide_eq_false (by omega) | exact congrArg Bool.not (decide_eq_true (by omega)) | (simp; done) | (simp; omega)) | (refine gs_t tyT_ok ?hb ?_; case hb => first | exact decide_eq_true (by omega) | exact congrArg Bool.not (decide_eq_false (by omega)) | (simp; done) | (simp; omega)) | (refine gs_f tyT_ok ?hb ?_; case hb => first | exact decide_eq_false (by omega) | exact congrArg Bool.not (decide_eq_true (by omega)) | (simp; done) | (simp; omega)))
    refine ⟨m - 1, by omega, n + 1, ⟨?_, by omega, by omega, by omega, by omega⟩, rfl, rfl, rfl, rfl, rfl, trivial⟩
    obtain ⟨m', rfl⟩ : ∃ m', m = m' + 1 := ⟨m - 1, by omega⟩
    rw [← hm]
    exact (if_pos ⟨k1, k2, k3⟩).symm
  · have hs : ot l a = n := by rw [← hm, otF_stop (by omega)]
    rw [hs]
    repeat (first | refine gs_n tyT_ok 0 ?_ | refine gs_gn tyT_ok 0 rfl ?_ | refine gs_no rfl ?_ | refine gs_end ?_ | refine gs_end' ?_ | refine gw_seq ?_ | refine gw_text rfl ?_ | refine gw_skip ?_ | refine gw_yes rfl ?_ | refine gw_no rfl ?_ | refine gw_exit ?_ | refine gw_block ?_ | refine gw_label ?_ | (refine gs_n tyT_ok 0 ?_ (hp := ?hp); case hp => exact ⟨by decide, by decide⟩) | (refine gs_tg tyT_ok rfl ?hb ?_; case hb => first | exact decide_eq_true (by omega) | exact congrArg Bool.not (decide_eq_false (by omega)) | (simp; done) | (simp; omega)) | (refine gs_fg tyT_ok rfl ?hb ?_; case hb => first | exact decide_eq_false (by omega) | exact congrArg Bool.not (decide_eq_true (by omega)) | (simp; done) | (simp; omega)) | (refine gs_t tyT_ok ?hb ?_; case hb => first | exact decide_eq_true (by omega) | exact congrArg Bool.not (decide_eq_false (by omega)) | (simp; done) | (simp; omega)) | (refine gs_f tyT_ok ?hb ?_; case hb => first | exact decide_eq_false (by omega) | exact congrArg Bool.not (decide_eq_true (by omega)) | (simp; done) | (simp; omega)))
    exact gw_ret ⟨_, _, [], [0], .tmp .nil, ⟨rfl, rfl, rfl⟩, rfl, rfl, by decide⟩
set_option maxHeartbeats 1000000 in
theorem l7Run_w {a1 : Option Addr} {n1 c1 : Nat} {q1 : Nat × GO} {l : List Int} {z : Nat} (h1 : LS a1 n1 c1 q1 l) (hf : small l) (hz : 1 ≤ z ∧ z ≤ 4) (hl : l.length ≤ 1000) :
    Rd Try.prog 128 [.slice a1 n1 c1, .int .i64 z] [q1] (.string (txt (pack l z))) := by
  obtain rfl := h1.1
  refine trip_of Try.func128 rfl (by simp [Try.ntmps128]) ?_
  repeat (first | refine gs_n tyT_ok 0 ?_ | refine gs_gn tyT_ok 0 rfl ?_ | refine gs_no rfl ?_ | refine gs_end ?_ | refine gs_end' ?_ | refine gw_seq ?_ | refine gw_text rfl ?_ | refine gw_skip ?_ | refine gw_yes rfl ?_ | refine gw_no rfl ?_ | refine gw_exit ?_ | refine gw_block ?_ | refine gw_label ?_ | (refine gs_n tyT_ok 0 ?_ (hp := ?hp); case hp => exact ⟨by decide, by decide⟩))
  refine gw_loopL (fun _ (x : Nat × List Int) => [(0, .slice a1 l.length c1), (1, .int .i64 z), (5, .string (txt x.2)), (6, .int .i64 x.1)]) (fun _ _ => [q1]) (fun m x => packF l z m x.1 x.2 = pack l z ∧ x.1 ≤ l.length ∧ l.length ≤ x.1 + m ∧ x.2.length ≤ 5 * x.1) l.length (0, []) ⟨rfl, by omega, by simp, by simp⟩ rfl ⟨rfl, rfl, rfl, rfl, trivial⟩ fun m ⟨a, out⟩ e ⟨hm, h2, h3, h4⟩ => ?_
  dsimp only at hm h2 h3 h4 ⊢
  repeat (first | refine gs_n tyT_ok 0 ?_ | refine gs_gn tyT_ok 0 rfl ?_ | refine gs_no rfl ?_ | refine gs_end ?_ | refine gs_end' ?_ | refine gw_seq ?_ | refine gw_text rfl ?_ | refine gw_skip ?_ | refine gw_yes rfl ?_ | refine gw_no rfl ?_ | refine gw_exit ?_ | refine gw_block ?_ | refine gw_label ?_ | (refine gs_n tyT_ok 0 ?_ (hp := ?hp); case hp => exact ⟨by decide, by decide⟩))
  by_cases k1 : a < l.length
  case neg =>
    have hp : pack l z = out := by rw [← hm, packF_stop k1]
    rw [hp]
    (refine gs_f tyT_ok ?hb ?_; case hb => first | exact decide_eq_false (by omega) | exact congrArg Bool.not (decide_eq_true (by omega)) | (simp; done) | (simp; omega))
    repeat (first | refine gs_n tyT_ok 0 ?_ | refine gs_gn tyT_ok 0 rfl ?_ | refine gs_no rfl ?_ | refine gs_end ?_ | refine gs_end' ?_ | refine gw_seq ?_ | refine gw_text rfl ?_ | refine gw_skip ?_ | refine gw_yes rfl ?_ | refine gw_no rfl ?_ | refine gw_exit ?_ | refine gw_block ?_ | refine gw_label ?_ | (refine gs_n tyT_ok 0 ?_ (hp := ?hp); case hp => exact ⟨by decide, by decide⟩))
    exact gw_ret ⟨_, _, [], [0], .tmp .nil, ⟨rfl, rfl, rfl⟩, rfl, rfl, by decide⟩
  (refine gs_t tyT_ok ?hb ?_; case hb => first | exact decide_eq_true (by omega) | exact congrArg Bool.not (decide_eq_false (by omega)) | (simp; done) | (simp; omega))
  repeat (first | refine gs_n tyT_ok 0 ?_ | refine gs_gn tyT_ok 0 rfl ?_ | refine gs_no rfl ?_ | refine gs_end ?_ | refine gs_end' ?_ | refine gw_seq ?_ | refine gw_text rfl ?_ | refine gw_skip ?_ | refine gw_yes rfl ?_ | refine gw_no rfl ?_ | refine gw_exit ?_ | refine gw_block ?_ | refine gw_label ?_ | (refine gs_n tyT_ok 0 ?_ (hp := ?hp); case hp => exact ⟨by decide, by decide⟩))
  obtain ⟨m', rfl⟩ : ∃ m', m = m' + 1 := ⟨m - 1, by omega⟩
  rw [packF_step k1] at hm
  obtain ⟨r1, r2, r3, r4, r5, r6⟩ := pk_le k1
  have hsm := sm_le k1
  obtain ⟨o, rfl, ho⟩ := h1.at k1
  have hsl := seg_len (l := l) (a := a) (n := pkK l a) (by omega)
  have hx := hf (l.getD a 0) (by rw [List.getD_eq_getElem?_getD, List.getElem?_eq_getElem k1]; exact List.getElem_mem k1)
  obtain ⟨x, hX⟩ := Int.eq_ofNat_of_zero_le hx.1
  refine gs_rd [0] ent156 rfl (by decide) (l7Equal_w (most := 128) h1 (by omega) k1 (by omega)) ?_
  repeat (first | refine gs_n tyT_ok 0 ?_ | refine gs_gn tyT_ok 0 rfl ?_ | refine gs_no rfl ?_)
  refine gs_end ?_
  refine gw_seq ?_
  refine gw_join (α := Nat × GO) (fun _ => [(0, .slice (some ⟨q1.1, o, none⟩) l.length c1), (1, .int .i64 z), (5, .string (txt (out ++ [((pkH l a : Nat) : Int)] ++ les z (seg l a (pkK l a))))), (6, .int .i64 a), (7, .int .i64 (pkN l a))]) (fun x => [q1, x]) (fun _ => True) ?_ fun junk e _ => ?_
  · by_cases k2 : 2 ≤ sm l a
    · have eN : pkN l a = min 128 (sm l a) := if_pos k2
      have eH : pkH l a = 127 + min 128 (sm l a) := if_pos k2
      have eK : pkK l a = 1 := if_pos k2
      rw [eK, seg_one k1, hX, eH, ← eN, show ((127 + pkN l a : Nat) : Int) = 127 + (pkN l a : Int) by omega]
      rw [hX] at ho
      repeat (first | refine gs_n tyT_ok 0 ?_ | refine gs_gn tyT_ok 0 rfl ?_ | refine gs_no rfl ?_ | refine gs_end ?_ | refine gs_end' ?_ | refine gw_seq ?_ | refine gw_text rfl ?_ | refine gw_skip ?_ | refine gw_yes rfl ?_ | refine gw_no rfl ?_ | refine gw_exit ?_ | refine gw_block ?_ | refine gw_label ?_ | (refine gs_n tyT_ok 0 ?_ (hp := ?hp); case hp => exact ⟨by decide, by decide⟩))
      (refine gs_t tyT_ok ?hb ?_; case hb => first | exact decide_eq_true (by omega) | exact congrArg Bool.not (decide_eq_false (by omega)) | (simp; done) | (simp; omega))
      repeat (first | refine gs_n tyT_ok 0 ?_ | refine gs_gn tyT_ok 0 rfl ?_ | refine gs_no rfl ?_ | refine gs_end ?_ | refine gs_end' ?_ | refine gw_seq ?_ | refine gw_text rfl ?_ | refine gw_skip ?_ | refine gw_yes rfl ?_ | refine gw_no rfl ?_ | refine gw_exit ?_ | refine gw_block ?_ | refine gw_label ?_ | (refine gs_n tyT_ok 0 ?_ (hp := ?hp); case hp => exact ⟨by decide, by decide⟩))
      refine gw_nil ?_
      refine gw_anyP [0, 1, 2, 3, 7, 8, 9, 10, 11, 12, 4, 5, 6, 13, 14] [.N, .N, .N, .N, .A 1 (.row 5 (bytesV [127 + (pkN l a : Int)]) 1) (some 1), .L 1, .N, .N, .N, .N, .L 0, .N, .E [], .N, .N] rfl rfl rfl ?_
      repeat (first | refine gs_n tyT_ok 0 ?_ | refine gs_gn tyT_ok 0 rfl ?_ | refine gs_no rfl ?_)
      refine gs_at 0 tyT_ok rfl rfl rfl rfl ho ?_
      repeat (first | refine gs_n tyT_ok 0 ?_ | refine gs_gn tyT_ok 0 rfl ?_ | refine gs_no rfl ?_)
      refine gs_pu ent110 (l1Num_w x z hz.2 (by omega)) ?_
      refine gs_litA tyT_ok 1 (cs := bytesV [127 + (pkN l a : Int)]) rfl rfl rfl (by decide) rfl rfl rfl (fun b => ?_) ⟨rfl, rfl, rfl⟩
      refine gs_txt 1 (xs := [127 + (pkN l a : Int)]) rfl rfl rfl ?_
      refine gs_cat (a := out) (b := [127 + (pkN l a : Int)]) rfl rfl (by rw [List.length_singleton]; omega) ?_
      refine gs_cat (a := out ++ [127 + (pkN l a : Int)]) (b := le x z) rfl rfl (by rw [le_len, List.length_append, List.length_singleton]; omega) ?_
      repeat (first | refine gs_n tyT_ok 0 ?_ | refine gs_gn tyT_ok 0 rfl ?_ | refine gs_no rfl ?_ | refine gs_end ?_ | refine gs_end' ?_ | refine gw_seq ?_ | refine gw_text rfl ?_ | refine gw_skip ?_ | refine gw_yes rfl ?_ | refine gw_no rfl ?_ | refine gw_exit ?_ | refine gw_block ?_ | refine gw_label ?_ | (refine gs_n tyT_ok 0 ?_ (hp := ?hp); case hp => exact ⟨by decide, by decide⟩))
      refine ⟨(b, _), trivial, rfl, rfl, rfl, ?_, rfl, rfl, trivial⟩
      show Value.string (txt (out ++ [127 + (pkN l a : Int)] ++ le x z)) = Value.string (txt (out ++ [127 + (pkN l a : Int)] ++ les z [(x : Int)]))
      simp [les]
    · have eN : pkN l a = ot l a := if_neg k2
      have eH : pkH l a = ot l a - 1 := if_neg k2
      have eK : pkK l a = ot l a := if_neg k2
      rw [eK, eH, ← eN, show ((pkN l a - 1 : Nat) : Int) = (pkN l a : Int) - 1 by omega]
      repeat (first | refine gs_n tyT_ok 0 ?_ | refine gs_gn tyT_ok 0 rfl ?_ | refine gs_no rfl ?_ | refine gs_end ?_ | refine gs_end' ?_ | refine gw_seq ?_ | refine gw_text rfl ?_ | refine gw_skip ?_ | refine gw_yes rfl ?_ | refine gw_no rfl ?_ | refine gw_exit ?_ | refine gw_block ?_ | refine gw_label ?_ | (refine gs_n tyT_ok 0 ?_ (hp := ?hp); case hp => exact ⟨by decide, by decide⟩))
      (refine gs_f tyT_ok ?hb ?_; case hb => first | exact decide_eq_false (by omega) | exact congrArg Bool.not (decide_eq_true (by omega)) | (simp; done) | (simp; omega))
      repeat (first | refine gs_n tyT_ok 0 ?_ | refine gs_gn tyT_ok 0 rfl ?_ | refine gs_no rfl ?_ | refine gs_end ?_ | refine gs_end' ?_ | refine gw_seq ?_ | refine gw_text rfl ?_ | refine gw_skip ?_ | refine gw_yes rfl ?_ | refine gw_no rfl ?_ | refine gw_exit ?_ | refine gw_block ?_ | refine gw_label ?_ | (refine gs_n tyT_ok 0 ?_ (hp := ?hp); case hp => exact ⟨by decide, by decide⟩))
      refine gs_rd [0] ent157 rfl (by decide) (l7Other_w h1 (by omega) k1) ?_
      rw [← eN]
      repeat (first | refine gs_n tyT_ok 0 ?_ | refine gs_gn tyT_ok 0 rfl ?_ | refine gs_no rfl ?_ | refine gs_end ?_ | refine gs_end' ?_ | refine gw_seq ?_ | refine gw_text rfl ?_ | refine gw_skip ?_ | refine gw_yes rfl ?_ | refine gw_no rfl ?_ | refine gw_exit ?_ | refine gw_block ?_ | refine gw_label ?_ | (refine gs_n tyT_ok 0 ?_ (hp := ?hp); case hp => exact ⟨by decide, by decide⟩))
      refine gs_lit tyT_ok (cs := bytesV [(pkN l a : Int) - 1]) rfl rfl rfl (by decide) rfl fun b => ?_
      refine gs_txt 1 (xs := [(pkN l a : Int) - 1]) rfl rfl rfl ?_
      refine gs_cat (a := out) (b := [(pkN l a : Int) - 1]) rfl rfl (by rw [List.length_singleton]; omega) ?_
      repeat (first | refine gs_n tyT_ok 0 ?_ | refine gs_gn tyT_ok 0 rfl ?_ | refine gs_no rfl ?_ | refine gs_end ?_ | refine gs_end' ?_ | refine gw_seq ?_ | refine gw_text rfl ?_ | refine gw_skip ?_ | refine gw_yes rfl ?_ | refine gw_no rfl ?_ | refine gw_exit ?_ | refine gw_block ?_ | refine gw_label ?_ | (refine gs_n tyT_ok 0 ?_ (hp := ?hp); case hp => exact ⟨by decide, by decide⟩))
      refine gw_loopL (fun _ (j : Nat) => [(0, .slice (some ⟨q1.1, o, none⟩) l.length c1), (1, .int .i64 z), (5, .string (txt (out ++ [(pkN l a : Int) - 1] ++ les z ((seg l a (pkN l a)).take j)))), (6, .int .i64 a), (7, .int .i64 (pkN l a)), (8, .int .i64 j)]) (fun _ _ => [q1, (b, .row 5 (bytesV [(pkN l a : Int) - 1]) 1)]) (fun m j => j + m = pkN l a) (pkN l a) 0 (by omega) rfl ⟨rfl, rfl, congrArg (fun x => Value.string (txt x)) (by simp [les]), rfl, rfl, rfl, trivial⟩ fun m2 j e hj => ?_
      repeat (first | refine gs_n tyT_ok 0 ?_ | refine gs_gn tyT_ok 0 rfl ?_ | refine gs_no rfl ?_ | refine gs_end ?_ | refine gs_end' ?_ | refine gw_seq ?_ | refine gw_text rfl ?_ | refine gw_skip ?_ | refine gw_yes rfl ?_ | refine gw_no rfl ?_ | refine gw_exit ?_ | refine gw_block ?_ | refine gw_label ?_ | (refine gs_n tyT_ok 0 ?_ (hp := ?hp); case hp => exact ⟨by decide, by decide⟩))
      by_cases k3 : j < pkN l a
      · (refine gs_t tyT_ok ?hb ?_; case hb => first | exact decide_eq_true (by omega) | exact congrArg Bool.not (decide_eq_false (by omega)) | (simp; done) | (simp; omega))
        have hsN : (seg l a (pkN l a)).length = pkN l a := seg_len (by omega)
        have hgj : (seg l a (pkN l a)).getD j 0 = l.getD (a + j) 0 := by
          unfold seg
          rw [List.getD_eq_getElem?_getD, List.getElem?_take_of_lt k3, List.getElem?_drop, ← List.getD_eq_getElem?_getD]
        obtain ⟨o2, he, ho2⟩ := h1.at (k := a + j) (by omega)
        cases he
        have hx := hf (l.getD (a + j) 0) (by rw [List.getD_eq_getElem?_getD, List.getElem?_eq_getElem (show a + j < l.length by omega)]; exact List.getElem_mem _)
        obtain ⟨y, hY⟩ := Int.eq_ofNat_of_zero_le hx.1
        have htk := les_take z (seg l a (pkN l a)) (i := j) (by omega)
        rw [hgj, hY] at htk
        rw [hY] at ho2
        have hlen := les_take_len z (seg l a (pkN l a)) j hz.2 (by omega)
        have ho3 : (cellsG q1.2)[o + ((a : Int) + (j : Int)).toNat * 1]? = some (.int .i64 (y : Int)) := by rw [show ((a : Int) + (j : Int)).toNat = a + j by omega]; exact ho2
        repeat (first | refine gs_n tyT_ok 0 ?_ | refine gs_gn tyT_ok 0 rfl ?_ | refine gs_no rfl ?_ | refine gs_end ?_ | refine gs_end' ?_ | refine gw_seq ?_ | refine gw_text rfl ?_ | refine gw_skip ?_ | refine gw_yes rfl ?_ | refine gw_no rfl ?_ | refine gw_exit ?_ | refine gw_block ?_ | refine gw_label ?_ | (refine gs_n tyT_ok 0 ?_ (hp := ?hp); case hp => exact ⟨by decide, by decide⟩))
        refine gs_at 0 tyT_ok rfl rfl rfl rfl ho3 ?_
        repeat (first | refine gs_n tyT_ok 0 ?_ | refine gs_gn tyT_ok 0 rfl ?_ | refine gs_no rfl ?_)
        refine gs_pu ent110 (l1Num_w y z hz.2 (by omega)) ?_
        refine gs_cat (a := out ++ [(pkN l a : Int) - 1] ++ les z ((seg l a (pkN l a)).take j)) (b := le y z) rfl rfl (by rw [le_len, List.length_append, List.length_append, List.length_singleton]; omega) ?_
        rw [List.append_assoc (out ++ [(pkN l a : Int) - 1]), show le y z = le ((y : Int)).toNat z from rfl, ← htk]
        repeat (first | refine gs_n tyT_ok 0 ?_ | refine gs_gn tyT_ok 0 rfl ?_ | refine gs_no rfl ?_ | refine gs_end ?_ | refine gs_end' ?_ | refine gw_seq ?_ | refine gw_text rfl ?_ | refine gw_skip ?_ | refine gw_yes rfl ?_ | refine gw_no rfl ?_ | refine gw_exit ?_ | refine gw_block ?_ | refine gw_label ?_ | (refine gs_n tyT_ok 0 ?_ (hp := ?hp); case hp => exact ⟨by decide, by decide⟩))
        exact ⟨m2 - 1, by omega, j + 1, by omega, rfl, rfl, rfl, rfl, rfl, rfl, rfl, trivial⟩
      obtain rfl : j = pkN l a := by omega
      (refine gs_f tyT_ok ?hb ?_; case hb => first | exact decide_eq_false (by omega) | exact congrArg Bool.not (decide_eq_true (by omega)) | (simp; done) | (simp; omega))
      repeat (first | refine gs_n tyT_ok 0 ?_ | refine gs_gn tyT_ok 0 rfl ?_ | refine gs_no rfl ?_ | refine gs_end ?_ | refine gs_end' ?_ | refine gw_seq ?_ | refine gw_text rfl ?_ | refine gw_skip ?_ | refine gw_yes rfl ?_ | refine gw_no rfl ?_ | refine gw_exit ?_ | refine gw_block ?_ | refine gw_label ?_ | (refine gs_n tyT_ok 0 ?_ (hp := ?hp); case hp => exact ⟨by decide, by decide⟩))
      rw [List.take_of_length_le (by rw [seg_len (by omega)]; omega)]
      exact ⟨(b, _), trivial, rfl, rfl, rfl, rfl, rfl, rfl, trivial⟩
  refine gw_weak [0] (by decide) rfl ?_
  repeat (first | refine gs_n tyT_ok 0 ?_ | refine gs_gn tyT_ok 0 rfl ?_ | refine gs_no rfl ?_ | refine gs_end ?_ | refine gs_end' ?_ | refine gw_seq ?_ | refine gw_text rfl ?_ | refine gw_skip ?_ | refine gw_yes rfl ?_ | refine gw_no rfl ?_ | refine gw_exit ?_ | refine gw_block ?_ | refine gw_label ?_ | (refine gs_n tyT_ok 0 ?_ (hp := ?hp); case hp => exact ⟨by decide, by decide⟩))
  refine ⟨m', by omega, (a + pkN l a, _), ⟨hm, by show a + pkN l a ≤ _; omega, by show l.length ≤ a + pkN l a + m'; omega, ?_⟩, rfl, rfl, rfl, rfl, rfl, trivial⟩
  show (out ++ [((pkH l a : Nat) : Int)] ++ les z (seg l a (pkK l a))).length ≤ 5 * (a + pkN l a)
  rw [List.length_append, List.length_append, List.length_singleton, les_len, hsl]
  have := Nat.mul_le_mul_left (pkK l a) hz.2
  omega
end Go.Proofs.Ytdkhjcmhjlbpaaa.G
