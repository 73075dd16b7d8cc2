/- What the law FnRep needs, out of the texts Wx. -/
import Derived.Test.YtjefdcbljpkmlaaKFnRep32
section
set_option linter.unusedVariables false
set_option maxRecDepth 10000
namespace Go.Proofs.Ytjefdcbljpkmlaa.G
open Go
def PickOut (g : Nat) (q : Nat × GO) (B : Nat) (n : Int) : OutT := fun v F' ns => ∃ x p, v = .int .i64 x ∧ F' = [p, q] ∧ ns = [] ∧ RS g q (B + 1) p ∧ 0 ≤ x ∧ (x < n ∨ n < 1 ∧ x = 0 ∨ x = 0)
set_option maxHeartbeats 1000000 in
theorem pick_w {g : Nat} {p q : Nat × GO} {B : Nat} {n : Int} (hr : RS g q B p) (hB : B ≤ 1000000000) (hn : n ≤ 4294967296) : Trip Try.prog 79 [ptr g, .int .i64 n] [p, q] (PickOut g q B n) := by
  obtain ⟨a, m, c, zs, at_, rfl, hb, hat⟩ := hr
  have hm := hb.1
  refine trip_of Try.func79 rfl (by simp [Try.ntmps79]) ?_
  repeat (first | refine gs_n tyT_ok 0 ?_ | refine gs_gn tyT_ok 0 rfl ?_ | refine gs_no rfl ?_ | refine gs_l tyT_ok 0 ?_ | refine gs_gl tyT_ok 0 rfl ?_ | (refine gs_l tyT_ok 0 ?_ (hp := ?hp); case hp => exact ⟨rfl, Nat.le_of_ble_eq_true rfl⟩) | (refine gs_gl tyT_ok 0 rfl ?_ (hp := ?hp); case hp => exact ⟨rfl, Nat.le_of_ble_eq_true rfl⟩) | refine gs_end ?_ | refine gs_end' ?_ | refine gw_seq ?_ | refine gw_text rfl ?_ | refine gw_skip ?_ | refine gw_yes rfl ?_ | refine gw_no rfl ?_ | refine gw_exit ?_ | refine gw_block ?_ | refine gw_label ?_ | (refine gs_n tyT_ok 0 ?_ (hp := ?hp); case hp => exact ⟨by decide, by decide⟩))
  refine gs_store tyT_ok 0 rfl rfl rfl rfl rfl rfl (Nat.le_of_ble_eq_true rfl) (Nat.le_of_ble_eq_true rfl) ?_
  repeat (first | refine gs_n tyT_ok 0 ?_ | refine gs_gn tyT_ok 0 rfl ?_ | refine gs_no rfl ?_ | refine gs_l tyT_ok 0 ?_ | refine gs_gl tyT_ok 0 rfl ?_ | (refine gs_l tyT_ok 0 ?_ (hp := ?hp); case hp => exact ⟨rfl, Nat.le_of_ble_eq_true rfl⟩) | (refine gs_gl tyT_ok 0 rfl ?_ (hp := ?hp); case hp => exact ⟨rfl, Nat.le_of_ble_eq_true rfl⟩) | refine gs_end ?_ | refine gs_end' ?_ | refine gw_seq ?_ | refine gw_text rfl ?_ | refine gw_skip ?_ | refine gw_yes rfl ?_ | refine gw_no rfl ?_ | refine gw_exit ?_ | refine gw_block ?_ | refine gw_label ?_ | (refine gs_n tyT_ok 0 ?_ (hp := ?hp); case hp => exact ⟨by decide, by decide⟩))
  have hS : RS g q (B + 1) (g, rdG (.slice a m c) ((at_ + 1 : Nat) : Int)) := ⟨a, m, c, zs, at_ + 1, rfl, hb, by omega⟩
  have hmz : m ≤ 2000 ∨ 2000 < m := by omega
  by_cases k1 : n < 1
  · repeat (first | refine gs_n tyT_ok 0 ?_ | refine gs_gn tyT_ok 0 rfl ?_ | refine gs_no rfl ?_ | refine gs_l tyT_ok 0 ?_ | refine gs_gl tyT_ok 0 rfl ?_ | (refine gs_l tyT_ok 0 ?_ (hp := ?hp); case hp => exact ⟨rfl, Nat.le_of_ble_eq_true rfl⟩) | (refine gs_gl tyT_ok 0 rfl ?_ (hp := ?hp); case hp => exact ⟨rfl, Nat.le_of_ble_eq_true rfl⟩) | refine gs_end ?_ | refine gs_end' ?_ | refine gw_seq ?_ | refine gw_text rfl ?_ | refine gw_skip ?_ | refine gw_yes rfl ?_ | refine gw_no rfl ?_ | refine gw_exit ?_ | refine gw_block ?_ | refine gw_label ?_ | (refine gs_n tyT_ok 0 ?_ (hp := ?hp); case hp => exact ⟨by decide, by decide⟩) | (refine gs_tg tyT_ok rfl ?hb ?_; case hb => first | exact decide_eq_true (by omega) | exact congrArg Bool.not (decide_eq_false (by omega)) | (simp; done) | (simp; omega)) | (refine gs_fg tyT_ok rfl ?hb ?_; case hb => first | exact decide_eq_false (by omega) | exact congrArg Bool.not (decide_eq_true (by omega)) | (simp; done) | (simp; omega)) | (refine gs_t tyT_ok ?hb ?_; case hb => first | exact decide_eq_true (by omega) | exact congrArg Bool.not (decide_eq_false (by omega)) | (simp; done) | (simp; omega)) | (refine gs_f tyT_ok ?hb ?_; case hb => first | exact decide_eq_false (by omega) | exact congrArg Bool.not (decide_eq_true (by omega)) | (simp; done) | (simp; omega)))
    exact gw_ret ⟨_, [(g, rdG (.slice a m c) ((at_ + 1 : Nat) : Int)), q], [], [0, 1], .tmp .nil, ⟨0, _, rfl, rfl, rfl, hS, by omega, .inr (.inr rfl)⟩, rfl, rfl, by decide⟩
  by_cases k2 : m = 0
  · repeat (first | refine gs_n tyT_ok 0 ?_ | refine gs_gn tyT_ok 0 rfl ?_ | refine gs_no rfl ?_ | refine gs_l tyT_ok 0 ?_ | refine gs_gl tyT_ok 0 rfl ?_ | (refine gs_l tyT_ok 0 ?_ (hp := ?hp); case hp => exact ⟨rfl, Nat.le_of_ble_eq_true rfl⟩) | (refine gs_gl tyT_ok 0 rfl ?_ (hp := ?hp); case hp => exact ⟨rfl, Nat.le_of_ble_eq_true rfl⟩) | refine gs_end ?_ | refine gs_end' ?_ | refine gw_seq ?_ | refine gw_text rfl ?_ | refine gw_skip ?_ | refine gw_yes rfl ?_ | refine gw_no rfl ?_ | refine gw_exit ?_ | refine gw_block ?_ | refine gw_label ?_ | (refine gs_n tyT_ok 0 ?_ (hp := ?hp); case hp => exact ⟨by decide, by decide⟩) | (refine gs_tg tyT_ok rfl ?hb ?_; case hb => first | exact decide_eq_true (by omega) | exact congrArg Bool.not (decide_eq_false (by omega)) | (simp; done) | (simp; omega)) | (refine gs_fg tyT_ok rfl ?hb ?_; case hb => first | exact decide_eq_false (by omega) | exact congrArg Bool.not (decide_eq_true (by omega)) | (simp; done) | (simp; omega)) | (refine gs_t tyT_ok ?hb ?_; case hb => first | exact decide_eq_true (by omega) | exact congrArg Bool.not (decide_eq_false (by omega)) | (simp; done) | (simp; omega)) | (refine gs_f tyT_ok ?hb ?_; case hb => first | exact decide_eq_false (by omega) | exact congrArg Bool.not (decide_eq_true (by omega)) | (simp; done) | (simp; omega)))
    exact gw_ret ⟨_, [(g, rdG (.slice a m c) ((at_ + 1 : Nat) : Int)), q], [], [0, 1], .tmp .nil, ⟨0, _, rfl, rfl, rfl, hS, by omega, .inr (.inr rfl)⟩, rfl, rfl, by decide⟩
  obtain ⟨o, rfl, _⟩ := hb.at (k := 0) (by omega)
  repeat (first | refine gs_n tyT_ok 0 ?_ | refine gs_gn tyT_ok 0 rfl ?_ | refine gs_no rfl ?_ | refine gs_l tyT_ok 0 ?_ | refine gs_gl tyT_ok 0 rfl ?_ | (refine gs_l tyT_ok 0 ?_ (hp := ?hp); case hp => exact ⟨rfl, Nat.le_of_ble_eq_true rfl⟩) | (refine gs_gl tyT_ok 0 rfl ?_ (hp := ?hp); case hp => exact ⟨rfl, Nat.le_of_ble_eq_true rfl⟩) | refine gs_end ?_ | refine gs_end' ?_ | refine gw_seq ?_ | refine gw_text rfl ?_ | refine gw_skip ?_ | refine gw_yes rfl ?_ | refine gw_no rfl ?_ | refine gw_exit ?_ | refine gw_block ?_ | refine gw_label ?_ | (refine gs_n tyT_ok 0 ?_ (hp := ?hp); case hp => exact ⟨by decide, by decide⟩) | (refine gs_tg tyT_ok rfl ?hb ?_; case hb => first | exact decide_eq_true (by omega) | exact congrArg Bool.not (decide_eq_false (by omega)) | (simp; done) | (simp; omega)) | (refine gs_fg tyT_ok rfl ?hb ?_; case hb => first | exact decide_eq_false (by omega) | exact congrArg Bool.not (decide_eq_true (by omega)) | (simp; done) | (simp; omega)) | (refine gs_t tyT_ok ?hb ?_; case hb => first | exact decide_eq_true (by omega) | exact congrArg Bool.not (decide_eq_false (by omega)) | (simp; done) | (simp; omega)) | (refine gs_f tyT_ok ?hb ?_; case hb => first | exact decide_eq_false (by omega) | exact congrArg Bool.not (decide_eq_true (by omega)) | (simp; done) | (simp; omega)))
  rw [show ((at_ : Int) + 1 - 1) = (at_ : Int) by omega]
  by_cases k3 : at_ < m
  · obtain ⟨o1, he, ho1, x0, x1⟩ := hb.at (k := at_) (by omega)
    cases he
    repeat (first | refine gs_n tyT_ok 0 ?_ | refine gs_gn tyT_ok 0 rfl ?_ | refine gs_no rfl ?_ | refine gs_l tyT_ok 0 ?_ | refine gs_gl tyT_ok 0 rfl ?_ | (refine gs_l tyT_ok 0 ?_ (hp := ?hp); case hp => exact ⟨rfl, Nat.le_of_ble_eq_true rfl⟩) | (refine gs_gl tyT_ok 0 rfl ?_ (hp := ?hp); case hp => exact ⟨rfl, Nat.le_of_ble_eq_true rfl⟩) | refine gs_end ?_ | refine gs_end' ?_ | refine gw_seq ?_ | refine gw_text rfl ?_ | refine gw_skip ?_ | refine gw_yes rfl ?_ | refine gw_no rfl ?_ | refine gw_exit ?_ | refine gw_block ?_ | refine gw_label ?_ | (refine gs_n tyT_ok 0 ?_ (hp := ?hp); case hp => exact ⟨by decide, by decide⟩) | (refine gs_tg tyT_ok rfl ?hb ?_; case hb => first | exact decide_eq_true (by omega) | exact congrArg Bool.not (decide_eq_false (by omega)) | (simp; done) | (simp; omega)) | (refine gs_fg tyT_ok rfl ?hb ?_; case hb => first | exact decide_eq_false (by omega) | exact congrArg Bool.not (decide_eq_true (by omega)) | (simp; done) | (simp; omega)) | (refine gs_t tyT_ok ?hb ?_; case hb => first | exact decide_eq_true (by omega) | exact congrArg Bool.not (decide_eq_false (by omega)) | (simp; done) | (simp; omega)) | (refine gs_f tyT_ok ?hb ?_; case hb => first | exact decide_eq_false (by omega) | exact congrArg Bool.not (decide_eq_true (by omega)) | (simp; done) | (simp; omega)))
    refine gs_atb 1 rfl rfl rfl rfl ho1 ?_
    repeat (first | refine gs_n tyT_ok 0 ?_ | refine gs_gn tyT_ok 0 rfl ?_ | refine gs_no rfl ?_ | refine gs_l tyT_ok 0 ?_ | refine gs_gl tyT_ok 0 rfl ?_ | (refine gs_l tyT_ok 0 ?_ (hp := ?hp); case hp => exact ⟨rfl, Nat.le_of_ble_eq_true rfl⟩) | (refine gs_gl tyT_ok 0 rfl ?_ (hp := ?hp); case hp => exact ⟨rfl, Nat.le_of_ble_eq_true rfl⟩) | refine gs_end ?_ | refine gs_end' ?_ | refine gw_seq ?_ | refine gw_text rfl ?_ | refine gw_skip ?_ | refine gw_yes rfl ?_ | refine gw_no rfl ?_ | refine gw_exit ?_ | refine gw_block ?_ | refine gw_label ?_ | (refine gs_n tyT_ok 0 ?_ (hp := ?hp); case hp => exact ⟨by decide, by decide⟩) | (refine gs_tg tyT_ok rfl ?hb ?_; case hb => first | exact decide_eq_true (by omega) | exact congrArg Bool.not (decide_eq_false (by omega)) | (simp; done) | (simp; omega)) | (refine gs_fg tyT_ok rfl ?hb ?_; case hb => first | exact decide_eq_false (by omega) | exact congrArg Bool.not (decide_eq_true (by omega)) | (simp; done) | (simp; omega)) | (refine gs_t tyT_ok ?hb ?_; case hb => first | exact decide_eq_true (by omega) | exact congrArg Bool.not (decide_eq_false (by omega)) | (simp; done) | (simp; omega)) | (refine gs_f tyT_ok ?hb ?_; case hb => first | exact decide_eq_false (by omega) | exact congrArg Bool.not (decide_eq_true (by omega)) | (simp; done) | (simp; omega)))
    have hmod := Int.emod_nonneg (zs.getD at_ 0) (show n ≠ 0 by omega)
    have hlt := Int.emod_lt_of_pos (zs.getD at_ 0) (show 0 < n by omega)
    exact gw_ret ⟨_, [(g, rdG (.slice (some ⟨q.1, o, none⟩) m c) ((at_ + 1 : Nat) : Int)), q], [], [0, 1], .tmp .nil, ⟨_, _, rfl, rfl, rfl, hS, hmod, .inl hlt⟩, rfl, rfl, by decide⟩
  (refine gs_f tyT_ok ?hb ?_; case hb => first | exact decide_eq_false (by omega) | exact congrArg Bool.not (decide_eq_true (by omega)) | (simp; done) | (simp; omega))
  repeat (first | refine gs_n tyT_ok 0 ?_ | refine gs_gn tyT_ok 0 rfl ?_ | refine gs_no rfl ?_ | refine gs_end ?_ | refine gs_end' ?_ | refine gw_seq ?_ | refine gw_text rfl ?_ | refine gw_skip ?_ | refine gw_yes rfl ?_ | refine gw_no rfl ?_ | refine gw_exit ?_ | refine gw_block ?_ | refine gw_label ?_ | (refine gs_n tyT_ok 0 ?_ (hp := ?hp); case hp => exact ⟨by decide, by decide⟩))
  have m0 : (0 : Int) < (m : Int) := by omega
  have d1 := Int.emod_nonneg (at_ : Int) (show (m : Int) ≠ 0 by omega)
  have d2 := Int.emod_lt_of_pos (at_ : Int) m0
  have d3 := Int.emod_nonneg ((at_ : Int) * 7 + 3) (show (m : Int) ≠ 0 by omega)
  have d4 := Int.emod_lt_of_pos ((at_ : Int) * 7 + 3) m0
  have d5 := Int.ediv_nonneg (show (0 : Int) ≤ (at_ : Int) by omega) (show (0 : Int) ≤ (m : Int) by omega)
  have d6 := Int.ediv_le_self (m : Int) (show (0 : Int) ≤ (at_ : Int) by omega)
  obtain ⟨o1, he, ho1, x0, x1⟩ := hb.at (k := ((at_ : Int) % (m : Int)).toNat) (by omega)
  cases he
  obtain ⟨o1, he, ho2, y0, y1⟩ := hb.at (k := (((at_ : Int) * 7 + 3) % (m : Int)).toNat) (by omega)
  cases he
  generalize zs.getD ((at_ : Int) % (m : Int)).toNat 0 = X at ho1 x0 x1
  generalize zs.getD (((at_ : Int) * 7 + 3) % (m : Int)).toNat 0 = Y at ho2 y0 y1
  refine gw_any [.N, .N, .N, .L 0, .N, .N, .N, .N, .L 0, .N, .N, .N, .L 1, .N, .N, .N, .N, .N, .L 0, .N, .N, .N, .N, .N, .N, .L 0, .N, .N, .N, .L 1, .N, .N, .N, .N, .N, .N, .N, .N, .N, .N, .L 0, .N, .N, .N, .N, .N] rfl rfl rfl ?_
  repeat (first | refine gs_n tyT_ok 0 ?_ | refine gs_gn tyT_ok 0 rfl ?_ | refine gs_no rfl ?_ | refine gs_l tyT_ok 0 ?_ | refine gs_gl tyT_ok 0 rfl ?_ | (refine gs_l tyT_ok 0 ?_ (hp := ?hp); case hp => exact ⟨rfl, Nat.le_of_ble_eq_true rfl⟩) | (refine gs_gl tyT_ok 0 rfl ?_ (hp := ?hp); case hp => exact ⟨rfl, Nat.le_of_ble_eq_true rfl⟩))
  refine gs_atb 1 rfl rfl rfl rfl ho1 ?_
  repeat (first | refine gs_n tyT_ok 0 ?_ | refine gs_gn tyT_ok 0 rfl ?_ | refine gs_no rfl ?_ | refine gs_l tyT_ok 0 ?_ | refine gs_gl tyT_ok 0 rfl ?_ | (refine gs_l tyT_ok 0 ?_ (hp := ?hp); case hp => exact ⟨rfl, Nat.le_of_ble_eq_true rfl⟩) | (refine gs_gl tyT_ok 0 rfl ?_ (hp := ?hp); case hp => exact ⟨rfl, Nat.le_of_ble_eq_true rfl⟩))
  refine gs_atb 1 rfl rfl rfl rfl ho2 ?_
  repeat (first | refine gs_n tyT_ok 0 ?_ | refine gs_gn tyT_ok 0 rfl ?_ | refine gs_no rfl ?_ | refine gs_l tyT_ok 0 ?_ | refine gs_gl tyT_ok 0 rfl ?_ | (refine gs_l tyT_ok 0 ?_ (hp := ?hp); case hp => exact ⟨rfl, Nat.le_of_ble_eq_true rfl⟩) | (refine gs_gl tyT_ok 0 rfl ?_ (hp := ?hp); case hp => exact ⟨rfl, Nat.le_of_ble_eq_true rfl⟩))
  obtain ⟨S, hS2⟩ : ∃ S : Nat, X * 131 + Y * 1117 + (at_ : Int) * 29 + (at_ : Int) / (m : Int) * 53 = (S : Int) := ⟨(X * 131 + Y * 1117 + (at_ : Int) * 29 + (at_ : Int) / (m : Int) * 53).toNat, by omega⟩
  have hS3 : S ≤ 1000000000000 := by omega
  rw [hS2]
  obtain ⟨r, hr1, hr2⟩ := xor_ge (a := S) (b := S / 64) (by omega) (by omega)
  refine gs_end' ?_
  repeat (first | refine gs_n tyT_ok 0 ?_ | refine gs_gn tyT_ok 0 rfl ?_ | refine gs_no rfl ?_ | refine gs_end ?_ | refine gs_end' ?_ | refine gw_seq ?_ | refine gw_text rfl ?_ | refine gw_skip ?_ | refine gw_yes rfl ?_ | refine gw_no rfl ?_ | refine gw_exit ?_ | refine gw_block ?_ | refine gw_label ?_ | (refine gs_n tyT_ok 0 ?_ (hp := ?hp); case hp => exact ⟨by decide, by decide⟩))
  rw [show bits .xor .i64 (S : Int) ((S : Int) / 64) = (r : Int) from hr1]
  repeat (first | refine gs_n tyT_ok 0 ?_ | refine gs_gn tyT_ok 0 rfl ?_ | refine gs_no rfl ?_ | refine gs_end ?_ | refine gs_end' ?_ | refine gw_seq ?_ | refine gw_text rfl ?_ | refine gw_skip ?_ | refine gw_yes rfl ?_ | refine gw_no rfl ?_ | refine gw_exit ?_ | refine gw_block ?_ | refine gw_label ?_ | (refine gs_n tyT_ok 0 ?_ (hp := ?hp); case hp => exact ⟨by decide, by decide⟩))
  have hmod := Int.emod_nonneg (r : Int) (show n ≠ 0 by omega)
  have hlt := Int.emod_lt_of_pos (r : Int) (show 0 < n by omega)
  exact gw_ret ⟨_, [(g, rdG (.slice (some ⟨q.1, o, none⟩) m c) ((at_ + 1 : Nat) : Int)), q], [], [0, 1], .tmp .nil, ⟨_, _, rfl, rfl, rfl, hS, hmod, .inl hlt⟩, rfl, rfl, by decide⟩
set_option maxHeartbeats 1000000 in
theorem open_w {a : Option Addr} {n c : Nat} {q : Nat × GO} {zs : List Int} (hb : LB a n c q zs) (hn : n ≤ 1000000000000) : Trip Try.prog 78 [.slice a n c] [q] (fun v F' ns => ∃ g p, v = ptr g ∧ F' = [q] ∧ ns = [p] ∧ RS g q 0 p) := by
  refine trip_of Try.func78 rfl (by simp [Try.ntmps78]) ?_
  repeat (first | refine gs_n tyT_ok 0 ?_ | refine gs_gn tyT_ok 0 rfl ?_ | refine gs_no rfl ?_ | refine gs_end ?_ | refine gs_end' ?_ | refine gw_seq ?_ | refine gw_text rfl ?_ | refine gw_skip ?_ | refine gw_yes rfl ?_ | refine gw_no rfl ?_ | refine gw_exit ?_ | refine gw_block ?_ | refine gw_label ?_ | (refine gs_n tyT_ok 0 ?_ (hp := ?hp); case hp => exact ⟨by decide, by decide⟩))
  by_cases k1 : 2000 < n
  · have hc := hb.2.1
    obtain ⟨o, rfl, _⟩ := hb.at (k := 0) (by have := hb.1; omega)
    (refine gs_t tyT_ok ?hb ?_; case hb => first | exact decide_eq_true (by omega) | exact congrArg Bool.not (decide_eq_false (by omega)) | (simp; done) | (simp; omega))
    repeat (first | refine gs_n tyT_ok 0 ?_ | refine gs_gn tyT_ok 0 rfl ?_ | refine gs_no rfl ?_ | refine gs_end ?_ | refine gs_end' ?_ | refine gw_seq ?_ | refine gw_text rfl ?_ | refine gw_skip ?_ | refine gw_yes rfl ?_ | refine gw_no rfl ?_ | refine gw_exit ?_ | refine gw_block ?_ | refine gw_label ?_ | (refine gs_n tyT_ok 0 ?_ (hp := ?hp); case hp => exact ⟨by decide, by decide⟩))
    refine gs_box fun g => ?_
    repeat (first | refine gs_n tyT_ok 0 ?_ | refine gs_gn tyT_ok 0 rfl ?_ | refine gs_no rfl ?_ | refine gs_end ?_ | refine gs_end' ?_ | refine gw_seq ?_ | refine gw_text rfl ?_ | refine gw_skip ?_ | refine gw_yes rfl ?_ | refine gw_no rfl ?_ | refine gw_exit ?_ | refine gw_block ?_ | refine gw_label ?_ | (refine gs_n tyT_ok 0 ?_ (hp := ?hp); case hp => exact ⟨by decide, by decide⟩))
    exact gw_ret ⟨_, [q], [(g, rdG (.slice (some ⟨q.1, o, none⟩) 2000 c) 0)], [0, 1], .tmp .nil, ⟨g, _, rfl, rfl, rfl, _, _, _, _, 0, rfl, hb.take (by omega), Nat.le_refl _⟩, rfl, rfl, by decide⟩
  · (refine gs_f tyT_ok ?hb ?_; case hb => first | exact decide_eq_false (by omega) | exact congrArg Bool.not (decide_eq_true (by omega)) | (simp; done) | (simp; omega))
    repeat (first | refine gs_n tyT_ok 0 ?_ | refine gs_gn tyT_ok 0 rfl ?_ | refine gs_no rfl ?_ | refine gs_end ?_ | refine gs_end' ?_ | refine gw_seq ?_ | refine gw_text rfl ?_ | refine gw_skip ?_ | refine gw_yes rfl ?_ | refine gw_no rfl ?_ | refine gw_exit ?_ | refine gw_block ?_ | refine gw_label ?_ | (refine gs_n tyT_ok 0 ?_ (hp := ?hp); case hp => exact ⟨by decide, by decide⟩))
    refine gs_box fun g => ?_
    repeat (first | refine gs_n tyT_ok 0 ?_ | refine gs_gn tyT_ok 0 rfl ?_ | refine gs_no rfl ?_ | refine gs_end ?_ | refine gs_end' ?_ | refine gw_seq ?_ | refine gw_text rfl ?_ | refine gw_skip ?_ | refine gw_yes rfl ?_ | refine gw_no rfl ?_ | refine gw_exit ?_ | refine gw_block ?_ | refine gw_label ?_ | (refine gs_n tyT_ok 0 ?_ (hp := ?hp); case hp => exact ⟨by decide, by decide⟩))
    exact gw_ret ⟨_, [q], [(g, rdG (.slice a n c) 0)], [0, 1], .tmp .nil, ⟨g, _, rfl, rfl, rfl, _, _, _, _, 0, rfl, hb, Nat.le_refl _⟩, rfl, rfl, by decide⟩
section
variable {ops os : List Oper} {H : Option (List Hint)} {K : Env → GL → Prop} {e : Env} {l : GL} {d : Nat} {T : TypeId} {pos : String} {af : Array Edge}
theorem gs_pick (j m : Nat) {x y : Operand} {g : Nat} {p q : Nat × GO} {B : Nat} {n : Int} {ts : Array TypeId} (hr : RS g q B p) (hx : gev e x = ptr g) (hy : gev e y = .int .i64 n) (hj : l[j]? = some p) (hm : l[m]? = some q) (hjm : j ≠ m) (hB : B ≤ 1000000000) (hn : n ≤ 4294967296)
    (k : ∀ r p', RS g q (B + 1) p' → 0 ≤ r → (r < n ∨ r = 0) → gseq Try.prog ops os (tl? H) K (upd e d (.int .i64 r)) (l.set j p')) (hh : hE [j, m] H := by trivial) :
    gseq Try.prog ops (⟨some d, .call { callee := .value (.func 79), args := #[x, y], argTypes := ts }, T, pos, af, none⟩ :: os) H K e l := by
  refine gs_call [j, m] ent79 (F := [p, q]) (by simp [pick, hj, hm]) (by simp [hjm]) (Out := PickOut g q B n) ?_ (fun v F' ns ho _ _ => ?_) hh
  · show Trip _ _ [gev e x, gev e y] _ _
    rw [hx, hy]
    exact pick_w hr hB hn
  · obtain ⟨r, p', rfl, rfl, rfl, hr2, r0, r1⟩ := ho
    have e1 : setAll l [j, m] [p', q] = l.set j p' := by
      simp only [setAll]
      apply List.ext_getElem?
      intro i
      rw [List.getElem?_set]
      split
      · rename_i he
        subst he
        rw [List.getElem?_set_ne hjm, hm]
        have hlt := (List.getElem?_eq_some_iff.1 hm).1
        simp [hlt]
      · rfl
    rw [e1, List.append_nil]
    exact k r p' hr2 r0 (by omega)
theorem gs_pickg (j m : Nat) {x y : Operand} {g : Nat} {p q : Nat × GO} {B : Nat} {n : Int} {ts : Array TypeId} {gd : Nat × Bool} (hw : wantedE ops ⟨some d, .call { callee := .value (.func 79), args := #[x, y], argTypes := ts }, T, pos, af, some gd⟩ e = true) (hr : RS g q B p) (hx : gev e x = ptr g) (hy : gev e y = .int .i64 n) (hj : l[j]? = some p) (hm : l[m]? = some q) (hjm : j ≠ m) (hB : B ≤ 1000000000) (hn : n ≤ 4294967296)
    (k : ∀ r p', RS g q (B + 1) p' → 0 ≤ r → (r < n ∨ r = 0) → gseq Try.prog ops os (tl? H) K (upd e d (.int .i64 r)) (l.set j p')) (hh : hE [j, m] H := by trivial) :
    gseq Try.prog ops (⟨some d, .call { callee := .value (.func 79), args := #[x, y], argTypes := ts }, T, pos, af, some gd⟩ :: os) H K e l := by
  refine gs_callg [j, m] ent79 hw (F := [p, q]) (by simp [pick, hj, hm]) (by simp [hjm]) (Out := PickOut g q B n) ?_ (fun v F' ns ho _ _ => ?_) hh
  · show Trip _ _ [gev e x, gev e y] _ _
    rw [hx, hy]
    exact pick_w hr hB hn
  · obtain ⟨r, p', rfl, rfl, rfl, hr2, r0, r1⟩ := ho
    have e1 : setAll l [j, m] [p', q] = l.set j p' := by
      simp only [setAll]
      apply List.ext_getElem?
      intro i
      rw [List.getElem?_set]
      split
      · rename_i he
        subst he
        rw [List.getElem?_set_ne hjm, hm]
        have hlt := (List.getElem?_eq_some_iff.1 hm).1
        simp [hlt]
      · rfl
    rw [e1, List.append_nil]
    exact k r p' hr2 r0 (by omega)
end
end Go.Proofs.Ytjefdcbljpkmlaa.G
end
