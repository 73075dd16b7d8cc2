/- What the law FnRep needs, out of the texts Wy. -/
import Derived.Test.YtjefdcbljpkmlaaKFnRep22
import Derived.Test.YtjefdcbljpkmlaaKFnRep29
import Derived.Test.YtjefdcbljpkmlaaKFnRep33
section
set_option linter.unusedVariables false
set_option maxRecDepth 10000
namespace Go.Proofs.Ytjefdcbljpkmlaa.G
open Go
def ImgDrawn (g : Nat) (q : Nat × GO) (B : Nat) : OutT := fun v F' ns => ∃ k d w h v1 v2 e1 e2 cs ps p, v = img k d w h v1 v2 ∧ F' = [p, q] ∧ ns = [e1, e2] ∧ OI v1 e1 cs ∧ OI v2 e2 ps ∧ cs.length ≤ 1000 ∧ ps.length ≤ 1000 ∧ RS g q (B + 10000) p ∧ (1 ≤ k ∧ k ≤ 4) ∧ (1 ≤ d ∧ d ≤ 32) ∧ (1 ≤ w ∧ w ≤ 20) ∧ (1 ≤ h ∧ h ≤ 20) ∧ (ps.length : Int) = w * h
set_option maxHeartbeats 1000000 in
theorem image_w {g : Nat} {p q : Nat × GO} {B : Nat} (hr : RS g q B p) (hB : B ≤ 100000000) : Trip Try.prog 152 [ptr g] [p, q] (ImgDrawn g q B) := by
  refine trip_of Try.func152 rfl (by simp [Try.ntmps152]) ?_
  refine gw_seq (gw_text rfl ?_)
  refine gs_alloc tyT_ok rfl fun b2 => ?_
  repeat (first | refine gs_n tyT_ok 0 ?_ | refine gs_gn tyT_ok 0 rfl ?_ | refine gs_no rfl ?_ | refine gs_end ?_ | refine gs_end' ?_ | refine gw_seq ?_ | refine gw_text rfl ?_ | refine gw_skip ?_ | refine gw_yes rfl ?_ | refine gw_no rfl ?_ | refine gw_exit ?_ | refine gw_block ?_ | refine gw_label ?_ | (refine gs_n tyT_ok 0 ?_ (hp := ?hp); case hp => exact ⟨by decide, by decide⟩))
  refine gs_pick 0 1 hr rfl rfl rfl rfl (by decide) (by omega) (by omega) fun r1 p1 hr1 r1a r1b => ?_
  repeat (first | refine gs_n tyT_ok 0 ?_ | refine gs_gn tyT_ok 0 rfl ?_ | refine gs_no rfl ?_ | refine gs_end ?_ | refine gs_end' ?_ | refine gw_seq ?_ | refine gw_text rfl ?_ | refine gw_skip ?_ | refine gw_yes rfl ?_ | refine gw_no rfl ?_ | refine gw_exit ?_ | refine gw_block ?_ | refine gw_label ?_ | (refine gs_n tyT_ok 0 ?_ (hp := ?hp); case hp => exact ⟨by decide, by decide⟩))
  refine gs_pick 0 1 hr1 rfl rfl rfl rfl (by decide) (by omega) (by omega) fun r2 p2 hr2 r2a r2b => ?_
  repeat (first | refine gs_n tyT_ok 0 ?_ | refine gs_gn tyT_ok 0 rfl ?_ | refine gs_no rfl ?_ | refine gs_end ?_ | refine gs_end' ?_ | refine gw_seq ?_ | refine gw_text rfl ?_ | refine gw_skip ?_ | refine gw_yes rfl ?_ | refine gw_no rfl ?_ | refine gw_exit ?_ | refine gw_block ?_ | refine gw_label ?_ | (refine gs_n tyT_ok 0 ?_ (hp := ?hp); case hp => exact ⟨by decide, by decide⟩))
  refine gs_pick 0 1 hr2 rfl rfl rfl rfl (by decide) (by omega) (by omega) fun r3 p3 hr3 r3a r3b => ?_
  repeat (first | refine gs_n tyT_ok 0 ?_ | refine gs_gn tyT_ok 0 rfl ?_ | refine gs_no rfl ?_ | refine gs_end ?_ | refine gs_end' ?_ | refine gw_seq ?_ | refine gw_text rfl ?_ | refine gw_skip ?_ | refine gw_yes rfl ?_ | refine gw_no rfl ?_ | refine gw_exit ?_ | refine gw_block ?_ | refine gw_label ?_ | (refine gs_n tyT_ok 0 ?_ (hp := ?hp); case hp => exact ⟨by decide, by decide⟩))
  refine gs_alloc tyT_ok rfl fun b3 => ?_
  refine gs_store tyT_ok 3 rfl rfl rfl rfl rfl rfl (Nat.le_of_ble_eq_true rfl) (Nat.le_of_ble_eq_true rfl) ?_
  refine gs_end ?_
  obtain ⟨k, hk⟩ : ∃ k, k = 1 + r1 := ⟨_, rfl⟩
  have hk4 : 1 ≤ k ∧ k ≤ 4 := by omega
  rw [← hk]
  clear hk
  refine gw_seq ?_
  refine gw_join (α := Int × Int × (Nat × GO)) (fun _ => [(0, ptr g), (2, ptr b2), (3, ptr b3)]) (fun x => [x.2.2, q, (b2, zimg), (b3, imc k 0 x.1 x.2.1 (.slice none 0 0) (.slice none 0 0))]) (fun x => (1 ≤ x.1 ∧ x.1 ≤ 20) ∧ (1 ≤ x.2.1 ∧ x.2.1 ≤ 20) ∧ RS g q (B + 6) x.2.2) ?_ fun ⟨w, h, p4⟩ e ⟨hw, hh, hr4⟩ => ?_
  · repeat (first | refine gs_n tyT_ok 0 ?_ | refine gs_gn tyT_ok 0 rfl ?_ | refine gs_no rfl ?_ | refine gs_end ?_ | refine gs_end' ?_ | refine gw_seq ?_ | refine gw_text rfl ?_ | refine gw_skip ?_ | refine gw_yes rfl ?_ | refine gw_no rfl ?_ | refine gw_exit ?_ | refine gw_block ?_ | refine gw_label ?_ | (refine gs_n tyT_ok 0 ?_ (hp := ?hp); case hp => exact ⟨by decide, by decide⟩))
    refine gs_pick 0 1 hr3 rfl rfl rfl rfl (by decide) (by omega) (by omega) fun r4 p4 hr4 r4a r4b => ?_
    by_cases k1 : r4 = 0
    · (refine gs_t tyT_ok ?hb ?_; case hb => first | exact decide_eq_true (by omega) | exact congrArg Bool.not (decide_eq_false (by omega)) | (simp; done) | (simp; omega))
      repeat (first | refine gs_n tyT_ok 0 ?_ | refine gs_gn tyT_ok 0 rfl ?_ | refine gs_no rfl ?_ | refine gs_end ?_ | refine gs_end' ?_ | refine gw_seq ?_ | refine gw_text rfl ?_ | refine gw_skip ?_ | refine gw_yes rfl ?_ | refine gw_no rfl ?_ | refine gw_exit ?_ | refine gw_block ?_ | refine gw_label ?_ | (refine gs_n tyT_ok 0 ?_ (hp := ?hp); case hp => exact ⟨by decide, by decide⟩))
      refine gs_pick 0 1 hr4 rfl rfl rfl rfl (by decide) (by omega) (by omega) fun r5 p5 hr5 r5a r5b => ?_
      repeat (first | refine gs_n tyT_ok 0 ?_ | refine gs_gn tyT_ok 0 rfl ?_ | refine gs_no rfl ?_ | refine gs_end ?_ | refine gs_end' ?_ | refine gw_seq ?_ | refine gw_text rfl ?_ | refine gw_skip ?_ | refine gw_yes rfl ?_ | refine gw_no rfl ?_ | refine gw_exit ?_ | refine gw_block ?_ | refine gw_label ?_ | (refine gs_n tyT_ok 0 ?_ (hp := ?hp); case hp => exact ⟨by decide, by decide⟩))
      refine gs_store tyT_ok 3 rfl rfl rfl rfl rfl rfl (Nat.le_of_ble_eq_true rfl) (Nat.le_of_ble_eq_true rfl) ?_
      repeat (first | refine gs_n tyT_ok 0 ?_ | refine gs_gn tyT_ok 0 rfl ?_ | refine gs_no rfl ?_ | refine gs_end ?_ | refine gs_end' ?_ | refine gw_seq ?_ | refine gw_text rfl ?_ | refine gw_skip ?_ | refine gw_yes rfl ?_ | refine gw_no rfl ?_ | refine gw_exit ?_ | refine gw_block ?_ | refine gw_label ?_ | (refine gs_n tyT_ok 0 ?_ (hp := ?hp); case hp => exact ⟨by decide, by decide⟩))
      refine gs_pick 0 1 hr5 rfl rfl rfl rfl (by decide) (by omega) (by omega) fun r6 p6 hr6 r6a r6b => ?_
      repeat (first | refine gs_n tyT_ok 0 ?_ | refine gs_gn tyT_ok 0 rfl ?_ | refine gs_no rfl ?_ | refine gs_end ?_ | refine gs_end' ?_ | refine gw_seq ?_ | refine gw_text rfl ?_ | refine gw_skip ?_ | refine gw_yes rfl ?_ | refine gw_no rfl ?_ | refine gw_exit ?_ | refine gw_block ?_ | refine gw_label ?_ | (refine gs_n tyT_ok 0 ?_ (hp := ?hp); case hp => exact ⟨by decide, by decide⟩))
      refine gs_store tyT_ok 3 rfl rfl rfl rfl rfl rfl (Nat.le_of_ble_eq_true rfl) (Nat.le_of_ble_eq_true rfl) ?_
      repeat (first | refine gs_n tyT_ok 0 ?_ | refine gs_gn tyT_ok 0 rfl ?_ | refine gs_no rfl ?_ | refine gs_end ?_ | refine gs_end' ?_ | refine gw_seq ?_ | refine gw_text rfl ?_ | refine gw_skip ?_ | refine gw_yes rfl ?_ | refine gw_no rfl ?_ | refine gw_exit ?_ | refine gw_block ?_ | refine gw_label ?_ | (refine gs_n tyT_ok 0 ?_ (hp := ?hp); case hp => exact ⟨by decide, by decide⟩))
      exact ⟨(1 + r5, 1 + r6, p6), ⟨by dsimp only; omega, by dsimp only; omega, hr6⟩, rfl, rfl, rfl, rfl, trivial⟩
    · (refine gs_f tyT_ok ?hb ?_; case hb => first | exact decide_eq_false (by omega) | exact congrArg Bool.not (decide_eq_true (by omega)) | (simp; done) | (simp; omega))
      repeat (first | refine gs_n tyT_ok 0 ?_ | refine gs_gn tyT_ok 0 rfl ?_ | refine gs_no rfl ?_ | refine gs_end ?_ | refine gs_end' ?_ | refine gw_seq ?_ | refine gw_text rfl ?_ | refine gw_skip ?_ | refine gw_yes rfl ?_ | refine gw_no rfl ?_ | refine gw_exit ?_ | refine gw_block ?_ | refine gw_label ?_ | (refine gs_n tyT_ok 0 ?_ (hp := ?hp); case hp => exact ⟨by decide, by decide⟩))
      exact ⟨(1 + r2, 1 + r3, p4), ⟨by dsimp only; omega, by dsimp only; omega, hr4.mono (by omega)⟩, rfl, rfl, rfl, rfl, trivial⟩
  dsimp only at hw hh hr4 ⊢
  clear hr hr1 hr2 hr3 r1a r1b r2a r2b r3a r3b
  repeat (first | refine gs_n tyT_ok 0 ?_ | refine gs_gn tyT_ok 0 rfl ?_ | refine gs_no rfl ?_ | refine gs_end ?_ | refine gs_end' ?_ | refine gw_seq ?_ | refine gw_text rfl ?_ | refine gw_skip ?_ | refine gw_yes rfl ?_ | refine gw_no rfl ?_ | refine gw_exit ?_ | refine gw_block ?_ | refine gw_label ?_ | (refine gs_n tyT_ok 0 ?_ (hp := ?hp); case hp => exact ⟨by decide, by decide⟩))
  refine gs_lit tyT_ok (cs := ints [1, 2, 4, 8]) rfl rfl rfl (by decide) rfl fun b4 => ?_
  repeat (first | refine gs_n tyT_ok 0 ?_ | refine gs_gn tyT_ok 0 rfl ?_ | refine gs_no rfl ?_ | refine gs_end ?_ | refine gs_end' ?_ | refine gw_seq ?_ | refine gw_text rfl ?_ | refine gw_skip ?_ | refine gw_yes rfl ?_ | refine gw_no rfl ?_ | refine gw_exit ?_ | refine gw_block ?_ | refine gw_label ?_ | (refine gs_n tyT_ok 0 ?_ (hp := ?hp); case hp => exact ⟨by decide, by decide⟩))
  refine gs_pick 0 1 hr4 rfl rfl rfl rfl (by decide) (by omega) (by omega) fun r7 p7 hr7 r7a r7b => ?_
  repeat (first | refine gs_n tyT_ok 0 ?_ | refine gs_gn tyT_ok 0 rfl ?_ | refine gs_no rfl ?_ | refine gs_end ?_ | refine gs_end' ?_ | refine gw_seq ?_ | refine gw_text rfl ?_ | refine gw_skip ?_ | refine gw_yes rfl ?_ | refine gw_no rfl ?_ | refine gw_exit ?_ | refine gw_block ?_ | refine gw_label ?_ | (refine gs_n tyT_ok 0 ?_ (hp := ?hp); case hp => exact ⟨by decide, by decide⟩))
  obtain ⟨R, rfl⟩ := Int.eq_ofNat_of_zero_le r7a
  have hR : R < 4 := by omega
  obtain ⟨D, hD, hD8⟩ : ∃ D : Nat, (ints [1, 2, 4, 8])[0 + R * 1]? = some (.int .i64 (D : Int)) ∧ (1 ≤ D ∧ D ≤ 8) := by
    have : R = 0 ∨ R = 1 ∨ R = 2 ∨ R = 3 := by omega
    rcases this with rfl | rfl | rfl | rfl
    · exact ⟨1, rfl, by decide⟩
    · exact ⟨2, rfl, by decide⟩
    · exact ⟨4, rfl, by decide⟩
    · exact ⟨8, rfl, by decide⟩
  refine gs_at 4 tyT_ok rfl rfl rfl rfl hD ?_
  repeat (first | refine gs_n tyT_ok 0 ?_ | refine gs_gn tyT_ok 0 rfl ?_ | refine gs_no rfl ?_ | refine gs_end ?_ | refine gs_end' ?_ | refine gw_seq ?_ | refine gw_text rfl ?_ | refine gw_skip ?_ | refine gw_yes rfl ?_ | refine gw_no rfl ?_ | refine gw_exit ?_ | refine gw_block ?_ | refine gw_label ?_ | (refine gs_n tyT_ok 0 ?_ (hp := ?hp); case hp => exact ⟨by decide, by decide⟩))
  refine gs_store tyT_ok 3 rfl rfl rfl rfl rfl rfl (Nat.le_of_ble_eq_true rfl) (Nat.le_of_ble_eq_true rfl) ?_
  refine gs_end ?_
  refine gw_weak [0, 1, 2, 3] (by decide) rfl ?_
  clear hD r7a r7b
  refine gw_nil ?_
  refine gw_seq ?_
  refine gw_join (α := Nat × Value × (Nat × GO) × List Int × (Nat × GO)) (fun _ => [(0, ptr g), (2, ptr b2), (3, ptr b3)]) (fun x => [x.2.2.2.2, q, (b2, zimg), (b3, imc k x.1 w h x.2.1 (.slice none 0 0)), x.2.2.1]) (fun x => (1 ≤ x.1 ∧ x.1 ≤ 32) ∧ OI x.2.1 x.2.2.1 x.2.2.2.1 ∧ x.2.2.2.1.length ≤ 256 ∧ (k = 4 → 1 ≤ x.2.2.2.1.length) ∧ RS g q (B + 1000) x.2.2.2.2) ?_ fun ⟨d, v1, e1, cs, p8⟩ e ⟨hd, hv1, hcl, hck, hr8⟩ => ?_
  · repeat (first | refine gs_n tyT_ok 0 ?_ | refine gs_gn tyT_ok 0 rfl ?_ | refine gs_no rfl ?_ | refine gs_l tyT_ok 3 ?_ | refine gs_gl tyT_ok 3 rfl ?_ | (refine gs_l tyT_ok 3 ?_ (hp := ?hp); case hp => exact ⟨rfl, Nat.le_of_ble_eq_true rfl⟩) | (refine gs_gl tyT_ok 3 rfl ?_ (hp := ?hp); case hp => exact ⟨rfl, Nat.le_of_ble_eq_true rfl⟩) | refine gs_end ?_ | refine gs_end' ?_ | refine gw_seq ?_ | refine gw_text rfl ?_ | refine gw_skip ?_ | refine gw_yes rfl ?_ | refine gw_no rfl ?_ | refine gw_exit ?_ | refine gw_block ?_ | refine gw_label ?_ | (refine gs_n tyT_ok 0 ?_ (hp := ?hp); case hp => exact ⟨by decide, by decide⟩))
    by_cases k2 : k = 2
    · (refine gs_t tyT_ok ?hb ?_; case hb => first | exact decide_eq_true (by omega) | exact congrArg Bool.not (decide_eq_false (by omega)) | (simp; done) | (simp; omega))
      repeat (first | refine gs_n tyT_ok 0 ?_ | refine gs_gn tyT_ok 0 rfl ?_ | refine gs_no rfl ?_ | refine gs_end ?_ | refine gs_end' ?_ | refine gw_seq ?_ | refine gw_text rfl ?_ | refine gw_skip ?_ | refine gw_yes rfl ?_ | refine gw_no rfl ?_ | refine gw_exit ?_ | refine gw_block ?_ | refine gw_label ?_ | (refine gs_n tyT_ok 0 ?_ (hp := ?hp); case hp => exact ⟨by decide, by decide⟩))
      refine gs_store tyT_ok 3 rfl rfl rfl rfl rfl rfl (Nat.le_of_ble_eq_true rfl) (Nat.le_of_ble_eq_true rfl) ?_
      repeat (first | refine gs_n tyT_ok 0 ?_ | refine gs_gn tyT_ok 0 rfl ?_ | refine gs_no rfl ?_ | refine gs_end ?_ | refine gs_end' ?_ | refine gw_seq ?_ | refine gw_text rfl ?_ | refine gw_skip ?_ | refine gw_yes rfl ?_ | refine gw_no rfl ?_ | refine gw_exit ?_ | refine gw_block ?_ | refine gw_label ?_ | (refine gs_n tyT_ok 0 ?_ (hp := ?hp); case hp => exact ⟨by decide, by decide⟩))
      exact ⟨(24, .slice none 0 0, (0, .none), [], p7), ⟨by dsimp only; omega, OI.nil, by simp, fun h => by omega, hr7.mono (by omega)⟩, rfl, rfl, rfl, rfl, trivial⟩
    (refine gs_f tyT_ok ?hb ?_; case hb => first | exact decide_eq_false (by omega) | exact congrArg Bool.not (decide_eq_true (by omega)) | (simp; done) | (simp; omega))
    repeat (first | refine gs_n tyT_ok 0 ?_ | refine gs_gn tyT_ok 0 rfl ?_ | refine gs_no rfl ?_ | refine gs_end ?_ | refine gs_end' ?_ | refine gw_seq ?_ | refine gw_text rfl ?_ | refine gw_skip ?_ | refine gw_yes rfl ?_ | refine gw_no rfl ?_ | refine gw_exit ?_ | refine gw_block ?_ | refine gw_label ?_ | (refine gs_n tyT_ok 0 ?_ (hp := ?hp); case hp => exact ⟨by decide, by decide⟩))
    by_cases k3 : k = 3
    · (refine gs_t tyT_ok ?hb ?_; case hb => first | exact decide_eq_true (by omega) | exact congrArg Bool.not (decide_eq_false (by omega)) | (simp; done) | (simp; omega))
      repeat (first | refine gs_n tyT_ok 0 ?_ | refine gs_gn tyT_ok 0 rfl ?_ | refine gs_no rfl ?_ | refine gs_end ?_ | refine gs_end' ?_ | refine gw_seq ?_ | refine gw_text rfl ?_ | refine gw_skip ?_ | refine gw_yes rfl ?_ | refine gw_no rfl ?_ | refine gw_exit ?_ | refine gw_block ?_ | refine gw_label ?_ | (refine gs_n tyT_ok 0 ?_ (hp := ?hp); case hp => exact ⟨by decide, by decide⟩))
      refine gs_store tyT_ok 3 rfl rfl rfl rfl rfl rfl (Nat.le_of_ble_eq_true rfl) (Nat.le_of_ble_eq_true rfl) ?_
      repeat (first | refine gs_n tyT_ok 0 ?_ | refine gs_gn tyT_ok 0 rfl ?_ | refine gs_no rfl ?_ | refine gs_end ?_ | refine gs_end' ?_ | refine gw_seq ?_ | refine gw_text rfl ?_ | refine gw_skip ?_ | refine gw_yes rfl ?_ | refine gw_no rfl ?_ | refine gw_exit ?_ | refine gw_block ?_ | refine gw_label ?_ | (refine gs_n tyT_ok 0 ?_ (hp := ?hp); case hp => exact ⟨by decide, by decide⟩))
      exact ⟨(32, .slice none 0 0, (0, .none), [], p7), ⟨by dsimp only; omega, OI.nil, by simp, fun h => by omega, hr7.mono (by omega)⟩, rfl, rfl, rfl, rfl, trivial⟩
    (refine gs_f tyT_ok ?hb ?_; case hb => first | exact decide_eq_false (by omega) | exact congrArg Bool.not (decide_eq_true (by omega)) | (simp; done) | (simp; omega))
    repeat (first | refine gs_n tyT_ok 0 ?_ | refine gs_gn tyT_ok 0 rfl ?_ | refine gs_no rfl ?_ | refine gs_end ?_ | refine gs_end' ?_ | refine gw_seq ?_ | refine gw_text rfl ?_ | refine gw_skip ?_ | refine gw_yes rfl ?_ | refine gw_no rfl ?_ | refine gw_exit ?_ | refine gw_block ?_ | refine gw_label ?_ | (refine gs_n tyT_ok 0 ?_ (hp := ?hp); case hp => exact ⟨by decide, by decide⟩))
    by_cases k4 : k = 4
    case neg =>
      (refine gs_f tyT_ok ?hb ?_; case hb => first | exact decide_eq_false (by omega) | exact congrArg Bool.not (decide_eq_true (by omega)) | (simp; done) | (simp; omega))
      repeat (first | refine gs_n tyT_ok 0 ?_ | refine gs_gn tyT_ok 0 rfl ?_ | refine gs_no rfl ?_ | refine gs_end ?_ | refine gs_end' ?_ | refine gw_seq ?_ | refine gw_text rfl ?_ | refine gw_skip ?_ | refine gw_yes rfl ?_ | refine gw_no rfl ?_ | refine gw_exit ?_ | refine gw_block ?_ | refine gw_label ?_ | (refine gs_n tyT_ok 0 ?_ (hp := ?hp); case hp => exact ⟨by decide, by decide⟩))
      exact ⟨(D, .slice none 0 0, (0, .none), [], p7), ⟨by dsimp only; omega, OI.nil, by simp, fun h => absurd h k4, hr7.mono (by omega)⟩, rfl, rfl, rfl, rfl, trivial⟩
    (refine gs_t tyT_ok ?hb ?_; case hb => first | exact decide_eq_true (by omega) | exact congrArg Bool.not (decide_eq_false (by omega)) | (simp; done) | (simp; omega))
    repeat (first | refine gs_n tyT_ok 0 ?_ | refine gs_gn tyT_ok 0 rfl ?_ | refine gs_no rfl ?_ | refine gs_l tyT_ok 3 ?_ | refine gs_gl tyT_ok 3 rfl ?_ | (refine gs_l tyT_ok 3 ?_ (hp := ?hp); case hp => exact ⟨rfl, Nat.le_of_ble_eq_true rfl⟩) | (refine gs_gl tyT_ok 3 rfl ?_ (hp := ?hp); case hp => exact ⟨rfl, Nat.le_of_ble_eq_true rfl⟩) | refine gs_end ?_ | refine gs_end' ?_ | refine gw_seq ?_ | refine gw_text rfl ?_ | refine gw_skip ?_ | refine gw_yes rfl ?_ | refine gw_no rfl ?_ | refine gw_exit ?_ | refine gw_block ?_ | refine gw_label ?_ | (refine gs_n tyT_ok 0 ?_ (hp := ?hp); case hp => exact ⟨by decide, by decide⟩))
    refine gs_pu ent115 (sPow_w (n := D) (by omega)) ?_
    obtain ⟨N, hN, hN2⟩ : ∃ N : Nat, (1 : Int) * 2 ^ D = (N : Int) ∧ (1 ≤ N ∧ N ≤ 256) := by
      have h1 : 2 ^ D ≤ 2 ^ 8 := Nat.pow_le_pow_right (by decide) hD8.2
      have h2 : 1 ≤ 2 ^ D := Nat.one_le_two_pow
      exact ⟨2 ^ D, by simp, h2, by omega⟩
    rw [hN]
    clear hN
    refine gs_n tyT_ok 0 ?_
    refine gs_end ?_
    refine gw_seq ?_
    refine gw_join (α := Nat × (Nat × GO)) (fun x => [(0, ptr g), (2, ptr b2), (3, ptr b3), (4, .int .i64 (x.1 : Int))]) (fun x => [x.2, q, (b2, zimg), (b3, imc k D w h (.slice none 0 0) (.slice none 0 0)), (0, .none)]) (fun x => (1 ≤ x.1 ∧ x.1 ≤ 256) ∧ RS g q (B + 9) x.2) ?_ fun ⟨N', p8⟩ e ⟨hN', hr8⟩ => ?_
    · repeat (first | refine gs_n tyT_ok 0 ?_ | refine gs_gn tyT_ok 0 rfl ?_ | refine gs_no rfl ?_ | refine gs_end ?_ | refine gs_end' ?_ | refine gw_seq ?_ | refine gw_text rfl ?_ | refine gw_skip ?_ | refine gw_yes rfl ?_ | refine gw_no rfl ?_ | refine gw_exit ?_ | refine gw_block ?_ | refine gw_label ?_ | (refine gs_n tyT_ok 0 ?_ (hp := ?hp); case hp => exact ⟨by decide, by decide⟩))
      refine gs_pick 0 1 hr7 rfl rfl rfl rfl (by decide) (by omega) (by omega) fun r8 p8 hr8 r8a r8b => ?_
      by_cases k5 : r8 = 0
      · (refine gs_t tyT_ok ?hb ?_; case hb => first | exact decide_eq_true (by omega) | exact congrArg Bool.not (decide_eq_false (by omega)) | (simp; done) | (simp; omega))
        repeat (first | refine gs_n tyT_ok 0 ?_ | refine gs_gn tyT_ok 0 rfl ?_ | refine gs_no rfl ?_ | refine gs_end ?_ | refine gs_end' ?_ | refine gw_seq ?_ | refine gw_text rfl ?_ | refine gw_skip ?_ | refine gw_yes rfl ?_ | refine gw_no rfl ?_ | refine gw_exit ?_ | refine gw_block ?_ | refine gw_label ?_ | (refine gs_n tyT_ok 0 ?_ (hp := ?hp); case hp => exact ⟨by decide, by decide⟩))
        refine gs_pick 0 1 hr8 rfl rfl rfl rfl (by decide) (by omega) (by omega) fun r9 p9 hr9 r9a r9b => ?_
        obtain ⟨R9, rfl⟩ := Int.eq_ofNat_of_zero_le r9a
        repeat (first | refine gs_n tyT_ok 0 ?_ | refine gs_gn tyT_ok 0 rfl ?_ | refine gs_no rfl ?_ | refine gs_end ?_ | refine gs_end' ?_ | refine gw_seq ?_ | refine gw_text rfl ?_ | refine gw_skip ?_ | refine gw_yes rfl ?_ | refine gw_no rfl ?_ | refine gw_exit ?_ | refine gw_block ?_ | refine gw_label ?_ | (refine gs_n tyT_ok 0 ?_ (hp := ?hp); case hp => exact ⟨by decide, by decide⟩))
        exact ⟨(1 + R9, p9), ⟨by dsimp only; omega, hr9⟩, rfl, rfl, rfl, rfl, by show Value.int _ _ = Value.int _ _; congr 1, trivial⟩
      · (refine gs_f tyT_ok ?hb ?_; case hb => first | exact decide_eq_false (by omega) | exact congrArg Bool.not (decide_eq_true (by omega)) | (simp; done) | (simp; omega))
        repeat (first | refine gs_n tyT_ok 0 ?_ | refine gs_gn tyT_ok 0 rfl ?_ | refine gs_no rfl ?_ | refine gs_end ?_ | refine gs_end' ?_ | refine gw_seq ?_ | refine gw_text rfl ?_ | refine gw_skip ?_ | refine gw_yes rfl ?_ | refine gw_no rfl ?_ | refine gw_exit ?_ | refine gw_block ?_ | refine gw_label ?_ | (refine gs_n tyT_ok 0 ?_ (hp := ?hp); case hp => exact ⟨by decide, by decide⟩))
        exact ⟨(N, p8), ⟨hN2, hr8.mono (by omega)⟩, rfl, rfl, rfl, rfl, rfl, trivial⟩
    dsimp only at hN' hr8 ⊢
    repeat (first | refine gs_n tyT_ok 0 ?_ | refine gs_gn tyT_ok 0 rfl ?_ | refine gs_no rfl ?_ | refine gs_end ?_ | refine gs_end' ?_ | refine gw_seq ?_ | refine gw_text rfl ?_ | refine gw_skip ?_ | refine gw_yes rfl ?_ | refine gw_no rfl ?_ | refine gw_exit ?_ | refine gw_block ?_ | refine gw_label ?_ | (refine gs_n tyT_ok 0 ?_ (hp := ?hp); case hp => exact ⟨by decide, by decide⟩))
    refine gw_loopL (fun _ (x : Nat × Value × (Nat × GO) × List Int × (Nat × GO)) => [(0, ptr g), (2, ptr b2), (3, ptr b3), (4, .int .i64 (N' : Int)), (5, .int .i64 x.1)]) (fun _ x => [x.2.2.2.2, q, (b2, zimg), (b3, imc k D w h x.2.1 (.slice none 0 0)), x.2.2.1]) (fun m x => x.1 + m = N' ∧ OI x.2.1 x.2.2.1 x.2.2.2.1 ∧ x.2.2.2.1.length = x.1 ∧ RS g q (B + 9 + 3 * x.1) x.2.2.2.2) N' (0, .slice none 0 0, (0, .none), [], p8) ⟨by simp, OI.nil, rfl, hr8⟩ rfl ⟨rfl, rfl, rfl, rfl, rfl, trivial⟩ fun m ⟨j, v, e1, cs, p9⟩ e ⟨hj, hv, hl, hr9⟩ => ?_
    dsimp only at hj hv hl hr9 ⊢
    have hv' := hv
    obtain ⟨ua, uc, rfl, _⟩ := hv'.ls
    repeat (first | refine gs_n tyT_ok 0 ?_ | refine gs_gn tyT_ok 0 rfl ?_ | refine gs_no rfl ?_ | refine gs_end ?_ | refine gs_end' ?_ | refine gw_seq ?_ | refine gw_text rfl ?_ | refine gw_skip ?_ | refine gw_yes rfl ?_ | refine gw_no rfl ?_ | refine gw_exit ?_ | refine gw_block ?_ | refine gw_label ?_ | (refine gs_n tyT_ok 0 ?_ (hp := ?hp); case hp => exact ⟨by decide, by decide⟩))
    by_cases k6 : j < N'
    · (refine gs_t tyT_ok ?hb ?_; case hb => first | exact decide_eq_true (by omega) | exact congrArg Bool.not (decide_eq_false (by omega)) | (simp; done) | (simp; omega))
      repeat (first | refine gs_n tyT_ok 0 ?_ | refine gs_gn tyT_ok 0 rfl ?_ | refine gs_no rfl ?_ | refine gs_end ?_ | refine gs_end' ?_ | refine gw_seq ?_ | refine gw_text rfl ?_ | refine gw_skip ?_ | refine gw_yes rfl ?_ | refine gw_no rfl ?_ | refine gw_exit ?_ | refine gw_block ?_ | refine gw_label ?_ | (refine gs_n tyT_ok 0 ?_ (hp := ?hp); case hp => exact ⟨by decide, by decide⟩))
      refine gw_any [.N, .L 3, .N, .E [0, 1], .N, .N, .E [0, 1], .N, .N, .N, .E [0, 1], .N, .E [], .E [4, 5], .N, .E [3]] rfl rfl rfl ?_
      repeat (first | refine gs_n tyT_ok 0 ?_ | refine gs_gn tyT_ok 0 rfl ?_ | refine gs_no rfl ?_ | refine gs_l tyT_ok 3 ?_ | refine gs_gl tyT_ok 3 rfl ?_ | (refine gs_l tyT_ok 3 ?_ (hp := ?hp); case hp => exact ⟨rfl, Nat.le_of_ble_eq_true rfl⟩) | (refine gs_gl tyT_ok 3 rfl ?_ (hp := ?hp); case hp => exact ⟨rfl, Nat.le_of_ble_eq_true rfl⟩))
      refine gs_pick 0 1 hr9 rfl rfl rfl rfl (by decide) (by omega) (by omega) fun x1 p10 hr10 x1a x1b => ?_
      repeat (first | refine gs_n tyT_ok 0 ?_ | refine gs_gn tyT_ok 0 rfl ?_ | refine gs_no rfl ?_ | refine gs_l tyT_ok 3 ?_ | refine gs_gl tyT_ok 3 rfl ?_ | (refine gs_l tyT_ok 3 ?_ (hp := ?hp); case hp => exact ⟨rfl, Nat.le_of_ble_eq_true rfl⟩) | (refine gs_gl tyT_ok 3 rfl ?_ (hp := ?hp); case hp => exact ⟨rfl, Nat.le_of_ble_eq_true rfl⟩))
      refine gs_pick 0 1 hr10 rfl rfl rfl rfl (by decide) (by omega) (by omega) fun x2 p11 hr11 x2a x2b => ?_
      repeat (first | refine gs_n tyT_ok 0 ?_ | refine gs_gn tyT_ok 0 rfl ?_ | refine gs_no rfl ?_ | refine gs_l tyT_ok 3 ?_ | refine gs_gl tyT_ok 3 rfl ?_ | (refine gs_l tyT_ok 3 ?_ (hp := ?hp); case hp => exact ⟨rfl, Nat.le_of_ble_eq_true rfl⟩) | (refine gs_gl tyT_ok 3 rfl ?_ (hp := ?hp); case hp => exact ⟨rfl, Nat.le_of_ble_eq_true rfl⟩))
      refine gs_pick 0 1 hr11 rfl rfl rfl rfl (by decide) (by omega) (by omega) fun x3 p12 hr12 x3a x3b => ?_
      repeat (first | refine gs_n tyT_ok 0 ?_ | refine gs_gn tyT_ok 0 rfl ?_ | refine gs_no rfl ?_ | refine gs_l tyT_ok 3 ?_ | refine gs_gl tyT_ok 3 rfl ?_ | (refine gs_l tyT_ok 3 ?_ (hp := ?hp); case hp => exact ⟨rfl, Nat.le_of_ble_eq_true rfl⟩) | (refine gs_gl tyT_ok 3 rfl ?_ (hp := ?hp); case hp => exact ⟨rfl, Nat.le_of_ble_eq_true rfl⟩))
      refine gs_push 4 (n := x1 * 65536 + x2 * 256 + x3) rfl rfl hv (fun _ => rfl) (by omega) fun b a1 c1 e2 hv2 => ?_
      repeat (first | refine gs_n tyT_ok 0 ?_ | refine gs_gn tyT_ok 0 rfl ?_ | refine gs_no rfl ?_)
      refine gs_store tyT_ok 3 rfl rfl rfl rfl rfl rfl (Nat.le_of_ble_eq_true rfl) (Nat.le_of_ble_eq_true rfl) ?_
      refine gs_end' ?_
      refine gw_weak [0, 1, 2, 3, 4] (by decide) rfl ?_
      repeat (first | refine gs_n tyT_ok 0 ?_ | refine gs_gn tyT_ok 0 rfl ?_ | refine gs_no rfl ?_ | refine gs_end ?_ | refine gs_end' ?_ | refine gw_seq ?_ | refine gw_text rfl ?_ | refine gw_skip ?_ | refine gw_yes rfl ?_ | refine gw_no rfl ?_ | refine gw_exit ?_ | refine gw_block ?_ | refine gw_label ?_ | (refine gs_n tyT_ok 0 ?_ (hp := ?hp); case hp => exact ⟨by decide, by decide⟩))
      refine ⟨m - 1, by omega, (j + 1, _, e2, cs ++ [x1 * 65536 + x2 * 256 + x3], p12), ⟨by show j + 1 + (m - 1) = _; omega, hv2, by show (cs ++ [x1 * 65536 + x2 * 256 + x3]).length = j + 1; rw [List.length_append, hl]; rfl, hr12.mono (by show B + 9 + 3 * j + 1 + 1 + 1 ≤ B + 9 + 3 * (j + 1); omega)⟩, rfl, rfl, rfl, rfl, rfl, rfl, trivial⟩
    (refine gs_f tyT_ok ?hb ?_; case hb => first | exact decide_eq_false (by omega) | exact congrArg Bool.not (decide_eq_true (by omega)) | (simp; done) | (simp; omega))
    repeat (first | refine gs_n tyT_ok 0 ?_ | refine gs_gn tyT_ok 0 rfl ?_ | refine gs_no rfl ?_ | refine gs_end ?_ | refine gs_end' ?_ | refine gw_seq ?_ | refine gw_text rfl ?_ | refine gw_skip ?_ | refine gw_yes rfl ?_ | refine gw_no rfl ?_ | refine gw_exit ?_ | refine gw_block ?_ | refine gw_label ?_ | (refine gs_n tyT_ok 0 ?_ (hp := ?hp); case hp => exact ⟨by decide, by decide⟩))
    exact ⟨(D, _, e1, cs, p9), ⟨by dsimp only; omega, hv, by dsimp only; omega, fun _ => by dsimp only; omega, hr9.mono (by omega)⟩, rfl, rfl, rfl, rfl, trivial⟩
  dsimp only at hd hv1 hcl hck hr8 ⊢
  have hv1' := hv1
  obtain ⟨va, vc, rfl, _⟩ := hv1'.ls
  repeat (first | refine gs_n tyT_ok 0 ?_ | refine gs_gn tyT_ok 0 rfl ?_ | refine gs_no rfl ?_ | refine gs_l tyT_ok 3 ?_ | refine gs_gl tyT_ok 3 rfl ?_ | (refine gs_l tyT_ok 3 ?_ (hp := ?hp); case hp => exact ⟨rfl, Nat.le_of_ble_eq_true rfl⟩) | (refine gs_gl tyT_ok 3 rfl ?_ (hp := ?hp); case hp => exact ⟨rfl, Nat.le_of_ble_eq_true rfl⟩) | refine gs_end ?_ | refine gs_end' ?_ | refine gw_seq ?_ | refine gw_text rfl ?_ | refine gw_skip ?_ | refine gw_yes rfl ?_ | refine gw_no rfl ?_ | refine gw_exit ?_ | refine gw_block ?_ | refine gw_label ?_ | (refine gs_n tyT_ok 0 ?_ (hp := ?hp); case hp => exact ⟨by decide, by decide⟩))
  refine gs_pu ent115 (sPow_w (n := d) (by omega)) ?_
  obtain ⟨N, hN, hN2⟩ : ∃ N : Nat, (1 : Int) * 2 ^ d = (N : Int) ∧ (1 ≤ N ∧ N ≤ 4294967296) := by
    have h1 : 2 ^ d ≤ 2 ^ 32 := Nat.pow_le_pow_right (by decide) hd.2
    have h2 : 1 ≤ 2 ^ d := Nat.one_le_two_pow
    exact ⟨2 ^ d, by simp, h2, by omega⟩
  rw [hN]
  clear hN
  refine gs_n tyT_ok 0 ?_
  refine gs_end ?_
  refine gw_seq ?_
  refine gw_join (α := Nat) (fun x => [(0, ptr g), (2, ptr b2), (3, ptr b3), (6, .int .i64 (x : Int))]) (fun _ => [p8, q, (b2, zimg), (b3, imc k d w h (.slice va cs.length vc) (.slice none 0 0)), e1]) (fun x => 1 ≤ x ∧ x ≤ 4294967296) ?_ fun M e hM => ?_
  · repeat (first | refine gs_n tyT_ok 0 ?_ | refine gs_gn tyT_ok 0 rfl ?_ | refine gs_no rfl ?_ | refine gs_l tyT_ok 3 ?_ | refine gs_gl tyT_ok 3 rfl ?_ | (refine gs_l tyT_ok 3 ?_ (hp := ?hp); case hp => exact ⟨rfl, Nat.le_of_ble_eq_true rfl⟩) | (refine gs_gl tyT_ok 3 rfl ?_ (hp := ?hp); case hp => exact ⟨rfl, Nat.le_of_ble_eq_true rfl⟩) | refine gs_end ?_ | refine gs_end' ?_ | refine gw_seq ?_ | refine gw_text rfl ?_ | refine gw_skip ?_ | refine gw_yes rfl ?_ | refine gw_no rfl ?_ | refine gw_exit ?_ | refine gw_block ?_ | refine gw_label ?_ | (refine gs_n tyT_ok 0 ?_ (hp := ?hp); case hp => exact ⟨by decide, by decide⟩))
    by_cases k4 : k = 4
    · have := hck k4
      (refine gs_t tyT_ok ?hb ?_; case hb => first | exact decide_eq_true (by omega) | exact congrArg Bool.not (decide_eq_false (by omega)) | (simp; done) | (simp; omega))
      repeat (first | refine gs_n tyT_ok 0 ?_ | refine gs_gn tyT_ok 0 rfl ?_ | refine gs_no rfl ?_ | refine gs_l tyT_ok 3 ?_ | refine gs_gl tyT_ok 3 rfl ?_ | (refine gs_l tyT_ok 3 ?_ (hp := ?hp); case hp => exact ⟨rfl, Nat.le_of_ble_eq_true rfl⟩) | (refine gs_gl tyT_ok 3 rfl ?_ (hp := ?hp); case hp => exact ⟨rfl, Nat.le_of_ble_eq_true rfl⟩) | refine gs_end ?_ | refine gs_end' ?_ | refine gw_seq ?_ | refine gw_text rfl ?_ | refine gw_skip ?_ | refine gw_yes rfl ?_ | refine gw_no rfl ?_ | refine gw_exit ?_ | refine gw_block ?_ | refine gw_label ?_ | (refine gs_n tyT_ok 0 ?_ (hp := ?hp); case hp => exact ⟨by decide, by decide⟩))
      exact ⟨cs.length, by omega, rfl, rfl, rfl, rfl, rfl, trivial⟩
    · (refine gs_f tyT_ok ?hb ?_; case hb => first | exact decide_eq_false (by omega) | exact congrArg Bool.not (decide_eq_true (by omega)) | (simp; done) | (simp; omega))
      repeat (first | refine gs_n tyT_ok 0 ?_ | refine gs_gn tyT_ok 0 rfl ?_ | refine gs_no rfl ?_ | refine gs_end ?_ | refine gs_end' ?_ | refine gw_seq ?_ | refine gw_text rfl ?_ | refine gw_skip ?_ | refine gw_yes rfl ?_ | refine gw_no rfl ?_ | refine gw_exit ?_ | refine gw_block ?_ | refine gw_label ?_ | (refine gs_n tyT_ok 0 ?_ (hp := ?hp); case hp => exact ⟨by decide, by decide⟩))
      exact ⟨N, hN2, rfl, rfl, rfl, rfl, rfl, trivial⟩
  have hwh : 0 ≤ w * h ∧ w * h ≤ 400 := by
    obtain ⟨W, rfl⟩ := Int.eq_ofNat_of_zero_le (show 0 ≤ w by omega)
    obtain ⟨H, rfl⟩ := Int.eq_ofNat_of_zero_le (show 0 ≤ h by omega)
    have := Nat.mul_le_mul (show W ≤ 20 by omega) (show H ≤ 20 by omega)
    rw [← Int.natCast_mul]
    omega
  obtain ⟨S, hS⟩ := Int.eq_ofNat_of_zero_le hwh.1
  repeat (first | refine gs_n tyT_ok 0 ?_ | refine gs_gn tyT_ok 0 rfl ?_ | refine gs_no rfl ?_ | refine gs_end ?_ | refine gs_end' ?_ | refine gw_seq ?_ | refine gw_text rfl ?_ | refine gw_skip ?_ | refine gw_yes rfl ?_ | refine gw_no rfl ?_ | refine gw_exit ?_ | refine gw_block ?_ | refine gw_label ?_ | (refine gs_n tyT_ok 0 ?_ (hp := ?hp); case hp => exact ⟨by decide, by decide⟩))
  refine gw_nil ?_
  refine gw_loopL (fun _ (x : Nat × Value × (Nat × GO) × List Int × (Nat × GO) × Int) => [(0, ptr g), (2, ptr b2), (3, ptr b3), (6, .int .i64 (M : Int)), (7, .int .i64 x.2.2.2.2.2), (8, .int .i64 x.1)]) (fun _ x => [x.2.2.2.2.1, q, (b2, zimg), (b3, imc k d w h (.slice va cs.length vc) x.2.1), e1, x.2.2.1]) (fun m x => x.1 + m = S ∧ OI x.2.1 x.2.2.1 x.2.2.2.1 ∧ x.2.2.2.1.length = x.1 ∧ RS g q (B + 1000 + 5 * x.1) x.2.2.2.2.1 ∧ (0 ≤ x.2.2.2.2.2 ∧ x.2.2.2.2.2 ≤ 4294967295)) S (0, .slice none 0 0, (0, .none), [], p8, 0) ⟨by simp, OI.nil, rfl, hr8, by dsimp only; omega⟩ rfl ⟨rfl, rfl, rfl, rfl, rfl, rfl, trivial⟩ fun m ⟨j, v, e2, ps, p9, x7⟩ e ⟨hj, hv, hl, hr9, hx7⟩ => ?_
  dsimp only at hj hv hl hr9 hx7 ⊢
  have hv' := hv
  obtain ⟨ua, uc, rfl, _⟩ := hv'.ls
  repeat (first | refine gs_n tyT_ok 0 ?_ | refine gs_gn tyT_ok 0 rfl ?_ | refine gs_no rfl ?_ | refine gs_l tyT_ok 3 ?_ | refine gs_gl tyT_ok 3 rfl ?_ | (refine gs_l tyT_ok 3 ?_ (hp := ?hp); case hp => exact ⟨rfl, Nat.le_of_ble_eq_true rfl⟩) | (refine gs_gl tyT_ok 3 rfl ?_ (hp := ?hp); case hp => exact ⟨rfl, Nat.le_of_ble_eq_true rfl⟩) | refine gs_end ?_ | refine gs_end' ?_ | refine gw_seq ?_ | refine gw_text rfl ?_ | refine gw_skip ?_ | refine gw_yes rfl ?_ | refine gw_no rfl ?_ | refine gw_exit ?_ | refine gw_block ?_ | refine gw_label ?_ | (refine gs_n tyT_ok 0 ?_ (hp := ?hp); case hp => exact ⟨by decide, by decide⟩))
  rw [hS]
  by_cases k6 : j < S
  case neg =>
    (refine gs_f tyT_ok ?hb ?_; case hb => first | exact decide_eq_false (by omega) | exact congrArg Bool.not (decide_eq_true (by omega)) | (simp; done) | (simp; omega))
    repeat (first | refine gs_n tyT_ok 0 ?_ | refine gs_gn tyT_ok 0 rfl ?_ | refine gs_no rfl ?_ | refine gs_l tyT_ok 3 ?_ | refine gs_gl tyT_ok 3 rfl ?_ | (refine gs_l tyT_ok 3 ?_ (hp := ?hp); case hp => exact ⟨rfl, Nat.le_of_ble_eq_true rfl⟩) | (refine gs_gl tyT_ok 3 rfl ?_ (hp := ?hp); case hp => exact ⟨rfl, Nat.le_of_ble_eq_true rfl⟩) | refine gs_end ?_ | refine gs_end' ?_ | refine gw_seq ?_ | refine gw_text rfl ?_ | refine gw_skip ?_ | refine gw_yes rfl ?_ | refine gw_no rfl ?_ | refine gw_exit ?_ | refine gw_block ?_ | refine gw_label ?_ | (refine gs_n tyT_ok 0 ?_ (hp := ?hp); case hp => exact ⟨by decide, by decide⟩))
    refine gs_store tyT_ok 2 rfl rfl rfl rfl rfl rfl (Nat.le_of_ble_eq_true rfl) (Nat.le_of_ble_eq_true rfl) ?_
    repeat (first | refine gs_n tyT_ok 0 ?_ | refine gs_gn tyT_ok 0 rfl ?_ | refine gs_no rfl ?_ | refine gs_end ?_ | refine gs_end' ?_ | refine gw_seq ?_ | refine gw_text rfl ?_ | refine gw_skip ?_ | refine gw_yes rfl ?_ | refine gw_no rfl ?_ | refine gw_exit ?_ | refine gw_block ?_ | refine gw_label ?_ | (refine gs_n tyT_ok 0 ?_ (hp := ?hp); case hp => exact ⟨by decide, by decide⟩))
    refine gw_ret ⟨_, [p9, q], [e1, e2], [0, 1, 4, 5], rv_cell tyT_ok 2 rfl rfl rfl rfl rfl (Nat.le_of_ble_eq_true rfl) .nil, ⟨k, d, w, h, _, _, e1, e2, cs, ps, p9, rfl, rfl, rfl, hv1, hv, by omega, by omega, hr9.mono (by omega), hk4, by omega, hw, hh, by omega⟩, rfl, rfl, by decide⟩
  (refine gs_t tyT_ok ?hb ?_; case hb => first | exact decide_eq_true (by omega) | exact congrArg Bool.not (decide_eq_false (by omega)) | (simp; done) | (simp; omega))
  refine gs_end ?_
  refine gw_yes rfl ?_
  refine gw_skip ?_
  refine gw_seq (gw_block (gw_seq ?_))
  refine gw_join (α := (Nat × GO) × Int) (fun x => [(0, ptr g), (2, ptr b2), (3, ptr b3), (6, .int .i64 (M : Int)), (7, .int .i64 x.2), (8, .int .i64 j)]) (fun x => [x.1, q, (b2, zimg), (b3, imc k d w h (.slice va cs.length vc) (.slice ua ps.length uc)), e1, e2]) (fun x => RS g q (B + 1000 + 5 * j + 4) x.1 ∧ (0 ≤ x.2 ∧ x.2 ≤ 4294967295)) ?_ fun ⟨p10, x8⟩ e ⟨hr10, hx8⟩ => ?_
  · repeat (first | refine gs_n tyT_ok 0 ?_ | refine gs_gn tyT_ok 0 rfl ?_ | refine gs_no rfl ?_ | refine gs_end ?_ | refine gs_end' ?_ | refine gw_seq ?_ | refine gw_text rfl ?_ | refine gw_skip ?_ | refine gw_yes rfl ?_ | refine gw_no rfl ?_ | refine gw_exit ?_ | refine gw_block ?_ | refine gw_label ?_ | (refine gs_n tyT_ok 0 ?_ (hp := ?hp); case hp => exact ⟨by decide, by decide⟩))
    refine gs_pick 0 1 hr9 rfl rfl rfl rfl (by decide) (by omega) (by omega) fun y1 p10 hr10 y1a y1b => ?_
    by_cases k7 : 0 < y1
    case neg =>
      (refine gs_f tyT_ok ?hb ?_; case hb => first | exact decide_eq_false (by omega) | exact congrArg Bool.not (decide_eq_true (by omega)) | (simp; done) | (simp; omega))
      repeat (first | refine gs_n tyT_ok 0 ?_ | refine gs_gn tyT_ok 0 rfl ?_ | refine gs_no rfl ?_ | refine gs_end ?_ | refine gs_end' ?_ | refine gw_seq ?_ | refine gw_text rfl ?_ | refine gw_skip ?_ | refine gw_yes rfl ?_ | refine gw_no rfl ?_ | refine gw_exit ?_ | refine gw_block ?_ | refine gw_label ?_ | (refine gs_n tyT_ok 0 ?_ (hp := ?hp); case hp => exact ⟨by decide, by decide⟩))
      exact ⟨(p10, x7), ⟨hr10.mono (by omega), hx7⟩, rfl, rfl, rfl, rfl, rfl, rfl, rfl, trivial⟩
    (refine gs_t tyT_ok ?hb ?_; case hb => first | exact decide_eq_true (by omega) | exact congrArg Bool.not (decide_eq_false (by omega)) | (simp; done) | (simp; omega))
    repeat (first | refine gs_n tyT_ok 0 ?_ | refine gs_gn tyT_ok 0 rfl ?_ | refine gs_no rfl ?_ | refine gs_end ?_ | refine gs_end' ?_ | refine gw_seq ?_ | refine gw_text rfl ?_ | refine gw_skip ?_ | refine gw_yes rfl ?_ | refine gw_no rfl ?_ | refine gw_exit ?_ | refine gw_block ?_ | refine gw_label ?_ | (refine gs_n tyT_ok 0 ?_ (hp := ?hp); case hp => exact ⟨by decide, by decide⟩))
    refine gs_pick 0 1 hr10 rfl rfl rfl rfl (by decide) (by omega) (by omega) fun y2 p11 hr11 y2a y2b => ?_
    repeat (first | refine gs_n tyT_ok 0 ?_ | refine gs_gn tyT_ok 0 rfl ?_ | refine gs_no rfl ?_ | refine gs_end ?_ | refine gs_end' ?_ | refine gw_seq ?_ | refine gw_text rfl ?_ | refine gw_skip ?_ | refine gw_yes rfl ?_ | refine gw_no rfl ?_ | refine gw_exit ?_ | refine gw_block ?_ | refine gw_label ?_ | (refine gs_n tyT_ok 0 ?_ (hp := ?hp); case hp => exact ⟨by decide, by decide⟩))
    refine gs_pick 0 1 hr11 rfl rfl rfl rfl (by decide) (by omega) (by omega) fun y3 p12 hr12 y3a y3b => ?_
    repeat (first | refine gs_n tyT_ok 0 ?_ | refine gs_gn tyT_ok 0 rfl ?_ | refine gs_no rfl ?_ | refine gs_end ?_ | refine gs_end' ?_ | refine gw_seq ?_ | refine gw_text rfl ?_ | refine gw_skip ?_ | refine gw_yes rfl ?_ | refine gw_no rfl ?_ | refine gw_exit ?_ | refine gw_block ?_ | refine gw_label ?_ | (refine gs_n tyT_ok 0 ?_ (hp := ?hp); case hp => exact ⟨by decide, by decide⟩))
    refine gs_pick 0 1 hr12 rfl rfl rfl rfl (by decide) (by omega) (by omega) fun y4 p13 hr13 y4a y4b => ?_
    have hmod := Int.emod_nonneg (y2 * 16777216 + y3 * 65536 + y4) (show (M : Int) ≠ 0 by omega)
    have hlt := Int.emod_lt_of_pos (y2 * 16777216 + y3 * 65536 + y4) (show 0 < (M : Int) by omega)
    repeat (first | refine gs_n tyT_ok 0 ?_ | refine gs_gn tyT_ok 0 rfl ?_ | refine gs_no rfl ?_ | refine gs_end ?_ | refine gs_end' ?_ | refine gw_seq ?_ | refine gw_text rfl ?_ | refine gw_skip ?_ | refine gw_yes rfl ?_ | refine gw_no rfl ?_ | refine gw_exit ?_ | refine gw_block ?_ | refine gw_label ?_ | (refine gs_n tyT_ok 0 ?_ (hp := ?hp); case hp => exact ⟨by decide, by decide⟩))
    exact ⟨(p13, _), ⟨hr13.mono (by omega), by dsimp only; omega⟩, rfl, rfl, rfl, rfl, rfl, rfl, rfl, trivial⟩
  dsimp only at hr10 hx8 ⊢
  refine gw_seq ?_
  refine gw_join (α := (Nat × GO) × Int) (fun x => [(0, ptr g), (2, ptr b2), (3, ptr b3), (6, .int .i64 (M : Int)), (7, .int .i64 x.2), (8, .int .i64 j)]) (fun x => [x.1, q, (b2, zimg), (b3, imc k d w h (.slice va cs.length vc) (.slice ua ps.length uc)), e1, e2]) (fun x => RS g q (B + 1000 + 5 * j + 5) x.1 ∧ (0 ≤ x.2 ∧ x.2 ≤ 4294967295)) ?_ fun ⟨p11, x9⟩ e ⟨hr11, hx9⟩ => ?_
  · repeat (first | refine gs_n tyT_ok 0 ?_ | refine gs_gn tyT_ok 0 rfl ?_ | refine gs_no rfl ?_ | refine gs_l tyT_ok 3 ?_ | refine gs_gl tyT_ok 3 rfl ?_ | (refine gs_l tyT_ok 3 ?_ (hp := ?hp); case hp => exact ⟨rfl, Nat.le_of_ble_eq_true rfl⟩) | (refine gs_gl tyT_ok 3 rfl ?_ (hp := ?hp); case hp => exact ⟨rfl, Nat.le_of_ble_eq_true rfl⟩) | refine gs_end ?_ | refine gs_end' ?_ | refine gw_seq ?_ | refine gw_text rfl ?_ | refine gw_skip ?_ | refine gw_yes rfl ?_ | refine gw_no rfl ?_ | refine gw_exit ?_ | refine gw_block ?_ | refine gw_label ?_ | (refine gs_n tyT_ok 0 ?_ (hp := ?hp); case hp => exact ⟨by decide, by decide⟩))
    by_cases k8 : k = 3
    case neg =>
      (refine gs_f tyT_ok ?hb ?_; case hb => first | exact decide_eq_false (by omega) | exact congrArg Bool.not (decide_eq_true (by omega)) | (simp; done) | (simp; omega))
      repeat (first | refine gs_n tyT_ok 0 ?_ | refine gs_gn tyT_ok 0 rfl ?_ | refine gs_no rfl ?_ | refine gs_end ?_ | refine gs_end' ?_ | refine gw_seq ?_ | refine gw_text rfl ?_ | refine gw_skip ?_ | refine gw_yes rfl ?_ | refine gw_no rfl ?_ | refine gw_exit ?_ | refine gw_block ?_ | refine gw_label ?_ | (refine gs_n tyT_ok 0 ?_ (hp := ?hp); case hp => exact ⟨by decide, by decide⟩))
      exact ⟨(p10, x8), ⟨hr10.mono (by omega), hx8⟩, rfl, rfl, rfl, rfl, rfl, rfl, rfl, trivial⟩
    (refine gs_t tyT_ok ?hb ?_; case hb => first | exact decide_eq_true (by omega) | exact congrArg Bool.not (decide_eq_false (by omega)) | (simp; done) | (simp; omega))
    repeat (first | refine gs_n tyT_ok 0 ?_ | refine gs_gn tyT_ok 0 rfl ?_ | refine gs_no rfl ?_ | refine gs_end ?_ | refine gs_end' ?_ | refine gw_seq ?_ | refine gw_text rfl ?_ | refine gw_skip ?_ | refine gw_yes rfl ?_ | refine gw_no rfl ?_ | refine gw_exit ?_ | refine gw_block ?_ | refine gw_label ?_ | (refine gs_n tyT_ok 0 ?_ (hp := ?hp); case hp => exact ⟨by decide, by decide⟩))
    refine gs_pickg 0 1 rfl hr10 rfl rfl rfl rfl (by decide) (by omega) (by omega) fun y1 p11 hr11 y1a y1b => ?_
    by_cases k9 : y1 = 0
    · (refine gs_tg tyT_ok rfl ?hb ?_; case hb => first | exact decide_eq_true (by omega) | exact congrArg Bool.not (decide_eq_false (by omega)) | (simp; done) | (simp; omega))
      repeat (first | refine gs_n tyT_ok 0 ?_ | refine gs_gn tyT_ok 0 rfl ?_ | refine gs_no rfl ?_ | refine gs_end ?_ | refine gs_end' ?_ | refine gw_seq ?_ | refine gw_text rfl ?_ | refine gw_skip ?_ | refine gw_yes rfl ?_ | refine gw_no rfl ?_ | refine gw_exit ?_ | refine gw_block ?_ | refine gw_label ?_ | (refine gs_n tyT_ok 0 ?_ (hp := ?hp); case hp => exact ⟨by decide, by decide⟩))
      exact ⟨(p11, _), ⟨hr11.mono (by omega), by dsimp only; omega⟩, rfl, rfl, rfl, rfl, rfl, rfl, rfl, trivial⟩
    · (refine gs_fg tyT_ok rfl ?hb ?_; case hb => first | exact decide_eq_false (by omega) | exact congrArg Bool.not (decide_eq_true (by omega)) | (simp; done) | (simp; omega))
      repeat (first | refine gs_n tyT_ok 0 ?_ | refine gs_gn tyT_ok 0 rfl ?_ | refine gs_no rfl ?_ | refine gs_end ?_ | refine gs_end' ?_ | refine gw_seq ?_ | refine gw_text rfl ?_ | refine gw_skip ?_ | refine gw_yes rfl ?_ | refine gw_no rfl ?_ | refine gw_exit ?_ | refine gw_block ?_ | refine gw_label ?_ | (refine gs_n tyT_ok 0 ?_ (hp := ?hp); case hp => exact ⟨by decide, by decide⟩))
      exact ⟨(p11, x8), ⟨hr11.mono (by omega), hx8⟩, rfl, rfl, rfl, rfl, rfl, rfl, rfl, trivial⟩
  dsimp only at hr11 hx9 ⊢
  repeat (first | refine gs_n tyT_ok 0 ?_ | refine gs_gn tyT_ok 0 rfl ?_ | refine gs_no rfl ?_ | refine gs_l tyT_ok 3 ?_ | refine gs_gl tyT_ok 3 rfl ?_ | (refine gs_l tyT_ok 3 ?_ (hp := ?hp); case hp => exact ⟨rfl, Nat.le_of_ble_eq_true rfl⟩) | (refine gs_gl tyT_ok 3 rfl ?_ (hp := ?hp); case hp => exact ⟨rfl, Nat.le_of_ble_eq_true rfl⟩) | refine gs_end ?_ | refine gs_end' ?_ | refine gw_seq ?_ | refine gw_text rfl ?_ | refine gw_skip ?_ | refine gw_yes rfl ?_ | refine gw_no rfl ?_ | refine gw_exit ?_ | refine gw_block ?_ | refine gw_label ?_ | (refine gs_n tyT_ok 0 ?_ (hp := ?hp); case hp => exact ⟨by decide, by decide⟩))
  refine gs_push 5 (n := x9) rfl rfl hv (fun _ => rfl) (by omega) fun b a1 c1 e3 hv3 => ?_
  repeat (first | refine gs_n tyT_ok 0 ?_ | refine gs_gn tyT_ok 0 rfl ?_ | refine gs_no rfl ?_)
  refine gs_store tyT_ok 3 rfl rfl rfl rfl rfl rfl (Nat.le_of_ble_eq_true rfl) (Nat.le_of_ble_eq_true rfl) ?_
  refine gs_end ?_
  refine gw_weak [0, 1, 2, 3, 4, 5] (by decide) rfl ?_
  repeat (first | refine gs_n tyT_ok 0 ?_ | refine gs_gn tyT_ok 0 rfl ?_ | refine gs_no rfl ?_ | refine gs_end ?_ | refine gs_end' ?_ | refine gw_seq ?_ | refine gw_text rfl ?_ | refine gw_skip ?_ | refine gw_yes rfl ?_ | refine gw_no rfl ?_ | refine gw_exit ?_ | refine gw_block ?_ | refine gw_label ?_ | (refine gs_n tyT_ok 0 ?_ (hp := ?hp); case hp => exact ⟨by decide, by decide⟩))
  exact ⟨m - 1, by omega, (j + 1, _, e3, ps ++ [x9], p11, x9), ⟨by show j + 1 + (m - 1) = _; omega, hv3, by show (ps ++ [x9]).length = j + 1; rw [List.length_append, hl]; rfl, hr11.mono (by show B + 1000 + 5 * j + 5 ≤ B + 1000 + 5 * (j + 1); omega), hx9⟩, rfl, rfl, rfl, rfl, rfl, rfl, rfl, trivial⟩
end Go.Proofs.Ytjefdcbljpkmlaa.G
end
