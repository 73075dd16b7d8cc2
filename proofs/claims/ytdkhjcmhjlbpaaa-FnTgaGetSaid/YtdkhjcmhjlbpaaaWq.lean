/- spec: TgaGet. -/
import Derived.Test.YtdkhjcmhjlbpaaaMg
set_option linter.unusedVariables false
set_option maxRecDepth 10000
namespace Go.Proofs.Ytdkhjcmhjlbpaaa.G
open Go
theorem tgaCols_eq (s : ByteArray) (h : tgaAt s ≤ s.size) : tgaCols s = nums s 3 (18 + (hdOf s).ahead.toNat) (hdOf s).many.toNat := by
  unfold tgaCols cols nums
  refine List.map_congr_left fun i hi => ?_
  have hi' := List.mem_range.1 hi
  have hA : tgaAt s = 18 + (hdOf s).ahead.toNat + 3 * (hdOf s).many.toNat := rfl
  rw [hA] at h ⊢
  generalize 18 + (hdOf s).ahead.toNat = a at *
  refine fld_congr (fun j hj => ?_) 3 (Nat.le_refl _)
  rw [byt_extract (by omega) h]
  congr 1
  omega
theorem tgaPts_eq (s : ByteArray) {z W H : Nat} (hz : (hdOf s).depth / 8 = z) (hW : (hdOf s).wide = W) (hH : (hdOf s).high = H) : tgaPts s = ptsAt s z (W * H) (tgaAt s) (decide (hdOf s).runs) := by
  unfold tgaPts ptsAt
  rw [hz, hW, hH, ← Int.natCast_mul, Int.toNat_natCast, Int.toNat_natCast]
  by_cases h : (hdOf s).runs
  · rw [if_pos h, if_pos (decide_eq_true h)]
    rfl
  · rw [if_neg h, decide_eq_false h]
    exact (if_neg (by simp)).symm
set_option maxHeartbeats 1000000 in
theorem sTgaGet_w (s : ByteArray) : Trip Try.prog 28 [.string s] [] (PicOut (tgaGet s)) := by
  refine trip_of Try.func28 rfl (by simp [Try.ntmps28]) ?_
  refine gw_seq (gw_text rfl ?_)
  refine gs_alloc tyT_ok rfl fun b2 => ?_
  repeat (first | refine gs_n tyT_ok 0 ?_ | refine gs_gn tyT_ok 0 rfl ?_ | refine gs_no rfl ?_ | refine gs_end ?_ | refine gs_end' ?_ | refine gw_seq ?_ | refine gw_text rfl ?_ | refine gw_skip ?_ | refine gw_yes rfl ?_ | refine gw_no rfl ?_ | refine gw_exit ?_ | refine gw_block ?_ | refine gw_label ?_ | (refine gs_n tyT_ok 0 ?_ (hp := ?hp); case hp => exact ⟨by decide, by decide⟩))
  by_cases g1 : s.size ≤ 9000
  case neg =>
    rw [show tgaGet s = none from if_neg (fun h => g1 h.1)]
    repeat (first | refine gs_n tyT_ok 0 ?_ | refine gs_gn tyT_ok 0 rfl ?_ | refine gs_no rfl ?_ | refine gs_end ?_ | refine gs_end' ?_ | refine gw_seq ?_ | refine gw_text rfl ?_ | refine gw_skip ?_ | refine gw_yes rfl ?_ | refine gw_no rfl ?_ | refine gw_exit ?_ | refine gw_block ?_ | refine gw_label ?_ | (refine gs_n tyT_ok 0 ?_ (hp := ?hp); case hp => exact ⟨by decide, by decide⟩) | (refine gs_tg tyT_ok rfl ?hb ?_; case hb => first | exact decide_eq_true (by omega) | exact congrArg Bool.not (decide_eq_false (by omega)) | (simp; done) | (simp; omega)) | (refine gs_fg tyT_ok rfl ?hb ?_; case hb => first | exact decide_eq_false (by omega) | exact congrArg Bool.not (decide_eq_true (by omega)) | (simp; done) | (simp; omega)) | (refine gs_t tyT_ok ?hb ?_; case hb => first | exact decide_eq_true (by omega) | exact congrArg Bool.not (decide_eq_false (by omega)) | (simp; done) | (simp; omega)) | (refine gs_f tyT_ok ?hb ?_; case hb => first | exact decide_eq_false (by omega) | exact congrArg Bool.not (decide_eq_true (by omega)) | (simp; done) | (simp; omega)))
    refine gs_store tyT_ok 0 rfl rfl rfl rfl rfl rfl (Nat.le_of_ble_eq_true rfl) (Nat.le_of_ble_eq_true rfl) ?_
    repeat (first | refine gs_n tyT_ok 0 ?_ | refine gs_gn tyT_ok 0 rfl ?_ | refine gs_no rfl ?_ | refine gs_end ?_ | refine gs_end' ?_ | refine gw_seq ?_ | refine gw_text rfl ?_ | refine gw_skip ?_ | refine gw_yes rfl ?_ | refine gw_no rfl ?_ | refine gw_exit ?_ | refine gw_block ?_ | refine gw_label ?_ | (refine gs_n tyT_ok 0 ?_ (hp := ?hp); case hp => exact ⟨by decide, by decide⟩))
    exact gw_ret ⟨_, [], [], [], rv_cell tyT_ok 0 rfl rfl rfl rfl rfl (Nat.le_of_ble_eq_true rfl) (.tmp .nil), ⟨rfl, rfl, rfl⟩, rfl, rfl, by decide⟩
  by_cases g2 : 18 ≤ s.size
  case neg =>
    rw [show tgaGet s = none from if_neg (fun h => g2 h.2.1)]
    repeat (first | refine gs_n tyT_ok 0 ?_ | refine gs_gn tyT_ok 0 rfl ?_ | refine gs_no rfl ?_ | refine gs_end ?_ | refine gs_end' ?_ | refine gw_seq ?_ | refine gw_text rfl ?_ | refine gw_skip ?_ | refine gw_yes rfl ?_ | refine gw_no rfl ?_ | refine gw_exit ?_ | refine gw_block ?_ | refine gw_label ?_ | (refine gs_n tyT_ok 0 ?_ (hp := ?hp); case hp => exact ⟨by decide, by decide⟩) | (refine gs_tg tyT_ok rfl ?hb ?_; case hb => first | exact decide_eq_true (by omega) | exact congrArg Bool.not (decide_eq_false (by omega)) | (simp; done) | (simp; omega)) | (refine gs_fg tyT_ok rfl ?hb ?_; case hb => first | exact decide_eq_false (by omega) | exact congrArg Bool.not (decide_eq_true (by omega)) | (simp; done) | (simp; omega)) | (refine gs_t tyT_ok ?hb ?_; case hb => first | exact decide_eq_true (by omega) | exact congrArg Bool.not (decide_eq_false (by omega)) | (simp; done) | (simp; omega)) | (refine gs_f tyT_ok ?hb ?_; case hb => first | exact decide_eq_false (by omega) | exact congrArg Bool.not (decide_eq_true (by omega)) | (simp; done) | (simp; omega)))
    refine gs_store tyT_ok 0 rfl rfl rfl rfl rfl rfl (Nat.le_of_ble_eq_true rfl) (Nat.le_of_ble_eq_true rfl) ?_
    repeat (first | refine gs_n tyT_ok 0 ?_ | refine gs_gn tyT_ok 0 rfl ?_ | refine gs_no rfl ?_ | refine gs_end ?_ | refine gs_end' ?_ | refine gw_seq ?_ | refine gw_text rfl ?_ | refine gw_skip ?_ | refine gw_yes rfl ?_ | refine gw_no rfl ?_ | refine gw_exit ?_ | refine gw_block ?_ | refine gw_label ?_ | (refine gs_n tyT_ok 0 ?_ (hp := ?hp); case hp => exact ⟨by decide, by decide⟩))
    exact gw_ret ⟨_, [], [], [], rv_cell tyT_ok 0 rfl rfl rfl rfl rfl (Nat.le_of_ble_eq_true rfl) (.tmp .nil), ⟨rfl, rfl, rfl⟩, rfl, rfl, by decide⟩
  repeat (first | refine gs_n tyT_ok 0 ?_ | refine gs_gn tyT_ok 0 rfl ?_ | refine gs_no rfl ?_ | refine gs_end ?_ | refine gs_end' ?_ | refine gw_seq ?_ | refine gw_text rfl ?_ | refine gw_skip ?_ | refine gw_yes rfl ?_ | refine gw_no rfl ?_ | refine gw_exit ?_ | refine gw_block ?_ | refine gw_label ?_ | (refine gs_n tyT_ok 0 ?_ (hp := ?hp); case hp => exact ⟨by decide, by decide⟩) | (refine gs_tg tyT_ok rfl ?hb ?_; case hb => first | exact decide_eq_true (by omega) | exact congrArg Bool.not (decide_eq_false (by omega)) | (simp; done) | (simp; omega)) | (refine gs_fg tyT_ok rfl ?hb ?_; case hb => first | exact decide_eq_false (by omega) | exact congrArg Bool.not (decide_eq_true (by omega)) | (simp; done) | (simp; omega)) | (refine gs_t tyT_ok ?hb ?_; case hb => first | exact decide_eq_true (by omega) | exact congrArg Bool.not (decide_eq_false (by omega)) | (simp; done) | (simp; omega)) | (refine gs_f tyT_ok ?hb ?_; case hb => first | exact decide_eq_false (by omega) | exact congrArg Bool.not (decide_eq_true (by omega)) | (simp; done) | (simp; omega)))
  refine gs_call [] ent80 rfl (by decide) (sHead_w g1 g2) fun v F' ns ho _ _ => ?_
  obtain ⟨rfl, rfl, ok, rfl, hok⟩ := ho
  repeat (first | refine gs_n tyT_ok 0 ?_ | refine gs_gn tyT_ok 0 rfl ?_ | refine gs_no rfl ?_ | refine gs_end ?_ | refine gs_end' ?_ | refine gw_seq ?_ | refine gw_text rfl ?_ | refine gw_skip ?_ | refine gw_yes rfl ?_ | refine gw_no rfl ?_ | refine gw_exit ?_ | refine gw_block ?_ | refine gw_label ?_ | (refine gs_n tyT_ok 0 ?_ (hp := ?hp); case hp => exact ⟨by decide, by decide⟩))
  refine gs_alloc tyT_ok rfl fun b4 => ?_
  refine gs_store tyT_ok 1 rfl rfl rfl rfl rfl rfl (Nat.le_of_ble_eq_true rfl) (Nat.le_of_ble_eq_true rfl) ?_
  have e0 : (((s.data.toList.getD (Int.toNat 0) 0).toNat : Nat) : Int) = byt s 0 := rfl
  obtain ⟨A, hA⟩ := Int.eq_ofNat_of_zero_le (byt_ge s 0)
  obtain ⟨M, hM⟩ := Int.eq_ofNat_of_zero_le (fld_ge s 5 2 false 2)
  have hA2 := byt_le s 0
  have hM2 := fld_le s 5 2 false 2
  have hM3 : M ≤ 65535 := by rw [hM] at hM2; simp only [bnd] at hM2; omega
  have hat : tgaAt s = 18 + A + 3 * M := by
    show 18 + (byt s 0).toNat + 3 * (fld s 5 2 false 2).toNat = _
    rw [hA, hM]
    rfl
  have hok2 := hok.trans (sOk_iff s)
  repeat (first | refine gs_n tyT_ok 0 ?_ | refine gs_gn tyT_ok 0 rfl ?_ | refine gs_no rfl ?_ | refine gs_end ?_ | refine gs_end' ?_ | refine gw_seq ?_ | refine gw_text rfl ?_ | refine gw_skip ?_ | refine gw_yes rfl ?_ | refine gw_no rfl ?_ | refine gw_exit ?_ | refine gw_block ?_ | refine gw_label ?_ | (refine gs_n tyT_ok 0 ?_ (hp := ?hp); case hp => exact ⟨by decide, by decide⟩))
  refine gs_pu ent49 (sField_w (a := 5) (z := 2) g1 (by omega) (by omega)) ?_
  rw [hM]
  repeat (first | refine gs_n tyT_ok 0 ?_ | refine gs_gn tyT_ok 0 rfl ?_ | refine gs_no rfl ?_ | refine gs_end ?_ | refine gs_end' ?_ | refine gw_seq ?_ | refine gw_text rfl ?_ | refine gw_skip ?_ | refine gw_yes rfl ?_ | refine gw_no rfl ?_ | refine gw_exit ?_ | refine gw_block ?_ | refine gw_label ?_ | (refine gs_n tyT_ok 0 ?_ (hp := ?hp); case hp => exact ⟨by decide, by decide⟩))
  cases ok
  · rw [show tgaGet s = none from if_neg (fun h => absurd (hok2.2 ⟨h.2.2.1, h.2.2.2.1⟩) (by simp))]
    repeat (first | refine gs_n tyT_ok 0 ?_ | refine gs_gn tyT_ok 0 rfl ?_ | refine gs_no rfl ?_ | refine gs_end ?_ | refine gs_end' ?_ | refine gw_seq ?_ | refine gw_text rfl ?_ | refine gw_skip ?_ | refine gw_yes rfl ?_ | refine gw_no rfl ?_ | refine gw_exit ?_ | refine gw_block ?_ | refine gw_label ?_ | (refine gs_n tyT_ok 0 ?_ (hp := ?hp); case hp => exact ⟨by decide, by decide⟩))
    refine gs_store tyT_ok 0 rfl rfl rfl rfl rfl rfl (Nat.le_of_ble_eq_true rfl) (Nat.le_of_ble_eq_true rfl) ?_
    repeat (first | refine gs_n tyT_ok 0 ?_ | refine gs_gn tyT_ok 0 rfl ?_ | refine gs_no rfl ?_ | refine gs_end ?_ | refine gs_end' ?_ | refine gw_seq ?_ | refine gw_text rfl ?_ | refine gw_skip ?_ | refine gw_yes rfl ?_ | refine gw_no rfl ?_ | refine gw_exit ?_ | refine gw_block ?_ | refine gw_label ?_ | (refine gs_n tyT_ok 0 ?_ (hp := ?hp); case hp => exact ⟨by decide, by decide⟩))
    exact gw_ret ⟨_, [], [], [], rv_cell tyT_ok 0 rfl rfl rfl rfl rfl (Nat.le_of_ble_eq_true rfl) (.tmp .nil), ⟨rfl, rfl, rfl⟩, rfl, rfl, by decide⟩
  by_cases g3 : tgaAt s ≤ s.size
  case neg =>
    rw [show tgaGet s = none from if_neg (fun h => g3 h.2.2.2.2)]
    repeat (first | refine gs_n tyT_ok 0 ?_ | refine gs_gn tyT_ok 0 rfl ?_ | refine gs_no rfl ?_ | refine gs_end ?_ | refine gs_end' ?_ | refine gw_seq ?_ | refine gw_text rfl ?_ | refine gw_skip ?_ | refine gw_yes rfl ?_ | refine gw_no rfl ?_ | refine gw_exit ?_ | refine gw_block ?_ | refine gw_label ?_ | (refine gs_n tyT_ok 0 ?_ (hp := ?hp); case hp => exact ⟨by decide, by decide⟩) | (refine gs_tg tyT_ok rfl ?hb ?_; case hb => first | exact decide_eq_true (by omega) | exact congrArg Bool.not (decide_eq_false (by omega)) | (simp; done) | (simp; omega)) | (refine gs_fg tyT_ok rfl ?hb ?_; case hb => first | exact decide_eq_false (by omega) | exact congrArg Bool.not (decide_eq_true (by omega)) | (simp; done) | (simp; omega)) | (refine gs_t tyT_ok ?hb ?_; case hb => first | exact decide_eq_true (by omega) | exact congrArg Bool.not (decide_eq_false (by omega)) | (simp; done) | (simp; omega)) | (refine gs_f tyT_ok ?hb ?_; case hb => first | exact decide_eq_false (by omega) | exact congrArg Bool.not (decide_eq_true (by omega)) | (simp; done) | (simp; omega)))
    refine gs_store tyT_ok 0 rfl rfl rfl rfl rfl rfl (Nat.le_of_ble_eq_true rfl) (Nat.le_of_ble_eq_true rfl) ?_
    repeat (first | refine gs_n tyT_ok 0 ?_ | refine gs_gn tyT_ok 0 rfl ?_ | refine gs_no rfl ?_ | refine gs_end ?_ | refine gs_end' ?_ | refine gw_seq ?_ | refine gw_text rfl ?_ | refine gw_skip ?_ | refine gw_yes rfl ?_ | refine gw_no rfl ?_ | refine gw_exit ?_ | refine gw_block ?_ | refine gw_label ?_ | (refine gs_n tyT_ok 0 ?_ (hp := ?hp); case hp => exact ⟨by decide, by decide⟩))
    exact gw_ret ⟨_, [], [], [], rv_cell tyT_ok 0 rfl rfl rfl rfl rfl (Nat.le_of_ble_eq_true rfl) (.tmp .nil), ⟨rfl, rfl, rfl⟩, rfl, rfl, by decide⟩
  have hso := hok.1 rfl
  obtain ⟨kq1, kq2, kq3⟩ := sOk_kind hso
  obtain ⟨g4, hw, hh⟩ := hok2.1 rfl
  have hdep := ok_depth g4
  obtain ⟨z, hz⟩ : ∃ z : Nat, (hdOf s).depth / 8 = z := ⟨((hdOf s).depth / 8).toNat, by omega⟩
  obtain ⟨W, hW⟩ := Int.eq_ofNat_of_zero_le (show 0 ≤ (hdOf s).wide by omega)
  obtain ⟨H, hH⟩ := Int.eq_ofNat_of_zero_le (show 0 ≤ (hdOf s).high by omega)
  have hz4 : 1 ≤ z ∧ z ≤ 4 := by omega
  have hWH : W * H ≤ 20 * 20 := Nat.mul_le_mul (by omega) (by omega)
  have hcolsE := tgaCols_eq s g3
  rw [show (hdOf s).ahead.toNat = A by show (byt s 0).toNat = A; rw [hA]; rfl, show (hdOf s).many.toNat = M by show (fld s 5 2 false 2).toNat = M; rw [hM]; rfl] at hcolsE
  have hpts := tgaPts_eq s hz hW hH
  rw [show decide (hdOf s).runs = decide (8 < byt s 2) from decide_eq_decide.2 kq2.symm] at hpts
  rw [kq1]
  have hget0 : tgaGet s = (match tgaPts s with
    | none => none
    | some l => if imgOk (hdOf s).kind (hdOf s).depth (hdOf s).wide (hdOf s).high (tgaCols s) (l.map (unr (hdOf s).kind)) then
        some ⟨(hdOf s).kind, (hdOf s).depth, (hdOf s).wide, (hdOf s).high, tgaCols s, if (hdOf s).lst = 0 then rows (hdOf s).wide.toNat (hdOf s).high.toNat (l.map (unr (hdOf s).kind)) (hdOf s).high.toNat else l.map (unr (hdOf s).kind)⟩
      else none) := if_pos ⟨g1, g2, g4, ⟨hw, hh⟩, g3⟩
  rw [hcolsE] at hget0
  rw [show byt s 16 = (hdOf s).depth from rfl, show fld s 12 2 false 2 = (hdOf s).wide from rfl, show fld s 14 2 false 2 = (hdOf s).high from rfl]
  repeat (first | refine gs_n tyT_ok 0 ?_ | refine gs_gn tyT_ok 0 rfl ?_ | refine gs_no rfl ?_ | refine gs_end ?_ | refine gs_end' ?_ | refine gw_seq ?_ | refine gw_text rfl ?_ | refine gw_skip ?_ | refine gw_yes rfl ?_ | refine gw_no rfl ?_ | refine gw_exit ?_ | refine gw_block ?_ | refine gw_label ?_ | (refine gs_n tyT_ok 0 ?_ (hp := ?hp); case hp => exact ⟨by decide, by decide⟩) | (refine gs_tg tyT_ok rfl ?hb ?_; case hb => first | exact decide_eq_true (by omega) | exact congrArg Bool.not (decide_eq_false (by omega)) | (simp; done) | (simp; omega)) | (refine gs_fg tyT_ok rfl ?hb ?_; case hb => first | exact decide_eq_false (by omega) | exact congrArg Bool.not (decide_eq_true (by omega)) | (simp; done) | (simp; omega)) | (refine gs_t tyT_ok ?hb ?_; case hb => first | exact decide_eq_true (by omega) | exact congrArg Bool.not (decide_eq_false (by omega)) | (simp; done) | (simp; omega)) | (refine gs_f tyT_ok ?hb ?_; case hb => first | exact decide_eq_false (by omega) | exact congrArg Bool.not (decide_eq_true (by omega)) | (simp; done) | (simp; omega)))
  refine gw_nil ?_
  refine gw_loopL (fun _ (x : Nat × Value × (Nat × GO)) => [(0, .string s), (2, ptr b2), (4, ptr b4), (6, .int .i64 ((18 + A : Nat) : Int)), (7, .int .i64 M), (8, .int .i64 x.1)]) (fun _ x => [(b2, zimg), (b4, imc (hdOf s).kind (hdOf s).depth (hdOf s).wide (hdOf s).high x.2.1 (.slice none 0 0)), x.2.2]) (fun m x => x.1 + m = M ∧ OI x.2.1 x.2.2 (nums s 3 (18 + A) x.1)) M (0, .slice none 0 0, (0, .none)) ⟨by simp, OI.nil⟩ rfl ⟨rfl, rfl, rfl, ?_, rfl, rfl, trivial⟩ fun m ⟨i, v, q⟩ e ⟨hm, hv⟩ => ?_
  · show Value.int .i64 (18 + byt s 0) = _
    rw [hA]
    rfl
  dsimp only at hm hv ⊢
  have hv' := hv
  obtain ⟨ua, uc, rfl, _⟩ := hv'.ls
  repeat (first | refine gs_n tyT_ok 0 ?_ | refine gs_gn tyT_ok 0 rfl ?_ | refine gs_no rfl ?_ | refine gs_end ?_ | refine gs_end' ?_ | refine gw_seq ?_ | refine gw_text rfl ?_ | refine gw_skip ?_ | refine gw_yes rfl ?_ | refine gw_no rfl ?_ | refine gw_exit ?_ | refine gw_block ?_ | refine gw_label ?_ | (refine gs_n tyT_ok 0 ?_ (hp := ?hp); case hp => exact ⟨by decide, by decide⟩))
  by_cases k1 : i < M
  · (refine gs_t tyT_ok ?hb ?_; case hb => first | exact decide_eq_true (by omega) | exact congrArg Bool.not (decide_eq_false (by omega)) | (simp; done) | (simp; omega))
    repeat (first | refine gs_n tyT_ok 0 ?_ | refine gs_gn tyT_ok 0 rfl ?_ | refine gs_no rfl ?_ | refine gs_end ?_ | refine gs_end' ?_ | refine gw_seq ?_ | refine gw_text rfl ?_ | refine gw_skip ?_ | refine gw_yes rfl ?_ | refine gw_no rfl ?_ | refine gw_exit ?_ | refine gw_block ?_ | refine gw_label ?_ | (refine gs_n tyT_ok 0 ?_ (hp := ?hp); case hp => exact ⟨by decide, by decide⟩))
    refine gw_any [.N, .L 1, .N, .N, .N, .N, .N, .E [], .E [], .E [2, 3], .N, .E [1]] rfl rfl rfl ?_
    repeat (first | refine gs_n tyT_ok 0 ?_ | refine gs_gn tyT_ok 0 rfl ?_ | refine gs_no rfl ?_ | refine gs_l tyT_ok 1 ?_ | refine gs_gl tyT_ok 1 rfl ?_ | (refine gs_l tyT_ok 1 ?_ (hp := ?hp); case hp => exact ⟨rfl, Nat.le_of_ble_eq_true rfl⟩) | (refine gs_gl tyT_ok 1 rfl ?_ (hp := ?hp); case hp => exact ⟨rfl, Nat.le_of_ble_eq_true rfl⟩))
    rw [show ((18 + A : Nat) : Int) + 3 * (i : Int) = ((18 + A + i * 3 : Nat) : Int) by omega]
    refine gs_pu ent49 (sField_w (a := 18 + A + i * 3) (z := 3) g1 (by omega) (by omega)) ?_
    refine gs_push 2 (n := fld s (18 + A + i * 3) 3 false 3) rfl rfl hv (fun _ => rfl) (by rw [nums_len]; omega) fun b a1 c1 p1 hv1 => ?_
    repeat (first | refine gs_n tyT_ok 0 ?_ | refine gs_gn tyT_ok 0 rfl ?_ | refine gs_no rfl ?_)
    refine gs_store tyT_ok 1 rfl rfl rfl rfl rfl rfl (Nat.le_of_ble_eq_true rfl) (Nat.le_of_ble_eq_true rfl) ?_
    refine gs_end' ?_
    refine gw_weak [0, 1, 2] (by decide) rfl ?_
    repeat (first | refine gs_n tyT_ok 0 ?_ | refine gs_gn tyT_ok 0 rfl ?_ | refine gs_no rfl ?_ | refine gs_end ?_ | refine gs_end' ?_ | refine gw_seq ?_ | refine gw_text rfl ?_ | refine gw_skip ?_ | refine gw_yes rfl ?_ | refine gw_no rfl ?_ | refine gw_exit ?_ | refine gw_block ?_ | refine gw_label ?_ | (refine gs_n tyT_ok 0 ?_ (hp := ?hp); case hp => exact ⟨by decide, by decide⟩))
    exact ⟨m - 1, by omega, (i + 1, _, p1), ⟨by show i + 1 + (m - 1) = _; omega, by show OI _ p1 (nums s 3 (18 + A) (i + 1)); rw [nums_succ]; exact hv1⟩, rfl, rfl, rfl, rfl, rfl, rfl, rfl, trivial⟩
  obtain rfl : i = M := by omega
  (refine gs_f tyT_ok ?hb ?_; case hb => first | exact decide_eq_false (by omega) | exact congrArg Bool.not (decide_eq_true (by omega)) | (simp; done) | (simp; omega))
  repeat (first | refine gs_n tyT_ok 0 ?_ | refine gs_gn tyT_ok 0 rfl ?_ | refine gs_no rfl ?_ | refine gs_l tyT_ok 1 ?_ | refine gs_gl tyT_ok 1 rfl ?_ | (refine gs_l tyT_ok 1 ?_ (hp := ?hp); case hp => exact ⟨rfl, Nat.le_of_ble_eq_true rfl⟩) | (refine gs_gl tyT_ok 1 rfl ?_ (hp := ?hp); case hp => exact ⟨rfl, Nat.le_of_ble_eq_true rfl⟩) | refine gs_end ?_ | refine gs_end' ?_ | refine gw_seq ?_ | refine gw_text rfl ?_ | refine gw_skip ?_ | refine gw_yes rfl ?_ | refine gw_no rfl ?_ | refine gw_exit ?_ | refine gw_block ?_ | refine gw_label ?_ | (refine gs_n tyT_ok 0 ?_ (hp := ?hp); case hp => exact ⟨by decide, by decide⟩))
  rw [show ((18 + A : Nat) : Int) + 3 * (i : Int) = ((tgaAt s : Nat) : Int) by rw [hat]; omega]
  have hlist : Trip Try.prog 81 [.string s, .int .i64 (tgaAt s : Int), img (hdOf s).kind (hdOf s).depth (hdOf s).wide (hdOf s).high (.slice ua (nums s 3 (18 + A) i).length uc) (.slice none 0 0)] [] (ListOut (tgaPts s)) := by
    rw [hW, hH, hpts]
    exact sList_w g1 g2 hz (by omega) hz4 (by omega) (by omega) g3
  refine gs_call [] ent81 rfl (by decide) hlist fun v F' ns ho _ _ => ?_
  obtain ⟨rfl, w2, p2, l, ok, rfl, rfl, hv2, ht, hf⟩ := ho
  have hv2' := hv2
  obtain ⟨xa, xc, rfl, hl2⟩ := hv2'.ls
  repeat (first | refine gs_n tyT_ok 0 ?_ | refine gs_gn tyT_ok 0 rfl ?_ | refine gs_no rfl ?_ | refine gs_end ?_ | refine gs_end' ?_ | refine gw_seq ?_ | refine gw_text rfl ?_ | refine gw_skip ?_ | refine gw_yes rfl ?_ | refine gw_no rfl ?_ | refine gw_exit ?_ | refine gw_block ?_ | refine gw_label ?_ | (refine gs_n tyT_ok 0 ?_ (hp := ?hp); case hp => exact ⟨by decide, by decide⟩))
  cases ok
  · rw [hget0, hf rfl]
    repeat (first | refine gs_n tyT_ok 0 ?_ | refine gs_gn tyT_ok 0 rfl ?_ | refine gs_no rfl ?_ | refine gs_end ?_ | refine gs_end' ?_ | refine gw_seq ?_ | refine gw_text rfl ?_ | refine gw_skip ?_ | refine gw_yes rfl ?_ | refine gw_no rfl ?_ | refine gw_exit ?_ | refine gw_block ?_ | refine gw_label ?_ | (refine gs_n tyT_ok 0 ?_ (hp := ?hp); case hp => exact ⟨by decide, by decide⟩))
    refine gs_store tyT_ok 0 rfl rfl rfl rfl rfl rfl (Nat.le_of_ble_eq_true rfl) (Nat.le_of_ble_eq_true rfl) ?_
    repeat (first | refine gs_n tyT_ok 0 ?_ | refine gs_gn tyT_ok 0 rfl ?_ | refine gs_no rfl ?_ | refine gs_end ?_ | refine gs_end' ?_ | refine gw_seq ?_ | refine gw_text rfl ?_ | refine gw_skip ?_ | refine gw_yes rfl ?_ | refine gw_no rfl ?_ | refine gw_exit ?_ | refine gw_block ?_ | refine gw_label ?_ | (refine gs_n tyT_ok 0 ?_ (hp := ?hp); case hp => exact ⟨by decide, by decide⟩))
    exact gw_ret ⟨_, [], [], [], rv_cell tyT_ok 0 rfl rfl rfl rfl rfl (Nat.le_of_ble_eq_true rfl) (.tmp .nil), ⟨rfl, rfl, rfl⟩, rfl, rfl, by decide⟩
  have hpl := ht rfl
  rw [hget0, hpl]
  have hl : l.length ≤ 400 ∧ small l := by
    rw [hpts] at hpl
    unfold ptsAt at hpl
    split at hpl
    · split at hpl
      · split at hpl
        · rename_i heq _
          cases hpl
          exact ⟨Nat.le_trans (runL_len _ _ _ _ _ (by simp) heq) hWH, runL_small hz4.2 _ _ _ _ _ small_nil heq⟩
        · cases hpl
      · cases hpl
    · split at hpl
      · cases hpl
        exact ⟨by rw [nums_len]; exact hWH, small_nums hz4.2⟩
      · cases hpl
  repeat (first | refine gs_n tyT_ok 0 ?_ | refine gs_gn tyT_ok 0 rfl ?_ | refine gs_no rfl ?_ | refine gs_end ?_ | refine gs_end' ?_ | refine gw_seq ?_ | refine gw_text rfl ?_ | refine gw_skip ?_ | refine gw_yes rfl ?_ | refine gw_no rfl ?_ | refine gw_exit ?_ | refine gw_block ?_ | refine gw_label ?_ | (refine gs_n tyT_ok 0 ?_ (hp := ?hp); case hp => exact ⟨by decide, by decide⟩))
  refine gw_nil ?_
  refine gw_loopL (fun _ (x : Nat × Value × (Nat × GO)) => [(0, .string s), (2, ptr b2), (4, ptr b4), (9, .slice xa l.length xc), (11, .int .i64 x.1)]) (fun _ x => [(b2, zimg), (b4, imc (hdOf s).kind (hdOf s).depth (hdOf s).wide (hdOf s).high (.slice ua (nums s 3 (18 + A) i).length uc) x.2.1), q, p2, x.2.2]) (fun m x => x.1 + m = l.length ∧ OI x.2.1 x.2.2 ((l.take x.1).map (unr (hdOf s).kind))) l.length (0, .slice none 0 0, (0, .none)) ⟨by simp, OI.nil⟩ rfl ⟨rfl, rfl, rfl, rfl, rfl, trivial⟩ fun m ⟨j, v, q3⟩ e ⟨hm3, hv3⟩ => ?_
  dsimp only at hm3 hv3 ⊢
  have hv3' := hv3
  obtain ⟨ya, yc, rfl, hl3⟩ := hv3'.ls
  repeat (first | refine gs_n tyT_ok 0 ?_ | refine gs_gn tyT_ok 0 rfl ?_ | refine gs_no rfl ?_ | refine gs_end ?_ | refine gs_end' ?_ | refine gw_seq ?_ | refine gw_text rfl ?_ | refine gw_skip ?_ | refine gw_yes rfl ?_ | refine gw_no rfl ?_ | refine gw_exit ?_ | refine gw_block ?_ | refine gw_label ?_ | (refine gs_n tyT_ok 0 ?_ (hp := ?hp); case hp => exact ⟨by decide, by decide⟩))
  by_cases k2 : j < l.length
  · (refine gs_t tyT_ok ?hb ?_; case hb => first | exact decide_eq_true (by omega) | exact congrArg Bool.not (decide_eq_false (by omega)) | (simp; done) | (simp; omega))
    obtain ⟨o, rfl, ho⟩ := hl2.at k2
    repeat (first | refine gs_n tyT_ok 0 ?_ | refine gs_gn tyT_ok 0 rfl ?_ | refine gs_no rfl ?_ | refine gs_end ?_ | refine gs_end' ?_ | refine gw_seq ?_ | refine gw_text rfl ?_ | refine gw_skip ?_ | refine gw_yes rfl ?_ | refine gw_no rfl ?_ | refine gw_exit ?_ | refine gw_block ?_ | refine gw_label ?_ | (refine gs_n tyT_ok 0 ?_ (hp := ?hp); case hp => exact ⟨by decide, by decide⟩))
    refine gs_at 3 tyT_ok rfl rfl rfl rfl ho ?_
    repeat (first | refine gs_n tyT_ok 0 ?_ | refine gs_gn tyT_ok 0 rfl ?_ | refine gs_no rfl ?_)
    refine gs_end ?_
    have hx := hl.2 (l.getD j 0) (by rw [List.getD_eq_getElem?_getD, List.getElem?_eq_getElem k2]; exact List.getElem_mem k2)
    have htk : (l.take (j + 1)).map (unr (hdOf s).kind) = (l.take j).map (unr (hdOf s).kind) ++ [unr (hdOf s).kind (l.getD j 0)] := by
      rw [List.take_succ_eq_append_getElem k2, List.map_append]
      simp [List.getD, k2]
    refine gw_seq ?_
    refine gw_join (α := Unit) (fun _ => [(0, .string s), (2, ptr b2), (4, ptr b4), (9, .slice (some ⟨p2.1, o, none⟩) l.length xc), (11, .int .i64 j), (12, .int .i64 (unr (hdOf s).kind (l.getD j 0)))]) (fun _ => [(b2, zimg), (b4, imc (hdOf s).kind (hdOf s).depth (hdOf s).wide (hdOf s).high (.slice ua (nums s 3 (18 + A) i).length uc) (.slice ya ((l.take j).map (unr (hdOf s).kind)).length yc)), q, p2, q3]) (fun _ => True) ?_ fun _ e _ => ?_
    · repeat (first | refine gs_n tyT_ok 0 ?_ | refine gs_gn tyT_ok 0 rfl ?_ | refine gs_no rfl ?_ | refine gs_l tyT_ok 1 ?_ | refine gs_gl tyT_ok 1 rfl ?_ | (refine gs_l tyT_ok 1 ?_ (hp := ?hp); case hp => exact ⟨rfl, Nat.le_of_ble_eq_true rfl⟩) | (refine gs_gl tyT_ok 1 rfl ?_ (hp := ?hp); case hp => exact ⟨rfl, Nat.le_of_ble_eq_true rfl⟩) | refine gs_end ?_ | refine gs_end' ?_ | refine gw_seq ?_ | refine gw_text rfl ?_ | refine gw_skip ?_ | refine gw_yes rfl ?_ | refine gw_no rfl ?_ | refine gw_exit ?_ | refine gw_block ?_ | refine gw_label ?_ | (refine gs_n tyT_ok 0 ?_ (hp := ?hp); case hp => exact ⟨by decide, by decide⟩))
      by_cases k3 : (hdOf s).kind = 3
      · rw [show unr (hdOf s).kind (l.getD j 0) = l.getD j 0 % 16777216 * 256 + l.getD j 0 / 16777216 from if_pos k3]
        (refine gs_t tyT_ok ?hb ?_; case hb => first | exact decide_eq_true (by omega) | exact congrArg Bool.not (decide_eq_false (by omega)) | (simp; done) | (simp; omega))
        repeat (first | refine gs_n tyT_ok 0 ?_ | refine gs_gn tyT_ok 0 rfl ?_ | refine gs_no rfl ?_ | refine gs_end ?_ | refine gs_end' ?_ | refine gw_seq ?_ | refine gw_text rfl ?_ | refine gw_skip ?_ | refine gw_yes rfl ?_ | refine gw_no rfl ?_ | refine gw_exit ?_ | refine gw_block ?_ | refine gw_label ?_ | (refine gs_n tyT_ok 0 ?_ (hp := ?hp); case hp => exact ⟨by decide, by decide⟩))
        exact ⟨(), trivial, rfl, rfl, rfl, rfl, rfl, rfl, rfl, trivial⟩
      · rw [show unr (hdOf s).kind (l.getD j 0) = l.getD j 0 from if_neg k3]
        (refine gs_f tyT_ok ?hb ?_; case hb => first | exact decide_eq_false (by omega) | exact congrArg Bool.not (decide_eq_true (by omega)) | (simp; done) | (simp; omega))
        repeat (first | refine gs_n tyT_ok 0 ?_ | refine gs_gn tyT_ok 0 rfl ?_ | refine gs_no rfl ?_ | refine gs_end ?_ | refine gs_end' ?_ | refine gw_seq ?_ | refine gw_text rfl ?_ | refine gw_skip ?_ | refine gw_yes rfl ?_ | refine gw_no rfl ?_ | refine gw_exit ?_ | refine gw_block ?_ | refine gw_label ?_ | (refine gs_n tyT_ok 0 ?_ (hp := ?hp); case hp => exact ⟨by decide, by decide⟩))
        exact ⟨(), trivial, rfl, rfl, rfl, rfl, rfl, rfl, rfl, trivial⟩
    repeat (first | refine gs_n tyT_ok 0 ?_ | refine gs_gn tyT_ok 0 rfl ?_ | refine gs_no rfl ?_ | refine gs_l tyT_ok 1 ?_ | refine gs_gl tyT_ok 1 rfl ?_ | (refine gs_l tyT_ok 1 ?_ (hp := ?hp); case hp => exact ⟨rfl, Nat.le_of_ble_eq_true rfl⟩) | (refine gs_gl tyT_ok 1 rfl ?_ (hp := ?hp); case hp => exact ⟨rfl, Nat.le_of_ble_eq_true rfl⟩) | refine gs_end ?_ | refine gs_end' ?_ | refine gw_seq ?_ | refine gw_text rfl ?_ | refine gw_skip ?_ | refine gw_yes rfl ?_ | refine gw_no rfl ?_ | refine gw_exit ?_ | refine gw_block ?_ | refine gw_label ?_ | (refine gs_n tyT_ok 0 ?_ (hp := ?hp); case hp => exact ⟨by decide, by decide⟩))
    refine gs_push 4 (n := unr (hdOf s).kind (l.getD j 0)) rfl rfl hv3 (fun _ => rfl) (by rw [List.length_map, List.length_take]; omega) fun b a1 c1 p1 hv1 => ?_
    repeat (first | refine gs_n tyT_ok 0 ?_ | refine gs_gn tyT_ok 0 rfl ?_ | refine gs_no rfl ?_)
    refine gs_store tyT_ok 1 rfl rfl rfl rfl rfl rfl (Nat.le_of_ble_eq_true rfl) (Nat.le_of_ble_eq_true rfl) ?_
    refine gs_end ?_
    refine gw_weak [0, 1, 2, 3, 4] (by decide) rfl ?_
    repeat (first | refine gs_n tyT_ok 0 ?_ | refine gs_gn tyT_ok 0 rfl ?_ | refine gs_no rfl ?_ | refine gs_end ?_ | refine gs_end' ?_ | refine gw_seq ?_ | refine gw_text rfl ?_ | refine gw_skip ?_ | refine gw_yes rfl ?_ | refine gw_no rfl ?_ | refine gw_exit ?_ | refine gw_block ?_ | refine gw_label ?_ | (refine gs_n tyT_ok 0 ?_ (hp := ?hp); case hp => exact ⟨by decide, by decide⟩))
    exact ⟨m - 1, by omega, (j + 1, _, p1), ⟨by show j + 1 + (m - 1) = _; omega, by show OI _ p1 ((l.take (j + 1)).map (unr (hdOf s).kind)); rw [htk]; exact hv1⟩, rfl, rfl, rfl, rfl, rfl, rfl, trivial⟩
  obtain rfl : j = l.length := by omega
  rw [List.take_length] at hv3 hl3
  (refine gs_f tyT_ok ?hb ?_; case hb => first | exact decide_eq_false (by omega) | exact congrArg Bool.not (decide_eq_true (by omega)) | (simp; done) | (simp; omega))
  repeat (first | refine gs_n tyT_ok 0 ?_ | refine gs_gn tyT_ok 0 rfl ?_ | refine gs_no rfl ?_ | refine gs_l tyT_ok 1 ?_ | refine gs_gl tyT_ok 1 rfl ?_ | (refine gs_l tyT_ok 1 ?_ (hp := ?hp); case hp => exact ⟨rfl, Nat.le_of_ble_eq_true rfl⟩) | (refine gs_gl tyT_ok 1 rfl ?_ (hp := ?hp); case hp => exact ⟨rfl, Nat.le_of_ble_eq_true rfl⟩) | refine gs_end ?_ | refine gs_end' ?_ | refine gw_seq ?_ | refine gw_text rfl ?_ | refine gw_skip ?_ | refine gw_yes rfl ?_ | refine gw_no rfl ?_ | refine gw_exit ?_ | refine gw_block ?_ | refine gw_label ?_ | (refine gs_n tyT_ok 0 ?_ (hp := ?hp); case hp => exact ⟨by decide, by decide⟩))
  rw [List.take_length]
  have hv' := hv
  obtain ⟨xa1, xc1, he, hl1⟩ := hv'.ls
  cases he
  have hcl : (nums s 3 (18 + A) i).length ≤ 65535 := by rw [nums_len]; exact hM3
  have hpl2 : (l.map (unr (hdOf s).kind)).length ≤ 1000000 := by rw [List.length_map]; omega
  refine gs_rd [2, 4] ent38 rfl (by decide) (sImageOk_w hl1 hl3 (by omega) (by omega)) ?_
  by_cases hokI : imgOk (hdOf s).kind (hdOf s).depth (hdOf s).wide (hdOf s).high (nums s 3 (18 + A) i) (l.map (unr (hdOf s).kind))
  case neg =>
    rw [if_neg hokI, decide_eq_false hokI]
    repeat (first | refine gs_n tyT_ok 0 ?_ | refine gs_gn tyT_ok 0 rfl ?_ | refine gs_no rfl ?_ | refine gs_end ?_ | refine gs_end' ?_ | refine gw_seq ?_ | refine gw_text rfl ?_ | refine gw_skip ?_ | refine gw_yes rfl ?_ | refine gw_no rfl ?_ | refine gw_exit ?_ | refine gw_block ?_ | refine gw_label ?_ | (refine gs_n tyT_ok 0 ?_ (hp := ?hp); case hp => exact ⟨by decide, by decide⟩))
    refine gs_store tyT_ok 0 rfl rfl rfl rfl rfl rfl (Nat.le_of_ble_eq_true rfl) (Nat.le_of_ble_eq_true rfl) ?_
    repeat (first | refine gs_n tyT_ok 0 ?_ | refine gs_gn tyT_ok 0 rfl ?_ | refine gs_no rfl ?_ | refine gs_end ?_ | refine gs_end' ?_ | refine gw_seq ?_ | refine gw_text rfl ?_ | refine gw_skip ?_ | refine gw_yes rfl ?_ | refine gw_no rfl ?_ | refine gw_exit ?_ | refine gw_block ?_ | refine gw_label ?_ | (refine gs_n tyT_ok 0 ?_ (hp := ?hp); case hp => exact ⟨by decide, by decide⟩))
    exact gw_ret ⟨_, [], [], [], rv_cell tyT_ok 0 rfl rfl rfl rfl rfl (Nat.le_of_ble_eq_true rfl) (.tmp .nil), ⟨rfl, rfl, rfl⟩, rfl, rfl, by decide⟩
  rw [if_pos hokI, decide_eq_true hokI]
  have e17 : (((s.data.toList.getD (Int.toNat 17) 0).toNat : Nat) : Int) = byt s 17 := rfl
  repeat (first | refine gs_n tyT_ok 0 ?_ | refine gs_gn tyT_ok 0 rfl ?_ | refine gs_no rfl ?_ | refine gs_end ?_ | refine gs_end' ?_ | refine gw_seq ?_ | refine gw_text rfl ?_ | refine gw_skip ?_ | refine gw_yes rfl ?_ | refine gw_no rfl ?_ | refine gw_exit ?_ | refine gw_block ?_ | refine gw_label ?_ | (refine gs_n tyT_ok 0 ?_ (hp := ?hp); case hp => exact ⟨by decide, by decide⟩))
  by_cases hl0 : (hdOf s).lst = 0
  · rw [if_pos hl0]
    have hb := kq3.2 hl0
    (refine gs_t tyT_ok ?hb ?_; case hb => first | exact decide_eq_true (by omega) | exact congrArg Bool.not (decide_eq_false (by omega)) | (simp; done) | (simp; omega))
    repeat (first | refine gs_n tyT_ok 0 ?_ | refine gs_gn tyT_ok 0 rfl ?_ | refine gs_no rfl ?_ | refine gs_l tyT_ok 1 ?_ | refine gs_gl tyT_ok 1 rfl ?_ | (refine gs_l tyT_ok 1 ?_ (hp := ?hp); case hp => exact ⟨rfl, Nat.le_of_ble_eq_true rfl⟩) | (refine gs_gl tyT_ok 1 rfl ?_ (hp := ?hp); case hp => exact ⟨rfl, Nat.le_of_ble_eq_true rfl⟩) | refine gs_end ?_ | refine gs_end' ?_ | refine gw_seq ?_ | refine gw_text rfl ?_ | refine gw_skip ?_ | refine gw_yes rfl ?_ | refine gw_no rfl ?_ | refine gw_exit ?_ | refine gw_block ?_ | refine gw_label ?_ | (refine gs_n tyT_ok 0 ?_ (hp := ?hp); case hp => exact ⟨by decide, by decide⟩))
    refine gs_call [2, 4] ent82 rfl (by decide) (sFlip_w hl1 hl3 (by omega) hpl2 hokI) fun v F' ns ho _ _ => ?_
    obtain ⟨rfl, w1, w2, p3, p4, rfl, rfl, hv5, hv6⟩ := ho
    have hv5' := hv5
    have hv6' := hv6
    obtain ⟨za, zc, rfl, _⟩ := hv5'.ls
    obtain ⟨ta, tc, rfl, _⟩ := hv6'.ls
    refine gs_store tyT_ok 0 rfl rfl rfl rfl rfl rfl (Nat.le_of_ble_eq_true rfl) (Nat.le_of_ble_eq_true rfl) ?_
    repeat (first | refine gs_n tyT_ok 0 ?_ | refine gs_gn tyT_ok 0 rfl ?_ | refine gs_no rfl ?_ | refine gs_end ?_ | refine gs_end' ?_ | refine gw_seq ?_ | refine gw_text rfl ?_ | refine gw_skip ?_ | refine gw_yes rfl ?_ | refine gw_no rfl ?_ | refine gw_exit ?_ | refine gw_block ?_ | refine gw_label ?_ | (refine gs_n tyT_ok 0 ?_ (hp := ?hp); case hp => exact ⟨by decide, by decide⟩))
    exact gw_ret ⟨_, [], [p3, p4], [5, 6], rv_cell tyT_ok 0 rfl rfl rfl rfl rfl (Nat.le_of_ble_eq_true rfl) (.tmp .nil), ⟨rfl, _, _, p3, p4, rfl, rfl, hv5, hv6⟩, rfl, rfl, by decide⟩
  · rw [if_neg hl0]
    have hb : ¬ byt s 17 < 32 := fun h => hl0 (kq3.1 h)
    (refine gs_f tyT_ok ?hb ?_; case hb => first | exact decide_eq_false (by omega) | exact congrArg Bool.not (decide_eq_true (by omega)) | (simp; done) | (simp; omega))
    repeat (first | refine gs_n tyT_ok 0 ?_ | refine gs_gn tyT_ok 0 rfl ?_ | refine gs_no rfl ?_ | refine gs_l tyT_ok 1 ?_ | refine gs_gl tyT_ok 1 rfl ?_ | (refine gs_l tyT_ok 1 ?_ (hp := ?hp); case hp => exact ⟨rfl, Nat.le_of_ble_eq_true rfl⟩) | (refine gs_gl tyT_ok 1 rfl ?_ (hp := ?hp); case hp => exact ⟨rfl, Nat.le_of_ble_eq_true rfl⟩) | refine gs_end ?_ | refine gs_end' ?_ | refine gw_seq ?_ | refine gw_text rfl ?_ | refine gw_skip ?_ | refine gw_yes rfl ?_ | refine gw_no rfl ?_ | refine gw_exit ?_ | refine gw_block ?_ | refine gw_label ?_ | (refine gs_n tyT_ok 0 ?_ (hp := ?hp); case hp => exact ⟨by decide, by decide⟩))
    refine gs_store tyT_ok 0 rfl rfl rfl rfl rfl rfl (Nat.le_of_ble_eq_true rfl) (Nat.le_of_ble_eq_true rfl) ?_
    repeat (first | refine gs_n tyT_ok 0 ?_ | refine gs_gn tyT_ok 0 rfl ?_ | refine gs_no rfl ?_ | refine gs_end ?_ | refine gs_end' ?_ | refine gw_seq ?_ | refine gw_text rfl ?_ | refine gw_skip ?_ | refine gw_yes rfl ?_ | refine gw_no rfl ?_ | refine gw_exit ?_ | refine gw_block ?_ | refine gw_label ?_ | (refine gs_n tyT_ok 0 ?_ (hp := ?hp); case hp => exact ⟨by decide, by decide⟩))
    exact gw_ret ⟨_, [], [q, q3], [2, 4], rv_cell tyT_ok 0 rfl rfl rfl rfl rfl (Nat.le_of_ble_eq_true rfl) (.tmp .nil), ⟨rfl, _, _, q, q3, rfl, rfl, hv, hv3⟩, rfl, rfl, by decide⟩
end Go.Proofs.Ytdkhjcmhjlbpaaa.G
