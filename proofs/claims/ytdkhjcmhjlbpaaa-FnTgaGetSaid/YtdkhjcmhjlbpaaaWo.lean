/- spec: l11List. -/
import Derived.Test.YtdkhjcmhjlbpaaaWn
set_option linter.unusedVariables false
set_option maxRecDepth 10000
namespace Go.Proofs.Ytdkhjcmhjlbpaaa.G
open Go
/-- The points of a TGA from a place on; they are packed or not. -/
def ptsAt (s : ByteArray) (z n p : Nat) (packed : Bool) : Option (List Int) :=
  if packed = true then (match runL s z n n [] p with
    | some (l, a) => if a = s.size then some l else none
    | none => none) else if p + n * z = s.size then some (nums s z p n) else none
def ListOut (R : Option (List Int)) : OutT := fun v F' ns => F' = [] ∧ ∃ w p l ok, v = .tuple #[w, .bool ok] ∧ ns = [p] ∧ OI w p l ∧ (ok = true → R = some l) ∧ (ok = false → R = none)
set_option maxHeartbeats 1000000 in
theorem sList_w {s : ByteArray} {k d : Int} {W H z p : Nat} {v1 v2 : Value} (hs : s.size ≤ 9000) (h18 : 18 ≤ s.size) (hz : d / 8 = (z : Int)) (hd : 0 ≤ d ∧ d ≤ 32) (hz4 : 1 ≤ z ∧ z ≤ 4) (hW : W ≤ 20) (hH : H ≤ 20) (hp : p ≤ s.size) :
    Trip Try.prog 81 [.string s, .int .i64 p, img k d W H v1 v2] [] (ListOut (ptsAt s z (W * H) p (decide (8 < byt s 2)))) := by
  have hWH : W * H ≤ 20 * 20 := Nat.mul_le_mul hW hH
  have hc : (W : Int) * (H : Int) = ((W * H : Nat) : Int) := by simp
  refine trip_of Try.func81 rfl (by simp [Try.ntmps81]) ?_
  refine gw_seq (gw_text rfl ?_)
  refine gs_box fun b => ?_
  repeat (first | refine gs_n tyT_ok 0 ?_ | refine gs_gn tyT_ok 0 rfl ?_ | refine gs_no rfl ?_ | refine gs_l tyT_ok 0 ?_ | refine gs_gl tyT_ok 0 rfl ?_ | (refine gs_l tyT_ok 0 ?_ (hp := ?hp); case hp => exact ⟨rfl, Nat.le_of_ble_eq_true rfl⟩) | (refine gs_gl tyT_ok 0 rfl ?_ (hp := ?hp); case hp => exact ⟨rfl, Nat.le_of_ble_eq_true rfl⟩) | refine gs_end ?_ | refine gs_end' ?_ | refine gw_seq ?_ | refine gw_text rfl ?_ | refine gw_skip ?_ | refine gw_yes rfl ?_ | refine gw_no rfl ?_ | refine gw_exit ?_ | refine gw_block ?_ | refine gw_label ?_ | (refine gs_n tyT_ok 0 ?_ (hp := ?hp); case hp => exact ⟨by decide, by decide⟩))
  rw [hz]
  repeat (first | refine gs_n tyT_ok 0 ?_ | refine gs_gn tyT_ok 0 rfl ?_ | refine gs_no rfl ?_ | refine gs_end ?_ | refine gs_end' ?_ | refine gw_seq ?_ | refine gw_text rfl ?_ | refine gw_skip ?_ | refine gw_label ?_)
  refine gs_n tyT_ok 1 ?_
  repeat (first | refine gs_n tyT_ok 0 ?_ | refine gs_gn tyT_ok 0 rfl ?_ | refine gs_no rfl ?_ | refine gs_end ?_ | refine gs_end' ?_ | refine gw_seq ?_ | refine gw_text rfl ?_ | refine gw_skip ?_ | refine gw_label ?_)
  by_cases hr : 8 < byt s 2
  · rw [decide_eq_true hr]
    refine gw_yes (by show Value.bool _ = _; rw [show decide ((8 : Int) < ((s.data.toList.getD (2 : Int).toNat 0).toNat : Int)) = true from decide_eq_true hr]) ?_
    repeat (first | refine gs_n tyT_ok 0 ?_ | refine gs_gn tyT_ok 0 rfl ?_ | refine gs_no rfl ?_ | refine gs_l tyT_ok 0 ?_ | refine gs_gl tyT_ok 0 rfl ?_ | (refine gs_l tyT_ok 0 ?_ (hp := ?hp); case hp => exact ⟨rfl, Nat.le_of_ble_eq_true rfl⟩) | (refine gs_gl tyT_ok 0 rfl ?_ (hp := ?hp); case hp => exact ⟨rfl, Nat.le_of_ble_eq_true rfl⟩) | refine gs_end ?_ | refine gs_end' ?_ | refine gw_seq ?_ | refine gw_text rfl ?_ | refine gw_skip ?_ | refine gw_label ?_)
    rw [hc]
    refine gs_call [] ent124 rfl (by decide) (sRunGet_w hs hz4.1 hz4.2 (by omega) hp) fun v F' ns ho _ _ => ?_
    obtain ⟨rfl, w, q, l, a, ok, rfl, rfl, hv, ht, hf⟩ := ho
    have hv' := hv
    obtain ⟨ua, uc, rfl, _⟩ := hv'.ls
    repeat (first | refine gs_n tyT_ok 0 ?_ | refine gs_gn tyT_ok 0 rfl ?_ | refine gs_no rfl ?_ | refine gs_end ?_ | refine gs_end' ?_ | refine gw_seq ?_ | refine gw_text rfl ?_ | refine gw_skip ?_ | refine gw_label ?_)
    cases ok
    · repeat (first | refine gs_n tyT_ok 0 ?_ | refine gs_gn tyT_ok 0 rfl ?_ | refine gs_no rfl ?_ | refine gs_end ?_ | refine gs_end' ?_ | refine gw_seq ?_ | refine gw_text rfl ?_ | refine gw_skip ?_ | refine gw_yes rfl ?_ | refine gw_no rfl ?_ | refine gw_exit ?_ | refine gw_block ?_ | refine gw_label ?_ | (refine gs_n tyT_ok 0 ?_ (hp := ?hp); case hp => exact ⟨by decide, by decide⟩))
      exact gw_ret ⟨_, [], [q], [1], .tmp (.tmp .nil), ⟨rfl, _, q, l, false, rfl, rfl, hv, (fun h => by cases h), fun _ => by rw [ptsAt, if_pos rfl, hf rfl]⟩, rfl, rfl, by decide⟩
    · by_cases ha : a = s.size
      · repeat (first | refine gs_n tyT_ok 0 ?_ | refine gs_gn tyT_ok 0 rfl ?_ | refine gs_no rfl ?_ | refine gs_end ?_ | refine gs_end' ?_ | refine gw_seq ?_ | refine gw_text rfl ?_ | refine gw_skip ?_ | refine gw_yes rfl ?_ | refine gw_no rfl ?_ | refine gw_exit ?_ | refine gw_block ?_ | refine gw_label ?_ | (refine gs_n tyT_ok 0 ?_ (hp := ?hp); case hp => exact ⟨by decide, by decide⟩) | (refine gs_tg tyT_ok rfl ?hb ?_; case hb => first | exact decide_eq_true (by omega) | exact congrArg Bool.not (decide_eq_false (by omega)) | (simp; done) | (simp; omega)) | (refine gs_fg tyT_ok rfl ?hb ?_; case hb => first | exact decide_eq_false (by omega) | exact congrArg Bool.not (decide_eq_true (by omega)) | (simp; done) | (simp; omega)) | (refine gs_t tyT_ok ?hb ?_; case hb => first | exact decide_eq_true (by omega) | exact congrArg Bool.not (decide_eq_false (by omega)) | (simp; done) | (simp; omega)) | (refine gs_f tyT_ok ?hb ?_; case hb => first | exact decide_eq_false (by omega) | exact congrArg Bool.not (decide_eq_true (by omega)) | (simp; done) | (simp; omega)))
        exact gw_ret ⟨_, [], [q], [1], .tmp (.tmp .nil), ⟨rfl, _, q, l, true, rfl, rfl, hv, (fun _ => by rw [ptsAt, if_pos rfl, ht rfl]; exact if_pos ha), fun h => (by cases h)⟩, rfl, rfl, by decide⟩
      · repeat (first | refine gs_n tyT_ok 0 ?_ | refine gs_gn tyT_ok 0 rfl ?_ | refine gs_no rfl ?_ | refine gs_end ?_ | refine gs_end' ?_ | refine gw_seq ?_ | refine gw_text rfl ?_ | refine gw_skip ?_ | refine gw_yes rfl ?_ | refine gw_no rfl ?_ | refine gw_exit ?_ | refine gw_block ?_ | refine gw_label ?_ | (refine gs_n tyT_ok 0 ?_ (hp := ?hp); case hp => exact ⟨by decide, by decide⟩) | (refine gs_tg tyT_ok rfl ?hb ?_; case hb => first | exact decide_eq_true (by omega) | exact congrArg Bool.not (decide_eq_false (by omega)) | (simp; done) | (simp; omega)) | (refine gs_fg tyT_ok rfl ?hb ?_; case hb => first | exact decide_eq_false (by omega) | exact congrArg Bool.not (decide_eq_true (by omega)) | (simp; done) | (simp; omega)) | (refine gs_t tyT_ok ?hb ?_; case hb => first | exact decide_eq_true (by omega) | exact congrArg Bool.not (decide_eq_false (by omega)) | (simp; done) | (simp; omega)) | (refine gs_f tyT_ok ?hb ?_; case hb => first | exact decide_eq_false (by omega) | exact congrArg Bool.not (decide_eq_true (by omega)) | (simp; done) | (simp; omega)))
        exact gw_ret ⟨_, [], [q], [1], .tmp (.tmp .nil), ⟨rfl, _, q, l, false, rfl, rfl, hv, (fun h => by cases h), fun _ => by rw [ptsAt, if_pos rfl, ht rfl]; exact if_neg ha⟩, rfl, rfl, by decide⟩
  · rw [decide_eq_false hr]
    refine gw_no (by show Value.bool _ = _; rw [show decide ((8 : Int) < ((s.data.toList.getD (2 : Int).toNat 0).toNat : Int)) = false from decide_eq_false hr]) ?_
    repeat (first | refine gs_n tyT_ok 0 ?_ | refine gs_gn tyT_ok 0 rfl ?_ | refine gs_no rfl ?_ | refine gs_end ?_ | refine gs_end' ?_ | refine gw_seq ?_ | refine gw_text rfl ?_ | refine gw_skip ?_ | refine gw_label ?_)
    refine gs_lit tyT_ok (cs := []) rfl rfl rfl (by decide) rfl fun b1 => ?_
    have hz0 : W * H * z ≤ 400 * 4 := Nat.mul_le_mul hWH hz4.2
    have hc2 : ((W * H : Nat) : Int) * (z : Int) = ((W * H * z : Nat) : Int) := by simp
    have hm : 0 ≤ ((W * H : Nat) : Int) * (z : Int) ∧ ((W * H : Nat) : Int) * (z : Int) ≤ 1600 := by rw [hc2]; omega
    repeat (first | refine gs_n tyT_ok 0 ?_ | refine gs_gn tyT_ok 0 rfl ?_ | refine gs_no rfl ?_ | refine gs_l tyT_ok 0 ?_ | refine gs_gl tyT_ok 0 rfl ?_ | (refine gs_l tyT_ok 0 ?_ (hp := ?hp); case hp => exact ⟨rfl, Nat.le_of_ble_eq_true rfl⟩) | (refine gs_gl tyT_ok 0 rfl ?_ (hp := ?hp); case hp => exact ⟨rfl, Nat.le_of_ble_eq_true rfl⟩) | refine gs_end ?_ | refine gs_end' ?_ | refine gw_seq ?_ | refine gw_text rfl ?_ | refine gw_skip ?_ | refine gw_label ?_)
    rw [hc]
    repeat (first | refine gs_n tyT_ok 0 ?_ | refine gs_gn tyT_ok 0 rfl ?_ | refine gs_no rfl ?_ | refine gs_end ?_ | refine gs_end' ?_ | refine gw_seq ?_ | refine gw_text rfl ?_ | refine gw_skip ?_ | refine gw_label ?_)
    rw [hc2]
    by_cases g1 : p + W * H * z = s.size
    case neg =>
      refine gs_t tyT_ok ?hb ?_
      case hb =>
        show (!decide ((p : Int) + ((W * H * z : Nat) : Int) = (s.size : Int))) = true
        rw [decide_eq_false (by omega)]
        rfl
      repeat (first | refine gs_n tyT_ok 0 ?_ | refine gs_gn tyT_ok 0 rfl ?_ | refine gs_no rfl ?_ | refine gs_end ?_ | refine gs_end' ?_ | refine gw_seq ?_ | refine gw_text rfl ?_ | refine gw_skip ?_ | refine gw_yes rfl ?_ | refine gw_no rfl ?_ | refine gw_exit ?_ | refine gw_block ?_ | refine gw_label ?_ | (refine gs_n tyT_ok 0 ?_ (hp := ?hp); case hp => exact ⟨by decide, by decide⟩))
      exact gw_ret ⟨_, [], [(b1, .row 3 [] 0)], [1], .tmp (.tmp .nil), ⟨rfl, _, _, [], false, rfl, rfl, OI.empty, (fun h => by cases h), fun _ => by rw [ptsAt, if_neg (by simp), if_neg g1]⟩, rfl, rfl, by decide⟩
    refine gs_f tyT_ok ?hb ?_
    case hb =>
      show (!decide ((p : Int) + ((W * H * z : Nat) : Int) = (s.size : Int))) = false
      rw [decide_eq_true (by omega)]
      rfl
    repeat (first | refine gs_n tyT_ok 0 ?_ | refine gs_gn tyT_ok 0 rfl ?_ | refine gs_no rfl ?_ | refine gs_end ?_ | refine gs_end' ?_ | refine gw_seq ?_ | refine gw_text rfl ?_ | refine gw_skip ?_ | refine gw_yes rfl ?_ | refine gw_no rfl ?_ | refine gw_exit ?_ | refine gw_block ?_ | refine gw_label ?_ | (refine gs_n tyT_ok 0 ?_ (hp := ?hp); case hp => exact ⟨by decide, by decide⟩))
    refine gw_loopL (fun _ (x : Nat × Value × (Nat × GO)) => [(0, .string s), (1, .int .i64 p), (5, ptr b), (8, .int .i64 z), (12, x.2.1), (13, .int .i64 x.1)]) (fun _ x => [(b, imc k d W H v1 v2), x.2.2]) (fun m x => x.1 + m = W * H ∧ OI x.2.1 x.2.2 (nums s z p x.1)) (W * H) (0, .slice (some ⟨b1, 0, none⟩) 0 0, (b1, .row 3 [] 0)) ⟨by simp, OI.empty⟩ rfl ⟨rfl, rfl, rfl, rfl, rfl, rfl, trivial⟩ fun m ⟨i, v, q⟩ e ⟨hm2, hv⟩ => ?_
    dsimp only at hm2 hv ⊢
    have hv' := hv
    obtain ⟨ua, uc, rfl, _⟩ := hv'.ls
    repeat (first | refine gs_n tyT_ok 0 ?_ | refine gs_gn tyT_ok 0 rfl ?_ | refine gs_no rfl ?_ | refine gs_l tyT_ok 0 ?_ | refine gs_gl tyT_ok 0 rfl ?_ | (refine gs_l tyT_ok 0 ?_ (hp := ?hp); case hp => exact ⟨rfl, Nat.le_of_ble_eq_true rfl⟩) | (refine gs_gl tyT_ok 0 rfl ?_ (hp := ?hp); case hp => exact ⟨rfl, Nat.le_of_ble_eq_true rfl⟩) | refine gs_end ?_ | refine gs_end' ?_ | refine gw_seq ?_ | refine gw_text rfl ?_ | refine gw_skip ?_ | refine gw_label ?_)
    rw [hc]
    by_cases k1 : i < W * H
    case neg =>
      obtain rfl : i = W * H := by omega
      (refine gs_f tyT_ok ?hb ?_; case hb => first | exact decide_eq_false (by omega) | exact congrArg Bool.not (decide_eq_true (by omega)) | (simp; done) | (simp; omega))
      repeat (first | refine gs_n tyT_ok 0 ?_ | refine gs_gn tyT_ok 0 rfl ?_ | refine gs_no rfl ?_ | refine gs_end ?_ | refine gs_end' ?_ | refine gw_seq ?_ | refine gw_text rfl ?_ | refine gw_skip ?_ | refine gw_yes rfl ?_ | refine gw_no rfl ?_ | refine gw_exit ?_ | refine gw_block ?_ | refine gw_label ?_ | (refine gs_n tyT_ok 0 ?_ (hp := ?hp); case hp => exact ⟨by decide, by decide⟩))
      exact gw_ret ⟨_, [], [q], [1], .tmp (.tmp .nil), ⟨rfl, _, q, _, true, rfl, rfl, hv, (fun _ => by rw [ptsAt, if_neg (by simp), if_pos g1]), fun h => (by cases h)⟩, rfl, rfl, by decide⟩
    (refine gs_t tyT_ok ?hb ?_; case hb => first | exact decide_eq_true (by omega) | exact congrArg Bool.not (decide_eq_false (by omega)) | (simp; done) | (simp; omega))
    have hiz : i * z + z ≤ W * H * z := by
      have := Nat.mul_le_mul_right z (show i + 1 ≤ W * H by omega)
      rw [Nat.succ_mul] at this
      exact this
    have hci : (i : Int) * (z : Int) = ((i * z : Nat) : Int) := by simp
    have hmi : 0 ≤ (i : Int) * (z : Int) ∧ (i : Int) * (z : Int) ≤ 1600 := by rw [hci]; omega
    repeat (first | refine gs_n tyT_ok 0 ?_ | refine gs_gn tyT_ok 0 rfl ?_ | refine gs_no rfl ?_ | refine gs_end ?_ | refine gs_end' ?_ | refine gw_seq ?_ | refine gw_text rfl ?_ | refine gw_skip ?_ | refine gw_yes rfl ?_ | refine gw_no rfl ?_ | refine gw_exit ?_ | refine gw_block ?_ | refine gw_label ?_ | (refine gs_n tyT_ok 0 ?_ (hp := ?hp); case hp => exact ⟨by decide, by decide⟩))
    rw [hci]
    refine gs_pu ent49 (sField_w (a := p + i * z) (z := z) hs hz4.2 (by omega)) ?_
    refine gs_push 1 (n := fld s (p + i * z) z false z) rfl rfl hv (fun _ => rfl) (by rw [nums_len]; omega) fun b2 ua3 uc3 p3 hv3 => ?_
    refine gs_n tyT_ok 0 ?_
    refine gs_end ?_
    refine gw_weak [0, 1] (by decide) rfl ?_
    repeat (first | refine gs_n tyT_ok 0 ?_ | refine gs_gn tyT_ok 0 rfl ?_ | refine gs_no rfl ?_ | refine gs_end ?_ | refine gs_end' ?_ | refine gw_seq ?_ | refine gw_text rfl ?_ | refine gw_skip ?_ | refine gw_yes rfl ?_ | refine gw_no rfl ?_ | refine gw_exit ?_ | refine gw_block ?_ | refine gw_label ?_ | (refine gs_n tyT_ok 0 ?_ (hp := ?hp); case hp => exact ⟨by decide, by decide⟩))
    refine ⟨m - 1, by omega, (i + 1, _, p3), ⟨by show i + 1 + (m - 1) = _; omega, by show OI _ p3 (nums s z p (i + 1)); rw [nums_succ]; exact hv3⟩, rfl, rfl, rfl, rfl, rfl, rfl, rfl, trivial⟩
end Go.Proofs.Ytdkhjcmhjlbpaaa.G
