/- spec: l11List, l8Blank. -/
import Derived.Test.YtdkhjcmhjlbpaaaWl
import Derived.Test.YtdkhjcmhjlbpaaaWm
set_option linter.unusedVariables false
set_option maxRecDepth 10000
namespace Go.Proofs.Ytdkhjcmhjlbpaaa.G
open Go
theorem sBlank_w {k d w h : Int} {W H : Int} {a1 a2 : Option Addr} {n1 c1 n2 c2 : Nat} {q1 : Nat × GO} {cs : List Int} (h1 : LS a1 n1 c1 q1 cs) (z1 : cs.length ≤ 1000000) :
    Trip Try.prog 125 [img k d w h (.slice a1 n1 c1) (.slice a2 n2 c2), .int .i64 W, .int .i64 H] [q1]
      (fun v F' ns => F' = [q1] ∧ ∃ w1 p1, v = img k d W H w1 (.slice none 0 0) ∧ ns = [p1] ∧ OI w1 p1 cs) := by
  obtain rfl := h1.1
  refine trip_of Try.func125 rfl (by simp [Try.ntmps125]) ?_
  refine gw_seq (gw_text rfl ?_)
  refine gs_box fun b => ?_
  refine gs_alloc tyT_ok rfl fun b2 => ?_
  refine gs_end ?_
  refine gw_seq (gw_any [.N, .L 1, .N, .L 1, .N, .N, .E [], .N, .L 1, .E [3, 0], .N, .E [2]] rfl rfl rfl ?_)
  repeat (first | refine gs_n tyT_ok 0 ?_ | refine gs_gn tyT_ok 0 rfl ?_ | refine gs_no rfl ?_ | refine gs_l tyT_ok 1 ?_ | refine gs_gl tyT_ok 1 rfl ?_ | (refine gs_l tyT_ok 1 ?_ (hp := ?hp); case hp => exact ⟨rfl, Nat.le_of_ble_eq_true rfl⟩) | (refine gs_gl tyT_ok 1 rfl ?_ (hp := ?hp); case hp => exact ⟨rfl, Nat.le_of_ble_eq_true rfl⟩))
  refine gs_lit tyT_ok (cs := []) rfl rfl rfl (by decide) rfl fun b3 => ?_
  repeat (first | refine gs_n tyT_ok 0 ?_ | refine gs_gn tyT_ok 0 rfl ?_ | refine gs_no rfl ?_ | refine gs_l tyT_ok 1 ?_ | refine gs_gl tyT_ok 1 rfl ?_ | (refine gs_l tyT_ok 1 ?_ (hp := ?hp); case hp => exact ⟨rfl, Nat.le_of_ble_eq_true rfl⟩) | (refine gs_gl tyT_ok 1 rfl ?_ (hp := ?hp); case hp => exact ⟨rfl, Nat.le_of_ble_eq_true rfl⟩))
  refine gs_append tyT_ok 3 0 (cs := []) (nw := ints cs) rfl rfl (by decide) rfl rfl rfl (.inr ⟨b3, 0, 0, 0, rfl, rfl, rfl, Nat.le_refl _, Nat.le_refl _⟩) h1.src (ints_one _) ?hb (by decide) (by decide) fun v2 p2 hv2 => ?_
  case hb =>
    simp only [ints, List.length_map, List.length_nil]
    show (0 + cs.length) * 8 ≤ 140737488355328 * 1
    omega
  have hv3 : OI v2 p2 cs := hv2
  obtain ⟨ua, uc, rfl, _⟩ := hv3.ls
  repeat (first | refine gs_n tyT_ok 0 ?_ | refine gs_gn tyT_ok 0 rfl ?_ | refine gs_no rfl ?_)
  refine gs_store tyT_ok 2 rfl rfl rfl rfl rfl rfl (Nat.le_of_ble_eq_true rfl) (Nat.le_of_ble_eq_true rfl) ?_
  repeat (first | refine gs_n tyT_ok 0 ?_ | refine gs_gn tyT_ok 0 rfl ?_ | refine gs_no rfl ?_ | refine gs_end ?_ | refine gs_end' ?_ | refine gw_seq ?_ | refine gw_text rfl ?_ | refine gw_skip ?_ | refine gw_yes rfl ?_ | refine gw_no rfl ?_ | refine gw_exit ?_ | refine gw_block ?_ | refine gw_label ?_ | (refine gs_n tyT_ok 0 ?_ (hp := ?hp); case hp => exact ⟨by decide, by decide⟩))
  exact gw_ret ⟨_, [q1], [p2], [0, 3], rv_cell tyT_ok 2 rfl rfl rfl rfl rfl (Nat.le_of_ble_eq_true rfl) .nil, ⟨rfl, _, p2, rfl, rfl, hv3⟩, rfl, rfl, by decide⟩
theorem row_eq {ps : List Int} {A W : Nat} (h : A * W + W ≤ ps.length) : (ps.drop (A * W)).take W = (List.range W).map fun x => ps.getD (A * W + x) 0 := by
  apply List.ext_getElem?
  intro i
  by_cases hi : i < W
  · rw [List.getElem?_take_of_lt hi, List.getElem?_drop, List.getElem?_map, List.getElem?_range hi]
    simp [List.getD, List.getElem?_eq_getElem (show A * W + i < ps.length by omega)]
  · rw [List.getElem?_eq_none (by simp; omega), List.getElem?_eq_none (by simp; omega)]
set_option maxHeartbeats 1000000 in
theorem sFlip_w {k d w h : Int} {a1 a2 : Option Addr} {n1 c1 n2 c2 : Nat} {q1 q2 : Nat × GO} {cs ps : List Int} (h1 : LS a1 n1 c1 q1 cs) (h2 : LS a2 n2 c2 q2 ps) (z1 : cs.length ≤ 1000000) (z2 : ps.length ≤ 1000000) (hok : imgOk k d w h cs ps) :
    Trip Try.prog 82 [img k d w h (.slice a1 n1 c1) (.slice a2 n2 c2)] [q1, q2] (fun v F' ns => F' = [q1, q2] ∧ ∃ w1 w2 p1 p2, v = img k d w h w1 w2 ∧ ns = [p1, p2] ∧ OI w1 p1 cs ∧ OI w2 p2 (rows w.toNat h.toNat ps h.toNat)) := by
  obtain ⟨W, rfl⟩ := Int.eq_ofNat_of_zero_le (show 0 ≤ w by have := hok.2.1; omega)
  obtain ⟨H, rfl⟩ := Int.eq_ofNat_of_zero_le (show 0 ≤ h by have := hok.2.2.1; omega)
  simp only [Int.toNat_natCast]
  obtain rfl := h1.1
  obtain rfl := h2.1
  refine trip_of Try.func82 rfl (by simp [Try.ntmps82]) ?_
  refine gw_seq (gw_text rfl ?_)
  refine gs_box fun b => ?_
  refine gs_alloc tyT_ok rfl fun b2 => ?_
  repeat (first | refine gs_n tyT_ok 0 ?_ | refine gs_gn tyT_ok 0 rfl ?_ | refine gs_no rfl ?_ | refine gs_l tyT_ok 2 ?_ | refine gs_gl tyT_ok 2 rfl ?_ | (refine gs_l tyT_ok 2 ?_ (hp := ?hp); case hp => exact ⟨rfl, Nat.le_of_ble_eq_true rfl⟩) | (refine gs_gl tyT_ok 2 rfl ?_ (hp := ?hp); case hp => exact ⟨rfl, Nat.le_of_ble_eq_true rfl⟩) | refine gs_end ?_ | refine gs_end' ?_ | refine gw_seq ?_ | refine gw_text rfl ?_ | refine gw_skip ?_ | refine gw_yes rfl ?_ | refine gw_no rfl ?_ | refine gw_exit ?_ | refine gw_block ?_ | refine gw_label ?_ | (refine gs_n tyT_ok 0 ?_ (hp := ?hp); case hp => exact ⟨by decide, by decide⟩))
  refine gs_rd [0, 1] ent38 rfl (by decide) (sImageOk_w h1 h2 (by omega) (by omega)) ?_
  rw [decide_eq_true hok]
  repeat (first | refine gs_n tyT_ok 0 ?_ | refine gs_gn tyT_ok 0 rfl ?_ | refine gs_no rfl ?_ | refine gs_l tyT_ok 2 ?_ | refine gs_gl tyT_ok 2 rfl ?_ | (refine gs_l tyT_ok 2 ?_ (hp := ?hp); case hp => exact ⟨rfl, Nat.le_of_ble_eq_true rfl⟩) | (refine gs_gl tyT_ok 2 rfl ?_ (hp := ?hp); case hp => exact ⟨rfl, Nat.le_of_ble_eq_true rfl⟩) | refine gs_end ?_ | refine gs_end' ?_ | refine gw_seq ?_ | refine gw_text rfl ?_ | refine gw_skip ?_ | refine gw_yes rfl ?_ | refine gw_no rfl ?_ | refine gw_exit ?_ | refine gw_block ?_ | refine gw_label ?_ | (refine gs_n tyT_ok 0 ?_ (hp := ?hp); case hp => exact ⟨by decide, by decide⟩))
  have g1 := hok.2.1
  have g2 := hok.2.2.1
  have g3 := hok.2.2.2.1
  have hWH : W * H ≤ 20 * 20 := Nat.mul_le_mul (by omega) (by omega)
  have hl : ps.length = W * H := by rw [← Int.natCast_mul] at g3; omega
  refine gs_call [0] ent125 rfl (by decide) (sBlank_w h1 z1) fun v F' ns ho _ _ => ?_
  obtain ⟨rfl, w1, p1, rfl, rfl, hv1⟩ := ho
  have hv1' := hv1
  obtain ⟨va, vc, rfl, _⟩ := hv1'.ls
  repeat (first | refine gs_n tyT_ok 0 ?_ | refine gs_gn tyT_ok 0 rfl ?_ | refine gs_no rfl ?_)
  refine gs_alloc tyT_ok rfl fun b3 => ?_
  refine gs_store tyT_ok 5 rfl rfl rfl rfl rfl rfl (Nat.le_of_ble_eq_true rfl) (Nat.le_of_ble_eq_true rfl) ?_
  repeat (first | refine gs_n tyT_ok 0 ?_ | refine gs_gn tyT_ok 0 rfl ?_ | refine gs_no rfl ?_ | refine gs_l tyT_ok 2 ?_ | refine gs_gl tyT_ok 2 rfl ?_ | (refine gs_l tyT_ok 2 ?_ (hp := ?hp); case hp => exact ⟨rfl, Nat.le_of_ble_eq_true rfl⟩) | (refine gs_gl tyT_ok 2 rfl ?_ (hp := ?hp); case hp => exact ⟨rfl, Nat.le_of_ble_eq_true rfl⟩) | refine gs_end ?_ | refine gs_end' ?_ | refine gw_seq ?_ | refine gw_text rfl ?_ | refine gw_skip ?_ | refine gw_yes rfl ?_ | refine gw_no rfl ?_ | refine gw_exit ?_ | refine gw_block ?_ | refine gw_label ?_ | (refine gs_n tyT_ok 0 ?_ (hp := ?hp); case hp => exact ⟨by decide, by decide⟩))
  refine gw_nil ?_
  refine gw_loopL (fun _ (x : Nat × Value × (Nat × GO)) => [(1, ptr b), (2, ptr b2), (3, ptr b3), (4, .int .i64 ((H : Int) - 1 - x.1))]) (fun _ x => [q1, q2, (b, imc k d W H (.slice a1 cs.length c1) (.slice a2 ps.length c2)), (b2, zimg), p1, (b3, imc k d W H (.slice va cs.length vc) x.2.1), x.2.2]) (fun r x => x.1 + r = H ∧ OI x.2.1 x.2.2 (rows W H ps x.1)) H (0, .slice none 0 0, (0, .none)) ⟨by simp, OI.nil⟩ rfl ⟨rfl, rfl, rfl, ?_, trivial⟩ fun r ⟨y, v, p⟩ e ⟨hy, hv⟩ => ?_
  · refine congrArg (Value.int .i64) ?_
    simp
  dsimp only at hy hv ⊢
  have hv' := hv
  obtain ⟨ua, uc, rfl, _⟩ := hv'.ls
  repeat (first | refine gs_n tyT_ok 0 ?_ | refine gs_gn tyT_ok 0 rfl ?_ | refine gs_no rfl ?_ | refine gs_end ?_ | refine gs_end' ?_ | refine gw_seq ?_ | refine gw_text rfl ?_ | refine gw_skip ?_ | refine gw_yes rfl ?_ | refine gw_no rfl ?_ | refine gw_exit ?_ | refine gw_block ?_ | refine gw_label ?_ | (refine gs_n tyT_ok 0 ?_ (hp := ?hp); case hp => exact ⟨by decide, by decide⟩))
  by_cases k1 : y < H
  case neg =>
    obtain rfl : y = H := by omega
    (refine gs_f tyT_ok ?hb ?_; case hb => first | exact decide_eq_false (by omega) | exact congrArg Bool.not (decide_eq_true (by omega)) | (simp; done) | (simp; omega))
    repeat (first | refine gs_n tyT_ok 0 ?_ | refine gs_gn tyT_ok 0 rfl ?_ | refine gs_no rfl ?_ | refine gs_l tyT_ok 5 ?_ | refine gs_gl tyT_ok 5 rfl ?_ | (refine gs_l tyT_ok 5 ?_ (hp := ?hp); case hp => exact ⟨rfl, Nat.le_of_ble_eq_true rfl⟩) | (refine gs_gl tyT_ok 5 rfl ?_ (hp := ?hp); case hp => exact ⟨rfl, Nat.le_of_ble_eq_true rfl⟩) | refine gs_end ?_ | refine gs_end' ?_ | refine gw_seq ?_ | refine gw_text rfl ?_ | refine gw_skip ?_ | refine gw_yes rfl ?_ | refine gw_no rfl ?_ | refine gw_exit ?_ | refine gw_block ?_ | refine gw_label ?_ | (refine gs_n tyT_ok 0 ?_ (hp := ?hp); case hp => exact ⟨by decide, by decide⟩))
    refine gs_store tyT_ok 3 rfl rfl rfl rfl rfl rfl (Nat.le_of_ble_eq_true rfl) (Nat.le_of_ble_eq_true rfl) ?_
    repeat (first | refine gs_n tyT_ok 0 ?_ | refine gs_gn tyT_ok 0 rfl ?_ | refine gs_no rfl ?_ | refine gs_end ?_ | refine gs_end' ?_ | refine gw_seq ?_ | refine gw_text rfl ?_ | refine gw_skip ?_ | refine gw_yes rfl ?_ | refine gw_no rfl ?_ | refine gw_exit ?_ | refine gw_block ?_ | refine gw_label ?_ | (refine gs_n tyT_ok 0 ?_ (hp := ?hp); case hp => exact ⟨by decide, by decide⟩))
    exact gw_ret ⟨_, [q1, q2], [p1, p], [0, 1, 4, 6], rv_cell tyT_ok 3 rfl rfl rfl rfl rfl (Nat.le_of_ble_eq_true rfl) .nil, ⟨rfl, _, _, p1, p, rfl, rfl, hv1, hv⟩, rfl, rfl, by decide⟩
  (refine gs_t tyT_ok ?hb ?_; case hb => first | exact decide_eq_true (by omega) | exact congrArg Bool.not (decide_eq_false (by omega)) | (simp; done) | (simp; omega))
  repeat (first | refine gs_n tyT_ok 0 ?_ | refine gs_gn tyT_ok 0 rfl ?_ | refine gs_no rfl ?_ | refine gs_end ?_ | refine gs_end' ?_ | refine gw_seq ?_ | refine gw_text rfl ?_ | refine gw_skip ?_ | refine gw_yes rfl ?_ | refine gw_no rfl ?_ | refine gw_exit ?_ | refine gw_block ?_ | refine gw_label ?_ | (refine gs_n tyT_ok 0 ?_ (hp := ?hp); case hp => exact ⟨by decide, by decide⟩))
  rw [show (H : Int) - 1 - (y : Int) = ((H - 1 - y : Nat) : Int) by omega]
  obtain ⟨A, hA⟩ : ∃ A, A = H - 1 - y := ⟨_, rfl⟩
  rw [← hA]
  have hAW : A * W + W ≤ W * H := by
    have := Nat.mul_le_mul_left W (show A + 1 ≤ H by omega)
    rw [Nat.mul_succ, Nat.mul_comm W A] at this
    exact this
  have hc1 : (A : Int) * (W : Int) = ((A * W : Nat) : Int) := by simp
  have hc2 : ((A : Int) + 1) * (W : Int) = ((A * W + W : Nat) : Int) := by rw [Int.add_mul, hc1]; omega
  have hm1 : 0 ≤ (A : Int) * (W : Int) ∧ (A : Int) * (W : Int) ≤ 400 := by rw [hc1]; omega
  have hm2 : 0 ≤ ((A : Int) + 1) * (W : Int) ∧ ((A : Int) + 1) * (W : Int) ≤ 400 := by rw [hc2]; omega
  have hlen : (rows W H ps y).length ≤ 400 := by
    rw [rows_len]
    have := Nat.mul_le_mul_right W (show y ≤ H by omega)
    rw [Nat.mul_comm H W] at this
    omega
  have hcap := h2.2.1
  obtain ⟨_, _, ⟨_, hc⟩ | ⟨o, ha2, hle, hcs⟩⟩ := id h2
  · omega
  subst ha2
  refine gw_any [.N, .L 5, .N, .L 2, .N, .N, .L 2, .N, .N, .N, .N, .L 2, .N, .N, .E [6, 1], .N, .E [5]] rfl rfl rfl ?_
  repeat (first | refine gs_n tyT_ok 0 ?_ | refine gs_gn tyT_ok 0 rfl ?_ | refine gs_no rfl ?_ | refine gs_l tyT_ok 2 ?_ | refine gs_gl tyT_ok 2 rfl ?_ | (refine gs_l tyT_ok 2 ?_ (hp := ?hp); case hp => exact ⟨rfl, Nat.le_of_ble_eq_true rfl⟩) | (refine gs_gl tyT_ok 2 rfl ?_ (hp := ?hp); case hp => exact ⟨rfl, Nat.le_of_ble_eq_true rfl⟩) | refine gs_l tyT_ok 5 ?_ | refine gs_gl tyT_ok 5 rfl ?_ | (refine gs_l tyT_ok 5 ?_ (hp := ?hp); case hp => exact ⟨rfl, Nat.le_of_ble_eq_true rfl⟩) | (refine gs_gl tyT_ok 5 rfl ?_ (hp := ?hp); case hp => exact ⟨rfl, Nat.le_of_ble_eq_true rfl⟩))
  rw [hc1, hc2]
  refine gs_append tyT_ok 6 1 (cs := ints (rows W H ps y)) (nw := ints ((List.range W).map fun x => ps.getD (A * W + x) 0)) rfl rfl (by decide) rfl rfl rfl hv ?hsrc (ints_one _) ?hb (by decide) (by decide) fun v2 p2 hv2 => ?_
  case hsrc =>
    refine .inr ⟨q2.1, o + ((A * W : Nat) : Int).toNat * 1, ((A * W + W : Nat) : Int).toNat - ((A * W : Nat) : Int).toNat, _, rfl, rfl, ?_, ?_⟩
    · show o + ((A * W : Nat) : Int).toNat * 1 + (((A * W + W : Nat) : Int).toNat - ((A * W : Nat) : Int).toNat) * 1 ≤ _
      omega
    · show ((cellsG q2.2).drop (o + ((A * W : Nat) : Int).toNat * 1)).take ((((A * W + W : Nat) : Int).toNat - ((A * W : Nat) : Int).toNat) * 1) = _
      rw [← row_eq (by omega)]
      have e1 : (((A * W + W : Nat) : Int).toNat - ((A * W : Nat) : Int).toNat) * 1 = W := by omega
      rw [e1, Int.toNat_natCast, Nat.mul_one, ← List.drop_drop]
      have : (((cellsG q2.2).drop o).take ps.length).drop (A * W) = ints (ps.drop (A * W)) := by rw [hcs]; simp [ints]
      have e2 : ints ((ps.drop (A * W)).take W) = ((ints (ps.drop (A * W)))).take W := by simp [ints]
      rw [e2, ← this, List.drop_take, List.take_take]
      congr 1
      omega
  case hb =>
    simp only [ints, List.length_map, List.length_range]
    show ((rows W H ps y).length + W) * 8 ≤ 140737488355328 * 1
    omega
  have hv3 : OI v2 p2 (rows W H ps (y + 1)) := by
    rw [rows_succ, OI, ← ints_add, ← hA]
    exact hv2
  obtain ⟨xa, xc, rfl, _⟩ := hv3.ls
  repeat (first | refine gs_n tyT_ok 0 ?_ | refine gs_gn tyT_ok 0 rfl ?_ | refine gs_no rfl ?_)
  refine gs_store tyT_ok 5 rfl rfl rfl rfl rfl rfl (Nat.le_of_ble_eq_true rfl) (Nat.le_of_ble_eq_true rfl) ?_
  repeat (first | refine gs_n tyT_ok 0 ?_ | refine gs_gn tyT_ok 0 rfl ?_ | refine gs_no rfl ?_ | refine gs_end ?_ | refine gs_end' ?_ | refine gw_seq ?_ | refine gw_text rfl ?_ | refine gw_skip ?_ | refine gw_yes rfl ?_ | refine gw_no rfl ?_ | refine gw_exit ?_ | refine gw_block ?_ | refine gw_label ?_ | (refine gs_n tyT_ok 0 ?_ (hp := ?hp); case hp => exact ⟨by decide, by decide⟩))
  refine ⟨r - 1, by omega, (y + 1, _, p2), ⟨by show y + 1 + (r - 1) = _; omega, hv3⟩, rfl, rfl, rfl, rfl, ?_, trivial⟩
  refine congrArg (Value.int .i64) ?_
  show (A : Int) - 1 = (H : Int) - 1 - ((y + 1 : Nat) : Int)
  omega
end Go.Proofs.Ytdkhjcmhjlbpaaa.G
