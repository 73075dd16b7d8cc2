/- BMP: spec l11Below: rows as views of a picture's points. -/
import Derived.Test.YtjefdcbljpkmlaaBb
set_option linter.unusedVariables false
set_option maxRecDepth 10000
namespace Go.Proofs.Ytjefdcbljpkmlaa.G
open Go
/-- A view of one row. -/
def view (b o W c y : Nat) : Value := .slice (some ⟨b, o + y * W * 1, none⟩) W (c - y * W)
/-- The views from below. -/
def views (b o W H c n : Nat) : List Value := (List.range n).map fun i => view b o W c (H - 1 - i)
theorem views_succ (b o W H c n : Nat) : views b o W H c (n + 1) = views b o W H c n ++ [view b o W c (H - 1 - n)] := by simp [views, List.range_succ]
theorem views_len (b o W H c n : Nat) : (views b o W H c n).length = n := by simp [views]
theorem LS.cap {b o n c : Nat} {q : Nat × GO} {zs : List Int} (h : LS (some ⟨b, o, none⟩) n c q zs) : n = zs.length ∧ zs.length ≤ c ∧ b = q.1 := by
  obtain ⟨h1, h2, ⟨h3, _⟩ | ⟨o', h3, _⟩⟩ := h
  · cases h3
  · cases h3
    exact ⟨h1, by omega, rfl⟩
set_option maxHeartbeats 1000000 in
theorem l11Below_w {k d : Int} {W H b o c2 : Nat} {a1 : Option Addr} {n1 c1 n2 : Nat} {q : Nat × GO} {ps : List Int} (h2 : LS (some ⟨b, o, none⟩) n2 c2 q ps) (hl : ps.length = W * H) (hW : 1 ≤ W ∧ W ≤ 20) (hH : 1 ≤ H ∧ H ≤ 20) :
    Trip Try.prog 142 [img k d W H (.slice a1 n1 c1) (.slice (some ⟨b, o, none⟩) n2 c2)] [q] (fun v F' ns => F' = [q] ∧ ∃ p, ns = [p] ∧ OV v p (views b o W H c2 H)) := by
  obtain ⟨rfl, hcap, _⟩ := h2.cap
  have hWH : W * H ≤ 20 * 20 := Nat.mul_le_mul hW.2 hH.2
  refine trip_of Try.func142 rfl (by simp [Try.ntmps142]) ?_
  refine gw_seq (gw_text rfl ?_)
  refine gs_box fun b1 => ?_
  repeat (first | refine gs_n tyT_ok 0 ?_ | refine gs_gn tyT_ok 0 rfl ?_ | refine gs_no rfl ?_ | refine gs_end ?_ | refine gs_end' ?_ | refine gw_seq ?_ | refine gw_text rfl ?_ | refine gw_skip ?_ | refine gw_yes rfl ?_ | refine gw_no rfl ?_ | refine gw_exit ?_ | refine gw_block ?_ | refine gw_label ?_ | (refine gs_n tyT_ok 0 ?_ (hp := ?hp); case hp => exact ⟨by decide, by decide⟩))
  refine gs_lit tyT_ok (cs := []) rfl rfl rfl (by decide) rfl fun b3 => ?_
  repeat (first | refine gs_n tyT_ok 0 ?_ | refine gs_gn tyT_ok 0 rfl ?_ | refine gs_no rfl ?_ | refine gs_l tyT_ok 1 ?_ | refine gs_gl tyT_ok 1 rfl ?_ | (refine gs_l tyT_ok 1 ?_ (hp := ?hp); case hp => exact ⟨rfl, Nat.le_of_ble_eq_true rfl⟩) | (refine gs_gl tyT_ok 1 rfl ?_ (hp := ?hp); case hp => exact ⟨rfl, Nat.le_of_ble_eq_true rfl⟩) | refine gs_end ?_ | refine gs_end' ?_ | refine gw_seq ?_ | refine gw_text rfl ?_ | refine gw_skip ?_ | refine gw_yes rfl ?_ | refine gw_no rfl ?_ | refine gw_exit ?_ | refine gw_block ?_ | refine gw_label ?_ | (refine gs_n tyT_ok 0 ?_ (hp := ?hp); case hp => exact ⟨by decide, by decide⟩))
  refine gw_loopL (fun m (x : Value × (Nat × GO)) => [(1, ptr b1), (3, x.1), (4, .int .i64 ((m : Int) - 1))]) (fun _ x => [q, (b1, imc k d W H (.slice a1 n1 c1) (.slice (some ⟨b, o, none⟩) ps.length c2)), x.2]) (fun m x => m ≤ H ∧ OV x.1 x.2 (views b o W H c2 (H - m))) H (.slice (some ⟨b3, 0, none⟩) 0 0, (b3, .row 22 [] 0)) ⟨Nat.le_refl _, by rw [Nat.sub_self]; exact OV.empty⟩ rfl ⟨rfl, rfl, rfl, trivial⟩ fun m ⟨v, p⟩ e ⟨hm, hv⟩ => ?_
  dsimp only at hm hv ⊢
  have hv' := hv
  obtain ⟨ua, uc, rfl⟩ := hv'.sl
  repeat (first | refine gs_n tyT_ok 0 ?_ | refine gs_gn tyT_ok 0 rfl ?_ | refine gs_no rfl ?_ | refine gs_end ?_ | refine gs_end' ?_ | refine gw_seq ?_ | refine gw_text rfl ?_ | refine gw_skip ?_ | refine gw_yes rfl ?_ | refine gw_no rfl ?_ | refine gw_exit ?_ | refine gw_block ?_ | refine gw_label ?_ | (refine gs_n tyT_ok 0 ?_ (hp := ?hp); case hp => exact ⟨by decide, by decide⟩))
  by_cases k1 : m = 0
  · subst k1
    (refine gs_f tyT_ok ?hb ?_; case hb => first | exact decide_eq_false (by omega) | exact congrArg Bool.not (decide_eq_true (by omega)) | (simp; done) | (simp; omega))
    repeat (first | refine gs_n tyT_ok 0 ?_ | refine gs_gn tyT_ok 0 rfl ?_ | refine gs_no rfl ?_ | refine gs_end ?_ | refine gs_end' ?_ | refine gw_seq ?_ | refine gw_text rfl ?_ | refine gw_skip ?_ | refine gw_yes rfl ?_ | refine gw_no rfl ?_ | refine gw_exit ?_ | refine gw_block ?_ | refine gw_label ?_ | (refine gs_n tyT_ok 0 ?_ (hp := ?hp); case hp => exact ⟨by decide, by decide⟩))
    exact gw_ret ⟨_, [q], [p], [0, 2], .tmp .nil, ⟨rfl, p, rfl, hv⟩, rfl, rfl, by decide⟩
  obtain ⟨y, rfl⟩ : ∃ y, m = y + 1 := ⟨m - 1, by omega⟩
  rw [show (((y + 1 : Nat) : Int) - 1) = (y : Int) by omega]
  (refine gs_t tyT_ok ?hb ?_; case hb => first | exact decide_eq_true (by omega) | exact congrArg Bool.not (decide_eq_false (by omega)) | (simp; done) | (simp; omega))
  have e1 : (y + 1) * W = y * W + W := Nat.succ_mul y W
  have hyW : y * W + W ≤ ps.length := by
    rw [hl, Nat.mul_comm W H, ← e1]
    exact Nat.mul_le_mul_right W (by omega)
  have hc1 : (y : Int) * (W : Int) = ((y * W : Nat) : Int) := by simp
  have hc2' : ((y : Int) + 1) * (W : Int) = ((y * W + W : Nat) : Int) := by rw [← e1]; simp
  have x1 : 0 ≤ (y : Int) * (W : Int) ∧ (y : Int) * (W : Int) ≤ 1000000 := by rw [hc1]; omega
  have x2 : 0 ≤ ((y : Int) + 1) * (W : Int) ∧ ((y : Int) + 1) * (W : Int) ≤ 1000000 := by rw [hc2']; omega
  repeat (first | refine gs_n tyT_ok 0 ?_ | refine gs_gn tyT_ok 0 rfl ?_ | refine gs_no rfl ?_ | refine gs_l tyT_ok 1 ?_ | refine gs_gl tyT_ok 1 rfl ?_ | (refine gs_l tyT_ok 1 ?_ (hp := ?hp); case hp => exact ⟨rfl, Nat.le_of_ble_eq_true rfl⟩) | (refine gs_gl tyT_ok 1 rfl ?_ (hp := ?hp); case hp => exact ⟨rfl, Nat.le_of_ble_eq_true rfl⟩) | refine gs_end ?_ | refine gs_end' ?_ | refine gw_seq ?_ | refine gw_text rfl ?_ | refine gw_skip ?_ | refine gw_yes rfl ?_ | refine gw_no rfl ?_ | refine gw_exit ?_ | refine gw_block ?_ | refine gw_label ?_ | (refine gs_n tyT_ok 0 ?_ (hp := ?hp); case hp => exact ⟨by decide, by decide⟩))
  rw [hc1, hc2']
  repeat (first | refine gs_n tyT_ok 0 ?_ | refine gs_gn tyT_ok 0 rfl ?_ | refine gs_no rfl ?_ | refine gs_l tyT_ok 1 ?_ | refine gs_gl tyT_ok 1 rfl ?_ | (refine gs_l tyT_ok 1 ?_ (hp := ?hp); case hp => exact ⟨rfl, Nat.le_of_ble_eq_true rfl⟩) | (refine gs_gl tyT_ok 1 rfl ?_ (hp := ?hp); case hp => exact ⟨rfl, Nat.le_of_ble_eq_true rfl⟩) | refine gs_end ?_ | refine gs_end' ?_ | refine gw_seq ?_ | refine gw_text rfl ?_ | refine gw_skip ?_ | refine gw_yes rfl ?_ | refine gw_no rfl ?_ | refine gw_exit ?_ | refine gw_block ?_ | refine gw_label ?_ | (refine gs_n tyT_ok 0 ?_ (hp := ?hp); case hp => exact ⟨by decide, by decide⟩))
  refine gs_pushv 2 (u := view b o W c2 y) rfl ?hx rfl hv (fun _ => rfl) (by rw [views_len]; omega) fun b5 a5 c5 p5 hv5 => ?_
  case hx =>
    show Value.slice (some ⟨b, o + y * W * 1, none⟩) (y * W + W - y * W) (c2 - y * W) = _
    rw [Nat.add_sub_cancel_left]
    rfl
  repeat (first | refine gs_n tyT_ok 0 ?_ | refine gs_gn tyT_ok 0 rfl ?_ | refine gs_no rfl ?_)
  refine gs_end ?_
  refine gw_weak [0, 1, 2] (by decide) rfl ?_
  repeat (first | refine gs_n tyT_ok 0 ?_ | refine gs_gn tyT_ok 0 rfl ?_ | refine gs_no rfl ?_ | refine gs_end ?_ | refine gs_end' ?_ | refine gw_seq ?_ | refine gw_text rfl ?_ | refine gw_skip ?_ | refine gw_yes rfl ?_ | refine gw_no rfl ?_ | refine gw_exit ?_ | refine gw_block ?_ | refine gw_label ?_ | (refine gs_n tyT_ok 0 ?_ (hp := ?hp); case hp => exact ⟨by decide, by decide⟩))
  refine ⟨y, by omega, (_, p5), ⟨by omega, ?_⟩, rfl, rfl, rfl, rfl, trivial⟩
  show OV _ p5 (views b o W H c2 (H - y))
  rw [show H - y = H - (y + 1) + 1 by omega, views_succ, show H - 1 - (H - (y + 1)) = y by omega]
  exact hv5
end Go.Proofs.Ytjefdcbljpkmlaa.G
