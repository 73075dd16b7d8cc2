/- BMP: spec l11Bmp, BmpPut. -/
import Derived.Test.YtjefdcbljpkmlaaBe
set_option linter.unusedVariables false
set_option maxRecDepth 10000
namespace Go.Proofs.Ytjefdcbljpkmlaa.G
open Go
/-- The rows from below. -/
def below (W H : Nat) (ps : List Int) : List (List Int) := (List.range H).map fun i => seg ps ((H - 1 - i) * W) W
def bData (W H z : Nat) (ps : List Int) (runs : Bool) : List Int := if runs then rle (below W H ps) else rowsB W H z ps H
def bmpL (W H d z : Nat) (cs ps : List Int) (runs : Bool) : List Int :=
  [66, 77] ++ le (54 + 4 * cs.length + (bData W H z ps runs).length) 4 ++ le 0 4 ++ le (54 + 4 * cs.length) 4 ++ le 40 4 ++ le W 4 ++ le H 4 ++ le 1 2 ++ le d 2 ++ le (if runs then 1 else 0) 4 ++ le (bData W H z ps runs).length 4 ++ le 0 4 ++ le 0 4 ++ le cs.length 4 ++ le 0 4 ++ les 4 cs ++ bData W H z ps runs
theorem below_views {W H b o c : Nat} {q : Nat × GO} {n : Nat} {ps : List Int} (h2 : LS (some ⟨b, o, none⟩) n c q ps) (hl : ps.length = W * H) (hW : 1 ≤ W) : RowsV q (views b o W H c H) (below W H ps) := by
  refine ⟨by simp [views, below], fun i hi => ?_⟩
  have hiH : i < H := by simpa [below] using hi
  have hle : (H - 1 - i) * W + W ≤ ps.length := by
    rw [hl, Nat.mul_comm W H, ← Nat.succ_mul]
    exact Nat.mul_le_mul_right W (by omega)
  obtain ⟨o', he, hp⟩ := h2.part (a := (H - 1 - i) * W) (n := W) hle hW
  cases he
  refine ⟨some ⟨q.1, o + (H - 1 - i) * W * 1, none⟩, W, c - (H - 1 - i) * W, by simp [views, view, hiH], ?_⟩
  rw [show (below W H ps).getD i [] = seg ps ((H - 1 - i) * W) W by simp [below, List.getD, hiH]]
  exact hp
theorem below_ok {W H : Nat} {ps : List Int} (hl : ps.length = W * H) (hW : W ≤ 20) (hH : H ≤ 20) (hp : ∀ x ∈ ps, 0 ≤ x ∧ x ≤ 255) : rowsOk (below W H ps) := by
  refine ⟨by simp [below]; omega, fun r hr => ?_⟩
  obtain ⟨i, hi, rfl⟩ := List.mem_map.1 hr
  exact ⟨by simp [seg]; omega, fun x hx => hp x (seg_mem hx)⟩
theorem bOk_tT {k d : Int} {runs : Bool} (h : bOk k d runs) (hd : dOk k d) : tT k d ≠ 0 := by
  have := tT_eq k d
  unfold bOk at h
  unfold dOk at hd
  omega
theorem bData_len {W H z : Nat} {ps : List Int} {runs : Bool} (hl : ps.length = W * H) (hW : 1 ≤ W ∧ W ≤ 20) (hH : 1 ≤ H ∧ H ≤ 20) (hz : z ≤ 4) (hp : runs = true → ∀ x ∈ ps, 0 ≤ x ∧ x ≤ 255) : (bData W H z ps runs).length ≤ 10000 := by
  unfold bData
  cases runs
  · simp only [Bool.false_eq_true, if_false]
    rw [rowsB_len hl _ (Nat.le_refl _)]
    have h1 := Nat.mul_le_mul hW.2 hz
    have := Nat.mul_le_mul hH.2 (show W * z + (4 - W * z % 4) % 4 ≤ 83 by omega)
    omega
  · simp only [if_true]
    have hok := below_ok hl hW.2 hH.2 (hp rfl)
    have := rleP_len hok (below W H ps).length (Nat.le_refl _)
    have hH2 : (below W H ps).length = H := by simp [below]
    rw [rle, List.length_append]
    simp only [List.length_cons, List.length_nil]
    omega
set_option maxHeartbeats 2000000 in
theorem l11Bmp_w {k : Int} {W H d z : Nat} {a1 a2 : Option Addr} {c1 c2 : Nat} {q1 q2 : Nat × GO} {cs ps : List Int} {runs : Bool} (h1 : LS a1 cs.length c1 q1 cs) (h2 : LS a2 ps.length c2 q2 ps) (hl : ps.length = W * H) (hW : 1 ≤ W ∧ W ≤ 20) (hH : 1 ≤ H ∧ H ≤ 20) (hd : d = 8 * z) (hz : 1 ≤ z ∧ z ≤ 4) (hcs : small cs) (hcl : cs.length ≤ 256) (hs : small ps) (hp : runs = true → ∀ x ∈ ps, 0 ≤ x ∧ x ≤ 255) :
    Rd Try.prog 53 [img k d W H (.slice a1 cs.length c1) (.slice a2 ps.length c2), .bool runs] [q1, q2] (.string (txt (bmpL W H d z cs ps runs))) := by
  have hdz : (d : Int) / 8 = (z : Int) := by omega
  have hpos : 1 ≤ ps.length := by
    rw [hl]
    exact Nat.mul_pos (by omega) (by omega)
  have hDl := bData_len (z := z) hl hW hH hz.2 hp
  obtain ⟨o, rfl, _⟩ := h2.at (k := 0) (by omega)
  refine trip_of Try.func53 rfl (by simp [Try.ntmps53]) ?_
  refine gw_seq (gw_text rfl ?_)
  refine gs_box fun b => ?_
  repeat (first | refine gs_n tyT_ok 0 ?_ | refine gs_gn tyT_ok 0 rfl ?_ | refine gs_no rfl ?_ | refine gs_l tyT_ok 2 ?_ | refine gs_gl tyT_ok 2 rfl ?_ | (refine gs_l tyT_ok 2 ?_ (hp := ?hp); case hp => exact ⟨rfl, Nat.le_of_ble_eq_true rfl⟩) | (refine gs_gl tyT_ok 2 rfl ?_ (hp := ?hp); case hp => exact ⟨rfl, Nat.le_of_ble_eq_true rfl⟩) | refine gs_end ?_ | refine gs_end' ?_ | refine gw_seq ?_ | refine gw_text rfl ?_ | refine gw_skip ?_ | refine gw_yes rfl ?_ | refine gw_no rfl ?_ | refine gw_exit ?_ | refine gw_block ?_ | refine gw_label ?_ | (refine gs_n tyT_ok 0 ?_ (hp := ?hp); case hp => exact ⟨by decide, by decide⟩))
  refine gs_rd [1] ent140 rfl (by decide) (l11Rows_w h2 hs hl hW hH hdz (by omega) hz.2) ?_
  refine gs_n tyT_ok 0 ?_
  refine gs_end ?_
  refine gw_seq ?_
  refine gw_join (α := Nat × GO) (fun _ => [(1, .bool runs), (2, ptr b), (5, .string (txt (bData W H z ps runs)))]) (fun x => [q1, q2, (b, imc k d W H (.slice a1 cs.length c1) (.slice (some ⟨q2.1, o, none⟩) ps.length c2)), x]) (fun _ => True) ?_ fun _ e _ => ?_
  · cases runs
    · refine gw_nil ?_
      repeat (first | refine gs_n tyT_ok 0 ?_ | refine gs_gn tyT_ok 0 rfl ?_ | refine gs_no rfl ?_ | refine gs_end ?_ | refine gs_end' ?_ | refine gw_seq ?_ | refine gw_text rfl ?_ | refine gw_skip ?_ | refine gw_yes rfl ?_ | refine gw_no rfl ?_ | refine gw_exit ?_ | refine gw_block ?_ | refine gw_label ?_ | (refine gs_n tyT_ok 0 ?_ (hp := ?hp); case hp => exact ⟨by decide, by decide⟩))
      exact ⟨(0, .none), trivial, rfl, rfl, rfl, rfl, trivial⟩
    · repeat (first | refine gs_n tyT_ok 0 ?_ | refine gs_gn tyT_ok 0 rfl ?_ | refine gs_no rfl ?_ | refine gs_l tyT_ok 2 ?_ | refine gs_gl tyT_ok 2 rfl ?_ | (refine gs_l tyT_ok 2 ?_ (hp := ?hp); case hp => exact ⟨rfl, Nat.le_of_ble_eq_true rfl⟩) | (refine gs_gl tyT_ok 2 rfl ?_ (hp := ?hp); case hp => exact ⟨rfl, Nat.le_of_ble_eq_true rfl⟩) | refine gs_end ?_ | refine gs_end' ?_ | refine gw_seq ?_ | refine gw_text rfl ?_ | refine gw_skip ?_ | refine gw_yes rfl ?_ | refine gw_no rfl ?_ | refine gw_exit ?_ | refine gw_block ?_ | refine gw_label ?_ | (refine gs_n tyT_ok 0 ?_ (hp := ?hp); case hp => exact ⟨by decide, by decide⟩))
      refine gs_call [1] ent142 rfl (by decide) (l11Below_w h2 hl hW hH) fun v F' ns ho _ _ => ?_
      obtain ⟨rfl, p, rfl, hv⟩ := ho
      have hv' := hv
      obtain ⟨ua, uc, rfl⟩ := hv'.sl
      refine gs_rd [3, 1] ent141 rfl (by decide) (sRlePut_w hv (below_views h2 hl hW.1) (below_ok hl hW.2 hH.2 (hp rfl))) ?_
      repeat (first | refine gs_n tyT_ok 0 ?_ | refine gs_gn tyT_ok 0 rfl ?_ | refine gs_no rfl ?_ | refine gs_end ?_ | refine gs_end' ?_ | refine gw_seq ?_ | refine gw_text rfl ?_ | refine gw_skip ?_ | refine gw_yes rfl ?_ | refine gw_no rfl ?_ | refine gw_exit ?_ | refine gw_block ?_ | refine gw_label ?_ | (refine gs_n tyT_ok 0 ?_ (hp := ?hp); case hp => exact ⟨by decide, by decide⟩))
      exact ⟨p, trivial, rfl, rfl, rfl, rfl, trivial⟩
  refine gw_weak [0, 1, 2] (by decide) rfl ?_
  generalize hD : bData W H z ps runs = D at hDl
  rw [bmpL, hD]
  repeat (first | refine gs_n tyT_ok 0 ?_ | refine gs_gn tyT_ok 0 rfl ?_ | refine gs_no rfl ?_ | refine gs_l tyT_ok 2 ?_ | refine gs_gl tyT_ok 2 rfl ?_ | (refine gs_l tyT_ok 2 ?_ (hp := ?hp); case hp => exact ⟨rfl, Nat.le_of_ble_eq_true rfl⟩) | (refine gs_gl tyT_ok 2 rfl ?_ (hp := ?hp); case hp => exact ⟨rfl, Nat.le_of_ble_eq_true rfl⟩) | refine gs_end ?_ | refine gs_end' ?_ | refine gw_seq ?_ | refine gw_text rfl ?_ | refine gw_skip ?_ | refine gw_yes rfl ?_ | refine gw_no rfl ?_ | refine gw_exit ?_ | refine gw_block ?_ | refine gw_label ?_ | (refine gs_n tyT_ok 0 ?_ (hp := ?hp); case hp => exact ⟨by decide, by decide⟩))
  rw [show (54 : Int) + 4 * (cs.length : Int) = ((54 + 4 * cs.length : Nat) : Int) by omega]
  repeat (first | refine gs_n tyT_ok 0 ?_ | refine gs_gn tyT_ok 0 rfl ?_ | refine gs_no rfl ?_ | refine gs_end ?_ | refine gs_end' ?_ | refine gw_seq ?_ | refine gw_text rfl ?_ | refine gw_skip ?_ | refine gw_yes rfl ?_ | refine gw_no rfl ?_ | refine gw_exit ?_ | refine gw_block ?_ | refine gw_label ?_ | (refine gs_n tyT_ok 0 ?_ (hp := ?hp); case hp => exact ⟨by decide, by decide⟩))
  rw [txt_size]
  repeat (first | refine gs_n tyT_ok 0 ?_ | refine gs_gn tyT_ok 0 rfl ?_ | refine gs_no rfl ?_)
  rw [show ((54 + 4 * cs.length : Nat) : Int) + (D.length : Int) = ((54 + 4 * cs.length + D.length : Nat) : Int) by omega]
  refine gs_pu ent143 (l1Num_w (54 + 4 * cs.length + D.length) 4 (by omega) (by omega)) ?_
  refine gs_cat (a := [66, 77]) (b := le (54 + 4 * cs.length + D.length) 4) rfl rfl (by rw [le_len]; decide) ?_
  refine gs_pu ent143 (l1Num_w 0 4 (by omega) (by omega)) ?_
  refine gs_cat (a := [66, 77] ++ le (54 + 4 * cs.length + D.length) 4) (b := le 0 4) rfl rfl (by simp [le_len]) ?_
  repeat (first | refine gs_n tyT_ok 0 ?_ | refine gs_gn tyT_ok 0 rfl ?_ | refine gs_no rfl ?_)
  refine gs_pu ent143 (l1Num_w (54 + 4 * cs.length) 4 (by omega) (by omega)) ?_
  refine gs_cat (a := [66, 77] ++ le (54 + 4 * cs.length + D.length) 4 ++ le 0 4) (b := le (54 + 4 * cs.length) 4) rfl rfl (by simp [le_len]) ?_
  obtain ⟨A, hA, hAl⟩ : ∃ A : List Int, A = [66, 77] ++ le (54 + 4 * cs.length + D.length) 4 ++ le 0 4 ++ le (54 + 4 * cs.length) 4 ∧ A.length = 14 := ⟨_, rfl, by simp [le_len]⟩
  rw [← hA]
  repeat (first | refine gs_n tyT_ok 0 ?_ | refine gs_gn tyT_ok 0 rfl ?_ | refine gs_no rfl ?_)
  refine gs_end ?_
  refine gw_seq ?_
  refine gw_anyP [0, 1, 3, 4, 5, 7, 8, 9, 11, 13, 14, 15, 2, 6, 10, 12, 16, 17] [.N, .E [], .N, .N, .L 2, .E [], .N, .N, .L 2, .E [], .N, .E [], .N, .N, .L 2, .E [], .N, .N] rfl rfl rfl ?_
  repeat (first | refine gs_n tyT_ok 0 ?_ | refine gs_gn tyT_ok 0 rfl ?_ | refine gs_no rfl ?_ | refine gs_l tyT_ok 2 ?_ | refine gs_gl tyT_ok 2 rfl ?_ | (refine gs_l tyT_ok 2 ?_ (hp := ?hp); case hp => exact ⟨rfl, Nat.le_of_ble_eq_true rfl⟩) | (refine gs_gl tyT_ok 2 rfl ?_ (hp := ?hp); case hp => exact ⟨rfl, Nat.le_of_ble_eq_true rfl⟩))
  refine gs_pu ent143 (l1Num_w 40 4 (by omega) (by omega)) ?_
  repeat (first | refine gs_n tyT_ok 0 ?_ | refine gs_gn tyT_ok 0 rfl ?_ | refine gs_no rfl ?_ | refine gs_l tyT_ok 2 ?_ | refine gs_gl tyT_ok 2 rfl ?_ | (refine gs_l tyT_ok 2 ?_ (hp := ?hp); case hp => exact ⟨rfl, Nat.le_of_ble_eq_true rfl⟩) | (refine gs_gl tyT_ok 2 rfl ?_ (hp := ?hp); case hp => exact ⟨rfl, Nat.le_of_ble_eq_true rfl⟩))
  refine gs_pu ent143 (l1Num_w W 4 (by omega) (by omega)) ?_
  repeat (first | refine gs_n tyT_ok 0 ?_ | refine gs_gn tyT_ok 0 rfl ?_ | refine gs_no rfl ?_ | refine gs_l tyT_ok 2 ?_ | refine gs_gl tyT_ok 2 rfl ?_ | (refine gs_l tyT_ok 2 ?_ (hp := ?hp); case hp => exact ⟨rfl, Nat.le_of_ble_eq_true rfl⟩) | (refine gs_gl tyT_ok 2 rfl ?_ (hp := ?hp); case hp => exact ⟨rfl, Nat.le_of_ble_eq_true rfl⟩))
  refine gs_pu ent143 (l1Num_w H 4 (by omega) (by omega)) ?_
  refine gs_pu ent143 (l1Num_w 1 2 (by omega) (by omega)) ?_
  repeat (first | refine gs_n tyT_ok 0 ?_ | refine gs_gn tyT_ok 0 rfl ?_ | refine gs_no rfl ?_ | refine gs_l tyT_ok 2 ?_ | refine gs_gl tyT_ok 2 rfl ?_ | (refine gs_l tyT_ok 2 ?_ (hp := ?hp); case hp => exact ⟨rfl, Nat.le_of_ble_eq_true rfl⟩) | (refine gs_gl tyT_ok 2 rfl ?_ (hp := ?hp); case hp => exact ⟨rfl, Nat.le_of_ble_eq_true rfl⟩))
  refine gs_pu ent143 (l1Num_w d 2 (by omega) (by omega)) ?_
  refine gs_cat (a := A) (b := le 40 4) rfl rfl (by simp [le_len, hAl]) ?_
  refine gs_cat (a := A ++ le 40 4) (b := le W 4) rfl rfl (by simp [le_len, hAl]) ?_
  refine gs_cat (a := A ++ le 40 4 ++ le W 4) (b := le H 4) rfl rfl (by simp [le_len, hAl]) ?_
  refine gs_cat (a := A ++ le 40 4 ++ le W 4 ++ le H 4) (b := le 1 2) rfl rfl (by simp [le_len, hAl]) ?_
  refine gs_cat (a := A ++ le 40 4 ++ le W 4 ++ le H 4 ++ le 1 2) (b := le d 2) rfl rfl (by simp [le_len, hAl]) ?_
  obtain ⟨A2, hA2, hAl2⟩ : ∃ A2 : List Int, A2 = A ++ le 40 4 ++ le W 4 ++ le H 4 ++ le 1 2 ++ le d 2 ∧ A2.length = 30 := ⟨_, rfl, by simp [le_len, hAl]⟩
  rw [← hA2]
  repeat (first | refine gs_n tyT_ok 0 ?_ | refine gs_gn tyT_ok 0 rfl ?_ | refine gs_no rfl ?_)
  refine gs_end' ?_
  refine gw_seq ?_
  have hfl : (if runs then (1 : Int) else 0) = (((if runs then 1 else 0 : Nat)) : Int) := by cases runs <;> rfl
  have hfl2 : (if runs then 1 else 0 : Nat) ≤ 1 := by cases runs <;> decide
  refine gw_anyP [0, 1, 2, 3, 5, 6, 7, 9, 11, 13, 14, 15, 16, 18, 4, 8, 10, 12, 17, 19, 20] [.N, .N, .E [], .E [], .N, .N, .N, .E [], .N, .E [], .N, .E [], .N, .N, .L 2, .N, .E [], .N, .E [], .N, .N] rfl rfl rfl ?_
  repeat (first | refine gs_n tyT_ok 0 ?_ | refine gs_gn tyT_ok 0 rfl ?_ | refine gs_no rfl ?_ | refine gs_l tyT_ok 2 ?_ | refine gs_gl tyT_ok 2 rfl ?_ | (refine gs_l tyT_ok 2 ?_ (hp := ?hp); case hp => exact ⟨rfl, Nat.le_of_ble_eq_true rfl⟩) | (refine gs_gl tyT_ok 2 rfl ?_ (hp := ?hp); case hp => exact ⟨rfl, Nat.le_of_ble_eq_true rfl⟩))
  refine gs_pu ent144 (flag_w runs) ?_
  rw [hfl]
  refine gs_pu ent143 (l1Num_w (if runs then 1 else 0) 4 (by omega) (by omega)) ?_
  repeat (first | refine gs_n tyT_ok 0 ?_ | refine gs_gn tyT_ok 0 rfl ?_ | refine gs_no rfl ?_ | refine gs_l tyT_ok 2 ?_ | refine gs_gl tyT_ok 2 rfl ?_ | (refine gs_l tyT_ok 2 ?_ (hp := ?hp); case hp => exact ⟨rfl, Nat.le_of_ble_eq_true rfl⟩) | (refine gs_gl tyT_ok 2 rfl ?_ (hp := ?hp); case hp => exact ⟨rfl, Nat.le_of_ble_eq_true rfl⟩))
  rw [txt_size]
  refine gs_pu ent143 (l1Num_w D.length 4 (by omega) (by omega)) ?_
  refine gs_pu ent143 (l1Num_w 0 4 (by omega) (by omega)) ?_
  refine gs_pu ent143 (l1Num_w 0 4 (by omega) (by omega)) ?_
  repeat (first | refine gs_n tyT_ok 0 ?_ | refine gs_gn tyT_ok 0 rfl ?_ | refine gs_no rfl ?_ | refine gs_l tyT_ok 2 ?_ | refine gs_gl tyT_ok 2 rfl ?_ | (refine gs_l tyT_ok 2 ?_ (hp := ?hp); case hp => exact ⟨rfl, Nat.le_of_ble_eq_true rfl⟩) | (refine gs_gl tyT_ok 2 rfl ?_ (hp := ?hp); case hp => exact ⟨rfl, Nat.le_of_ble_eq_true rfl⟩))
  refine gs_pu ent143 (l1Num_w cs.length 4 (by omega) (by omega)) ?_
  refine gs_pu ent143 (l1Num_w 0 4 (by omega) (by omega)) ?_
  refine gs_cat (a := A2) (b := le (if runs then 1 else 0) 4) rfl rfl (by simp [le_len, hAl2]) ?_
  refine gs_cat (a := A2 ++ le (if runs then 1 else 0) 4) (b := le D.length 4) rfl rfl (by simp [le_len, hAl2]) ?_
  refine gs_cat (a := A2 ++ le (if runs then 1 else 0) 4 ++ le D.length 4) (b := le 0 4) rfl rfl (by simp [le_len, hAl2]) ?_
  refine gs_cat (a := A2 ++ le (if runs then 1 else 0) 4 ++ le D.length 4 ++ le 0 4) (b := le 0 4) rfl rfl (by simp [le_len, hAl2]) ?_
  refine gs_cat (a := A2 ++ le (if runs then 1 else 0) 4 ++ le D.length 4 ++ le 0 4 ++ le 0 4) (b := le cs.length 4) rfl rfl (by simp [le_len, hAl2]) ?_
  refine gs_cat (a := A2 ++ le (if runs then 1 else 0) 4 ++ le D.length 4 ++ le 0 4 ++ le 0 4 ++ le cs.length 4) (b := le 0 4) rfl rfl (by simp [le_len, hAl2]) ?_
  obtain ⟨A3, hA3, hAl3⟩ : ∃ A3 : List Int, A3 = A2 ++ le (if runs then 1 else 0) 4 ++ le D.length 4 ++ le 0 4 ++ le 0 4 ++ le cs.length 4 ++ le 0 4 ∧ A3.length = 54 := ⟨_, rfl, by simp [le_len, hAl2]⟩
  rw [← hA3]
  repeat (first | refine gs_n tyT_ok 0 ?_ | refine gs_gn tyT_ok 0 rfl ?_ | refine gs_no rfl ?_)
  refine gs_end' ?_
  repeat (first | refine gs_n tyT_ok 0 ?_ | refine gs_gn tyT_ok 0 rfl ?_ | refine gs_no rfl ?_ | refine gs_l tyT_ok 2 ?_ | refine gs_gl tyT_ok 2 rfl ?_ | (refine gs_l tyT_ok 2 ?_ (hp := ?hp); case hp => exact ⟨rfl, Nat.le_of_ble_eq_true rfl⟩) | (refine gs_gl tyT_ok 2 rfl ?_ (hp := ?hp); case hp => exact ⟨rfl, Nat.le_of_ble_eq_true rfl⟩) | refine gs_end ?_ | refine gs_end' ?_ | refine gw_seq ?_ | refine gw_text rfl ?_ | refine gw_skip ?_ | refine gw_yes rfl ?_ | refine gw_no rfl ?_ | refine gw_exit ?_ | refine gw_block ?_ | refine gw_label ?_ | (refine gs_n tyT_ok 0 ?_ (hp := ?hp); case hp => exact ⟨by decide, by decide⟩))
  refine gs_rd [0] ent145 rfl (by decide) (l11Colors_w (z := 4) h1 hcs (by omega) (by omega)) ?_
  refine gs_cat (a := A3) (b := les 4 cs) rfl rfl (by rw [hAl3, les_len]; omega) ?_
  repeat (first | refine gs_n tyT_ok 0 ?_ | refine gs_gn tyT_ok 0 rfl ?_ | refine gs_no rfl ?_)
  refine gs_cat (a := A3 ++ les 4 cs) (b := D) rfl rfl (by rw [List.length_append, hAl3, les_len]; omega) ?_
  rw [hA3, hA2, hA]
  repeat (first | refine gs_n tyT_ok 0 ?_ | refine gs_gn tyT_ok 0 rfl ?_ | refine gs_no rfl ?_ | refine gs_end ?_ | refine gs_end' ?_ | refine gw_seq ?_ | refine gw_text rfl ?_ | refine gw_skip ?_ | refine gw_yes rfl ?_ | refine gw_no rfl ?_ | refine gw_exit ?_ | refine gw_block ?_ | refine gw_label ?_ | (refine gs_n tyT_ok 0 ?_ (hp := ?hp); case hp => exact ⟨by decide, by decide⟩))
  exact gw_ret ⟨_, _, [], [0, 1], .tmp .nil, ⟨rfl, rfl, rfl⟩, rfl, rfl, by decide⟩
/-- A picture as a BMP. -/
def bmpPut (k d w h : Int) (cs ps : List Int) (runs : Bool) : List Int := if imgOk k d w h cs ps ∧ bOk k d runs then bmpL w.toNat h.toNat d.toNat (d / 8).toNat cs ps runs else []
theorem bmp_facts {k d w h : Int} {cs ps : List Int} {runs : Bool} (hok : imgOk k d w h cs ps) (hb : bOk k d runs) : ∃ W H D z : Nat, w = W ∧ h = H ∧ d = D ∧ (d / 8).toNat = z ∧ D = 8 * z ∧ (1 ≤ z ∧ z ≤ 4) ∧ (1 ≤ W ∧ W ≤ 20) ∧ (1 ≤ H ∧ H ≤ 20) ∧ ps.length = W * H ∧ small cs ∧ fits 3 cs ∧ cs.length ≤ 256 ∧ small ps ∧ fits z ps ∧ (runs = true → ∀ x ∈ ps, 0 ≤ x ∧ x ≤ 255) := by
  obtain ⟨l1, l2, l3⟩ := imgOk_len hok
  obtain ⟨z, hd, hz0, hz1, hz4, hsm, hfit, hT2, hcf, hcs⟩ := rol_fits hok (bOk_tT hb hok.1)
  obtain ⟨h1, h2, h3, h4, h5, h6⟩ := imgOk_iff.1 hok
  obtain ⟨W, rfl⟩ := Int.eq_ofNat_of_zero_le (show 0 ≤ w by omega)
  obtain ⟨H, rfl⟩ := Int.eq_ofNat_of_zero_le (show 0 ≤ h by omega)
  have hk3 : k ≠ 3 := by
    rcases hb with ⟨hk, _⟩ | ⟨hk, _⟩ <;> omega
  have hr : ps.map (rol k) = ps := by
    refine Eq.trans (List.map_congr_left fun x _ => ?_) (List.map_id ps)
    exact if_neg hk3
  rw [hr] at hfit
  refine ⟨W, H, 8 * z, z, rfl, rfl, by omega, hz0, rfl, ⟨hz1, hz4⟩, by omega, by omega, by rw [← Int.natCast_mul] at l3; omega, hcs, hcf, l1, hsm, hfit, fun hr2 x hx => ?_⟩
  have hk4 : k = 4 := by
    rcases hb with ⟨_, hk⟩ | ⟨hk, _⟩
    · rw [hr2] at hk; cases hk
    · exact hk
  rw [if_pos hk4] at h6
  have := outs_mem.1 h6 x hx
  omega
set_option maxHeartbeats 1000000 in
theorem sBmpPut_w {k d w h : Int} {a1 a2 : Option Addr} {n1 c1 n2 c2 : Nat} {q1 q2 : Nat × GO} {cs ps : List Int} {runs : Bool} (h1 : LS a1 n1 c1 q1 cs) (h2 : LS a2 n2 c2 q2 ps) (z1 : cs.length ≤ 10000000) (z2 : ps.length ≤ 10000000) :
    Rd Try.prog 15 [img k d w h (.slice a1 n1 c1) (.slice a2 n2 c2), .bool runs] [q1, q2] (.string (txt (bmpPut k d w h cs ps runs))) := by
  obtain rfl := h1.1
  obtain rfl := h2.1
  refine trip_of Try.func15 rfl (by simp [Try.ntmps15]) ?_
  refine gw_seq (gw_text rfl ?_)
  refine gs_box fun b => ?_
  repeat (first | refine gs_n tyT_ok 0 ?_ | refine gs_gn tyT_ok 0 rfl ?_ | refine gs_no rfl ?_ | refine gs_l tyT_ok 2 ?_ | refine gs_gl tyT_ok 2 rfl ?_ | (refine gs_l tyT_ok 2 ?_ (hp := ?hp); case hp => exact ⟨rfl, Nat.le_of_ble_eq_true rfl⟩) | (refine gs_gl tyT_ok 2 rfl ?_ (hp := ?hp); case hp => exact ⟨rfl, Nat.le_of_ble_eq_true rfl⟩) | refine gs_end ?_ | refine gs_end' ?_ | refine gw_seq ?_ | refine gw_text rfl ?_ | refine gw_skip ?_ | refine gw_yes rfl ?_ | refine gw_no rfl ?_ | refine gw_exit ?_ | refine gw_block ?_ | refine gw_label ?_ | (refine gs_n tyT_ok 0 ?_ (hp := ?hp); case hp => exact ⟨by decide, by decide⟩))
  refine gs_rd [0, 1] ent48 rfl (by decide) (sImageOk_w h1 h2 (by omega) (by omega)) ?_
  by_cases hok : imgOk k d w h cs ps
  case neg =>
    rw [decide_eq_false hok, bmpPut, if_neg fun h => hok h.1]
    repeat (first | refine gs_n tyT_ok 0 ?_ | refine gs_gn tyT_ok 0 rfl ?_ | refine gs_no rfl ?_ | refine gs_end ?_ | refine gs_end' ?_ | refine gw_seq ?_ | refine gw_text rfl ?_ | refine gw_skip ?_ | refine gw_yes rfl ?_ | refine gw_no rfl ?_ | refine gw_exit ?_ | refine gw_block ?_ | refine gw_label ?_ | (refine gs_n tyT_ok 0 ?_ (hp := ?hp); case hp => exact ⟨by decide, by decide⟩))
    exact gw_ret ⟨_, _, [], [0, 1], .tmp .nil, ⟨rfl, rfl, rfl⟩, rfl, rfl, by decide⟩
  rw [decide_eq_true hok]
  repeat (first | refine gs_n tyT_ok 0 ?_ | refine gs_gn tyT_ok 0 rfl ?_ | refine gs_no rfl ?_ | refine gs_l tyT_ok 2 ?_ | refine gs_gl tyT_ok 2 rfl ?_ | (refine gs_l tyT_ok 2 ?_ (hp := ?hp); case hp => exact ⟨rfl, Nat.le_of_ble_eq_true rfl⟩) | (refine gs_gl tyT_ok 2 rfl ?_ (hp := ?hp); case hp => exact ⟨rfl, Nat.le_of_ble_eq_true rfl⟩) | refine gs_end ?_ | refine gs_end' ?_ | refine gw_seq ?_ | refine gw_text rfl ?_ | refine gw_skip ?_ | refine gw_yes rfl ?_ | refine gw_no rfl ?_ | refine gw_exit ?_ | refine gw_block ?_ | refine gw_label ?_ | (refine gs_n tyT_ok 0 ?_ (hp := ?hp); case hp => exact ⟨by decide, by decide⟩))
  refine gs_pug ent52 rfl l11Rep_w ?_
  by_cases hb : bOk k d runs
  case neg =>
    rw [decide_eq_false hb, bmpPut, if_neg fun h => hb h.2]
    repeat (first | refine gs_n tyT_ok 0 ?_ | refine gs_gn tyT_ok 0 rfl ?_ | refine gs_no rfl ?_ | refine gs_end ?_ | refine gs_end' ?_ | refine gw_seq ?_ | refine gw_text rfl ?_ | refine gw_skip ?_ | refine gw_yes rfl ?_ | refine gw_no rfl ?_ | refine gw_exit ?_ | refine gw_block ?_ | refine gw_label ?_ | (refine gs_n tyT_ok 0 ?_ (hp := ?hp); case hp => exact ⟨by decide, by decide⟩))
    exact gw_ret ⟨_, _, [], [0, 1], .tmp .nil, ⟨rfl, rfl, rfl⟩, rfl, rfl, by decide⟩
  rw [decide_eq_true hb, bmpPut, if_pos ⟨hok, hb⟩]
  obtain ⟨W, H, D, z, rfl, rfl, rfl, hz, hd, hz14, hW, hH, hl, hcs, hcf, hcl, hs, hfit, hp⟩ := bmp_facts hok hb
  rw [hz]
  simp only [Int.toNat_natCast]
  repeat (first | refine gs_n tyT_ok 0 ?_ | refine gs_gn tyT_ok 0 rfl ?_ | refine gs_no rfl ?_ | refine gs_l tyT_ok 2 ?_ | refine gs_gl tyT_ok 2 rfl ?_ | (refine gs_l tyT_ok 2 ?_ (hp := ?hp); case hp => exact ⟨rfl, Nat.le_of_ble_eq_true rfl⟩) | (refine gs_gl tyT_ok 2 rfl ?_ (hp := ?hp); case hp => exact ⟨rfl, Nat.le_of_ble_eq_true rfl⟩) | refine gs_end ?_ | refine gs_end' ?_ | refine gw_seq ?_ | refine gw_text rfl ?_ | refine gw_skip ?_ | refine gw_yes rfl ?_ | refine gw_no rfl ?_ | refine gw_exit ?_ | refine gw_block ?_ | refine gw_label ?_ | (refine gs_n tyT_ok 0 ?_ (hp := ?hp); case hp => exact ⟨by decide, by decide⟩))
  refine gs_rd [0, 1] ent53 rfl (by decide) (l11Bmp_w (runs := runs) h1 h2 hl hW hH hd hz14 hcs hcl hs hp) ?_
  repeat (first | refine gs_n tyT_ok 0 ?_ | refine gs_gn tyT_ok 0 rfl ?_ | refine gs_no rfl ?_ | refine gs_end ?_ | refine gs_end' ?_ | refine gw_seq ?_ | refine gw_text rfl ?_ | refine gw_skip ?_ | refine gw_yes rfl ?_ | refine gw_no rfl ?_ | refine gw_exit ?_ | refine gw_block ?_ | refine gw_label ?_ | (refine gs_n tyT_ok 0 ?_ (hp := ?hp); case hp => exact ⟨by decide, by decide⟩))
  exact gw_ret ⟨_, _, [], [0, 1], .tmp .nil, ⟨rfl, rfl, rfl⟩, rfl, rfl, by decide⟩
end Go.Proofs.Ytjefdcbljpkmlaa.G
