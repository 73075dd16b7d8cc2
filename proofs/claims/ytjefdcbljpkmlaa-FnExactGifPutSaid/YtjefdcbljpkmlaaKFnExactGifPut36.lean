/- What the law FnExactGifPut needs, out of the texts Yf. -/
import Derived.Test.YtjefdcbljpkmlaaKFnExactGifPut35
section
set_option linter.unusedVariables false
set_option linter.unusedSimpArgs false
set_option maxRecDepth 10000
namespace Go.Proofs.Ytjefdcbljpkmlaa.G
open Go
theorem l10Bits_w {D : Nat} : Pu Try.prog 179 [.int .i64 (D : Int)] (.int .i64 ((gBits D : Nat) : Int)) := by
  refine trip_of Try.func179 rfl (by simp [Try.ntmps179]) ?_
  repeat (first | refine gs_n tyT_ok 0 ?_ | refine gs_gn tyT_ok 0 rfl ?_ | refine gs_no rfl ?_ | refine gs_end ?_ | refine gs_end' ?_ | refine gw_seq ?_ | refine gw_text rfl ?_ | refine gw_skip ?_ | refine gw_yes rfl ?_ | refine gw_no rfl ?_ | refine gw_exit ?_ | refine gw_block ?_ | refine gw_label ?_ | (refine gs_n tyT_ok 0 ?_ (hp := ?hp); case hp => exact ⟨by decide, by decide⟩))
  by_cases h : D < 2
  · (refine gs_t tyT_ok ?hb ?_; case hb => first | exact decide_eq_true (by omega) | exact congrArg Bool.not (decide_eq_false (by omega)) | (simp; done) | (simp; omega))
    repeat (first | refine gs_n tyT_ok 0 ?_ | refine gs_gn tyT_ok 0 rfl ?_ | refine gs_no rfl ?_ | refine gs_end ?_ | refine gs_end' ?_ | refine gw_seq ?_ | refine gw_text rfl ?_ | refine gw_skip ?_ | refine gw_yes rfl ?_ | refine gw_no rfl ?_ | refine gw_exit ?_ | refine gw_block ?_ | refine gw_label ?_ | (refine gs_n tyT_ok 0 ?_ (hp := ?hp); case hp => exact ⟨by decide, by decide⟩))
    rw [show gBits D = 2 by unfold gBits; omega]
    exact gw_ret ⟨_, [], [], [], (.tmp .nil), ⟨rfl, rfl, rfl⟩, rfl, rfl, List.nodup_nil⟩
  · (refine gs_f tyT_ok ?hb ?_; case hb => first | exact decide_eq_false (by omega) | exact congrArg Bool.not (decide_eq_true (by omega)) | (simp; done) | (simp; omega))
    repeat (first | refine gs_n tyT_ok 0 ?_ | refine gs_gn tyT_ok 0 rfl ?_ | refine gs_no rfl ?_ | refine gs_end ?_ | refine gs_end' ?_ | refine gw_seq ?_ | refine gw_text rfl ?_ | refine gw_skip ?_ | refine gw_yes rfl ?_ | refine gw_no rfl ?_ | refine gw_exit ?_ | refine gw_block ?_ | refine gw_label ?_ | (refine gs_n tyT_ok 0 ?_ (hp := ?hp); case hp => exact ⟨by decide, by decide⟩))
    rw [show gBits D = D by unfold gBits; omega]
    exact gw_ret ⟨_, [], [], [], (.tmp .nil), ⟨rfl, rfl, rfl⟩, rfl, rfl, List.nodup_nil⟩
set_option maxHeartbeats 4000000 in
theorem l10Gif_w {W H D : Nat} {a1 a2 : Option Addr} {n1 c1 n2 c2 : Nat} {q1 q2 : Nat × GO} {cs ps : List Int} {woven : Bool} (h1 : LS a1 n1 c1 q1 cs) (h2 : LS a2 n2 c2 q2 ps) (hok : imgOk 4 D W H cs ps) (hg : gOk 4 D cs) :
    Rd Try.prog 119 [img 4 D W H (.slice a1 n1 c1) (.slice a2 n2 c2), .bool woven] [q1, q2] (.string (txt (gifL W H D cs ps woven))) := by
  obtain rfl := h1.1
  obtain rfl := h2.1
  obtain ⟨W', H', D', e1, e2, e3, hD, hW, hH, hl, hcs, hcf, hcl, hpp, _⟩ := gif_facts hok hg
  obtain rfl : W = W' := by omega
  obtain rfl : H = H' := by omega
  obtain rfl : D = D' := by omega
  obtain ⟨hbt, h5, hfit, hlok⟩ := pts_fit (woven := woven) hD hW hH hpp
  have hWH : W * H ≤ 20 * 20 := Nat.mul_le_mul hW.2 hH.2
  have hfW : (W : Int) < ((256 ^ 2 : Nat) : Int) ∧ (H : Int) < ((256 ^ 2 : Nat) : Int) := by rw [show ((256 ^ 2 : Nat) : Int) = 65536 by decide]; omega
  obtain ⟨o2, rfl, _⟩ := h2.at (k := 0) (by rw [hl]; exact Nat.mul_pos (by omega) (by omega))
  have hbt' : ∀ x ∈ ps, 0 ≤ x ∧ x ≤ 255 := fun x hx => by
    have := hpp x hx
    have h8 : 2 ^ D ≤ 2 ^ 8 := Nat.pow_le_pow_right (by decide) (by omega)
    omega
  obtain ⟨hdl, hbN⟩ := data_len (W := W) (ps := ps) (H := H) (woven := woven) h5 hlok hfit
  have hro := fun y hy => rowsO_mem (h := H) (woven := woven) (y := y) hy
  have hrl := rowsO_len H woven
  have hgl := fun i => gPts_len W ps ((rowsO H woven).take i)
  refine trip_of Try.func119 rfl (by simp [Try.ntmps119]) ?_
  refine gw_seq (gw_text rfl ?_)
  refine gs_box fun b => ?_
  repeat (first | refine gs_n tyT_ok 0 ?_ | refine gs_gn tyT_ok 0 rfl ?_ | refine gs_no rfl ?_ | refine gs_l tyT_ok 2 ?_ | refine gs_gl tyT_ok 2 rfl ?_ | (refine gs_l tyT_ok 2 ?_ (hp := ?hp); case hp => exact ⟨rfl, Nat.le_of_ble_eq_true rfl⟩) | (refine gs_gl tyT_ok 2 rfl ?_ (hp := ?hp); case hp => exact ⟨rfl, Nat.le_of_ble_eq_true rfl⟩) | refine gs_end ?_ | refine gs_end' ?_ | refine gw_seq ?_ | refine gw_text rfl ?_ | refine gw_skip ?_ | refine gw_yes rfl ?_ | refine gw_no rfl ?_ | refine gw_exit ?_ | refine gw_block ?_ | refine gw_label ?_ | (refine gs_n tyT_ok 0 ?_ (hp := ?hp); case hp => exact ⟨by decide, by decide⟩))
  refine gs_call [] ent178 rfl (by decide) (l10Rows_w hH) fun v F' ns ho _ _ => ?_
  obtain ⟨pr, rfl, rfl, hvr⟩ := ho
  unfold gifL gData
  generalize rowsO H woven = RO at *
  obtain ⟨ra, rc, rfl, hrL⟩ := hvr.ls
  repeat (first | refine gs_n tyT_ok 0 ?_ | refine gs_gn tyT_ok 0 rfl ?_ | refine gs_no rfl ?_ | refine gs_end ?_ | refine gs_end' ?_ | refine gw_seq ?_ | refine gw_text rfl ?_ | refine gw_skip ?_ | refine gw_yes rfl ?_ | refine gw_no rfl ?_ | refine gw_exit ?_ | refine gw_block ?_ | refine gw_label ?_ | (refine gs_n tyT_ok 0 ?_ (hp := ?hp); case hp => exact ⟨by decide, by decide⟩))
  refine gw_loopW (fun _ (i : Nat) => [(1, .bool woven), (2, ptr b), (5, .string (txt (gPts W ps (RO.take i)))), (6, .slice ra RO.length rc), (7, .int .i64 (i : Int))]) (fun _ x => [q1, q2, (b, imc 4 D W H (.slice a1 cs.length c1) (.slice (some ⟨q2.1, o2, none⟩) ps.length c2)), pr]) (fun m i => i + m = RO.length) RO.length 0 (by simp) ⟨[0, 1, 2, 3], by decide, rfl⟩ ⟨rfl, rfl, rfl, rfl, rfl, trivial⟩ fun m i e hi => ?_
  have hgi : (gPts W ps (RO.take i)).length ≤ 1600 := by
    have h3 := hgl i
    have h4 := Nat.mul_le_mul (show (RO.take i).length ≤ 80 by rw [List.length_take]; omega) hW.2
    omega
  repeat (first | refine gs_n tyT_ok 0 ?_ | refine gs_gn tyT_ok 0 rfl ?_ | refine gs_no rfl ?_ | refine gs_end ?_ | refine gs_end' ?_ | refine gw_seq ?_ | refine gw_text rfl ?_ | refine gw_skip ?_ | refine gw_yes rfl ?_ | refine gw_no rfl ?_ | refine gw_exit ?_ | refine gw_block ?_ | refine gw_label ?_ | (refine gs_n tyT_ok 0 ?_ (hp := ?hp); case hp => exact ⟨by decide, by decide⟩))
  by_cases hlt : i < RO.length
  case pos =>
    (refine gs_t tyT_ok ?hb ?_; case hb => first | exact decide_eq_true (by omega) | exact congrArg Bool.not (decide_eq_false (by omega)) | (simp; done) | (simp; omega))
    obtain ⟨oo, rfl, hoo⟩ := hrL.at hlt
    obtain ⟨Y, hY, hYH⟩ := hro (RO.getD i 0) (by rw [List.getD_eq_getElem?_getD, List.getElem?_eq_getElem hlt]; exact List.getElem_mem hlt)
    have htk := take_succD RO 0 hlt
    rw [hY] at hoo htk
    have e1 : (Y + 1) * W = Y * W + W := Nat.succ_mul Y W
    have hYW : Y * W + W ≤ ps.length := by
      rw [hl, Nat.mul_comm W H, ← e1]
      exact Nat.mul_le_mul_right W (by omega)
    have hst : gPts W ps (RO.take i) ++ seg ps (Y * W) W = gPts W ps (RO.take (i + 1)) := by rw [htk, gPts_snoc]; rfl
    have hsgl : (seg ps (Y * W) W).length = W := seg_len hYW
    repeat (first | refine gs_n tyT_ok 0 ?_ | refine gs_gn tyT_ok 0 rfl ?_ | refine gs_no rfl ?_ | refine gs_end ?_ | refine gs_end' ?_ | refine gw_seq ?_ | refine gw_text rfl ?_ | refine gw_skip ?_ | refine gw_yes rfl ?_ | refine gw_no rfl ?_ | refine gw_exit ?_ | refine gw_block ?_ | refine gw_label ?_ | (refine gs_n tyT_ok 0 ?_ (hp := ?hp); case hp => exact ⟨by decide, by decide⟩))
    refine gw_loopW (fun _ (x : Nat) => [(1, .bool woven), (2, ptr b), (5, .string (txt (gPts W ps (RO.take i) ++ (seg ps (Y * W) W).take x))), (6, .slice (some ⟨pr.1, oo, none⟩) RO.length rc), (7, .int .i64 (i : Int)), (8, .int .i64 (x : Int))]) (fun _ x => [q1, q2, (b, imc 4 D W H (.slice a1 cs.length c1) (.slice (some ⟨q2.1, o2, none⟩) ps.length c2)), pr]) (fun m x => x + m = W) W 0 (by simp) ⟨[0, 1, 2, 3], by decide, rfl⟩ ⟨rfl, rfl, by rw [List.take_zero, List.append_nil]; rfl, rfl, rfl, rfl, trivial⟩ fun m2 x e hx => ?_
    repeat (first | refine gs_n tyT_ok 0 ?_ | refine gs_gn tyT_ok 0 rfl ?_ | refine gs_no rfl ?_ | refine gs_l tyT_ok 2 ?_ | refine gs_gl tyT_ok 2 rfl ?_ | (refine gs_l tyT_ok 2 ?_ (hp := ?hp); case hp => exact ⟨rfl, Nat.le_of_ble_eq_true rfl⟩) | (refine gs_gl tyT_ok 2 rfl ?_ (hp := ?hp); case hp => exact ⟨rfl, Nat.le_of_ble_eq_true rfl⟩) | refine gs_end ?_ | refine gs_end' ?_ | refine gw_seq ?_ | refine gw_text rfl ?_ | refine gw_skip ?_ | refine gw_yes rfl ?_ | refine gw_no rfl ?_ | refine gw_exit ?_ | refine gw_block ?_ | refine gw_label ?_ | (refine gs_n tyT_ok 0 ?_ (hp := ?hp); case hp => exact ⟨by decide, by decide⟩))
    by_cases hxw : x < W
    case neg =>
      obtain rfl : W = x := by omega
      rw [show (seg ps (Y * W) W).take W = seg ps (Y * W) W from List.take_of_length_le (by omega), hst]
      (refine gs_f tyT_ok ?hb ?_; case hb => first | exact decide_eq_false (by omega) | exact congrArg Bool.not (decide_eq_true (by omega)) | (simp; done) | (simp; omega))
      repeat (first | refine gs_n tyT_ok 0 ?_ | refine gs_gn tyT_ok 0 rfl ?_ | refine gs_no rfl ?_ | refine gs_end ?_ | refine gs_end' ?_ | refine gw_seq ?_ | refine gw_text rfl ?_ | refine gw_skip ?_ | refine gw_yes rfl ?_ | refine gw_no rfl ?_ | refine gw_exit ?_ | refine gw_block ?_ | refine gw_label ?_ | (refine gs_n tyT_ok 0 ?_ (hp := ?hp); case hp => exact ⟨by decide, by decide⟩))
      exact ⟨m - 1, by omega, i + 1, by omega, ⟨[0, 1, 2, 3], by decide, rfl⟩, rfl, rfl, rfl, rfl, rfl, trivial⟩
    (refine gs_t tyT_ok ?hb ?_; case hb => first | exact decide_eq_true (by omega) | exact congrArg Bool.not (decide_eq_false (by omega)) | (simp; done) | (simp; omega))
    obtain ⟨o', hop, hox⟩ := h2.at (k := Y * W + x) (by omega)
    cases hop
    have hsx : (seg ps (Y * W) W).getD x 0 = ps.getD (Y * W + x) 0 := by
      simp only [seg, List.getD_eq_getElem?_getD, List.getElem?_take, List.getElem?_drop]
      rw [if_pos hxw]
    have htx := take_succD (seg ps (Y * W) W) 0 (i := x) (by omega)
    rw [hsx] at htx
    have hpx := hbt' (ps.getD (Y * W + x) 0) (by rw [List.getD_eq_getElem?_getD, List.getElem?_eq_getElem (by omega)]; exact List.getElem_mem _)
    generalize ps.getD (Y * W + x) 0 = PX at *
    have hc1 : (Y : Int) * (W : Int) + (x : Int) = ((Y * W + x : Nat) : Int) := by simp
    have x1 : 0 ≤ (Y : Int) * (W : Int) ∧ (Y : Int) * (W : Int) + (x : Int) ≤ 1000000 := by
      have e2 : (Y : Int) * (W : Int) = ((Y * W : Nat) : Int) := by simp
      rw [e2]
      omega
    repeat (first | refine gs_n tyT_ok 0 ?_ | refine gs_gn tyT_ok 0 rfl ?_ | refine gs_no rfl ?_ | refine gs_end ?_ | refine gs_end' ?_ | refine gw_seq ?_ | refine gw_text rfl ?_ | refine gw_skip ?_ | refine gw_yes rfl ?_ | refine gw_no rfl ?_ | refine gw_exit ?_ | refine gw_block ?_ | refine gw_label ?_ | (refine gs_n tyT_ok 0 ?_ (hp := ?hp); case hp => exact ⟨by decide, by decide⟩))
    refine gw_any [.N, .N, .L 2, .N, .N, .N, .L 3, .N, .L 2, .N, .N, .N, .N, .L 1, .N, .E [], .L 4, .N, .N] rfl rfl rfl ?_
    repeat (first | refine gs_n tyT_ok 0 ?_ | refine gs_gn tyT_ok 0 rfl ?_ | refine gs_no rfl ?_ | refine gs_l tyT_ok 2 ?_ | refine gs_gl tyT_ok 2 rfl ?_ | (refine gs_l tyT_ok 2 ?_ (hp := ?hp); case hp => exact ⟨rfl, Nat.le_of_ble_eq_true rfl⟩) | (refine gs_gl tyT_ok 2 rfl ?_ (hp := ?hp); case hp => exact ⟨rfl, Nat.le_of_ble_eq_true rfl⟩))
    refine gs_at 3 tyT_ok rfl rfl rfl rfl hoo ?_
    repeat (first | refine gs_n tyT_ok 0 ?_ | refine gs_gn tyT_ok 0 rfl ?_ | refine gs_no rfl ?_ | refine gs_l tyT_ok 2 ?_ | refine gs_gl tyT_ok 2 rfl ?_ | (refine gs_l tyT_ok 2 ?_ (hp := ?hp); case hp => exact ⟨rfl, Nat.le_of_ble_eq_true rfl⟩) | (refine gs_gl tyT_ok 2 rfl ?_ (hp := ?hp); case hp => exact ⟨rfl, Nat.le_of_ble_eq_true rfl⟩))
    rw [hc1]
    repeat (first | refine gs_n tyT_ok 0 ?_ | refine gs_gn tyT_ok 0 rfl ?_ | refine gs_no rfl ?_ | refine gs_l tyT_ok 2 ?_ | refine gs_gl tyT_ok 2 rfl ?_ | (refine gs_l tyT_ok 2 ?_ (hp := ?hp); case hp => exact ⟨rfl, Nat.le_of_ble_eq_true rfl⟩) | (refine gs_gl tyT_ok 2 rfl ?_ (hp := ?hp); case hp => exact ⟨rfl, Nat.le_of_ble_eq_true rfl⟩))
    refine gs_at 1 tyT_ok rfl rfl rfl rfl hox ?_
    repeat (first | refine gs_n tyT_ok 0 ?_ | refine gs_gn tyT_ok 0 rfl ?_ | refine gs_no rfl ?_)
    refine gs_lit tyT_ok (cs := bytesV [PX]) rfl rfl rfl (by decide) rfl fun bB => ?_
    refine gs_txt 4 (xs := [PX]) rfl rfl rfl ?_
    refine gs_cat (a := gPts W ps (RO.take i) ++ (seg ps (Y * W) W).take x) (b := [PX]) rfl rfl (by rw [List.length_append, List.length_take]; simp only [List.length_singleton]; omega) ?_
    rw [show gPts W ps (RO.take i) ++ (seg ps (Y * W) W).take x ++ [PX] = gPts W ps (RO.take i) ++ (seg ps (Y * W) W).take (x + 1) by rw [htx, List.append_assoc]]
    repeat (first | refine gs_n tyT_ok 0 ?_ | refine gs_gn tyT_ok 0 rfl ?_ | refine gs_no rfl ?_ | refine gs_end ?_ | refine gs_end' ?_ | refine gw_seq ?_ | refine gw_text rfl ?_ | refine gw_skip ?_ | refine gw_yes rfl ?_ | refine gw_no rfl ?_ | refine gw_exit ?_ | refine gw_block ?_ | refine gw_label ?_ | (refine gs_n tyT_ok 0 ?_ (hp := ?hp); case hp => exact ⟨by decide, by decide⟩))
    exact ⟨m2 - 1, by omega, x + 1, by omega, ⟨[0, 1, 2, 3], by decide, rfl⟩, rfl, rfl, rfl, rfl, rfl, rfl, trivial⟩
  obtain rfl : i = RO.length := by omega
  rw [List.take_length] at hgi ⊢
  have hbl := l10Blocks_w (s := lzPut (txt (gPts W ps RO)) (gBits D : Int) false) (by omega)
  generalize hPT : gPts W ps RO = PT at *
  (refine gs_f tyT_ok ?hb ?_; case hb => first | exact decide_eq_false (by omega) | exact congrArg Bool.not (decide_eq_true (by omega)) | (simp; done) | (simp; omega))
  repeat (first | refine gs_n tyT_ok 0 ?_ | refine gs_gn tyT_ok 0 rfl ?_ | refine gs_no rfl ?_ | refine gs_l tyT_ok 2 ?_ | refine gs_gl tyT_ok 2 rfl ?_ | (refine gs_l tyT_ok 2 ?_ (hp := ?hp); case hp => exact ⟨rfl, Nat.le_of_ble_eq_true rfl⟩) | (refine gs_gl tyT_ok 2 rfl ?_ (hp := ?hp); case hp => exact ⟨rfl, Nat.le_of_ble_eq_true rfl⟩) | refine gs_end ?_ | refine gs_end' ?_ | refine gw_seq ?_ | refine gw_text rfl ?_ | refine gw_skip ?_ | refine gw_yes rfl ?_ | refine gw_no rfl ?_ | refine gw_exit ?_ | refine gw_block ?_ | refine gw_label ?_ | (refine gs_n tyT_ok 0 ?_ (hp := ?hp); case hp => exact ⟨by decide, by decide⟩))
  refine gs_pu ent179 l10Bits_w ?_
  repeat (first | refine gs_n tyT_ok 0 ?_ | refine gs_gn tyT_ok 0 rfl ?_ | refine gs_no rfl ?_ | refine gs_end ?_ | refine gs_end' ?_ | refine gw_seq ?_ | refine gw_text rfl ?_ | refine gw_skip ?_ | refine gw_yes rfl ?_ | refine gw_no rfl ?_ | refine gw_exit ?_ | refine gw_block ?_ | refine gw_label ?_ | (refine gs_n tyT_ok 0 ?_ (hp := ?hp); case hp => exact ⟨by decide, by decide⟩))
  refine gw_any [.N, .L 2, .E [], .N, .L 2, .E [], .N, .N] rfl rfl rfl ?_
  repeat (first | refine gs_n tyT_ok 0 ?_ | refine gs_gn tyT_ok 0 rfl ?_ | refine gs_no rfl ?_ | refine gs_l tyT_ok 2 ?_ | refine gs_gl tyT_ok 2 rfl ?_ | (refine gs_l tyT_ok 2 ?_ (hp := ?hp); case hp => exact ⟨rfl, Nat.le_of_ble_eq_true rfl⟩) | (refine gs_gl tyT_ok 2 rfl ?_ (hp := ?hp); case hp => exact ⟨rfl, Nat.le_of_ble_eq_true rfl⟩))
  refine gs_pu ent143 (l1Num_w W 2 (by omega) (by omega)) ?_
  repeat (first | refine gs_n tyT_ok 0 ?_ | refine gs_gn tyT_ok 0 rfl ?_ | refine gs_no rfl ?_ | refine gs_l tyT_ok 2 ?_ | refine gs_gl tyT_ok 2 rfl ?_ | (refine gs_l tyT_ok 2 ?_ (hp := ?hp); case hp => exact ⟨rfl, Nat.le_of_ble_eq_true rfl⟩) | (refine gs_gl tyT_ok 2 rfl ?_ (hp := ?hp); case hp => exact ⟨rfl, Nat.le_of_ble_eq_true rfl⟩))
  refine gs_pu ent143 (l1Num_w H 2 (by omega) (by omega)) ?_
  refine gs_cat (a := le W 2) (b := le H 2) rfl rfl (by simp [le_len]) ?_
  repeat (first | refine gs_n tyT_ok 0 ?_ | refine gs_gn tyT_ok 0 rfl ?_ | refine gs_no rfl ?_)
  refine gs_end' ?_
  have hSZ : (le W 2 ++ le H 2).length = 4 := by simp [le_len]
  have hgb : gBits D ≤ 8 := by unfold gBits; omega
  have hcol : (128 : Int) + 17 * ((D : Int) - 1) = ((128 + 17 * (D - 1) : Nat) : Int) := by omega
  have hD1 : 1 ≤ D ∧ D ≤ 8 := by omega
  refine gw_nil ?_
  refine gw_seq (gw_anyP [0, 1, 2, 3, 4, 5, 6, 7, 11, 12, 13, 8, 9, 10, 14, 15] [.N, .N, .N, .L 2, .N, .N, .N, .N, .A 4 (.row 5 (bytesV [((128 + 17 * (D - 1) : Nat) : Int), 0, 0]) 3) (some 3), .L 4, .N, .N, .L 2, .E [0], .N, .N] rfl rfl rfl ?_)
  repeat (first | refine gs_n tyT_ok 0 ?_ | refine gs_gn tyT_ok 0 rfl ?_ | refine gs_no rfl ?_)
  refine gs_cat (a := [71, 73, 70, 56, 57, 97]) (b := le W 2 ++ le H 2) rfl rfl (by rw [hSZ]; decide) ?_
  repeat (first | refine gs_n tyT_ok 0 ?_ | refine gs_gn tyT_ok 0 rfl ?_ | refine gs_no rfl ?_ | refine gs_l tyT_ok 2 ?_ | refine gs_gl tyT_ok 2 rfl ?_ | (refine gs_l tyT_ok 2 ?_ (hp := ?hp); case hp => exact ⟨rfl, Nat.le_of_ble_eq_true rfl⟩) | (refine gs_gl tyT_ok 2 rfl ?_ (hp := ?hp); case hp => exact ⟨rfl, Nat.le_of_ble_eq_true rfl⟩))
  rw [hcol]
  repeat (first | refine gs_n tyT_ok 0 ?_ | refine gs_gn tyT_ok 0 rfl ?_ | refine gs_no rfl ?_ | refine gs_l tyT_ok 2 ?_ | refine gs_gl tyT_ok 2 rfl ?_ | (refine gs_l tyT_ok 2 ?_ (hp := ?hp); case hp => exact ⟨rfl, Nat.le_of_ble_eq_true rfl⟩) | (refine gs_gl tyT_ok 2 rfl ?_ (hp := ?hp); case hp => exact ⟨rfl, Nat.le_of_ble_eq_true rfl⟩))
  refine gs_rd [0] ent180 rfl (by decide) (l9Table_w h1 hcs (by omega)) ?_
  refine gs_litA tyT_ok 4 (cs := bytesV [((128 + 17 * (D - 1) : Nat) : Int), 0, 0]) rfl rfl rfl (by decide) rfl rfl rfl (fun bA => ?_) ⟨rfl, rfl, rfl⟩
  refine gs_txt 4 (xs := [((128 + 17 * (D - 1) : Nat) : Int), 0, 0]) rfl rfl rfl ?_
  refine gs_cat (a := [71, 73, 70, 56, 57, 97] ++ (le W 2 ++ le H 2)) (b := [((128 + 17 * (D - 1) : Nat) : Int), 0, 0]) rfl rfl (by rw [List.length_append, hSZ]; simp) ?_
  refine gs_cat (a := [71, 73, 70, 56, 57, 97] ++ (le W 2 ++ le H 2) ++ [((128 + 17 * (D - 1) : Nat) : Int), 0, 0]) (b := bes 3 cs) rfl rfl (by rw [List.length_append, List.length_append, hSZ, bes_len]; simp; omega) ?_
  have hHl : (gHead W H D cs).length ≤ 10000 := by
    unfold gHead
    rw [List.length_append, List.length_append, List.length_append, hSZ, bes_len]
    simp
    omega
  rw [show [71, 73, 70, 56, 57, 97] ++ (le W 2 ++ le H 2) ++ [((128 + 17 * (D - 1) : Nat) : Int), 0, 0] ++ bes 3 cs = gHead W H D cs from rfl]
  have hDl : (gDesc W H D woven).length ≤ 100 := by
    unfold gDesc
    rw [List.length_append, List.length_append, hSZ]
    simp
  generalize gHead W H D cs = HD at *
  repeat (first | refine gs_n tyT_ok 0 ?_ | refine gs_gn tyT_ok 0 rfl ?_ | refine gs_no rfl ?_ | refine gs_end ?_ | refine gs_end' ?_ | refine gw_seq ?_ | refine gw_text rfl ?_ | refine gw_skip ?_ | refine gw_yes rfl ?_ | refine gw_no rfl ?_ | refine gw_exit ?_ | refine gw_block ?_ | refine gw_label ?_ | (refine gs_n tyT_ok 0 ?_ (hp := ?hp); case hp => exact ⟨by decide, by decide⟩))
  refine gs_cat (a := HD) (b := [44]) rfl rfl (by simp; omega) ?_
  refine gs_pu ent143 (l1Num_w 0 4 (by omega) (by omega)) ?_
  refine gs_cat (a := HD ++ [44]) (b := le 0 4) rfl rfl (by simp [le_len]; omega) ?_
  repeat (first | refine gs_n tyT_ok 0 ?_ | refine gs_gn tyT_ok 0 rfl ?_ | refine gs_no rfl ?_ | refine gs_end ?_ | refine gs_end' ?_ | refine gw_seq ?_ | refine gw_text rfl ?_ | refine gw_skip ?_ | refine gw_yes rfl ?_ | refine gw_no rfl ?_ | refine gw_exit ?_ | refine gw_block ?_ | refine gw_label ?_ | (refine gs_n tyT_ok 0 ?_ (hp := ?hp); case hp => exact ⟨by decide, by decide⟩))
  refine gs_cat (a := HD ++ [44] ++ le 0 4) (b := le W 2 ++ le H 2) rfl rfl (by simp [le_len]; omega) ?_
  repeat (first | refine gs_n tyT_ok 0 ?_ | refine gs_gn tyT_ok 0 rfl ?_ | refine gs_no rfl ?_ | refine gs_end ?_ | refine gs_end' ?_ | refine gw_seq ?_ | refine gw_text rfl ?_ | refine gw_skip ?_ | refine gw_yes rfl ?_ | refine gw_no rfl ?_ | refine gw_exit ?_ | refine gw_block ?_ | refine gw_label ?_ | (refine gs_n tyT_ok 0 ?_ (hp := ?hp); case hp => exact ⟨by decide, by decide⟩))
  refine gs_pu ent144 (flag_w woven) ?_
  have hfl : (64 : Int) * (if woven then (1 : Int) else 0) = ((if woven then 64 else 0 : Nat) : Int) := by cases woven <;> rfl
  have hfl2 : 0 ≤ (if woven then (1 : Int) else 0) ∧ (if woven then (1 : Int) else 0) ≤ 1 := by cases woven <;> decide
  have hdesc : gDesc W H D woven = [44, 0, 0, 0, 0] ++ (le W 2 ++ le H 2) ++ [((if woven then 64 else 0 : Nat) : Int), ((gBits D : Nat) : Int)] := rfl
  have hfl3 : (if woven then 64 else 0 : Nat) ≤ 64 := by cases woven <;> decide
  generalize (if woven then 64 else 0 : Nat) = FL at *
  generalize (if woven then (1 : Int) else 0) = F1 at *
  repeat (first | refine gs_n tyT_ok 0 ?_ | refine gs_gn tyT_ok 0 rfl ?_ | refine gs_no rfl ?_ | refine gs_l tyT_ok 2 ?_ | refine gs_gl tyT_ok 2 rfl ?_ | (refine gs_l tyT_ok 2 ?_ (hp := ?hp); case hp => exact ⟨rfl, Nat.le_of_ble_eq_true rfl⟩) | (refine gs_gl tyT_ok 2 rfl ?_ (hp := ?hp); case hp => exact ⟨rfl, Nat.le_of_ble_eq_true rfl⟩) | refine gs_end ?_ | refine gs_end' ?_ | refine gw_seq ?_ | refine gw_text rfl ?_ | refine gw_skip ?_ | refine gw_yes rfl ?_ | refine gw_no rfl ?_ | refine gw_exit ?_ | refine gw_block ?_ | refine gw_label ?_ | (refine gs_n tyT_ok 0 ?_ (hp := ?hp); case hp => exact ⟨by decide, by decide⟩))
  rw [hfl]
  repeat (first | refine gs_n tyT_ok 0 ?_ | refine gs_gn tyT_ok 0 rfl ?_ | refine gs_no rfl ?_ | refine gs_end ?_ | refine gs_end' ?_ | refine gw_seq ?_ | refine gw_text rfl ?_ | refine gw_skip ?_ | refine gw_yes rfl ?_ | refine gw_no rfl ?_ | refine gw_exit ?_ | refine gw_block ?_ | refine gw_label ?_ | (refine gs_n tyT_ok 0 ?_ (hp := ?hp); case hp => exact ⟨by decide, by decide⟩))
  refine gs_lit tyT_ok (cs := bytesV [(FL : Int), ((gBits D : Nat) : Int)]) rfl rfl rfl (by decide) rfl fun bB => ?_
  refine gs_txt 5 (xs := [(FL : Int), ((gBits D : Nat) : Int)]) rfl rfl rfl ?_
  refine gs_cat (a := HD ++ [44] ++ le 0 4 ++ (le W 2 ++ le H 2)) (b := [(FL : Int), ((gBits D : Nat) : Int)]) rfl rfl (by simp [le_len]; omega) ?_
  rw [show HD ++ [44] ++ le 0 4 ++ (le W 2 ++ le H 2) ++ [(FL : Int), ((gBits D : Nat) : Int)] = HD ++ gDesc W H D woven by rw [hdesc]; simp [show le 0 4 = [0, 0, 0, 0] from rfl]]
  generalize gDesc W H D woven = DS at *
  repeat (first | refine gs_n tyT_ok 0 ?_ | refine gs_gn tyT_ok 0 rfl ?_ | refine gs_no rfl ?_ | refine gs_end ?_ | refine gs_end' ?_ | refine gw_seq ?_ | refine gw_text rfl ?_ | refine gw_skip ?_ | refine gw_yes rfl ?_ | refine gw_no rfl ?_ | refine gw_exit ?_ | refine gw_block ?_ | refine gw_label ?_ | (refine gs_n tyT_ok 0 ?_ (hp := ?hp); case hp => exact ⟨by decide, by decide⟩))
  have hb2 : 2 ≤ gBits D := by have := hlok.1.1; omega
  obtain ⟨hlo, hll⟩ := lzL_ok (wide := false) hb2 hgb hfit (by omega)
  have hput : lzPut (txt PT) (gBits D : Int) false = txt (packB false (lbits false (lzL (txt PT) (gBits D) false))) := by
    unfold lzPut
    rw [if_pos ⟨hlok, by omega, by rw [Int.toNat_natCast]; exact hfit⟩, Int.toNat_natCast]
  rw [hput] at hbl hbN ⊢
  refine gs_call [] ent107 rfl (by decide) (l6Put_w hlok (by omega) hfit) fun v F' ns ho _ _ => ?_
  obtain ⟨p, rfl, rfl, hv⟩ := ho
  obtain ⟨va, vc, rfl⟩ := hv.sl
  repeat (first | refine gs_n tyT_ok 0 ?_ | refine gs_gn tyT_ok 0 rfl ?_ | refine gs_no rfl ?_ | refine gs_end ?_ | refine gs_end' ?_ | refine gw_seq ?_ | refine gw_text rfl ?_ | refine gw_skip ?_ | refine gw_yes rfl ?_ | refine gw_no rfl ?_ | refine gw_exit ?_ | refine gw_block ?_ | refine gw_label ?_ | (refine gs_n tyT_ok 0 ?_ (hp := ?hp); case hp => exact ⟨by decide, by decide⟩))
  refine gs_rd [6] ent106 rfl (by decide) (l1Put_w hv hlo (by omega)) ?_
  refine gs_pu ent181 hbl ?_
  generalize blks (byl (txt (packB false (lbits false (lzL (txt PT) (gBits D) false))))) = BD at *
  refine gs_cat (a := HD ++ DS) (b := BD) rfl rfl (by rw [List.length_append]; omega) ?_
  refine gs_cat (a := HD ++ DS ++ BD) (b := [59]) rfl rfl (by simp; omega) ?_
  repeat (first | refine gs_n tyT_ok 0 ?_ | refine gs_gn tyT_ok 0 rfl ?_ | refine gs_no rfl ?_ | refine gs_end ?_ | refine gs_end' ?_ | refine gw_seq ?_ | refine gw_text rfl ?_ | refine gw_skip ?_ | refine gw_yes rfl ?_ | refine gw_no rfl ?_ | refine gw_exit ?_ | refine gw_block ?_ | refine gw_label ?_ | (refine gs_n tyT_ok 0 ?_ (hp := ?hp); case hp => exact ⟨by decide, by decide⟩))
  exact gw_ret ⟨_, _, [], [0, 1], .tmp .nil, ⟨rfl, rfl, rfl⟩, rfl, rfl, by decide⟩
set_option maxHeartbeats 1000000 in
theorem sGifPut_w {k d w h : Int} {a1 a2 : Option Addr} {n1 c1 n2 c2 : Nat} {q1 q2 : Nat × GO} {cs ps : List Int} {woven : Bool} (h1 : LS a1 n1 c1 q1 cs) (h2 : LS a2 n2 c2 q2 ps) (z1 : cs.length ≤ 10000000) (z2 : ps.length ≤ 10000000) :
    Rd Try.prog 42 [img k d w h (.slice a1 n1 c1) (.slice a2 n2 c2), .bool woven] [q1, q2] (.string (txt (gifPut k d w h cs ps woven))) := by
  obtain rfl := h1.1
  obtain rfl := h2.1
  refine trip_of Try.func42 rfl (by simp [Try.ntmps42]) ?_
  refine gw_seq (gw_text rfl ?_)
  refine gs_box fun b => ?_
  repeat (first | refine gs_n tyT_ok 0 ?_ | refine gs_gn tyT_ok 0 rfl ?_ | refine gs_no rfl ?_ | refine gs_l tyT_ok 2 ?_ | refine gs_gl tyT_ok 2 rfl ?_ | (refine gs_l tyT_ok 2 ?_ (hp := ?hp); case hp => exact ⟨rfl, Nat.le_of_ble_eq_true rfl⟩) | (refine gs_gl tyT_ok 2 rfl ?_ (hp := ?hp); case hp => exact ⟨rfl, Nat.le_of_ble_eq_true rfl⟩) | refine gs_end ?_ | refine gs_end' ?_ | refine gw_seq ?_ | refine gw_text rfl ?_ | refine gw_skip ?_ | refine gw_yes rfl ?_ | refine gw_no rfl ?_ | refine gw_exit ?_ | refine gw_block ?_ | refine gw_label ?_ | (refine gs_n tyT_ok 0 ?_ (hp := ?hp); case hp => exact ⟨by decide, by decide⟩))
  refine gs_rd [0, 1] ent48 rfl (by decide) (sImageOk_w h1 h2 (by omega) (by omega)) ?_
  by_cases hok : imgOk k d w h cs ps
  case neg =>
    rw [decide_eq_false hok, gifPut, if_neg fun h => hok h.1]
    repeat (first | refine gs_n tyT_ok 0 ?_ | refine gs_gn tyT_ok 0 rfl ?_ | refine gs_no rfl ?_ | refine gs_end ?_ | refine gs_end' ?_ | refine gw_seq ?_ | refine gw_text rfl ?_ | refine gw_skip ?_ | refine gw_yes rfl ?_ | refine gw_no rfl ?_ | refine gw_exit ?_ | refine gw_block ?_ | refine gw_label ?_ | (refine gs_n tyT_ok 0 ?_ (hp := ?hp); case hp => exact ⟨by decide, by decide⟩))
    exact gw_ret ⟨_, _, [], [0, 1], .tmp .nil, ⟨rfl, rfl, rfl⟩, rfl, rfl, by decide⟩
  rw [decide_eq_true hok]
  repeat (first | refine gs_n tyT_ok 0 ?_ | refine gs_gn tyT_ok 0 rfl ?_ | refine gs_no rfl ?_ | refine gs_l tyT_ok 2 ?_ | refine gs_gl tyT_ok 2 rfl ?_ | (refine gs_l tyT_ok 2 ?_ (hp := ?hp); case hp => exact ⟨rfl, Nat.le_of_ble_eq_true rfl⟩) | (refine gs_gl tyT_ok 2 rfl ?_ (hp := ?hp); case hp => exact ⟨rfl, Nat.le_of_ble_eq_true rfl⟩) | refine gs_end ?_ | refine gs_end' ?_ | refine gw_seq ?_ | refine gw_text rfl ?_ | refine gw_skip ?_ | refine gw_yes rfl ?_ | refine gw_no rfl ?_ | refine gw_exit ?_ | refine gw_block ?_ | refine gw_label ?_ | (refine gs_n tyT_ok 0 ?_ (hp := ?hp); case hp => exact ⟨by decide, by decide⟩))
  refine gs_pug ent82 rfl (l10Rep_w h1 (by omega) hok) ?_
  by_cases hg : gOk k d cs
  case neg =>
    rw [decide_eq_false hg, gifPut, if_neg fun h => hg h.2]
    repeat (first | refine gs_n tyT_ok 0 ?_ | refine gs_gn tyT_ok 0 rfl ?_ | refine gs_no rfl ?_ | refine gs_end ?_ | refine gs_end' ?_ | refine gw_seq ?_ | refine gw_text rfl ?_ | refine gw_skip ?_ | refine gw_yes rfl ?_ | refine gw_no rfl ?_ | refine gw_exit ?_ | refine gw_block ?_ | refine gw_label ?_ | (refine gs_n tyT_ok 0 ?_ (hp := ?hp); case hp => exact ⟨by decide, by decide⟩))
    exact gw_ret ⟨_, _, [], [0, 1], .tmp .nil, ⟨rfl, rfl, rfl⟩, rfl, rfl, by decide⟩
  rw [decide_eq_true hg, gifPut, if_pos ⟨hok, hg⟩]
  obtain ⟨W, H, D, rfl, rfl, rfl, hD, hW, hH, hl, hcs, hcf, hcl, hpp, rfl⟩ := gif_facts hok hg
  simp only [Int.toNat_natCast]
  repeat (first | refine gs_n tyT_ok 0 ?_ | refine gs_gn tyT_ok 0 rfl ?_ | refine gs_no rfl ?_ | refine gs_l tyT_ok 2 ?_ | refine gs_gl tyT_ok 2 rfl ?_ | (refine gs_l tyT_ok 2 ?_ (hp := ?hp); case hp => exact ⟨rfl, Nat.le_of_ble_eq_true rfl⟩) | (refine gs_gl tyT_ok 2 rfl ?_ (hp := ?hp); case hp => exact ⟨rfl, Nat.le_of_ble_eq_true rfl⟩) | refine gs_end ?_ | refine gs_end' ?_ | refine gw_seq ?_ | refine gw_text rfl ?_ | refine gw_skip ?_ | refine gw_yes rfl ?_ | refine gw_no rfl ?_ | refine gw_exit ?_ | refine gw_block ?_ | refine gw_label ?_ | (refine gs_n tyT_ok 0 ?_ (hp := ?hp); case hp => exact ⟨by decide, by decide⟩))
  refine gs_rd [0, 1] ent119 rfl (by decide) (l10Gif_w (woven := woven) h1 h2 hok hg) ?_
  repeat (first | refine gs_n tyT_ok 0 ?_ | refine gs_gn tyT_ok 0 rfl ?_ | refine gs_no rfl ?_ | refine gs_end ?_ | refine gs_end' ?_ | refine gw_seq ?_ | refine gw_text rfl ?_ | refine gw_skip ?_ | refine gw_yes rfl ?_ | refine gw_no rfl ?_ | refine gw_exit ?_ | refine gw_block ?_ | refine gw_label ?_ | (refine gs_n tyT_ok 0 ?_ (hp := ?hp); case hp => exact ⟨by decide, by decide⟩))
  exact gw_ret ⟨_, _, [], [0, 1], .tmp .nil, ⟨rfl, rfl, rfl⟩, rfl, rfl, by decide⟩
end Go.Proofs.Ytjefdcbljpkmlaa.G
end
