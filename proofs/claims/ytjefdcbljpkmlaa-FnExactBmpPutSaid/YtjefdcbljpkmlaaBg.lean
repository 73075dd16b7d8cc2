/- BMP: impl BmpPut. -/
import Derived.Test.YtjefdcbljpkmlaaBf
set_option linter.unusedVariables false
set_option maxRecDepth 10000
namespace Go.Proofs.Ytjefdcbljpkmlaa.G
open Go
theorem pad_eq (W z : Nat) : rowB W (8 * z) = W * z + (4 - W * z % 4) % 4 := by
  unfold rowB
  rw [show W * (8 * z) / 8 = W * z by rw [Nat.mul_left_comm]; exact Nat.mul_div_cancel_left _ (by decide)]
  omega
set_option maxHeartbeats 2000000 in
theorem bmpPut_w {k d w h : Int} {a1 a2 : Option Addr} {n1 c1 n2 c2 : Nat} {q1 q2 : Nat × GO} {cs ps : List Int} {runs : Bool} (h1 : LS a1 n1 c1 q1 cs) (h2 : LS a2 n2 c2 q2 ps) (z1 : cs.length ≤ 10000000) (z2 : ps.length ≤ 10000000) :
    Rd Try.prog 17 [img k d w h (.slice a1 n1 c1) (.slice a2 n2 c2), .bool runs] [q1, q2] (.string (txt (bmpPut k d w h cs ps runs))) := by
  obtain rfl := h1.1
  obtain rfl := h2.1
  refine trip_of Try.func17 rfl (by simp [Try.ntmps17]) ?_
  refine gw_seq (gw_text rfl ?_)
  refine gs_box fun b => ?_
  repeat (first | refine gs_n tyT_ok 0 ?_ | refine gs_gn tyT_ok 0 rfl ?_ | refine gs_no rfl ?_ | refine gs_l tyT_ok 2 ?_ | refine gs_gl tyT_ok 2 rfl ?_ | (refine gs_l tyT_ok 2 ?_ (hp := ?hp); case hp => exact ⟨rfl, Nat.le_of_ble_eq_true rfl⟩) | (refine gs_gl tyT_ok 2 rfl ?_ (hp := ?hp); case hp => exact ⟨rfl, Nat.le_of_ble_eq_true rfl⟩) | refine gs_end ?_ | refine gs_end' ?_ | refine gw_seq ?_ | refine gw_text rfl ?_ | refine gw_skip ?_ | refine gw_yes rfl ?_ | refine gw_no rfl ?_ | refine gw_exit ?_ | refine gw_block ?_ | refine gw_label ?_ | (refine gs_n tyT_ok 0 ?_ (hp := ?hp); case hp => exact ⟨by decide, by decide⟩))
  refine gs_rd [0, 1] ent55 rfl (by decide) (bmpHolds_w (runs := runs) h1 h2 (by omega) (by omega)) ?_
  by_cases hP : imgOk k d w h cs ps ∧ bOk k d runs
  case neg =>
    rw [decide_eq_false hP, bmpPut, if_neg hP]
    repeat (first | refine gs_n tyT_ok 0 ?_ | refine gs_gn tyT_ok 0 rfl ?_ | refine gs_no rfl ?_ | refine gs_end ?_ | refine gs_end' ?_ | refine gw_seq ?_ | refine gw_text rfl ?_ | refine gw_skip ?_ | refine gw_yes rfl ?_ | refine gw_no rfl ?_ | refine gw_exit ?_ | refine gw_block ?_ | refine gw_label ?_ | (refine gs_n tyT_ok 0 ?_ (hp := ?hp); case hp => exact ⟨by decide, by decide⟩))
    exact gw_ret ⟨_, _, [], [0, 1], .tmp .nil, ⟨rfl, rfl, rfl⟩, rfl, rfl, by decide⟩
  rw [decide_eq_true hP, bmpPut, if_pos hP]
  obtain ⟨W, H, D, z, rfl, rfl, rfl, hz, hd, hz14, hW, hH, hl, hcs, hcf, hcl, hs, hfit, hp⟩ := bmp_facts hP.1 hP.2
  rw [hz]
  simp only [Int.toNat_natCast]
  have hpos : 1 ≤ ps.length := by
    rw [hl]
    exact Nat.mul_pos (by omega) (by omega)
  have hDl := bData_len (z := z) hl hW hH hz14.2 hp
  have hdz : (D : Int) / 8 = (z : Int) := by omega
  obtain ⟨o, rfl, _⟩ := h2.at (k := 0) (by omega)
  have hcap := h2.cap.2.1
  repeat (first | refine gs_n tyT_ok 0 ?_ | refine gs_gn tyT_ok 0 rfl ?_ | refine gs_no rfl ?_ | refine gs_l tyT_ok 2 ?_ | refine gs_gl tyT_ok 2 rfl ?_ | (refine gs_l tyT_ok 2 ?_ (hp := ?hp); case hp => exact ⟨rfl, Nat.le_of_ble_eq_true rfl⟩) | (refine gs_gl tyT_ok 2 rfl ?_ (hp := ?hp); case hp => exact ⟨rfl, Nat.le_of_ble_eq_true rfl⟩) | refine gs_end ?_ | refine gs_end' ?_ | refine gw_seq ?_ | refine gw_text rfl ?_ | refine gw_skip ?_ | refine gw_yes rfl ?_ | refine gw_no rfl ?_ | refine gw_exit ?_ | refine gw_block ?_ | refine gw_label ?_ | (refine gs_n tyT_ok 0 ?_ (hp := ?hp); case hp => exact ⟨by decide, by decide⟩))
  refine gw_nil ?_
  refine gw_loopL (fun m (x : Value × (Nat × GO)) => [(1, .bool runs), (2, ptr b), (5, x.1), (6, .int .i64 ((m : Int) - 1))]) (fun _ x => [q1, q2, (b, imc k D W H (.slice a1 cs.length c1) (.slice (some ⟨q2.1, o, none⟩) ps.length c2)), x.2]) (fun m x => m ≤ H ∧ OV x.1 x.2 (views q2.1 o W H c2 (H - m))) H (.slice none 0 0, (0, .none)) ⟨Nat.le_refl _, by rw [Nat.sub_self]; exact OV.nil⟩ rfl ⟨rfl, rfl, rfl, rfl, trivial⟩ fun m ⟨v, p⟩ e ⟨hm, hv⟩ => ?_
  dsimp only at hm hv ⊢
  have hv' := hv
  obtain ⟨ua, uc, rfl⟩ := hv'.sl
  repeat (first | refine gs_n tyT_ok 0 ?_ | refine gs_gn tyT_ok 0 rfl ?_ | refine gs_no rfl ?_ | refine gs_end ?_ | refine gs_end' ?_ | refine gw_seq ?_ | refine gw_text rfl ?_ | refine gw_skip ?_ | refine gw_yes rfl ?_ | refine gw_no rfl ?_ | refine gw_exit ?_ | refine gw_block ?_ | refine gw_label ?_ | (refine gs_n tyT_ok 0 ?_ (hp := ?hp); case hp => exact ⟨by decide, by decide⟩))
  by_cases k1 : m = 0
  case neg =>
    obtain ⟨y, rfl⟩ : ∃ y, m = y + 1 := ⟨m - 1, by omega⟩
    rw [show (((y + 1 : Nat) : Int) - 1) = (y : Int) by omega]
    (refine gs_t tyT_ok ?hb ?_; case hb => first | exact decide_eq_true (by omega) | exact congrArg Bool.not (decide_eq_false (by omega)) | (simp; done) | (simp; omega))
    have hyW : (y + 1) * W ≤ ps.length := by
      rw [hl, Nat.mul_comm W H]
      exact Nat.mul_le_mul_right W (by omega)
    repeat (first | refine gs_n tyT_ok 0 ?_ | refine gs_gn tyT_ok 0 rfl ?_ | refine gs_no rfl ?_ | refine gs_l tyT_ok 2 ?_ | refine gs_gl tyT_ok 2 rfl ?_ | (refine gs_l tyT_ok 2 ?_ (hp := ?hp); case hp => exact ⟨rfl, Nat.le_of_ble_eq_true rfl⟩) | (refine gs_gl tyT_ok 2 rfl ?_ (hp := ?hp); case hp => exact ⟨rfl, Nat.le_of_ble_eq_true rfl⟩) | refine gs_end ?_ | refine gs_end' ?_ | refine gw_seq ?_ | refine gw_text rfl ?_ | refine gw_skip ?_ | refine gw_yes rfl ?_ | refine gw_no rfl ?_ | refine gw_exit ?_ | refine gw_block ?_ | refine gw_label ?_ | (refine gs_n tyT_ok 0 ?_ (hp := ?hp); case hp => exact ⟨by decide, by decide⟩))
    refine gs_pu ent56 (rowOf_w (q := q2) hcap (by omega) hyW z2) ?_
    refine gs_pushv 3 (u := view q2.1 o W c2 y) rfl rfl rfl hv (fun _ => rfl) (by rw [views_len]; omega) fun b5 a5 c5 p5 hv5 => ?_
    repeat (first | refine gs_n tyT_ok 0 ?_ | refine gs_gn tyT_ok 0 rfl ?_ | refine gs_no rfl ?_)
    refine gs_end ?_
    refine gw_weak [0, 1, 2, 3] (by decide) rfl ?_
    repeat (first | refine gs_n tyT_ok 0 ?_ | refine gs_gn tyT_ok 0 rfl ?_ | refine gs_no rfl ?_ | refine gs_end ?_ | refine gs_end' ?_ | refine gw_seq ?_ | refine gw_text rfl ?_ | refine gw_skip ?_ | refine gw_yes rfl ?_ | refine gw_no rfl ?_ | refine gw_exit ?_ | refine gw_block ?_ | refine gw_label ?_ | (refine gs_n tyT_ok 0 ?_ (hp := ?hp); case hp => exact ⟨by decide, by decide⟩))
    refine ⟨y, by omega, (_, p5), ⟨by omega, ?_⟩, rfl, rfl, rfl, rfl, rfl, trivial⟩
    show OV _ p5 (views q2.1 o W H c2 (H - y))
    rw [show H - y = H - (y + 1) + 1 by omega, views_succ, show H - 1 - (H - (y + 1)) = y by omega]
    exact hv5
  subst k1
  (refine gs_f tyT_ok ?hb ?_; case hb => first | exact decide_eq_false (by omega) | exact congrArg Bool.not (decide_eq_true (by omega)) | (simp; done) | (simp; omega))
  refine gs_end ?_
  refine gw_no rfl ?_
  refine gw_exit ?_
  rw [Nat.sub_zero] at hv ⊢
  refine gw_seq (gw_text rfl ?_)
  repeat (first | refine gs_n tyT_ok 0 ?_ | refine gs_gn tyT_ok 0 rfl ?_ | refine gs_no rfl ?_)
  refine gs_end ?_
  refine gw_seq ?_
  have hRV := below_views h2 hl hW.1
  refine gw_join (α := Unit) (fun _ => [(2, ptr b), (7, .string (txt (bData W H z ps runs))), (8, .int .i64 (if runs then 1 else 0))]) (fun _ => [q1, q2, (b, imc k D W H (.slice a1 cs.length c1) (.slice (some ⟨q2.1, o, none⟩) ps.length c2)), p]) (fun _ => True) ?_ fun _ e _ => ?_
  · cases runs
    · repeat (first | refine gs_n tyT_ok 0 ?_ | refine gs_gn tyT_ok 0 rfl ?_ | refine gs_no rfl ?_ | refine gs_end ?_ | refine gs_end' ?_ | refine gw_seq ?_ | refine gw_text rfl ?_ | refine gw_skip ?_ | refine gw_yes rfl ?_ | refine gw_no rfl ?_ | refine gw_exit ?_ | refine gw_block ?_ | refine gw_label ?_ | (refine gs_n tyT_ok 0 ?_ (hp := ?hp); case hp => exact ⟨by decide, by decide⟩))
      refine gw_loopL (fun _ (x : Nat) => [(2, ptr b), (7, .string (txt (rowsB W H z ps x))), (8, .int .i64 0), (34, .slice ua (views q2.1 o W H c2 H).length uc), (35, .int .i64 H), (36, .int .i64 x)]) (fun _ _ => [q1, q2, (b, imc k D W H (.slice a1 cs.length c1) (.slice (some ⟨q2.1, o, none⟩) ps.length c2)), p]) (fun m x => x + m = H) H 0 (by omega) rfl ⟨rfl, rfl, rfl, rfl, by show Value.int .i64 (((views q2.1 o W H c2 H).length : Nat) : Int) = _; rw [views_len], rfl, trivial⟩ fun m x e hm => ?_
      repeat (first | refine gs_n tyT_ok 0 ?_ | refine gs_gn tyT_ok 0 rfl ?_ | refine gs_no rfl ?_ | refine gs_end ?_ | refine gs_end' ?_ | refine gw_seq ?_ | refine gw_text rfl ?_ | refine gw_skip ?_ | refine gw_yes rfl ?_ | refine gw_no rfl ?_ | refine gw_exit ?_ | refine gw_block ?_ | refine gw_label ?_ | (refine gs_n tyT_ok 0 ?_ (hp := ?hp); case hp => exact ⟨by decide, by decide⟩))
      by_cases k3 : x < H
      case neg =>
        obtain rfl : x = H := by omega
        (refine gs_f tyT_ok ?hb ?_; case hb => first | exact decide_eq_false (by omega) | exact congrArg Bool.not (decide_eq_true (by omega)) | (simp; done) | (simp; omega))
        repeat (first | refine gs_n tyT_ok 0 ?_ | refine gs_gn tyT_ok 0 rfl ?_ | refine gs_no rfl ?_ | refine gs_end ?_ | refine gs_end' ?_ | refine gw_seq ?_ | refine gw_text rfl ?_ | refine gw_skip ?_ | refine gw_yes rfl ?_ | refine gw_no rfl ?_ | refine gw_exit ?_ | refine gw_block ?_ | refine gw_label ?_ | (refine gs_n tyT_ok 0 ?_ (hp := ?hp); case hp => exact ⟨by decide, by decide⟩))
        exact ⟨(), trivial, rfl, rfl, rfl, rfl, trivial⟩
      (refine gs_t tyT_ok ?hb ?_; case hb => first | exact decide_eq_true (by omega) | exact congrArg Bool.not (decide_eq_false (by omega)) | (simp; done) | (simp; omega))
      obtain ⟨hvl, u, hu, rfl, hcell⟩ := hv.at (k := x) (by rw [views_len]; exact k3)
      have hvl2 := views_len q2.1 o W H c2 H
      obtain ⟨a, n, c, hvi, hLS⟩ := hRV.2 x (by simp [below]; exact k3)
      rw [hvi] at hu
      cases hu
      rw [show (below W H ps).getD x [] = seg ps ((H - 1 - x) * W) W by simp [below, List.getD, k3]] at hLS
      have hle : (H - 1 - x) * W + W ≤ ps.length := by
        rw [hl, Nat.mul_comm W H, ← Nat.succ_mul]
        exact Nat.mul_le_mul_right W (by omega)
      have hsl : (seg ps ((H - 1 - x) * W) W).length = W := seg_len hle
      have hstep : rowsB W H z ps (x + 1) = rowsB W H z ps x ++ (les z (seg ps ((H - 1 - x) * W) W) ++ List.replicate ((4 - W * z % 4) % 4) 0) := by
        rw [rowsB, List.append_assoc]
      have hout : (rowsB W H z ps x).length ≤ 20 * (20 * 4 + 3) := by
        rw [rowsB_len hl _ (by omega)]
        refine Nat.mul_le_mul (by omega) ?_
        have := Nat.mul_le_mul hW.2 hz14.2
        omega
      have hWz := Nat.mul_le_mul hW.2 hz14.2
      have hfs : fits z (seg ps ((H - 1 - x) * W) W) := fun y hy => hfit y (seg_mem hy)
      generalize seg ps ((H - 1 - x) * W) W = R at *
      obtain rfl := hLS.1
      repeat (first | refine gs_n tyT_ok 0 ?_ | refine gs_gn tyT_ok 0 rfl ?_ | refine gs_no rfl ?_ | refine gs_end ?_ | refine gs_end' ?_ | refine gw_seq ?_ | refine gw_text rfl ?_ | refine gw_skip ?_ | refine gw_yes rfl ?_ | refine gw_no rfl ?_ | refine gw_exit ?_ | refine gw_block ?_ | refine gw_label ?_ | (refine gs_n tyT_ok 0 ?_ (hp := ?hp); case hp => exact ⟨by decide, by decide⟩))
      refine gs_atb 3 rfl rfl rfl rfl hcell ?_
      repeat (first | refine gs_n tyT_ok 0 ?_ | refine gs_gn tyT_ok 0 rfl ?_ | refine gs_no rfl ?_ | refine gs_l tyT_ok 2 ?_ | refine gs_gl tyT_ok 2 rfl ?_ | (refine gs_l tyT_ok 2 ?_ (hp := ?hp); case hp => exact ⟨rfl, Nat.le_of_ble_eq_true rfl⟩) | (refine gs_gl tyT_ok 2 rfl ?_ (hp := ?hp); case hp => exact ⟨rfl, Nat.le_of_ble_eq_true rfl⟩) | refine gs_end ?_ | refine gs_end' ?_ | refine gw_seq ?_ | refine gw_text rfl ?_ | refine gw_skip ?_ | refine gw_yes rfl ?_ | refine gw_no rfl ?_ | refine gw_exit ?_ | refine gw_block ?_ | refine gw_label ?_ | (refine gs_n tyT_ok 0 ?_ (hp := ?hp); case hp => exact ⟨by decide, by decide⟩))
      rw [hdz]
      refine gs_rd [1] ent58 rfl (by decide) (numbers_w hLS hfs hz14 (by omega)) ?_
      repeat (first | refine gs_n tyT_ok 0 ?_ | refine gs_gn tyT_ok 0 rfl ?_ | refine gs_no rfl ?_ | refine gs_l tyT_ok 2 ?_ | refine gs_gl tyT_ok 2 rfl ?_ | (refine gs_l tyT_ok 2 ?_ (hp := ?hp); case hp => exact ⟨rfl, Nat.le_of_ble_eq_true rfl⟩) | (refine gs_gl tyT_ok 2 rfl ?_ (hp := ?hp); case hp => exact ⟨rfl, Nat.le_of_ble_eq_true rfl⟩) | refine gs_end ?_ | refine gs_end' ?_ | refine gw_seq ?_ | refine gw_text rfl ?_ | refine gw_skip ?_ | refine gw_yes rfl ?_ | refine gw_no rfl ?_ | refine gw_exit ?_ | refine gw_block ?_ | refine gw_label ?_ | (refine gs_n tyT_ok 0 ?_ (hp := ?hp); case hp => exact ⟨by decide, by decide⟩))
      refine gs_pu ent59 (rowBytes_w (w := W) (d := D) (by omega) (by omega)) ?_
      have hpad : ((rowB W D : Nat) : Int) - ((R.length * z : Nat) : Int) = (((4 - W * z % 4) % 4 : Nat) : Int) := by
        rw [hd, pad_eq, hsl]
        omega
      refine gs_n tyT_ok 0 ?_
      refine gs_n tyT_ok 0 ?_
      rw [txt_size, les_len]
      refine gs_n tyT_ok 0 ?_ (hp := ?hp)
      case hp => rw [hpad]; exact ⟨by omega, by omega⟩
      rw [hpad]
      refine gs_make tyT_ok (n := (4 - W * z % 4) % 4) rfl rfl rfl rfl rfl (by omega) (by decide) fun b7 => ?_
      refine gs_txt 4 (b := b7) (t := 5) (m := (4 - W * z % 4) % 4 * 1) (xs := List.replicate ((4 - W * z % 4) % 4) 0) rfl ?hl (by simp) ?_
      case hl =>
        show some (b7, GO.row 5 (List.replicate ((4 - W * z % 4) % 4) [Value.int .u8 0]).flatten ((4 - W * z % 4) % 4 * 1)) = _
        rw [List.flatten_replicate_singleton, bytesV, List.map_replicate]
      refine gs_cat (a := les z R) (b := List.replicate ((4 - W * z % 4) % 4) 0) rfl rfl (by rw [les_len, hsl]; simp; omega) ?_
      refine gs_cat (a := rowsB W H z ps x) (b := les z R ++ List.replicate ((4 - W * z % 4) % 4) 0) rfl rfl (by rw [List.length_append, les_len, hsl]; simp; omega) ?_
      rw [← hstep]
      repeat (first | refine gs_n tyT_ok 0 ?_ | refine gs_gn tyT_ok 0 rfl ?_ | refine gs_no rfl ?_)
      refine gs_end ?_
      refine gw_weak [0, 1, 2, 3] (by decide) rfl ?_
      repeat (first | refine gs_n tyT_ok 0 ?_ | refine gs_gn tyT_ok 0 rfl ?_ | refine gs_no rfl ?_ | refine gs_end ?_ | refine gs_end' ?_ | refine gw_seq ?_ | refine gw_text rfl ?_ | refine gw_skip ?_ | refine gw_yes rfl ?_ | refine gw_no rfl ?_ | refine gw_exit ?_ | refine gw_block ?_ | refine gw_label ?_ | (refine gs_n tyT_ok 0 ?_ (hp := ?hp); case hp => exact ⟨by decide, by decide⟩))
      exact ⟨m - 1, by omega, x + 1, by omega, rfl, rfl, rfl, rfl, rfl, rfl, rfl, trivial⟩
    · repeat (first | refine gs_n tyT_ok 0 ?_ | refine gs_gn tyT_ok 0 rfl ?_ | refine gs_no rfl ?_ | refine gs_end ?_ | refine gs_end' ?_ | refine gw_seq ?_ | refine gw_text rfl ?_ | refine gw_skip ?_ | refine gw_yes rfl ?_ | refine gw_no rfl ?_ | refine gw_exit ?_ | refine gw_block ?_ | refine gw_label ?_ | (refine gs_n tyT_ok 0 ?_ (hp := ?hp); case hp => exact ⟨by decide, by decide⟩))
      refine gs_rd [3, 1] ent57 rfl (by decide) (rlePut_w hv hRV (below_ok hl hW.2 hH.2 (hp rfl))) ?_
      repeat (first | refine gs_n tyT_ok 0 ?_ | refine gs_gn tyT_ok 0 rfl ?_ | refine gs_no rfl ?_ | refine gs_end ?_ | refine gs_end' ?_ | refine gw_seq ?_ | refine gw_text rfl ?_ | refine gw_skip ?_ | refine gw_yes rfl ?_ | refine gw_no rfl ?_ | refine gw_exit ?_ | refine gw_block ?_ | refine gw_label ?_ | (refine gs_n tyT_ok 0 ?_ (hp := ?hp); case hp => exact ⟨by decide, by decide⟩))
      exact ⟨(), trivial, rfl, rfl, rfl, rfl, trivial⟩
  generalize hE : bData W H z ps runs = E at hDl
  have hfl : 0 ≤ (if runs then (1 : Int) else 0) ∧ (if runs then (1 : Int) else 0) ≤ 1 := by cases runs <;> decide
  have f4 : ∀ l : List Int, (∀ x ∈ l, 0 ≤ x ∧ x ≤ 65535) → fits 4 l ∧ fits 2 l := fun l h => ⟨fun x hx => by have := h x hx; rw [show ((256 ^ 4 : Nat) : Int) = 4294967296 by decide]; omega, fun x hx => by have := h x hx; rw [show ((256 ^ 2 : Nat) : Int) = 65536 by decide]; omega⟩
  have g1 : fits 4 [((54 + 4 * cs.length + E.length : Nat) : Int), 0, ((54 + 4 * cs.length : Nat) : Int), 40, (W : Int), (H : Int)] := (f4 _ (fun x hx => by simp only [List.mem_cons, List.not_mem_nil, or_false] at hx; omega)).1
  have g2 : fits 2 [1, (D : Int)] := (f4 _ (fun x hx => by simp only [List.mem_cons, List.not_mem_nil, or_false] at hx; omega)).2
  have g3 : fits 4 [(if runs then 1 else 0), (E.length : Int), 0, 0, (cs.length : Int), 0] := (f4 _ (fun x hx => by simp only [List.mem_cons, List.not_mem_nil, or_false] at hx; omega)).1
  have g4 : fits 4 cs := fun x hx => by have := hcs x hx; rw [show ((256 ^ 4 : Nat) : Int) = 4294967296 by decide]; omega
  repeat (first | refine gs_n tyT_ok 0 ?_ | refine gs_gn tyT_ok 0 rfl ?_ | refine gs_no rfl ?_ | refine gs_l tyT_ok 2 ?_ | refine gs_gl tyT_ok 2 rfl ?_ | (refine gs_l tyT_ok 2 ?_ (hp := ?hp); case hp => exact ⟨rfl, Nat.le_of_ble_eq_true rfl⟩) | (refine gs_gl tyT_ok 2 rfl ?_ (hp := ?hp); case hp => exact ⟨rfl, Nat.le_of_ble_eq_true rfl⟩) | refine gs_end ?_ | refine gs_end' ?_ | refine gw_seq ?_ | refine gw_text rfl ?_ | refine gw_skip ?_ | refine gw_yes rfl ?_ | refine gw_no rfl ?_ | refine gw_exit ?_ | refine gw_block ?_ | refine gw_label ?_ | (refine gs_n tyT_ok 0 ?_ (hp := ?hp); case hp => exact ⟨by decide, by decide⟩))
  rw [show (54 : Int) + 4 * (cs.length : Int) = ((54 + 4 * cs.length : Nat) : Int) by omega]
  refine gw_nil (gw_nil ?_)
  refine gw_any [.N, .N, .N, .N, .N, .N, .L 2, .N, .L 2, .A 4 (.row 3 (ints [((54 + 4 * cs.length + E.length : Nat) : Int), 0, ((54 + 4 * cs.length : Nat) : Int), 40, (W : Int), (H : Int)]) 6) (some 6), .E [4], .N, .N, .L 2, .A 5 (.row 3 (ints [1, (D : Int)]) 2) (some 2), .E [5], .N, .N] rfl rfl rfl ?_
  repeat (first | refine gs_n tyT_ok 0 ?_ | refine gs_gn tyT_ok 0 rfl ?_ | refine gs_no rfl ?_)
  rw [txt_size]
  repeat (first | refine gs_n tyT_ok 0 ?_ | refine gs_gn tyT_ok 0 rfl ?_ | refine gs_no rfl ?_ | refine gs_l tyT_ok 2 ?_ | refine gs_gl tyT_ok 2 rfl ?_ | (refine gs_l tyT_ok 2 ?_ (hp := ?hp); case hp => exact ⟨rfl, Nat.le_of_ble_eq_true rfl⟩) | (refine gs_gl tyT_ok 2 rfl ?_ (hp := ?hp); case hp => exact ⟨rfl, Nat.le_of_ble_eq_true rfl⟩))
  rw [show ((54 + 4 * cs.length : Nat) : Int) + (E.length : Int) = ((54 + 4 * cs.length + E.length : Nat) : Int) by omega]
  refine gs_litA tyT_ok 4 (cs := ints [((54 + 4 * cs.length + E.length : Nat) : Int), 0, ((54 + 4 * cs.length : Nat) : Int), 40, (W : Int), (H : Int)]) rfl rfl rfl (by decide) rfl rfl rfl (fun bA => ?_) ⟨rfl, rfl, rfl⟩
  refine gs_rd [4] ent58 rfl (by decide) (numbers_w (z := 4) (cs := [((54 + 4 * cs.length + E.length : Nat) : Int), 0, ((54 + 4 * cs.length : Nat) : Int), 40, (W : Int), (H : Int)]) (LS.row rfl (Nat.le_refl _)) g1 (by omega) (by simp)) ?_
  refine gs_cat (a := [66, 77]) (b := les 4 [((54 + 4 * cs.length + E.length : Nat) : Int), 0, ((54 + 4 * cs.length : Nat) : Int), 40, (W : Int), (H : Int)]) rfl rfl (by rw [les_len]; simp) ?_
  repeat (first | refine gs_n tyT_ok 0 ?_ | refine gs_gn tyT_ok 0 rfl ?_ | refine gs_no rfl ?_ | refine gs_l tyT_ok 2 ?_ | refine gs_gl tyT_ok 2 rfl ?_ | (refine gs_l tyT_ok 2 ?_ (hp := ?hp); case hp => exact ⟨rfl, Nat.le_of_ble_eq_true rfl⟩) | (refine gs_gl tyT_ok 2 rfl ?_ (hp := ?hp); case hp => exact ⟨rfl, Nat.le_of_ble_eq_true rfl⟩))
  refine gs_litA tyT_ok 5 (cs := ints [1, (D : Int)]) rfl rfl rfl (by decide) rfl rfl rfl (fun bB => ?_) ⟨rfl, rfl, rfl⟩
  refine gs_rd [5] ent58 rfl (by decide) (numbers_w (z := 2) (cs := [1, (D : Int)]) (LS.row rfl (Nat.le_refl _)) g2 (by omega) (by simp)) ?_
  refine gs_cat (a := [66, 77] ++ les 4 [((54 + 4 * cs.length + E.length : Nat) : Int), 0, ((54 + 4 * cs.length : Nat) : Int), 40, (W : Int), (H : Int)]) (b := les 2 [1, (D : Int)]) rfl rfl (by simp [les_len]) ?_
  obtain ⟨A, hA, hAl⟩ : ∃ A : List Int, A = [66, 77] ++ les 4 [((54 + 4 * cs.length + E.length : Nat) : Int), 0, ((54 + 4 * cs.length : Nat) : Int), 40, (W : Int), (H : Int)] ++ les 2 [1, (D : Int)] ∧ A.length = 30 := ⟨_, rfl, by simp [les_len]⟩
  rw [← hA]
  repeat (first | refine gs_n tyT_ok 0 ?_ | refine gs_gn tyT_ok 0 rfl ?_ | refine gs_no rfl ?_)
  refine gs_end' ?_
  refine gw_weak [0, 1, 2] (by decide) rfl ?_
  refine gw_seq ?_
  refine gw_nil ?_
  refine gw_any [.N, .N, .N, .N, .N, .L 2, .N, .A 3 (.row 3 (ints [(if runs then 1 else 0), (E.length : Int), 0, 0, (cs.length : Int), 0]) 6) (some 6), .E [3], .N, .N, .L 2, .E [0], .N, .N, .N, .N] rfl rfl rfl ?_
  repeat (first | refine gs_n tyT_ok 0 ?_ | refine gs_gn tyT_ok 0 rfl ?_ | refine gs_no rfl ?_)
  rw [txt_size]
  repeat (first | refine gs_n tyT_ok 0 ?_ | refine gs_gn tyT_ok 0 rfl ?_ | refine gs_no rfl ?_ | refine gs_l tyT_ok 2 ?_ | refine gs_gl tyT_ok 2 rfl ?_ | (refine gs_l tyT_ok 2 ?_ (hp := ?hp); case hp => exact ⟨rfl, Nat.le_of_ble_eq_true rfl⟩) | (refine gs_gl tyT_ok 2 rfl ?_ (hp := ?hp); case hp => exact ⟨rfl, Nat.le_of_ble_eq_true rfl⟩))
  refine gs_litA tyT_ok 3 (cs := ints [(if runs then 1 else 0), (E.length : Int), 0, 0, (cs.length : Int), 0]) rfl rfl rfl (by decide) rfl rfl rfl (fun bA => ?_) ⟨rfl, rfl, rfl⟩
  refine gs_rd [3] ent58 rfl (by decide) (numbers_w (z := 4) (cs := [(if runs then 1 else 0), (E.length : Int), 0, 0, (cs.length : Int), 0]) (LS.row rfl (Nat.le_refl _)) g3 (by omega) (by simp)) ?_
  refine gs_cat (a := A) (b := les 4 [(if runs then 1 else 0), (E.length : Int), 0, 0, (cs.length : Int), 0]) rfl rfl (by rw [hAl, les_len]; simp) ?_
  repeat (first | refine gs_n tyT_ok 0 ?_ | refine gs_gn tyT_ok 0 rfl ?_ | refine gs_no rfl ?_ | refine gs_l tyT_ok 2 ?_ | refine gs_gl tyT_ok 2 rfl ?_ | (refine gs_l tyT_ok 2 ?_ (hp := ?hp); case hp => exact ⟨rfl, Nat.le_of_ble_eq_true rfl⟩) | (refine gs_gl tyT_ok 2 rfl ?_ (hp := ?hp); case hp => exact ⟨rfl, Nat.le_of_ble_eq_true rfl⟩))
  refine gs_rd [0] ent60 rfl (by decide) (colorsPut_w (z := 4) h1 g4 (by omega) (by omega)) ?_
  refine gs_cat (a := A ++ les 4 [(if runs then 1 else 0), (E.length : Int), 0, 0, (cs.length : Int), 0]) (b := les 4 cs) rfl rfl (by simp [hAl, les_len]; omega) ?_
  repeat (first | refine gs_n tyT_ok 0 ?_ | refine gs_gn tyT_ok 0 rfl ?_ | refine gs_no rfl ?_)
  refine gs_cat (a := A ++ les 4 [(if runs then 1 else 0), (E.length : Int), 0, 0, (cs.length : Int), 0] ++ les 4 cs) (b := E) rfl rfl (by simp [hAl, les_len]; omega) ?_
  have hfin : A ++ les 4 [(if runs then 1 else 0), (E.length : Int), 0, 0, (cs.length : Int), 0] ++ les 4 cs ++ E = bmpL W H D z cs ps runs := by
    rw [hA, bmpL, hE]
    cases runs <;> simp only [les, List.flatMap_cons, List.flatMap_nil, Int.toNat_natCast, Int.toNat_zero, Int.toNat_one, List.append_nil, List.append_assoc, if_true, if_false, Bool.false_eq_true] <;> rfl
  rw [hfin]
  repeat (first | refine gs_n tyT_ok 0 ?_ | refine gs_gn tyT_ok 0 rfl ?_ | refine gs_no rfl ?_ | refine gs_end ?_ | refine gs_end' ?_ | refine gw_seq ?_ | refine gw_text rfl ?_ | refine gw_skip ?_ | refine gw_yes rfl ?_ | refine gw_no rfl ?_ | refine gw_exit ?_ | refine gw_block ?_ | refine gw_label ?_ | (refine gs_n tyT_ok 0 ?_ (hp := ?hp); case hp => exact ⟨by decide, by decide⟩))
  exact gw_ret ⟨_, _, [], [0, 1], .tmp .nil, ⟨rfl, rfl, rfl⟩, rfl, rfl, by decide⟩
end Go.Proofs.Ytjefdcbljpkmlaa.G
