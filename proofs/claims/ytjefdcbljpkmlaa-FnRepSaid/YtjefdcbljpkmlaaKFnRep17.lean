/- What the law FnRep needs, out of the texts Wi. -/
import Derived.Test.YtjefdcbljpkmlaaKFnRep13
import Derived.Test.YtjefdcbljpkmlaaKFnRep16
section
set_option linter.unusedVariables false
set_option maxRecDepth 10000
namespace Go.Proofs.Ytjefdcbljpkmlaa.G
open Go
def NewOut (q : Nat × GO) (zs : List Int) : OutT := fun v F' ns => F' = [q] ∧ ∃ p, ns = [p] ∧ OI v p zs
theorem clone_w {a : Option Addr} {n c : Nat} {q : Nat × GO} {zs : List Int} (h : LS a n c q zs) (hz : zs.length ≤ 1000000000000) : Trip Try.prog 192 [.slice a n c] [q] (NewOut q zs) := by
  obtain rfl := h.1
  refine trip_of Try.func192 rfl (by simp [Try.ntmps192]) ?_
  repeat (first | refine gs_n tyT_ok 0 ?_ | refine gs_gn tyT_ok 0 rfl ?_ | refine gs_no rfl ?_ | refine gs_end ?_ | refine gs_end' ?_ | refine gw_seq ?_ | refine gw_text rfl ?_ | refine gw_skip ?_ | refine gw_yes rfl ?_ | refine gw_no rfl ?_ | refine gw_exit ?_ | refine gw_block ?_ | refine gw_label ?_ | (refine gs_n tyT_ok 0 ?_ (hp := ?hp); case hp => exact ⟨by decide, by decide⟩))
  refine gs_v 0 (lv_isnil tyT_ok rfl rfl rfl rfl) ?_
  refine gs_end ?_
  cases a with
  | none =>
    obtain ⟨_, _, ⟨_, hc⟩ | ⟨o, ho, _⟩⟩ := h
    · rename_i h1
      have : zs = [] := List.eq_nil_of_length_eq_zero (by omega)
      subst this
      repeat (first | refine gs_n tyT_ok 0 ?_ | refine gs_gn tyT_ok 0 rfl ?_ | refine gs_no rfl ?_ | refine gs_end ?_ | refine gs_end' ?_ | refine gw_seq ?_ | refine gw_text rfl ?_ | refine gw_skip ?_ | refine gw_yes rfl ?_ | refine gw_no rfl ?_ | refine gw_exit ?_ | refine gw_block ?_ | refine gw_label ?_ | (refine gs_n tyT_ok 0 ?_ (hp := ?hp); case hp => exact ⟨by decide, by decide⟩))
      refine gw_nil ?_
      exact gw_ret ⟨_, [q], [(0, .none)], [0, 1], .tmp .nil, ⟨rfl, _, rfl, OI.nil⟩, rfl, rfl, by decide⟩
    · cases ho
  | some a =>
    repeat (first | refine gs_n tyT_ok 0 ?_ | refine gs_gn tyT_ok 0 rfl ?_ | refine gs_no rfl ?_ | refine gs_end ?_ | refine gs_end' ?_ | refine gw_seq ?_ | refine gw_text rfl ?_ | refine gw_skip ?_ | refine gw_yes rfl ?_ | refine gw_no rfl ?_ | refine gw_exit ?_ | refine gw_block ?_ | refine gw_label ?_ | (refine gs_n tyT_ok 0 ?_ (hp := ?hp); case hp => exact ⟨by decide, by decide⟩))
    refine gs_lit tyT_ok (cs := []) rfl rfl rfl (by decide) rfl fun b => ?_
    refine gs_n tyT_ok 0 ?_
    refine gs_append tyT_ok 1 0 (cs := []) (nw := ints zs) rfl rfl (by decide) rfl rfl rfl (.inr ⟨b, 0, 0, 0, rfl, rfl, rfl, Nat.le_refl _, Nat.le_refl _⟩) h.src (ints_one _) ?hb (by decide) (by decide) fun v2 p2 hv2 => ?_
    case hb =>
      simp only [ints, List.length_map, List.length_nil]
      show (0 + zs.length) * 8 ≤ 140737488355328 * 1
      omega
    have hv3 : OI v2 p2 zs := hv2
    obtain ⟨a2, c2, rfl, _⟩ := hv3.ls
    repeat (first | refine gs_n tyT_ok 0 ?_ | refine gs_gn tyT_ok 0 rfl ?_ | refine gs_no rfl ?_ | refine gs_end ?_ | refine gs_end' ?_ | refine gw_seq ?_ | refine gw_text rfl ?_ | refine gw_skip ?_ | refine gw_yes rfl ?_ | refine gw_no rfl ?_ | refine gw_exit ?_ | refine gw_block ?_ | refine gw_label ?_ | (refine gs_n tyT_ok 0 ?_ (hp := ?hp); case hp => exact ⟨by decide, by decide⟩))
    exact gw_ret ⟨_, [q], [p2], [0, 1], .tmp .nil, ⟨rfl, _, rfl, hv3⟩, rfl, rfl, by decide⟩
/-- The closure of ImageFlip: where a point comes from. -/
theorem flip1_w {x y k d w h : Int} {v1 v2 : Value} {b : Nat} (h1 : 0 ≤ y ∧ y < h) (h2 : h ≤ 20) : Rd Try.prog 138 [.int .i64 x, .int .i64 y, ptr b] [(b, imc k d w h v1 v2)] (.tuple #[.int .i64 x, .int .i64 (h - 1 - y)]) := by
  refine trip_of Try.func138 rfl (by simp [Try.ntmps138]) ?_
  repeat (first | refine gs_n tyT_ok 0 ?_ | refine gs_gn tyT_ok 0 rfl ?_ | refine gs_no rfl ?_ | refine gs_end ?_ | refine gs_end' ?_ | refine gw_seq ?_ | refine gw_text rfl ?_ | refine gw_skip ?_ | refine gw_yes rfl ?_ | refine gw_no rfl ?_ | refine gw_exit ?_ | refine gw_block ?_ | refine gw_label ?_ | (refine gs_n tyT_ok 0 ?_ (hp := ?hp); case hp => exact ⟨by decide, by decide⟩))
  refine gw_any [.N, .N, .L 0, .N, .N, .N, .N, .N] rfl rfl rfl ?_
  repeat (first | refine gs_n tyT_ok 0 ?_ | refine gs_gn tyT_ok 0 rfl ?_ | refine gs_no rfl ?_ | refine gs_l tyT_ok 0 ?_ | refine gs_gl tyT_ok 0 rfl ?_ | (refine gs_l tyT_ok 0 ?_ (hp := ?hp); case hp => exact ⟨rfl, Nat.le_of_ble_eq_true rfl⟩) | (refine gs_gl tyT_ok 0 rfl ?_ (hp := ?hp); case hp => exact ⟨rfl, Nat.le_of_ble_eq_true rfl⟩) | refine gs_end ?_ | refine gs_end' ?_ | refine gw_seq ?_ | refine gw_text rfl ?_ | refine gw_skip ?_ | refine gw_yes rfl ?_ | refine gw_no rfl ?_ | refine gw_exit ?_ | refine gw_block ?_ | refine gw_label ?_ | (refine gs_n tyT_ok 0 ?_ (hp := ?hp); case hp => exact ⟨by decide, by decide⟩))
  exact gw_ret ⟨_, _, [], [0], .tmp (.tmp .nil), ⟨rfl, rfl, rfl⟩, rfl, rfl, by decide⟩
/-- Rows as they come, so many. -/
def rows (W H : Nat) (ps : List Int) (n : Nat) : List Int := (List.range n).flatMap fun y => (List.range W).map fun x => ps.getD ((H - 1 - y) * W + x) 0
theorem rows_succ (W H : Nat) (ps : List Int) (n : Nat) : rows W H ps (n + 1) = rows W H ps n ++ (List.range W).map fun x => ps.getD ((H - 1 - n) * W + x) 0 := by simp [rows, List.range_succ, List.flatMap_append]
theorem rows_len (W H : Nat) (ps : List Int) : ∀ n, (rows W H ps n).length = n * W
  | 0 => by simp [rows]
  | n + 1 => by rw [rows_succ, List.length_append, rows_len W H ps n, List.length_map, List.length_range, Nat.succ_mul]
abbrev zimg : GO := imc 0 0 0 0 (.slice none 0 0) (.slice none 0 0)
set_option maxHeartbeats 1000000 in
theorem made_w {k d : Int} {W H b : Nat} {a1 a2 : Option Addr} {n1 c1 n2 c2 : Nat} {q1 q2 : Nat × GO} {cs ps : List Int} (h1 : LS a1 n1 c1 q1 cs) (h2 : LS a2 n2 c2 q2 ps) (z1 : cs.length ≤ 1000000) (hW : 1 ≤ W ∧ W ≤ 20) (hH : 1 ≤ H ∧ H ≤ 20) (hl : ps.length = W * H) :
    Trip Try.prog 137 [img k d W H (.slice a1 n1 c1) (.slice a2 n2 c2), .int .i64 W, .int .i64 H, .func (.func 138) #[] #[ptr b]] [q1, q2, (b, imc k d W H (.slice a1 n1 c1) (.slice a2 n2 c2))]
      (fun v F' ns => F' = [q1, q2, (b, imc k d W H (.slice a1 n1 c1) (.slice a2 n2 c2))] ∧ ∃ w1 w2 p1 p2, v = img k d W H w1 w2 ∧ ns = [p1, p2] ∧ OI w1 p1 cs ∧ OI w2 p2 (rows W H ps H)) := by
  obtain rfl := h1.1
  obtain rfl := h2.1
  refine trip_of Try.func137 rfl (by simp [Try.ntmps137]) ?_
  refine gw_seq (gw_text rfl ?_)
  refine gs_box fun b4 => ?_
  refine gs_alloc tyT_ok rfl fun b8 => ?_
  refine gs_end ?_
  refine gw_nil ?_
  refine gw_seq (gw_any [.N, .L 3, .N, .L 3, .N, .N, .N, .L 3, .E [0], .N, .A 5 zimg, .E [5]] rfl rfl rfl ?_)
  repeat (first | refine gs_n tyT_ok 0 ?_ | refine gs_gn tyT_ok 0 rfl ?_ | refine gs_no rfl ?_ | refine gs_l tyT_ok 3 ?_ | refine gs_gl tyT_ok 3 rfl ?_ | (refine gs_l tyT_ok 3 ?_ (hp := ?hp); case hp => exact ⟨rfl, Nat.le_of_ble_eq_true rfl⟩) | (refine gs_gl tyT_ok 3 rfl ?_ (hp := ?hp); case hp => exact ⟨rfl, Nat.le_of_ble_eq_true rfl⟩))
  refine gs_call [0] ent192 rfl (by decide) (clone_w h1 (by omega)) fun v F' ns ho _ _ => ?_
  obtain ⟨rfl, p1, rfl, hv1⟩ := ho
  have hv1' := hv1
  obtain ⟨va, vc, rfl, _⟩ := hv1'.ls
  repeat (first | refine gs_n tyT_ok 0 ?_ | refine gs_gn tyT_ok 0 rfl ?_ | refine gs_no rfl ?_)
  refine gs_allocA tyT_ok 5 (r := zimg) rfl rfl rfl (fun b9 => ?_) ⟨rfl, rfl, rfl⟩
  refine gs_store tyT_ok 5 rfl rfl rfl rfl rfl rfl (Nat.le_of_ble_eq_true rfl) (Nat.le_of_ble_eq_true rfl) ?_
  repeat (first | refine gs_n tyT_ok 0 ?_ | refine gs_gn tyT_ok 0 rfl ?_ | refine gs_no rfl ?_ | refine gs_end ?_ | refine gs_end' ?_ | refine gw_seq ?_ | refine gw_text rfl ?_ | refine gw_skip ?_ | refine gw_yes rfl ?_ | refine gw_no rfl ?_ | refine gw_exit ?_ | refine gw_block ?_ | refine gw_label ?_ | (refine gs_n tyT_ok 0 ?_ (hp := ?hp); case hp => exact ⟨by decide, by decide⟩))
  refine gw_nil ?_
  refine gw_loopL (fun _ (x : Nat × Value × (Nat × GO)) => [(0, img k d W H (.slice a1 cs.length c1) (.slice a2 ps.length c2)), (1, .int .i64 W), (2, .int .i64 H), (3, .func (.func 138) #[] #[ptr b]), (4, ptr b4), (8, ptr b8), (9, ptr b9), (24, .int .i64 H), (25, .int .i64 x.1)]) (fun _ x => [q1, q2, (b, imc k d W H (.slice a1 cs.length c1) (.slice a2 ps.length c2)), (b4, imc k d W H (.slice a1 cs.length c1) (.slice a2 ps.length c2)), (b8, zimg), (b9, imc k d W H (.slice va cs.length vc) x.2.1), p1, x.2.2]) (fun r x => x.1 + r = H ∧ OI x.2.1 x.2.2 (rows W H ps x.1)) H (0, .slice none 0 0, (0, .none)) ⟨by simp, OI.nil⟩ rfl ⟨rfl, rfl, rfl, rfl, rfl, rfl, rfl, rfl, rfl, trivial⟩ fun r ⟨y, v, p⟩ e ⟨hy, hv⟩ => ?_
  dsimp only at hy hv ⊢
  have hv' := hv
  obtain ⟨ua, uc, rfl, _⟩ := hv'.ls
  repeat (first | refine gs_n tyT_ok 0 ?_ | refine gs_gn tyT_ok 0 rfl ?_ | refine gs_no rfl ?_ | refine gs_end ?_ | refine gs_end' ?_ | refine gw_seq ?_ | refine gw_text rfl ?_ | refine gw_skip ?_ | refine gw_yes rfl ?_ | refine gw_no rfl ?_ | refine gw_exit ?_ | refine gw_block ?_ | refine gw_label ?_ | (refine gs_n tyT_ok 0 ?_ (hp := ?hp); case hp => exact ⟨by decide, by decide⟩))
  by_cases g1 : y < H
  case neg =>
    obtain rfl : y = H := by omega
    (refine gs_f tyT_ok ?hb ?_; case hb => first | exact decide_eq_false (by omega) | exact congrArg Bool.not (decide_eq_true (by omega)) | (simp; done) | (simp; omega))
    repeat (first | refine gs_n tyT_ok 0 ?_ | refine gs_gn tyT_ok 0 rfl ?_ | refine gs_no rfl ?_ | refine gs_l tyT_ok 5 ?_ | refine gs_gl tyT_ok 5 rfl ?_ | (refine gs_l tyT_ok 5 ?_ (hp := ?hp); case hp => exact ⟨rfl, Nat.le_of_ble_eq_true rfl⟩) | (refine gs_gl tyT_ok 5 rfl ?_ (hp := ?hp); case hp => exact ⟨rfl, Nat.le_of_ble_eq_true rfl⟩) | refine gs_end ?_ | refine gs_end' ?_ | refine gw_seq ?_ | refine gw_text rfl ?_ | refine gw_skip ?_ | refine gw_yes rfl ?_ | refine gw_no rfl ?_ | refine gw_exit ?_ | refine gw_block ?_ | refine gw_label ?_ | (refine gs_n tyT_ok 0 ?_ (hp := ?hp); case hp => exact ⟨by decide, by decide⟩))
    refine gs_store tyT_ok 4 rfl rfl rfl rfl rfl rfl (Nat.le_of_ble_eq_true rfl) (Nat.le_of_ble_eq_true rfl) ?_
    repeat (first | refine gs_n tyT_ok 0 ?_ | refine gs_gn tyT_ok 0 rfl ?_ | refine gs_no rfl ?_ | refine gs_end ?_ | refine gs_end' ?_ | refine gw_seq ?_ | refine gw_text rfl ?_ | refine gw_skip ?_ | refine gw_yes rfl ?_ | refine gw_no rfl ?_ | refine gw_exit ?_ | refine gw_block ?_ | refine gw_label ?_ | (refine gs_n tyT_ok 0 ?_ (hp := ?hp); case hp => exact ⟨by decide, by decide⟩))
    exact gw_ret ⟨_, _, [p1, p], [0, 1, 2, 6, 7], rv_cell tyT_ok 4 rfl rfl rfl rfl rfl (Nat.le_of_ble_eq_true rfl) .nil, ⟨rfl, _, _, p1, p, rfl, rfl, hv1, hv⟩, rfl, rfl, by decide⟩
  (refine gs_t tyT_ok ?hb ?_; case hb => first | exact decide_eq_true (by omega) | exact congrArg Bool.not (decide_eq_false (by omega)) | (simp; done) | (simp; omega))
  repeat (first | refine gs_n tyT_ok 0 ?_ | refine gs_gn tyT_ok 0 rfl ?_ | refine gs_no rfl ?_ | refine gs_end ?_ | refine gs_end' ?_ | refine gw_seq ?_ | refine gw_text rfl ?_ | refine gw_skip ?_ | refine gw_yes rfl ?_ | refine gw_no rfl ?_ | refine gw_exit ?_ | refine gw_block ?_ | refine gw_label ?_ | (refine gs_n tyT_ok 0 ?_ (hp := ?hp); case hp => exact ⟨by decide, by decide⟩))
  refine gw_loopL (fun _ (x : Nat × Value × (Nat × GO)) => [(0, img k d W H (.slice a1 cs.length c1) (.slice a2 ps.length c2)), (1, .int .i64 W), (2, .int .i64 H), (3, .func (.func 138) #[] #[ptr b]), (4, ptr b4), (8, ptr b8), (9, ptr b9), (10, .int .i64 y), (24, .int .i64 H), (25, .int .i64 y), (28, .int .i64 W), (29, .int .i64 x.1)]) (fun _ x => [q1, q2, (b, imc k d W H (.slice a1 cs.length c1) (.slice a2 ps.length c2)), (b4, imc k d W H (.slice a1 cs.length c1) (.slice a2 ps.length c2)), (b8, zimg), (b9, imc k d W H (.slice va cs.length vc) x.2.1), p1, x.2.2]) (fun r x => x.1 + r = W ∧ OI x.2.1 x.2.2 (rows W H ps y ++ (List.range x.1).map fun x => ps.getD ((H - 1 - y) * W + x) 0)) W (0, .slice ua (rows W H ps y).length uc, p) ⟨by simp, by simpa using hv⟩ rfl ⟨rfl, rfl, rfl, rfl, rfl, rfl, rfl, rfl, rfl, rfl, rfl, rfl, trivial⟩ fun r2 ⟨x, v2, p2⟩ e2 ⟨hx, hv2⟩ => ?_
  dsimp only at hx hv2 ⊢
  have hv2' := hv2
  obtain ⟨ua2, uc2, rfl, _⟩ := hv2'.ls
  repeat (first | refine gs_n tyT_ok 0 ?_ | refine gs_gn tyT_ok 0 rfl ?_ | refine gs_no rfl ?_ | refine gs_end ?_ | refine gs_end' ?_ | refine gw_seq ?_ | refine gw_text rfl ?_ | refine gw_skip ?_ | refine gw_yes rfl ?_ | refine gw_no rfl ?_ | refine gw_exit ?_ | refine gw_block ?_ | refine gw_label ?_ | (refine gs_n tyT_ok 0 ?_ (hp := ?hp); case hp => exact ⟨by decide, by decide⟩))
  by_cases g2 : x < W
  case neg =>
    obtain rfl : x = W := by omega
    (refine gs_f tyT_ok ?hb ?_; case hb => first | exact decide_eq_false (by omega) | exact congrArg Bool.not (decide_eq_true (by omega)) | (simp; done) | (simp; omega))
    repeat (first | refine gs_n tyT_ok 0 ?_ | refine gs_gn tyT_ok 0 rfl ?_ | refine gs_no rfl ?_ | refine gs_end ?_ | refine gs_end' ?_ | refine gw_seq ?_ | refine gw_text rfl ?_ | refine gw_skip ?_ | refine gw_yes rfl ?_ | refine gw_no rfl ?_ | refine gw_exit ?_ | refine gw_block ?_ | refine gw_label ?_ | (refine gs_n tyT_ok 0 ?_ (hp := ?hp); case hp => exact ⟨by decide, by decide⟩))
    refine ⟨r - 1, by omega, (y + 1, _, p2), ⟨by show y + 1 + (r - 1) = _; omega, by show OI _ p2 (rows x H ps (y + 1)); rw [rows_succ]; exact hv2⟩, rfl, rfl, rfl, rfl, rfl, rfl, rfl, rfl, rfl, rfl, trivial⟩
  (refine gs_t tyT_ok ?hb ?_; case hb => first | exact decide_eq_true (by omega) | exact congrArg Bool.not (decide_eq_false (by omega)) | (simp; done) | (simp; omega))
  repeat (first | refine gs_n tyT_ok 0 ?_ | refine gs_gn tyT_ok 0 rfl ?_ | refine gs_no rfl ?_ | refine gs_end ?_ | refine gs_end' ?_ | refine gw_seq ?_ | refine gw_text rfl ?_ | refine gw_skip ?_ | refine gw_yes rfl ?_ | refine gw_no rfl ?_ | refine gw_exit ?_ | refine gw_block ?_ | refine gw_label ?_ | (refine gs_n tyT_ok 0 ?_ (hp := ?hp); case hp => exact ⟨by decide, by decide⟩))
  refine gs_rdv [2] rfl ent138 rfl (by decide) (flip1_w ⟨by omega, by omega⟩ (by omega)) ?_
  rw [show (H : Int) - 1 - (y : Int) = ((H - 1 - y : Nat) : Int) by omega]
  obtain ⟨A, hA⟩ : ∃ A, A = H - 1 - y := ⟨_, rfl⟩
  rw [← hA]
  rw [← hA] at hv2
  have hAW : A * W + W ≤ W * H := by
    have := Nat.mul_le_mul_left W (show A + 1 ≤ H by omega)
    rw [Nat.mul_succ, Nat.mul_comm W A] at this
    exact this
  have hWH : W * H ≤ 20 * 20 := Nat.mul_le_mul hW.2 hH.2
  have hk : A * W + x < ps.length := by omega
  have hlen : (rows W H ps y ++ (List.range x).map fun x => ps.getD (A * W + x) 0).length ≤ 1000 := by
    rw [List.length_append, rows_len, List.length_map, List.length_range]
    have := Nat.mul_le_mul_right W (show y + 1 ≤ H by omega)
    rw [Nat.succ_mul, Nat.mul_comm H W] at this
    omega
  obtain ⟨o, ha2, ho⟩ := h2.at hk
  subst ha2
  repeat (first | refine gs_n tyT_ok 0 ?_ | refine gs_gn tyT_ok 0 rfl ?_ | refine gs_no rfl ?_ | refine gs_end ?_ | refine gs_end' ?_ | refine gw_seq ?_ | refine gw_text rfl ?_ | refine gw_skip ?_ | refine gw_label ?_)
  refine gw_any [.N, .L 5, .N, .L 3, .N, .N, .L 3, .N, .N, .N, .N, .L 1, .E [], .E [7, 8], .N, .E [5]] rfl rfl rfl ?_
  repeat (first | refine gs_n tyT_ok 0 ?_ | refine gs_gn tyT_ok 0 rfl ?_ | refine gs_no rfl ?_ | refine gs_l tyT_ok 3 ?_ | refine gs_gl tyT_ok 3 rfl ?_ | (refine gs_l tyT_ok 3 ?_ (hp := ?hp); case hp => exact ⟨rfl, Nat.le_of_ble_eq_true rfl⟩) | (refine gs_gl tyT_ok 3 rfl ?_ (hp := ?hp); case hp => exact ⟨rfl, Nat.le_of_ble_eq_true rfl⟩) | refine gs_l tyT_ok 5 ?_ | refine gs_gl tyT_ok 5 rfl ?_ | (refine gs_l tyT_ok 5 ?_ (hp := ?hp); case hp => exact ⟨rfl, Nat.le_of_ble_eq_true rfl⟩) | (refine gs_gl tyT_ok 5 rfl ?_ (hp := ?hp); case hp => exact ⟨rfl, Nat.le_of_ble_eq_true rfl⟩))
  refine gs_at 1 tyT_ok rfl rfl rfl rfl ho ?_
  refine gs_push 7 rfl rfl hv2 (fun _ => rfl) (by omega) fun b10 ua3 uc3 p3 hv3 => ?_
  repeat (first | refine gs_n tyT_ok 0 ?_ | refine gs_gn tyT_ok 0 rfl ?_ | refine gs_no rfl ?_)
  refine gs_store tyT_ok 5 rfl rfl rfl rfl rfl rfl (Nat.le_of_ble_eq_true rfl) (Nat.le_of_ble_eq_true rfl) ?_
  refine gs_end' ?_
  refine gw_weak [0, 1, 2, 3, 4, 5, 6, 7] (by decide) rfl ?_
  repeat (first | refine gs_n tyT_ok 0 ?_ | refine gs_gn tyT_ok 0 rfl ?_ | refine gs_no rfl ?_ | refine gs_end ?_ | refine gs_end' ?_ | refine gw_seq ?_ | refine gw_text rfl ?_ | refine gw_skip ?_ | refine gw_yes rfl ?_ | refine gw_no rfl ?_ | refine gw_exit ?_ | refine gw_block ?_ | refine gw_label ?_ | (refine gs_n tyT_ok 0 ?_ (hp := ?hp); case hp => exact ⟨by decide, by decide⟩))
  refine ⟨r2 - 1, by omega, (x + 1, _, p3), ⟨by show x + 1 + (r2 - 1) = _; omega, ?_⟩, rfl, rfl, rfl, rfl, rfl, rfl, rfl, rfl, rfl, rfl, rfl, rfl, rfl, trivial⟩
  show OI _ p3 (rows W H ps y ++ (List.range (x + 1)).map fun x => ps.getD (A * W + x) 0)
  rw [List.range_succ, List.map_append, ← List.append_assoc]
  exact hv3
theorem imageFlip_w {k d w h : Int} {a1 a2 : Option Addr} {n1 c1 n2 c2 : Nat} {q1 q2 : Nat × GO} {cs ps : List Int} (h1 : LS a1 n1 c1 q1 cs) (h2 : LS a2 n2 c2 q2 ps) (z1 : cs.length ≤ 1000000) (z2 : ps.length ≤ 1000000) (hok : imgOk k d w h cs ps) :
    Trip Try.prog 49 [img k d w h (.slice a1 n1 c1) (.slice a2 n2 c2)] [q1, q2] (fun v F' ns => F' = [q1, q2] ∧ ∃ w1 w2 p1 p2, v = img k d w h w1 w2 ∧ ns = [p1, p2] ∧ OI w1 p1 cs ∧ OI w2 p2 (rows w.toNat h.toNat ps h.toNat)) := by
  obtain ⟨W, rfl⟩ := Int.eq_ofNat_of_zero_le (show 0 ≤ w by have := hok.2.1; omega)
  obtain ⟨H, rfl⟩ := Int.eq_ofNat_of_zero_le (show 0 ≤ h by have := hok.2.2.1; omega)
  simp only [Int.toNat_natCast]
  refine trip_of Try.func49 rfl (by simp [Try.ntmps49]) ?_
  refine gw_seq (gw_text rfl ?_)
  refine gs_box fun b => ?_
  refine gs_alloc tyT_ok rfl fun b2 => ?_
  repeat (first | refine gs_n tyT_ok 0 ?_ | refine gs_gn tyT_ok 0 rfl ?_ | refine gs_no rfl ?_ | refine gs_l tyT_ok 2 ?_ | refine gs_gl tyT_ok 2 rfl ?_ | (refine gs_l tyT_ok 2 ?_ (hp := ?hp); case hp => exact ⟨rfl, Nat.le_of_ble_eq_true rfl⟩) | (refine gs_gl tyT_ok 2 rfl ?_ (hp := ?hp); case hp => exact ⟨rfl, Nat.le_of_ble_eq_true rfl⟩) | refine gs_end ?_ | refine gs_end' ?_ | refine gw_seq ?_ | refine gw_text rfl ?_ | refine gw_skip ?_ | refine gw_yes rfl ?_ | refine gw_no rfl ?_ | refine gw_exit ?_ | refine gw_block ?_ | refine gw_label ?_ | (refine gs_n tyT_ok 0 ?_ (hp := ?hp); case hp => exact ⟨by decide, by decide⟩))
  refine gs_rd [0, 1] ent47 rfl (by decide) (imageOk_w h1 h2 (by omega) (by omega)) ?_
  rw [decide_eq_true hok]
  repeat (first | refine gs_n tyT_ok 0 ?_ | refine gs_gn tyT_ok 0 rfl ?_ | refine gs_no rfl ?_ | refine gs_l tyT_ok 2 ?_ | refine gs_gl tyT_ok 2 rfl ?_ | (refine gs_l tyT_ok 2 ?_ (hp := ?hp); case hp => exact ⟨rfl, Nat.le_of_ble_eq_true rfl⟩) | (refine gs_gl tyT_ok 2 rfl ?_ (hp := ?hp); case hp => exact ⟨rfl, Nat.le_of_ble_eq_true rfl⟩) | refine gs_end ?_ | refine gs_end' ?_ | refine gw_seq ?_ | refine gw_text rfl ?_ | refine gw_skip ?_ | refine gw_yes rfl ?_ | refine gw_no rfl ?_ | refine gw_exit ?_ | refine gw_block ?_ | refine gw_label ?_ | (refine gs_n tyT_ok 0 ?_ (hp := ?hp); case hp => exact ⟨by decide, by decide⟩))
  have g1 := hok.2.1
  have g2 := hok.2.2.1
  have g3 := hok.2.2.2.1
  have hWH : W * H ≤ 20 * 20 := Nat.mul_le_mul (by omega) (by omega)
  refine gs_call [0, 1, 2] ent137 rfl (by decide) (made_w h1 h2 z1 (by omega) (by omega) (by rw [← Int.natCast_mul] at g3; omega)) fun v F' ns ho _ _ => ?_
  obtain ⟨rfl, w1, w2, p1, p2, rfl, rfl, hv1, hv2⟩ := ho
  have hv1' := hv1
  have hv2' := hv2
  obtain ⟨ua, uc, rfl, _⟩ := hv1'.ls
  obtain ⟨ua2, uc2, rfl, _⟩ := hv2'.ls
  refine gs_store tyT_ok 3 rfl rfl rfl rfl rfl rfl (Nat.le_of_ble_eq_true rfl) (Nat.le_of_ble_eq_true rfl) ?_
  repeat (first | refine gs_n tyT_ok 0 ?_ | refine gs_gn tyT_ok 0 rfl ?_ | refine gs_no rfl ?_ | refine gs_end ?_ | refine gs_end' ?_ | refine gw_seq ?_ | refine gw_text rfl ?_ | refine gw_skip ?_ | refine gw_yes rfl ?_ | refine gw_no rfl ?_ | refine gw_exit ?_ | refine gw_block ?_ | refine gw_label ?_ | (refine gs_n tyT_ok 0 ?_ (hp := ?hp); case hp => exact ⟨by decide, by decide⟩))
  exact gw_ret ⟨_, [q1, q2], [p1, p2], [0, 1, 4, 5], rv_cell tyT_ok 3 rfl rfl rfl rfl rfl (Nat.le_of_ble_eq_true rfl) .nil, ⟨rfl, _, _, p1, p2, rfl, rfl, hv1, hv2⟩, rfl, rfl, by decide⟩
end Go.Proofs.Ytjefdcbljpkmlaa.G
end
