/- BMP: spec l7Row, l11Rows, l11Below. -/
import Derived.Test.YtjefdcbljpkmlaaBa
set_option linter.unusedVariables false
set_option maxRecDepth 10000
namespace Go.Proofs.Ytjefdcbljpkmlaa.G
open Go
/-- A row packed by runs of at most 255. -/
def r8F (l : List Int) : Nat → Nat → List Int → List Int
  | 0, _, out => out
  | f + 1, a, out => if a < l.length then r8F l f (a + min 255 (sm l a)) (out ++ [((min 255 (sm l a) : Nat) : Int), l.getD a 0]) else out
def r8 (l : List Int) : List Int := r8F l l.length 0 []
theorem r8F_stop {l : List Int} {a : Nat} {out : List Int} (h : ¬ a < l.length) : ∀ f, r8F l f a out = out
  | 0 => rfl
  | f + 1 => if_neg h
theorem r8F_step {l : List Int} {a f : Nat} {out : List Int} (h : a < l.length) : r8F l (f + 1) a out = r8F l f (a + min 255 (sm l a)) (out ++ [((min 255 (sm l a) : Nat) : Int), l.getD a 0]) := if_pos h
theorem r8F_len {l : List Int} : ∀ (f a : Nat) (out : List Int), a ≤ l.length → out.length ≤ 2 * a → (r8F l f a out).length ≤ 2 * l.length
  | 0, a, out, h1, h2 => by simp only [r8F]; omega
  | f + 1, a, out, h1, h2 => by
    by_cases h : a < l.length
    · rw [r8F_step h]
      have hk := sm_le h
      refine r8F_len f _ _ (by omega) ?_
      rw [List.length_append]
      simp only [List.length_cons, List.length_nil]
      omega
    · rw [r8F_stop h]
      omega
theorem r8_len (l : List Int) : (r8 l).length ≤ 2 * l.length := r8F_len _ _ _ (by omega) (by simp)
set_option maxHeartbeats 1000000 in
theorem l7Row_w {a1 : Option Addr} {n1 c1 : Nat} {q1 : Nat × GO} {l : List Int} (h1 : LS a1 n1 c1 q1 l) (hf : ∀ x ∈ l, 0 ≤ x ∧ x ≤ 255) (hl : l.length ≤ 1000) :
    Rd Try.prog 194 [.slice a1 n1 c1] [q1] (.string (txt (r8 l))) := by
  obtain rfl := h1.1
  refine trip_of Try.func194 rfl (by simp [Try.ntmps194]) ?_
  repeat (first | refine gs_n tyT_ok 0 ?_ | refine gs_gn tyT_ok 0 rfl ?_ | refine gs_no rfl ?_ | refine gs_end ?_ | refine gs_end' ?_ | refine gw_seq ?_ | refine gw_text rfl ?_ | refine gw_skip ?_ | refine gw_yes rfl ?_ | refine gw_no rfl ?_ | refine gw_exit ?_ | refine gw_block ?_ | refine gw_label ?_ | (refine gs_n tyT_ok 0 ?_ (hp := ?hp); case hp => exact ⟨by decide, by decide⟩))
  refine gw_loopL (fun _ (x : Nat × List Int) => [(0, .slice a1 l.length c1), (3, .string (txt x.2)), (4, .int .i64 x.1)]) (fun _ _ => [q1]) (fun m x => r8F l m x.1 x.2 = r8 l ∧ x.1 ≤ l.length ∧ l.length ≤ x.1 + m ∧ x.2.length ≤ 2 * x.1) l.length (0, []) ⟨rfl, by omega, by simp, by simp⟩ rfl ⟨rfl, rfl, rfl, trivial⟩ fun m ⟨a, out⟩ e ⟨hm, h2, h3, h4⟩ => ?_
  dsimp only at hm h2 h3 h4 ⊢
  repeat (first | refine gs_n tyT_ok 0 ?_ | refine gs_gn tyT_ok 0 rfl ?_ | refine gs_no rfl ?_ | refine gs_end ?_ | refine gs_end' ?_ | refine gw_seq ?_ | refine gw_text rfl ?_ | refine gw_skip ?_ | refine gw_yes rfl ?_ | refine gw_no rfl ?_ | refine gw_exit ?_ | refine gw_block ?_ | refine gw_label ?_ | (refine gs_n tyT_ok 0 ?_ (hp := ?hp); case hp => exact ⟨by decide, by decide⟩))
  by_cases k1 : a < l.length
  case neg =>
    have hp : r8 l = out := by rw [← hm, r8F_stop k1]
    rw [hp]
    (refine gs_f tyT_ok ?hb ?_; case hb => first | exact decide_eq_false (by omega) | exact congrArg Bool.not (decide_eq_true (by omega)) | (simp; done) | (simp; omega))
    repeat (first | refine gs_n tyT_ok 0 ?_ | refine gs_gn tyT_ok 0 rfl ?_ | refine gs_no rfl ?_ | refine gs_end ?_ | refine gs_end' ?_ | refine gw_seq ?_ | refine gw_text rfl ?_ | refine gw_skip ?_ | refine gw_yes rfl ?_ | refine gw_no rfl ?_ | refine gw_exit ?_ | refine gw_block ?_ | refine gw_label ?_ | (refine gs_n tyT_ok 0 ?_ (hp := ?hp); case hp => exact ⟨by decide, by decide⟩))
    exact gw_ret ⟨_, _, [], [0], .tmp .nil, ⟨rfl, rfl, rfl⟩, rfl, rfl, by decide⟩
  (refine gs_t tyT_ok ?hb ?_; case hb => first | exact decide_eq_true (by omega) | exact congrArg Bool.not (decide_eq_false (by omega)) | (simp; done) | (simp; omega))
  repeat (first | refine gs_n tyT_ok 0 ?_ | refine gs_gn tyT_ok 0 rfl ?_ | refine gs_no rfl ?_ | refine gs_end ?_ | refine gs_end' ?_ | refine gw_seq ?_ | refine gw_text rfl ?_ | refine gw_skip ?_ | refine gw_yes rfl ?_ | refine gw_no rfl ?_ | refine gw_exit ?_ | refine gw_block ?_ | refine gw_label ?_ | (refine gs_n tyT_ok 0 ?_ (hp := ?hp); case hp => exact ⟨by decide, by decide⟩))
  obtain ⟨m', rfl⟩ : ∃ m', m = m' + 1 := ⟨m - 1, by omega⟩
  rw [r8F_step k1] at hm
  have hsm := sm_le k1
  obtain ⟨o, rfl, ho⟩ := h1.at k1
  have hx := hf (l.getD a 0) (by rw [List.getD_eq_getElem?_getD, List.getElem?_eq_getElem k1]; exact List.getElem_mem k1)
  refine gs_rd [0] ent214 rfl (by decide) (l7Equal_w (most := 255) h1 (by omega) k1 (by omega)) ?_
  obtain ⟨N, hN, hN2⟩ : ∃ N, N = min 255 (sm l a) ∧ 1 ≤ N ∧ N ≤ 255 ∧ a + N ≤ l.length := ⟨_, rfl, by omega, by omega, by omega⟩
  rw [← hN] at hm ⊢
  repeat (first | refine gs_n tyT_ok 0 ?_ | refine gs_gn tyT_ok 0 rfl ?_ | refine gs_no rfl ?_ | refine gs_end ?_ | refine gs_end' ?_ | refine gw_seq ?_ | refine gw_text rfl ?_ | refine gw_skip ?_ | refine gw_yes rfl ?_ | refine gw_no rfl ?_ | refine gw_exit ?_ | refine gw_block ?_ | refine gw_label ?_ | (refine gs_n tyT_ok 0 ?_ (hp := ?hp); case hp => exact ⟨by decide, by decide⟩))
  refine gs_at 0 tyT_ok rfl rfl rfl rfl ho ?_
  repeat (first | refine gs_n tyT_ok 0 ?_ | refine gs_gn tyT_ok 0 rfl ?_ | refine gs_no rfl ?_)
  refine gs_lit tyT_ok (cs := bytesV [(N : Int), l.getD a 0]) rfl rfl rfl (by decide) rfl fun b => ?_
  refine gs_txt 1 (xs := [(N : Int), l.getD a 0]) rfl rfl rfl ?_
  refine gs_cat (a := out) (b := [(N : Int), l.getD a 0]) rfl rfl (by simp; omega) ?_
  repeat (first | refine gs_n tyT_ok 0 ?_ | refine gs_gn tyT_ok 0 rfl ?_ | refine gs_no rfl ?_)
  refine gs_end ?_
  refine gw_weak [0] (by decide) rfl ?_
  repeat (first | refine gs_n tyT_ok 0 ?_ | refine gs_gn tyT_ok 0 rfl ?_ | refine gs_no rfl ?_ | refine gs_end ?_ | refine gs_end' ?_ | refine gw_seq ?_ | refine gw_text rfl ?_ | refine gw_skip ?_ | refine gw_yes rfl ?_ | refine gw_no rfl ?_ | refine gw_exit ?_ | refine gw_block ?_ | refine gw_label ?_ | (refine gs_n tyT_ok 0 ?_ (hp := ?hp); case hp => exact ⟨by decide, by decide⟩))
  exact ⟨m', by omega, (a + N, out ++ [(N : Int), l.getD a 0]), ⟨hm, by show a + N ≤ _; omega, by show l.length ≤ a + N + m'; omega, by simp; omega⟩, rfl, rfl, rfl, rfl, trivial⟩
/-- The rows of a picture from below, each with what fills it up to fours. -/
def rowsB (W H z : Nat) (ps : List Int) : Nat → List Int
  | 0 => []
  | n + 1 => rowsB W H z ps n ++ les z (seg ps ((H - 1 - n) * W) W) ++ List.replicate ((4 - W * z % 4) % 4) 0
theorem rowsB_len {W H z : Nat} {ps : List Int} (hl : ps.length = W * H) : ∀ n, n ≤ H → (rowsB W H z ps n).length = n * (W * z + (4 - W * z % 4) % 4)
  | 0, _ => by simp [rowsB]
  | n + 1, h => by
    have ih := rowsB_len (z := z) hl n (by omega)
    have hs : (seg ps ((H - 1 - n) * W) W).length = W := seg_len (by
      rw [hl, Nat.mul_comm W H]
      have := Nat.mul_le_mul_right W (show H - 1 - n + 1 ≤ H by omega)
      rw [Nat.succ_mul] at this
      exact this)
    rw [rowsB, List.length_append, List.length_append, ih, les_len, hs, List.length_replicate, Nat.succ_mul]
    omega
set_option maxHeartbeats 1000000 in
theorem l11Rows_w {k d : Int} {W H z : Nat} {a1 a2 : Option Addr} {n1 c1 n2 c2 : Nat} {q : Nat × GO} {ps : List Int} (h2 : LS a2 n2 c2 q ps) (hs : small ps) (hl : ps.length = W * H) (hW : 1 ≤ W ∧ W ≤ 20) (hH : 1 ≤ H ∧ H ≤ 20) (hd : d / 8 = (z : Int)) (hd0 : 0 ≤ d ∧ d ≤ 64) (hz : z ≤ 4) :
    Rd Try.prog 140 [img k d W H (.slice a1 n1 c1) (.slice a2 n2 c2)] [q] (.string (txt (rowsB W H z ps H))) := by
  obtain rfl := h2.1
  have hWH : W * H ≤ 20 * 20 := Nat.mul_le_mul hW.2 hH.2
  refine trip_of Try.func140 rfl (by simp [Try.ntmps140]) ?_
  refine gw_seq (gw_text rfl ?_)
  refine gs_box fun b => ?_
  repeat (first | refine gs_n tyT_ok 0 ?_ | refine gs_gn tyT_ok 0 rfl ?_ | refine gs_no rfl ?_ | refine gs_l tyT_ok 1 ?_ | refine gs_gl tyT_ok 1 rfl ?_ | (refine gs_l tyT_ok 1 ?_ (hp := ?hp); case hp => exact ⟨rfl, Nat.le_of_ble_eq_true rfl⟩) | (refine gs_gl tyT_ok 1 rfl ?_ (hp := ?hp); case hp => exact ⟨rfl, Nat.le_of_ble_eq_true rfl⟩) | refine gs_end ?_ | refine gs_end' ?_ | refine gw_seq ?_ | refine gw_text rfl ?_ | refine gw_skip ?_ | refine gw_yes rfl ?_ | refine gw_no rfl ?_ | refine gw_exit ?_ | refine gw_block ?_ | refine gw_label ?_ | (refine gs_n tyT_ok 0 ?_ (hp := ?hp); case hp => exact ⟨by decide, by decide⟩))
  refine gw_loopL (fun m (_ : Unit) => [(1, ptr b), (3, .string (txt (rowsB W H z ps (H - m)))), (4, .int .i64 ((m : Int) - 1))]) (fun _ _ => [q, (b, imc k d W H (.slice a1 n1 c1) (.slice a2 ps.length c2))]) (fun m _ => m ≤ H) H () (Nat.le_refl _) rfl ⟨rfl, by rw [Nat.sub_self]; rfl, rfl, trivial⟩ fun m _ e hm => ?_
  repeat (first | refine gs_n tyT_ok 0 ?_ | refine gs_gn tyT_ok 0 rfl ?_ | refine gs_no rfl ?_ | refine gs_end ?_ | refine gs_end' ?_ | refine gw_seq ?_ | refine gw_text rfl ?_ | refine gw_skip ?_ | refine gw_yes rfl ?_ | refine gw_no rfl ?_ | refine gw_exit ?_ | refine gw_block ?_ | refine gw_label ?_ | (refine gs_n tyT_ok 0 ?_ (hp := ?hp); case hp => exact ⟨by decide, by decide⟩))
  by_cases k1 : m = 0
  · subst k1
    (refine gs_f tyT_ok ?hb ?_; case hb => first | exact decide_eq_false (by omega) | exact congrArg Bool.not (decide_eq_true (by omega)) | (simp; done) | (simp; omega))
    repeat (first | refine gs_n tyT_ok 0 ?_ | refine gs_gn tyT_ok 0 rfl ?_ | refine gs_no rfl ?_ | refine gs_end ?_ | refine gs_end' ?_ | refine gw_seq ?_ | refine gw_text rfl ?_ | refine gw_skip ?_ | refine gw_yes rfl ?_ | refine gw_no rfl ?_ | refine gw_exit ?_ | refine gw_block ?_ | refine gw_label ?_ | (refine gs_n tyT_ok 0 ?_ (hp := ?hp); case hp => exact ⟨by decide, by decide⟩))
    exact gw_ret ⟨_, _, [], [0], .tmp .nil, ⟨rfl, rfl, rfl⟩, rfl, rfl, by decide⟩
  obtain ⟨y, rfl⟩ : ∃ y, m = y + 1 := ⟨m - 1, by omega⟩
  rw [show (((y + 1 : Nat) : Int) - 1) = (y : Int) by omega]
  (refine gs_t tyT_ok ?hb ?_; case hb => first | exact decide_eq_true (by omega) | exact congrArg Bool.not (decide_eq_false (by omega)) | (simp; done) | (simp; omega))
  repeat (first | refine gs_n tyT_ok 0 ?_ | refine gs_gn tyT_ok 0 rfl ?_ | refine gs_no rfl ?_ | refine gs_end ?_ | refine gs_end' ?_ | refine gw_seq ?_ | refine gw_text rfl ?_ | refine gw_skip ?_ | refine gw_yes rfl ?_ | refine gw_no rfl ?_ | refine gw_exit ?_ | refine gw_block ?_ | refine gw_label ?_ | (refine gs_n tyT_ok 0 ?_ (hp := ?hp); case hp => exact ⟨by decide, by decide⟩))
  have hyW : y * W + W ≤ ps.length := by
    rw [hl, Nat.mul_comm W H]
    have := Nat.mul_le_mul_right W (show y + 1 ≤ H by omega)
    rw [Nat.succ_mul] at this
    exact this
  have hsl : (seg ps (y * W) W).length = W := seg_len hyW
  have hc : (y : Int) * (W : Int) = ((y * W : Nat) : Int) := by simp
  have hm0 : 0 ≤ (y : Int) * (W : Int) ∧ (y : Int) * (W : Int) ≤ 400 := by rw [hc]; omega
  have hout : (rowsB W H z ps (H - (y + 1))).length ≤ 20 * (20 * 4 + 3) := by
    rw [rowsB_len hl _ (by omega)]
    refine Nat.mul_le_mul (by omega) ?_
    have := Nat.mul_le_mul hW.2 hz
    omega
  have hstep : rowsB W H z ps (H - y) = rowsB W H z ps (H - (y + 1)) ++ les z (seg ps (y * W) W) ++ List.replicate ((4 - W * z % 4) % 4) 0 := by
    rw [show H - y = H - (y + 1) + 1 by omega, rowsB, show H - 1 - (H - (y + 1)) = y by omega]
  generalize rowsB W H z ps (H - (y + 1)) = out at hout hstep ⊢
  have hss : small (seg ps (y * W) W) := fun x hx => hs x (seg_mem hx)
  refine gw_loopL (fun _ (j : Nat) => [(1, ptr b), (3, .string (txt out)), (4, .int .i64 y), (5, .string (txt (les z ((seg ps (y * W) W).take j)))), (6, .int .i64 j)]) (fun _ _ => [q, (b, imc k d W H (.slice a1 n1 c1) (.slice a2 ps.length c2))]) (fun m j => j + m = W) W 0 (by omega) rfl ⟨rfl, rfl, rfl, rfl, rfl, trivial⟩ fun m2 j e hj => ?_
  repeat (first | refine gs_n tyT_ok 0 ?_ | refine gs_gn tyT_ok 0 rfl ?_ | refine gs_no rfl ?_ | refine gs_l tyT_ok 1 ?_ | refine gs_gl tyT_ok 1 rfl ?_ | (refine gs_l tyT_ok 1 ?_ (hp := ?hp); case hp => exact ⟨rfl, Nat.le_of_ble_eq_true rfl⟩) | (refine gs_gl tyT_ok 1 rfl ?_ (hp := ?hp); case hp => exact ⟨rfl, Nat.le_of_ble_eq_true rfl⟩) | refine gs_end ?_ | refine gs_end' ?_ | refine gw_seq ?_ | refine gw_text rfl ?_ | refine gw_skip ?_ | refine gw_yes rfl ?_ | refine gw_no rfl ?_ | refine gw_exit ?_ | refine gw_block ?_ | refine gw_label ?_ | (refine gs_n tyT_ok 0 ?_ (hp := ?hp); case hp => exact ⟨by decide, by decide⟩))
  by_cases k3 : j < W
  · (refine gs_t tyT_ok ?hb ?_; case hb => first | exact decide_eq_true (by omega) | exact congrArg Bool.not (decide_eq_false (by omega)) | (simp; done) | (simp; omega))
    obtain ⟨o2, rfl, ho2⟩ := h2.at (k := y * W + j) (by omega)
    have hgj : (seg ps (y * W) W).getD j 0 = ps.getD (y * W + j) 0 := by
      unfold seg
      rw [List.getD_eq_getElem?_getD, List.getElem?_take_of_lt k3, List.getElem?_drop, ← List.getD_eq_getElem?_getD]
    have hx := hss ((seg ps (y * W) W).getD j 0) (by rw [List.getD_eq_getElem?_getD, List.getElem?_eq_getElem (by omega)]; exact List.getElem_mem _)
    obtain ⟨x, hX⟩ := Int.eq_ofNat_of_zero_le hx.1
    have htk := les_take z (seg ps (y * W) W) (i := j) (by omega)
    have hlen := les_take_len z (seg ps (y * W) W) j hz (by omega)
    rw [hX] at htk hx
    rw [← hgj, hX] at ho2
    repeat (first | refine gs_n tyT_ok 0 ?_ | refine gs_gn tyT_ok 0 rfl ?_ | refine gs_no rfl ?_ | refine gs_l tyT_ok 1 ?_ | refine gs_gl tyT_ok 1 rfl ?_ | (refine gs_l tyT_ok 1 ?_ (hp := ?hp); case hp => exact ⟨rfl, Nat.le_of_ble_eq_true rfl⟩) | (refine gs_gl tyT_ok 1 rfl ?_ (hp := ?hp); case hp => exact ⟨rfl, Nat.le_of_ble_eq_true rfl⟩) | refine gs_end ?_ | refine gs_end' ?_ | refine gw_seq ?_ | refine gw_text rfl ?_ | refine gw_skip ?_ | refine gw_yes rfl ?_ | refine gw_no rfl ?_ | refine gw_exit ?_ | refine gw_block ?_ | refine gw_label ?_ | (refine gs_n tyT_ok 0 ?_ (hp := ?hp); case hp => exact ⟨by decide, by decide⟩))
    refine gw_any [.N, .N, .L 1, .N, .N, .L 1, .N, .N, .N, .N, .L 0, .N, .L 1, .N, .E [], .N, .N] rfl rfl rfl ?_
    repeat (first | refine gs_n tyT_ok 0 ?_ | refine gs_gn tyT_ok 0 rfl ?_ | refine gs_no rfl ?_ | refine gs_l tyT_ok 1 ?_ | refine gs_gl tyT_ok 1 rfl ?_ | (refine gs_l tyT_ok 1 ?_ (hp := ?hp); case hp => exact ⟨rfl, Nat.le_of_ble_eq_true rfl⟩) | (refine gs_gl tyT_ok 1 rfl ?_ (hp := ?hp); case hp => exact ⟨rfl, Nat.le_of_ble_eq_true rfl⟩))
    rw [hc, show ((y * W : Nat) : Int) + (j : Int) = ((y * W + j : Nat) : Int) by omega]
    repeat (first | refine gs_n tyT_ok 0 ?_ | refine gs_gn tyT_ok 0 rfl ?_ | refine gs_no rfl ?_ | refine gs_l tyT_ok 1 ?_ | refine gs_gl tyT_ok 1 rfl ?_ | (refine gs_l tyT_ok 1 ?_ (hp := ?hp); case hp => exact ⟨rfl, Nat.le_of_ble_eq_true rfl⟩) | (refine gs_gl tyT_ok 1 rfl ?_ (hp := ?hp); case hp => exact ⟨rfl, Nat.le_of_ble_eq_true rfl⟩))
    refine gs_at 0 tyT_ok rfl rfl rfl rfl ho2 ?_
    repeat (first | refine gs_n tyT_ok 0 ?_ | refine gs_gn tyT_ok 0 rfl ?_ | refine gs_no rfl ?_ | refine gs_l tyT_ok 1 ?_ | refine gs_gl tyT_ok 1 rfl ?_ | (refine gs_l tyT_ok 1 ?_ (hp := ?hp); case hp => exact ⟨rfl, Nat.le_of_ble_eq_true rfl⟩) | (refine gs_gl tyT_ok 1 rfl ?_ (hp := ?hp); case hp => exact ⟨rfl, Nat.le_of_ble_eq_true rfl⟩))
    rw [hd]
    refine gs_pu ent143 (l1Num_w x z hz (by omega)) ?_
    refine gs_cat (a := les z ((seg ps (y * W) W).take j)) (b := le x z) rfl rfl (by rw [le_len]; omega) ?_
    rw [show le x z = le ((x : Int)).toNat z from rfl, ← htk]
    repeat (first | refine gs_n tyT_ok 0 ?_ | refine gs_gn tyT_ok 0 rfl ?_ | refine gs_no rfl ?_ | refine gs_end ?_ | refine gs_end' ?_ | refine gw_seq ?_ | refine gw_text rfl ?_ | refine gw_skip ?_ | refine gw_yes rfl ?_ | refine gw_no rfl ?_ | refine gw_exit ?_ | refine gw_block ?_ | refine gw_label ?_ | (refine gs_n tyT_ok 0 ?_ (hp := ?hp); case hp => exact ⟨by decide, by decide⟩))
    exact ⟨m2 - 1, by omega, j + 1, by omega, rfl, rfl, rfl, rfl, rfl, rfl, trivial⟩
  obtain rfl : j = W := by omega
  (refine gs_f tyT_ok ?hb ?_; case hb => first | exact decide_eq_false (by omega) | exact congrArg Bool.not (decide_eq_true (by omega)) | (simp; done) | (simp; omega))
  rw [List.take_of_length_le (by omega)]
  have hll : (les z (seg ps (y * j) j)).length = j * z := by rw [les_len, hsl]
  have hjz := Nat.mul_le_mul hW.2 hz
  repeat (first | refine gs_n tyT_ok 0 ?_ | refine gs_gn tyT_ok 0 rfl ?_ | refine gs_no rfl ?_ | refine gs_end ?_ | refine gs_end' ?_ | refine gw_seq ?_ | refine gw_text rfl ?_ | refine gw_skip ?_ | refine gw_yes rfl ?_ | refine gw_no rfl ?_ | refine gw_exit ?_ | refine gw_block ?_ | refine gw_label ?_ | (refine gs_n tyT_ok 0 ?_ (hp := ?hp); case hp => exact ⟨by decide, by decide⟩))
  refine gs_cat (a := out) (b := les z (seg ps (y * j) j)) rfl rfl (by omega) ?_
  refine gs_n tyT_ok 0 ?_
  refine gs_n tyT_ok 0 ?_
  rw [txt_size, hll]
  refine gs_pu ent193 (l11Pad_w (n := j * z) (by omega)) ?_
  refine gs_cat (a := out ++ les z (seg ps (y * j) j)) (b := List.replicate ((4 - j * z % 4) % 4) 0) rfl rfl (by rw [List.length_append, List.length_replicate]; omega) ?_
  rw [← hstep]
  repeat (first | refine gs_n tyT_ok 0 ?_ | refine gs_gn tyT_ok 0 rfl ?_ | refine gs_no rfl ?_ | refine gs_end ?_ | refine gs_end' ?_ | refine gw_seq ?_ | refine gw_text rfl ?_ | refine gw_skip ?_ | refine gw_yes rfl ?_ | refine gw_no rfl ?_ | refine gw_exit ?_ | refine gw_block ?_ | refine gw_label ?_ | (refine gs_n tyT_ok 0 ?_ (hp := ?hp); case hp => exact ⟨by decide, by decide⟩))
  exact ⟨y, by omega, (), by omega, rfl, rfl, rfl, rfl, trivial⟩
end Go.Proofs.Ytjefdcbljpkmlaa.G
