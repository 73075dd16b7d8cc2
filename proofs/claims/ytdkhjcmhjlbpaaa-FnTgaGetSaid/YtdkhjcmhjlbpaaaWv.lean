/- TgaPut of both texts. -/
import Derived.Test.YtdkhjcmhjlbpaaaWt
import Derived.Test.YtdkhjcmhjlbpaaaWu
import Derived.Test.YtdkhjcmhjlbpaaaLb
import Derived.Test.YtdkhjcmhjlbpaaaMg
set_option linter.unusedVariables false
set_option maxRecDepth 10000
namespace Go.Proofs.Ytdkhjcmhjlbpaaa.G
open Go
def tHas (cs : List Int) : Int := if cs = [] then 0 else 1
def tBits (cs : List Int) : Int := if cs = [] then 0 else 24
def tLast (k : Int) : Int := if k = 3 then 40 else 32
def tData (k d : Int) (ps : List Int) (runs : Bool) : List Int := if runs then pack (ps.map (rol k)) (d / 8).toNat else les (d / 8).toNat (ps.map (rol k))
def tgaL (k d w h : Int) (cs ps : List Int) (runs : Bool) : List Int := [0, tHas cs, tT k d + (if runs then 8 else 0)] ++ les 2 [0, cs.length] ++ [tBits cs, 0, 0, 0, 0] ++ les 2 [w, h] ++ [d, tLast k] ++ les 3 cs ++ tData k d ps runs
/-- A picture as a TGA. -/
def tgaPut (k d w h : Int) (cs ps : List Int) (runs : Bool) : List Int := if imgOk k d w h cs ps ∧ tT k d ≠ 0 then tgaL k d w h cs ps runs else []
theorem rol_fits {k d w h : Int} {cs ps : List Int} (hok : imgOk k d w h cs ps) (ht : tT k d ≠ 0) : ∃ z : Nat, d = 8 * (z : Int) ∧ (d / 8).toNat = z ∧ 1 ≤ z ∧ z ≤ 4 ∧ small ps ∧ fits z (ps.map (rol k)) ∧ (1 ≤ tT k d ∧ tT k d ≤ 3) ∧ fits 3 cs ∧ small cs := by
  obtain ⟨h1, h2, h3, h4, h5, h6⟩ := imgOk_iff.1 hok
  have hl := imgOk_len hok
  have hT := tT_eq k d
  have hz : (k = 4 ∧ d = 8) ∨ (k = 1 ∧ d = 8) ∨ (k = 2 ∧ d = 24) ∨ (k = 3 ∧ d = 32) := by unfold dOk at h1; omega
  have hc : fits 3 cs := fun x hx => by
    have := outs_mem.1 h5.1 x hx
    rw [show ((256 ^ 3 : Nat) : Int) = 16777216 by decide]
    omega
  have hcs : small cs := fun x hx => by
    have := outs_mem.1 h5.1 x hx
    omega
  rw [outs_mem] at h6
  rcases hz with ⟨rfl, rfl⟩ | ⟨rfl, rfl⟩ | ⟨rfl, rfl⟩ | ⟨rfl, rfl⟩
  · rw [if_pos rfl] at h6
    refine ⟨1, rfl, rfl, by omega, by omega, fun x hx => by have := h6 x hx; omega, fun x hx => ?_, by decide, hc, hcs⟩
    obtain ⟨y, hy, rfl⟩ := List.mem_map.1 hx
    have := h6 y hy
    show 0 ≤ y ∧ y < 256
    omega
  · rw [if_neg (by decide)] at h6
    refine ⟨1, rfl, rfl, by omega, by omega, fun x hx => by have := h6 x hx; rw [show (1 : Int) * 2 ^ Int.toNat 8 - 1 = 255 by decide] at this; omega, fun x hx => ?_, by decide, hc, hcs⟩
    obtain ⟨y, hy, rfl⟩ := List.mem_map.1 hx
    have := h6 y hy
    rw [show (1 : Int) * 2 ^ Int.toNat 8 - 1 = 255 by decide] at this
    show 0 ≤ y ∧ y < 256
    omega
  · rw [if_neg (by decide)] at h6
    refine ⟨3, rfl, rfl, by omega, by omega, fun x hx => by have := h6 x hx; rw [show (1 : Int) * 2 ^ Int.toNat 24 - 1 = 16777215 by decide] at this; omega, fun x hx => ?_, by decide, hc, hcs⟩
    obtain ⟨y, hy, rfl⟩ := List.mem_map.1 hx
    have := h6 y hy
    rw [show (1 : Int) * 2 ^ Int.toNat 24 - 1 = 16777215 by decide] at this
    show 0 ≤ y ∧ y < 16777216
    omega
  · rw [if_neg (by decide)] at h6
    refine ⟨4, rfl, rfl, by omega, by omega, fun x hx => by have := h6 x hx; rw [show (1 : Int) * 2 ^ Int.toNat 32 - 1 = 4294967295 by decide] at this; omega, fun x hx => ?_, by decide, hc, hcs⟩
    obtain ⟨y, hy, rfl⟩ := List.mem_map.1 hx
    have := h6 y hy
    rw [show (1 : Int) * 2 ^ Int.toNat 32 - 1 = 4294967295 by decide] at this
    show 0 ≤ y / 256 + y % 256 * 16777216 ∧ y / 256 + y % 256 * 16777216 < 4294967296
    omega
set_option maxHeartbeats 1000000 in
theorem tgaPut_w {k d w h : Int} {a1 a2 : Option Addr} {n1 c1 n2 c2 : Nat} {q1 q2 : Nat × GO} {cs ps : List Int} {runs : Bool} (h1 : LS a1 n1 c1 q1 cs) (h2 : LS a2 n2 c2 q2 ps) (z1 : cs.length ≤ 1000000000000) (z2 : ps.length ≤ 1000000000000) :
    Rd Try.prog 31 [img k d w h (.slice a1 n1 c1) (.slice a2 n2 c2), .bool runs] [q1, q2] (.string (txt (tgaPut k d w h cs ps runs))) := by
  obtain rfl := h1.1
  obtain rfl := h2.1
  refine trip_of Try.func31 rfl (by simp [Try.ntmps31]) ?_
  refine gw_seq (gw_text rfl ?_)
  refine gs_box fun b => ?_
  repeat (first | refine gs_n tyT_ok 0 ?_ | refine gs_gn tyT_ok 0 rfl ?_ | refine gs_no rfl ?_ | refine gs_l tyT_ok 2 ?_ | refine gs_gl tyT_ok 2 rfl ?_ | (refine gs_l tyT_ok 2 ?_ (hp := ?hp); case hp => exact ⟨rfl, Nat.le_of_ble_eq_true rfl⟩) | (refine gs_gl tyT_ok 2 rfl ?_ (hp := ?hp); case hp => exact ⟨rfl, Nat.le_of_ble_eq_true rfl⟩) | refine gs_end ?_ | refine gs_end' ?_ | refine gw_seq ?_ | refine gw_text rfl ?_ | refine gw_skip ?_ | refine gw_yes rfl ?_ | refine gw_no rfl ?_ | refine gw_exit ?_ | refine gw_block ?_ | refine gw_label ?_ | (refine gs_n tyT_ok 0 ?_ (hp := ?hp); case hp => exact ⟨by decide, by decide⟩))
  refine gs_pu ent78 tgaType_w ?_
  repeat (first | refine gs_n tyT_ok 0 ?_ | refine gs_gn tyT_ok 0 rfl ?_ | refine gs_no rfl ?_ | refine gs_l tyT_ok 2 ?_ | refine gs_gl tyT_ok 2 rfl ?_ | (refine gs_l tyT_ok 2 ?_ (hp := ?hp); case hp => exact ⟨rfl, Nat.le_of_ble_eq_true rfl⟩) | (refine gs_gl tyT_ok 2 rfl ?_ (hp := ?hp); case hp => exact ⟨rfl, Nat.le_of_ble_eq_true rfl⟩) | refine gs_end ?_ | refine gs_end' ?_ | refine gw_seq ?_ | refine gw_text rfl ?_ | refine gw_skip ?_ | refine gw_yes rfl ?_ | refine gw_no rfl ?_ | refine gw_exit ?_ | refine gw_block ?_ | refine gw_label ?_ | (refine gs_n tyT_ok 0 ?_ (hp := ?hp); case hp => exact ⟨by decide, by decide⟩))
  refine gs_rd [0, 1] ent63 rfl (by decide) (imageOk_w h1 h2 (by omega) (by omega)) ?_
  by_cases hok : imgOk k d w h cs ps
  case neg =>
    rw [decide_eq_false hok, tgaPut, if_neg fun h => hok h.1]
    repeat (first | refine gs_n tyT_ok 0 ?_ | refine gs_gn tyT_ok 0 rfl ?_ | refine gs_no rfl ?_ | refine gs_end ?_ | refine gs_end' ?_ | refine gw_seq ?_ | refine gw_text rfl ?_ | refine gw_skip ?_ | refine gw_yes rfl ?_ | refine gw_no rfl ?_ | refine gw_exit ?_ | refine gw_block ?_ | refine gw_label ?_ | (refine gs_n tyT_ok 0 ?_ (hp := ?hp); case hp => exact ⟨by decide, by decide⟩))
    exact gw_ret ⟨_, _, [], [0, 1], .tmp .nil, ⟨rfl, rfl, rfl⟩, rfl, rfl, by decide⟩
  rw [decide_eq_true hok]
  by_cases hT : tT k d = 0
  case pos =>
    rw [tgaPut, if_neg fun h => h.2 hT]
    repeat (first | refine gs_n tyT_ok 0 ?_ | refine gs_gn tyT_ok 0 rfl ?_ | refine gs_no rfl ?_ | refine gs_end ?_ | refine gs_end' ?_ | refine gw_seq ?_ | refine gw_text rfl ?_ | refine gw_skip ?_ | refine gw_yes rfl ?_ | refine gw_no rfl ?_ | refine gw_exit ?_ | refine gw_block ?_ | refine gw_label ?_ | (refine gs_n tyT_ok 0 ?_ (hp := ?hp); case hp => exact ⟨by decide, by decide⟩))
    (refine gs_tg tyT_ok rfl ?hb ?_; case hb => first | exact decide_eq_true (by omega) | exact congrArg Bool.not (decide_eq_false (by omega)) | (simp; done) | (simp; omega))
    repeat (first | refine gs_n tyT_ok 0 ?_ | refine gs_gn tyT_ok 0 rfl ?_ | refine gs_no rfl ?_ | refine gs_end ?_ | refine gs_end' ?_ | refine gw_seq ?_ | refine gw_text rfl ?_ | refine gw_skip ?_ | refine gw_yes rfl ?_ | refine gw_no rfl ?_ | refine gw_exit ?_ | refine gw_block ?_ | refine gw_label ?_ | (refine gs_n tyT_ok 0 ?_ (hp := ?hp); case hp => exact ⟨by decide, by decide⟩))
    exact gw_ret ⟨_, _, [], [0, 1], .tmp .nil, ⟨rfl, rfl, rfl⟩, rfl, rfl, by decide⟩
  rw [tgaPut, if_pos ⟨hok, hT⟩]
  obtain ⟨l1, l2, _⟩ := imgOk_len hok
  obtain ⟨z, hd, hz0, hz1, hz4, hsm, hfit, hT2, hcf, _⟩ := rol_fits hok hT
  repeat (first | refine gs_n tyT_ok 0 ?_ | refine gs_gn tyT_ok 0 rfl ?_ | refine gs_no rfl ?_ | refine gs_end ?_ | refine gs_end' ?_ | refine gw_seq ?_ | refine gw_text rfl ?_ | refine gw_skip ?_ | refine gw_yes rfl ?_ | refine gw_no rfl ?_ | refine gw_exit ?_ | refine gw_block ?_ | refine gw_label ?_ | (refine gs_n tyT_ok 0 ?_ (hp := ?hp); case hp => exact ⟨by decide, by decide⟩))
  (refine gs_fg tyT_ok rfl ?hb ?_; case hb => first | exact decide_eq_false (by omega) | exact congrArg Bool.not (decide_eq_true (by omega)) | (simp; done) | (simp; omega))
  refine gs_n tyT_ok 0 ?_
  refine gs_end ?_
  refine gw_no rfl ?_
  refine gw_skip ?_
  refine gw_seq (gw_text rfl ?_)
  repeat (first | refine gs_n tyT_ok 0 ?_ | refine gs_gn tyT_ok 0 rfl ?_ | refine gs_no rfl ?_)
  refine gs_end ?_
  refine gw_seq ?_
  refine gw_join (α := Unit) (fun _ => [(1, .bool runs), (2, ptr b), (5, .int .i64 (tT k d)), (6, .int .i64 (tHas cs)), (7, .int .i64 (tBits cs)), (8, .int .i64 32)]) (fun _ => [q1, q2, (b, imc k d w h (.slice a1 cs.length c1) (.slice a2 ps.length c2))]) (fun _ => True) ?_ fun _ e _ => ?_
  · repeat (first | refine gs_n tyT_ok 0 ?_ | refine gs_gn tyT_ok 0 rfl ?_ | refine gs_no rfl ?_ | refine gs_l tyT_ok 2 ?_ | refine gs_gl tyT_ok 2 rfl ?_ | (refine gs_l tyT_ok 2 ?_ (hp := ?hp); case hp => exact ⟨rfl, Nat.le_of_ble_eq_true rfl⟩) | (refine gs_gl tyT_ok 2 rfl ?_ (hp := ?hp); case hp => exact ⟨rfl, Nat.le_of_ble_eq_true rfl⟩) | refine gs_end ?_ | refine gs_end' ?_ | refine gw_seq ?_ | refine gw_text rfl ?_ | refine gw_skip ?_ | refine gw_yes rfl ?_ | refine gw_no rfl ?_ | refine gw_exit ?_ | refine gw_block ?_ | refine gw_label ?_ | (refine gs_n tyT_ok 0 ?_ (hp := ?hp); case hp => exact ⟨by decide, by decide⟩))
    by_cases k1 : cs = []
    · have k2 : cs.length = 0 := by rw [k1]; rfl
      rw [show tHas cs = 0 from if_pos k1, show tBits cs = 0 from if_pos k1]
      (refine gs_f tyT_ok ?hb ?_; case hb => first | exact decide_eq_false (by omega) | exact congrArg Bool.not (decide_eq_true (by omega)) | (simp; done) | (simp; omega))
      repeat (first | refine gs_n tyT_ok 0 ?_ | refine gs_gn tyT_ok 0 rfl ?_ | refine gs_no rfl ?_ | refine gs_end ?_ | refine gs_end' ?_ | refine gw_seq ?_ | refine gw_text rfl ?_ | refine gw_skip ?_ | refine gw_yes rfl ?_ | refine gw_no rfl ?_ | refine gw_exit ?_ | refine gw_block ?_ | refine gw_label ?_ | (refine gs_n tyT_ok 0 ?_ (hp := ?hp); case hp => exact ⟨by decide, by decide⟩))
      exact ⟨(), trivial, rfl, rfl, rfl, rfl, rfl, rfl, rfl, trivial⟩
    · have k2 : cs.length ≠ 0 := fun h => k1 (List.eq_nil_of_length_eq_zero h)
      rw [show tHas cs = 1 from if_neg k1, show tBits cs = 24 from if_neg k1]
      (refine gs_t tyT_ok ?hb ?_; case hb => first | exact decide_eq_true (by omega) | exact congrArg Bool.not (decide_eq_false (by omega)) | (simp; done) | (simp; omega))
      repeat (first | refine gs_n tyT_ok 0 ?_ | refine gs_gn tyT_ok 0 rfl ?_ | refine gs_no rfl ?_ | refine gs_end ?_ | refine gs_end' ?_ | refine gw_seq ?_ | refine gw_text rfl ?_ | refine gw_skip ?_ | refine gw_yes rfl ?_ | refine gw_no rfl ?_ | refine gw_exit ?_ | refine gw_block ?_ | refine gw_label ?_ | (refine gs_n tyT_ok 0 ?_ (hp := ?hp); case hp => exact ⟨by decide, by decide⟩))
      exact ⟨(), trivial, rfl, rfl, rfl, rfl, rfl, rfl, rfl, trivial⟩
  refine gw_seq ?_
  refine gw_join (α := Unit) (fun _ => [(1, .bool runs), (2, ptr b), (5, .int .i64 (tT k d)), (6, .int .i64 (tHas cs)), (7, .int .i64 (tBits cs)), (8, .int .i64 (tLast k))]) (fun _ => [q1, q2, (b, imc k d w h (.slice a1 cs.length c1) (.slice a2 ps.length c2))]) (fun _ => True) ?_ fun _ e _ => ?_
  · repeat (first | refine gs_n tyT_ok 0 ?_ | refine gs_gn tyT_ok 0 rfl ?_ | refine gs_no rfl ?_ | refine gs_l tyT_ok 2 ?_ | refine gs_gl tyT_ok 2 rfl ?_ | (refine gs_l tyT_ok 2 ?_ (hp := ?hp); case hp => exact ⟨rfl, Nat.le_of_ble_eq_true rfl⟩) | (refine gs_gl tyT_ok 2 rfl ?_ (hp := ?hp); case hp => exact ⟨rfl, Nat.le_of_ble_eq_true rfl⟩) | refine gs_end ?_ | refine gs_end' ?_ | refine gw_seq ?_ | refine gw_text rfl ?_ | refine gw_skip ?_ | refine gw_yes rfl ?_ | refine gw_no rfl ?_ | refine gw_exit ?_ | refine gw_block ?_ | refine gw_label ?_ | (refine gs_n tyT_ok 0 ?_ (hp := ?hp); case hp => exact ⟨by decide, by decide⟩))
    by_cases k1 : k = 3
    · rw [show tLast k = 40 from if_pos k1]
      (refine gs_t tyT_ok ?hb ?_; case hb => first | exact decide_eq_true (by omega) | exact congrArg Bool.not (decide_eq_false (by omega)) | (simp; done) | (simp; omega))
      repeat (first | refine gs_n tyT_ok 0 ?_ | refine gs_gn tyT_ok 0 rfl ?_ | refine gs_no rfl ?_ | refine gs_end ?_ | refine gs_end' ?_ | refine gw_seq ?_ | refine gw_text rfl ?_ | refine gw_skip ?_ | refine gw_yes rfl ?_ | refine gw_no rfl ?_ | refine gw_exit ?_ | refine gw_block ?_ | refine gw_label ?_ | (refine gs_n tyT_ok 0 ?_ (hp := ?hp); case hp => exact ⟨by decide, by decide⟩))
      exact ⟨(), trivial, rfl, rfl, rfl, rfl, rfl, rfl, rfl, trivial⟩
    · rw [show tLast k = 32 from if_neg k1]
      (refine gs_f tyT_ok ?hb ?_; case hb => first | exact decide_eq_false (by omega) | exact congrArg Bool.not (decide_eq_true (by omega)) | (simp; done) | (simp; omega))
      repeat (first | refine gs_n tyT_ok 0 ?_ | refine gs_gn tyT_ok 0 rfl ?_ | refine gs_no rfl ?_ | refine gs_end ?_ | refine gs_end' ?_ | refine gw_seq ?_ | refine gw_text rfl ?_ | refine gw_skip ?_ | refine gw_yes rfl ?_ | refine gw_no rfl ?_ | refine gw_exit ?_ | refine gw_block ?_ | refine gw_label ?_ | (refine gs_n tyT_ok 0 ?_ (hp := ?hp); case hp => exact ⟨by decide, by decide⟩))
      exact ⟨(), trivial, rfl, rfl, rfl, rfl, rfl, rfl, rfl, trivial⟩
  have b1 : 0 ≤ tHas cs ∧ tHas cs ≤ 1 := by unfold tHas; split <;> omega
  have b2 : 0 ≤ tBits cs ∧ tBits cs ≤ 24 := by unfold tBits; split <;> omega
  have b3 : 0 ≤ tLast k ∧ tLast k ≤ 40 := by unfold tLast; split <;> omega
  repeat (first | refine gs_n tyT_ok 0 ?_ | refine gs_gn tyT_ok 0 rfl ?_ | refine gs_no rfl ?_ | refine gs_l tyT_ok 2 ?_ | refine gs_gl tyT_ok 2 rfl ?_ | (refine gs_l tyT_ok 2 ?_ (hp := ?hp); case hp => exact ⟨rfl, Nat.le_of_ble_eq_true rfl⟩) | (refine gs_gl tyT_ok 2 rfl ?_ (hp := ?hp); case hp => exact ⟨rfl, Nat.le_of_ble_eq_true rfl⟩) | refine gs_end ?_ | refine gs_end' ?_ | refine gw_seq ?_ | refine gw_text rfl ?_ | refine gw_skip ?_ | refine gw_yes rfl ?_ | refine gw_no rfl ?_ | refine gw_exit ?_ | refine gw_block ?_ | refine gw_label ?_ | (refine gs_n tyT_ok 0 ?_ (hp := ?hp); case hp => exact ⟨by decide, by decide⟩))
  refine gw_nil ?_
  refine gw_loopL (fun _ (x : Nat × Value × (Nat × GO)) => [(1, .bool runs), (2, ptr b), (5, .int .i64 (tT k d)), (6, .int .i64 (tHas cs)), (7, .int .i64 (tBits cs)), (8, .int .i64 (tLast k)), (9, x.2.1), (34, .slice a2 ps.length c2), (35, .int .i64 ps.length), (36, .int .i64 x.1)]) (fun _ x => [q1, q2, (b, imc k d w h (.slice a1 cs.length c1) (.slice a2 ps.length c2)), x.2.2]) (fun m x => x.1 + m = ps.length ∧ OI x.2.1 x.2.2 ((ps.take x.1).map (rol k))) ps.length (0, .slice none 0 0, (0, .none)) ⟨by simp, OI.nil⟩ rfl ⟨rfl, rfl, rfl, rfl, rfl, rfl, rfl, rfl, rfl, rfl, trivial⟩ fun m ⟨i, v, p⟩ e ⟨hm, hv⟩ => ?_
  dsimp only at hm hv ⊢
  have hv' := hv
  obtain ⟨ua, uc, rfl, _⟩ := hv'.ls
  repeat (first | refine gs_n tyT_ok 0 ?_ | refine gs_gn tyT_ok 0 rfl ?_ | refine gs_no rfl ?_ | refine gs_end ?_ | refine gs_end' ?_ | refine gw_seq ?_ | refine gw_text rfl ?_ | refine gw_skip ?_ | refine gw_yes rfl ?_ | refine gw_no rfl ?_ | refine gw_exit ?_ | refine gw_block ?_ | refine gw_label ?_ | (refine gs_n tyT_ok 0 ?_ (hp := ?hp); case hp => exact ⟨by decide, by decide⟩))
  by_cases g : i < ps.length
  · (refine gs_t tyT_ok ?hb ?_; case hb => first | exact decide_eq_true (by omega) | exact congrArg Bool.not (decide_eq_false (by omega)) | (simp; done) | (simp; omega))
    obtain ⟨o, rfl, ho⟩ := h2.at g
    have hx := hsm (ps.getD i 0) (by rw [List.getD_eq_getElem?_getD, List.getElem?_eq_getElem g]; exact List.getElem_mem g)
    have htk : (ps.take (i + 1)).map (rol k) = (ps.take i).map (rol k) ++ [rol k (ps.getD i 0)] := by
      rw [List.take_succ_eq_append_getElem g, List.map_append]
      simp [List.getD, g]
    repeat (first | refine gs_n tyT_ok 0 ?_ | refine gs_gn tyT_ok 0 rfl ?_ | refine gs_no rfl ?_ | refine gs_end ?_ | refine gs_end' ?_ | refine gw_seq ?_ | refine gw_text rfl ?_ | refine gw_skip ?_ | refine gw_yes rfl ?_ | refine gw_no rfl ?_ | refine gw_exit ?_ | refine gw_block ?_ | refine gw_label ?_ | (refine gs_n tyT_ok 0 ?_ (hp := ?hp); case hp => exact ⟨by decide, by decide⟩))
    refine gs_at 1 tyT_ok rfl rfl rfl rfl ho ?_
    repeat (first | refine gs_n tyT_ok 0 ?_ | refine gs_gn tyT_ok 0 rfl ?_ | refine gs_no rfl ?_ | refine gs_l tyT_ok 2 ?_ | refine gs_gl tyT_ok 2 rfl ?_ | (refine gs_l tyT_ok 2 ?_ (hp := ?hp); case hp => exact ⟨rfl, Nat.le_of_ble_eq_true rfl⟩) | (refine gs_gl tyT_ok 2 rfl ?_ (hp := ?hp); case hp => exact ⟨rfl, Nat.le_of_ble_eq_true rfl⟩) | refine gs_end ?_ | refine gs_end' ?_ | refine gw_seq ?_ | refine gw_text rfl ?_ | refine gw_skip ?_ | refine gw_yes rfl ?_ | refine gw_no rfl ?_ | refine gw_exit ?_ | refine gw_block ?_ | refine gw_label ?_ | (refine gs_n tyT_ok 0 ?_ (hp := ?hp); case hp => exact ⟨by decide, by decide⟩))
    refine gs_pu ent86 (rolled_w hx.1 hx.2) ?_
    refine gs_push 3 (n := rol k (ps.getD i 0)) rfl rfl hv (fun _ => rfl) (by rw [List.length_map, List.length_take]; omega) fun b a1 c1 p1 hv1 => ?_
    refine gs_n tyT_ok 0 ?_
    refine gs_end ?_
    refine gw_weak [0, 1, 2, 3] (by decide) rfl ?_
    repeat (first | refine gs_n tyT_ok 0 ?_ | refine gs_gn tyT_ok 0 rfl ?_ | refine gs_no rfl ?_ | refine gs_end ?_ | refine gs_end' ?_ | refine gw_seq ?_ | refine gw_text rfl ?_ | refine gw_skip ?_ | refine gw_yes rfl ?_ | refine gw_no rfl ?_ | refine gw_exit ?_ | refine gw_block ?_ | refine gw_label ?_ | (refine gs_n tyT_ok 0 ?_ (hp := ?hp); case hp => exact ⟨by decide, by decide⟩))
    exact ⟨m - 1, by omega, (i + 1, _, p1), ⟨by show i + 1 + (m - 1) = _; omega, by show OI _ p1 ((ps.take (i + 1)).map (rol k)); rw [htk]; exact hv1⟩, rfl, rfl, rfl, rfl, rfl, rfl, rfl, rfl, rfl, rfl, rfl, trivial⟩
  obtain rfl : i = ps.length := by omega
  rw [List.take_length] at hv
  have hvl := hv
  obtain ⟨ua', uc', he, hl3⟩ := hvl.ls
  injection he with he1 _ he3
  subst he1 he3
  (refine gs_f tyT_ok ?hb ?_; case hb => first | exact decide_eq_false (by omega) | exact congrArg Bool.not (decide_eq_true (by omega)) | (simp; done) | (simp; omega))
  repeat (first | refine gs_n tyT_ok 0 ?_ | refine gs_gn tyT_ok 0 rfl ?_ | refine gs_no rfl ?_ | refine gs_l tyT_ok 2 ?_ | refine gs_gl tyT_ok 2 rfl ?_ | (refine gs_l tyT_ok 2 ?_ (hp := ?hp); case hp => exact ⟨rfl, Nat.le_of_ble_eq_true rfl⟩) | (refine gs_gl tyT_ok 2 rfl ?_ (hp := ?hp); case hp => exact ⟨rfl, Nat.le_of_ble_eq_true rfl⟩) | refine gs_end ?_ | refine gs_end' ?_ | refine gw_seq ?_ | refine gw_text rfl ?_ | refine gw_skip ?_ | refine gw_yes rfl ?_ | refine gw_no rfl ?_ | refine gw_exit ?_ | refine gw_block ?_ | refine gw_label ?_ | (refine gs_n tyT_ok 0 ?_ (hp := ?hp); case hp => exact ⟨by decide, by decide⟩))
  have hdz : d / 8 = (z : Int) := by omega
  rw [hdz, List.take_length]
  have hln : (ps.map (rol k)).length ≤ 400 := by rw [List.length_map]; exact l2
  refine gs_rd [3] ent45 rfl (by decide) (numbers_w hl3 hfit ⟨hz1, hz4⟩ (by omega)) ?_
  repeat (first | refine gs_n tyT_ok 0 ?_ | refine gs_gn tyT_ok 0 rfl ?_ | refine gs_no rfl ?_)
  refine gs_end ?_
  refine gw_seq ?_
  refine gw_join (α := Unit) (fun _ => [(2, ptr b), (5, .int .i64 (tT k d + (if runs then 8 else 0))), (6, .int .i64 (tHas cs)), (7, .int .i64 (tBits cs)), (8, .int .i64 (tLast k)), (13, .string (txt (tData k d ps runs)))]) (fun _ => [q1, q2, (b, imc k d w h (.slice a1 cs.length c1) (.slice a2 ps.length c2)), p]) (fun _ => True) ?_ fun _ e _ => ?_
  · cases runs
    · rw [show tData k d ps false = les z (ps.map (rol k)) by rw [← hz0]; rfl, show tT k d + (if false then (8 : Int) else 0) = tT k d by simp]
      repeat (first | refine gs_n tyT_ok 0 ?_ | refine gs_gn tyT_ok 0 rfl ?_ | refine gs_no rfl ?_ | refine gs_end ?_ | refine gs_end' ?_ | refine gw_seq ?_ | refine gw_text rfl ?_ | refine gw_skip ?_ | refine gw_yes rfl ?_ | refine gw_no rfl ?_ | refine gw_exit ?_ | refine gw_block ?_ | refine gw_label ?_ | (refine gs_n tyT_ok 0 ?_ (hp := ?hp); case hp => exact ⟨by decide, by decide⟩))
      exact ⟨(), trivial, rfl, rfl, rfl, rfl, rfl, rfl, rfl, trivial⟩
    · rw [show tData k d ps true = pack (ps.map (rol k)) z by rw [← hz0]; rfl, show tT k d + (if true then (8 : Int) else 0) = tT k d + 8 by simp]
      repeat (first | refine gs_n tyT_ok 0 ?_ | refine gs_gn tyT_ok 0 rfl ?_ | refine gs_no rfl ?_ | refine gs_end ?_ | refine gs_end' ?_ | refine gw_seq ?_ | refine gw_text rfl ?_ | refine gw_skip ?_ | refine gw_yes rfl ?_ | refine gw_no rfl ?_ | refine gw_exit ?_ | refine gw_block ?_ | refine gw_label ?_ | (refine gs_n tyT_ok 0 ?_ (hp := ?hp); case hp => exact ⟨by decide, by decide⟩))
      refine gs_rd [3] ent87 rfl (by decide) (runPut_w hl3 hfit ⟨hz1, hz4⟩ (by omega)) ?_
      repeat (first | refine gs_n tyT_ok 0 ?_ | refine gs_gn tyT_ok 0 rfl ?_ | refine gs_no rfl ?_ | refine gs_end ?_ | refine gs_end' ?_ | refine gw_seq ?_ | refine gw_text rfl ?_ | refine gw_skip ?_ | refine gw_yes rfl ?_ | refine gw_no rfl ?_ | refine gw_exit ?_ | refine gw_block ?_ | refine gw_label ?_ | (refine gs_n tyT_ok 0 ?_ (hp := ?hp); case hp => exact ⟨by decide, by decide⟩))
      exact ⟨(), trivial, rfl, rfl, rfl, rfl, rfl, rfl, rfl, trivial⟩
  obtain ⟨T, hTe⟩ : ∃ T, T = tT k d + (if runs then (8 : Int) else 0) := ⟨_, rfl⟩
  obtain ⟨D, hDe⟩ : ∃ D, D = tData k d ps runs := ⟨_, rfl⟩
  have hT3 : 0 ≤ T ∧ T ≤ 11 := by rw [hTe]; split <;> omega
  rw [tgaL, ← hTe, ← hDe]
  have hDl : D.length ≤ 10000 := by
    rw [hDe]
    unfold tData
    rw [hz0]
    split
    · have := pack_len (l := ps.map (rol k)) hz4
      omega
    · rw [les_len]
      have := Nat.mul_le_mul hln hz4
      omega
  obtain ⟨⟨w1, w2⟩, w3, w4⟩ : (1 ≤ w ∧ w ≤ 20) ∧ 1 ≤ h ∧ h ≤ 20 := ⟨hok.2.1, hok.2.2.1⟩
  generalize tHas cs = xh at b1 ⊢
  generalize tBits cs = xb at b2 ⊢
  generalize tLast k = xl at b3 ⊢
  clear hTe hDe
  refine gw_seq ?_
  refine gw_nil (gw_nil (gw_nil ?_))
  refine gw_anyP [0, 1, 2, 3, 6, 7, 8, 9, 10, 12, 13, 4, 5, 11, 14, 15, 16, 17] [.N, .N, .N, .N, .A 4 (.row 5 (bytesV [0, xh, T]) 3) (some 3), .L 4, .N, .L 2, .N, .A 5 (.row 3 (ints [0, (cs.length : Int)]) 2) (some 2), .E [5], .N, .N, .N, .A 6 (.row 5 (bytesV [xb, 0, 0, 0, 0]) 5) (some 5), .L 6, .N, .N] rfl rfl rfl ?_
  repeat (first | refine gs_n tyT_ok 0 ?_ | refine gs_gn tyT_ok 0 rfl ?_ | refine gs_no rfl ?_ | refine gs_l tyT_ok 2 ?_ | refine gs_gl tyT_ok 2 rfl ?_ | (refine gs_l tyT_ok 2 ?_ (hp := ?hp); case hp => exact ⟨rfl, Nat.le_of_ble_eq_true rfl⟩) | (refine gs_gl tyT_ok 2 rfl ?_ (hp := ?hp); case hp => exact ⟨rfl, Nat.le_of_ble_eq_true rfl⟩))
  refine gs_litA tyT_ok 5 (cs := ints [0, (cs.length : Int)]) rfl rfl rfl (by decide) rfl rfl rfl (fun bA => ?_) ⟨rfl, rfl, rfl⟩
  have f2 : ∀ x y : Int, 0 ≤ x ∧ x ≤ 65535 → 0 ≤ y ∧ y ≤ 65535 → fits 2 [x, y] := fun x y hx hy u hu => by
    rw [show ((256 ^ 2 : Nat) : Int) = 65536 by decide]
    rcases List.mem_cons.1 hu with rfl | hu
    · omega
    · rw [List.mem_singleton.1 hu]; omega
  refine gs_rd [5] ent45 rfl (by decide) (numbers_w (z := 2) (cs := [0, (cs.length : Int)]) (LS.row rfl (Nat.le_refl _)) (f2 _ _ (by omega) (by omega)) (by omega) (by simp)) ?_
  repeat (first | refine gs_n tyT_ok 0 ?_ | refine gs_gn tyT_ok 0 rfl ?_ | refine gs_no rfl ?_)
  refine gs_litA tyT_ok 4 (cs := bytesV [0, xh, T]) rfl rfl rfl (by decide) rfl rfl rfl (fun bB => ?_) ⟨rfl, rfl, rfl⟩
  refine gs_txt 4 (xs := [0, xh, T]) rfl rfl rfl ?_
  refine gs_cat (a := [0, xh, T]) (b := les 2 [0, (cs.length : Int)]) rfl rfl (by rw [les_len]; simp) ?_
  refine gs_litA tyT_ok 6 (cs := bytesV [xb, 0, 0, 0, 0]) rfl rfl rfl (by decide) rfl rfl rfl (fun bC => ?_) ⟨rfl, rfl, rfl⟩
  refine gs_txt 6 (xs := [xb, 0, 0, 0, 0]) rfl rfl rfl ?_
  refine gs_cat (a := [0, xh, T] ++ les 2 [0, (cs.length : Int)]) (b := [xb, 0, 0, 0, 0]) rfl rfl (by simp [les_len]) ?_
  repeat (first | refine gs_n tyT_ok 0 ?_ | refine gs_gn tyT_ok 0 rfl ?_ | refine gs_no rfl ?_)
  refine gs_end' ?_
  refine gw_weak [0, 1, 2, 3] (by decide) rfl ?_
  refine gw_seq ?_
  refine gw_nil (gw_nil ?_)
  refine gw_anyP [0, 1, 2, 3, 4, 5, 6, 16, 17, 18, 7, 8, 9, 10, 11, 12, 13, 14, 15, 19, 20, 21, 22] [.N, .N, .L 2, .N, .L 2, .A 4 (.row 3 (ints [w, h]) 2) (some 2), .E [4], .N, .N, .L 2, .N, .N, .N, .A 5 (.row 5 (bytesV [d, xl]) 2) (some 2), .L 5, .N, .N, .L 2, .E [0], .N, .N, .N, .N] rfl rfl rfl ?_
  repeat (first | refine gs_n tyT_ok 0 ?_ | refine gs_gn tyT_ok 0 rfl ?_ | refine gs_no rfl ?_ | refine gs_l tyT_ok 2 ?_ | refine gs_gl tyT_ok 2 rfl ?_ | (refine gs_l tyT_ok 2 ?_ (hp := ?hp); case hp => exact ⟨rfl, Nat.le_of_ble_eq_true rfl⟩) | (refine gs_gl tyT_ok 2 rfl ?_ (hp := ?hp); case hp => exact ⟨rfl, Nat.le_of_ble_eq_true rfl⟩))
  refine gs_litA tyT_ok 4 (cs := ints [w, h]) rfl rfl rfl (by decide) rfl rfl rfl (fun bA => ?_) ⟨rfl, rfl, rfl⟩
  refine gs_rd [4] ent45 rfl (by decide) (numbers_w (z := 2) (cs := [w, h]) (LS.row rfl (Nat.le_refl _)) (f2 _ _ (by omega) (by omega)) (by omega) (by simp)) ?_
  repeat (first | refine gs_n tyT_ok 0 ?_ | refine gs_gn tyT_ok 0 rfl ?_ | refine gs_no rfl ?_ | refine gs_l tyT_ok 2 ?_ | refine gs_gl tyT_ok 2 rfl ?_ | (refine gs_l tyT_ok 2 ?_ (hp := ?hp); case hp => exact ⟨rfl, Nat.le_of_ble_eq_true rfl⟩) | (refine gs_gl tyT_ok 2 rfl ?_ (hp := ?hp); case hp => exact ⟨rfl, Nat.le_of_ble_eq_true rfl⟩))
  refine gs_rd [0] ent47 rfl (by decide) (colorsPut_w (z := 3) h1 hcf (by omega) (by omega)) ?_
  have el : ([0, xh, T] ++ les 2 [0, (cs.length : Int)] ++ [xb, 0, 0, 0, 0]).length = 12 := by simp [les_len]
  refine gs_cat (a := [0, xh, T] ++ les 2 [0, (cs.length : Int)] ++ [xb, 0, 0, 0, 0]) (b := les 2 [w, h]) rfl rfl (by rw [el, les_len]; simp) ?_
  repeat (first | refine gs_n tyT_ok 0 ?_ | refine gs_gn tyT_ok 0 rfl ?_ | refine gs_no rfl ?_ | refine gs_l tyT_ok 2 ?_ | refine gs_gl tyT_ok 2 rfl ?_ | (refine gs_l tyT_ok 2 ?_ (hp := ?hp); case hp => exact ⟨rfl, Nat.le_of_ble_eq_true rfl⟩) | (refine gs_gl tyT_ok 2 rfl ?_ (hp := ?hp); case hp => exact ⟨rfl, Nat.le_of_ble_eq_true rfl⟩))
  refine gs_litA tyT_ok 5 (cs := bytesV [d, xl]) rfl rfl rfl (by decide) rfl rfl rfl (fun bB => ?_) ⟨rfl, rfl, rfl⟩
  refine gs_txt 5 (xs := [d, xl]) rfl rfl rfl ?_
  refine gs_cat (a := [0, xh, T] ++ les 2 [0, (cs.length : Int)] ++ [xb, 0, 0, 0, 0] ++ les 2 [w, h]) (b := [d, xl]) rfl rfl (by rw [List.length_append, el, les_len]; simp) ?_
  refine gs_cat (a := [0, xh, T] ++ les 2 [0, (cs.length : Int)] ++ [xb, 0, 0, 0, 0] ++ les 2 [w, h] ++ [d, xl]) (b := les 3 cs) rfl rfl (by rw [List.length_append, List.length_append, el, les_len, les_len]; simp; omega) ?_
  repeat (first | refine gs_n tyT_ok 0 ?_ | refine gs_gn tyT_ok 0 rfl ?_ | refine gs_no rfl ?_)
  refine gs_cat (a := [0, xh, T] ++ les 2 [0, (cs.length : Int)] ++ [xb, 0, 0, 0, 0] ++ les 2 [w, h] ++ [d, xl] ++ les 3 cs) (b := D) rfl rfl (by rw [List.length_append, List.length_append, List.length_append, el, les_len, les_len]; simp; omega) ?_
  repeat (first | refine gs_n tyT_ok 0 ?_ | refine gs_gn tyT_ok 0 rfl ?_ | refine gs_no rfl ?_ | refine gs_end ?_ | refine gs_end' ?_ | refine gw_seq ?_ | refine gw_text rfl ?_ | refine gw_skip ?_ | refine gw_yes rfl ?_ | refine gw_no rfl ?_ | refine gw_exit ?_ | refine gw_block ?_ | refine gw_label ?_ | (refine gs_n tyT_ok 0 ?_ (hp := ?hp); case hp => exact ⟨by decide, by decide⟩))
  exact gw_ret ⟨_, _, [], [0, 1], .tmp .nil, ⟨rfl, rfl, rfl⟩, rfl, rfl, by decide⟩
set_option maxHeartbeats 1000000 in
theorem l11Put_w {k d w h : Int} {a1 a2 : Option Addr} {c1 c2 : Nat} {q1 q2 : Nat × GO} {cs ps : List Int} {runs : Bool} (h1 : LS a1 cs.length c1 q1 cs) (h2 : LS a2 ps.length c2 q2 ps) (hok : imgOk k d w h cs ps) (hT : tT k d ≠ 0) :
    Rd Try.prog 88 [img k d w h (.slice a1 cs.length c1) (.slice a2 ps.length c2), .bool runs] [q1, q2] (.string (txt (tgaL k d w h cs ps runs))) := by
  obtain ⟨l1, l2, _⟩ := imgOk_len hok
  obtain ⟨z, hd, hz0, hz1, hz4, hsm, hfit, hT2, hcf, hcs⟩ := rol_fits hok hT
  refine trip_of Try.func88 rfl (by simp [Try.ntmps88]) ?_
  refine gw_seq (gw_text rfl ?_)
  refine gs_box fun b => ?_
  repeat (first | refine gs_n tyT_ok 0 ?_ | refine gs_gn tyT_ok 0 rfl ?_ | refine gs_no rfl ?_ | refine gs_l tyT_ok 2 ?_ | refine gs_gl tyT_ok 2 rfl ?_ | (refine gs_l tyT_ok 2 ?_ (hp := ?hp); case hp => exact ⟨rfl, Nat.le_of_ble_eq_true rfl⟩) | (refine gs_gl tyT_ok 2 rfl ?_ (hp := ?hp); case hp => exact ⟨rfl, Nat.le_of_ble_eq_true rfl⟩) | refine gs_end ?_ | refine gs_end' ?_ | refine gw_seq ?_ | refine gw_text rfl ?_ | refine gw_skip ?_ | refine gw_yes rfl ?_ | refine gw_no rfl ?_ | refine gw_exit ?_ | refine gw_block ?_ | refine gw_label ?_ | (refine gs_n tyT_ok 0 ?_ (hp := ?hp); case hp => exact ⟨by decide, by decide⟩))
  refine gs_pu ent71 l11Tga_w ?_
  repeat (first | refine gs_n tyT_ok 0 ?_ | refine gs_gn tyT_ok 0 rfl ?_ | refine gs_no rfl ?_ | refine gs_end ?_ | refine gs_end' ?_ | refine gw_seq ?_ | refine gw_text rfl ?_ | refine gw_skip ?_ | refine gw_yes rfl ?_ | refine gw_no rfl ?_ | refine gw_exit ?_ | refine gw_block ?_ | refine gw_label ?_ | (refine gs_n tyT_ok 0 ?_ (hp := ?hp); case hp => exact ⟨by decide, by decide⟩))
  refine gs_pu ent111 (flag_w runs) ?_
  have hT8 : tT k d + 8 * (if runs then (1 : Int) else 0) = tT k d + (if runs then (8 : Int) else 0) := by cases runs <;> rfl
  have hf8 : 0 ≤ (if runs then (1 : Int) else 0) ∧ (if runs then (1 : Int) else 0) ≤ 1 := by cases runs <;> decide
  refine gs_n tyT_ok 0 ?_ (hp := ?hp)
  case hp => exact ⟨by show (-9223372036854775808 : Int) ≤ 8 * (if runs then (1 : Int) else 0); omega, by show 8 * (if runs then (1 : Int) else 0) ≤ 9223372036854775807; omega⟩
  refine gs_n tyT_ok 0 ?_ (hp := ?hp)
  case hp => exact ⟨by show (-9223372036854775808 : Int) ≤ tT k d + 8 * (if runs then (1 : Int) else 0); omega, by show tT k d + 8 * (if runs then (1 : Int) else 0) ≤ 9223372036854775807; omega⟩
  rw [hT8]
  obtain ⟨T, hTe⟩ : ∃ T, T = tT k d + (if runs then (8 : Int) else 0) := ⟨_, rfl⟩
  obtain ⟨D, hDe⟩ : ∃ D, D = tData k d ps runs := ⟨_, rfl⟩
  have hT3 : 0 ≤ T ∧ T ≤ 11 := by rw [hTe]; split <;> omega
  have hln : (ps.map (rol k)).length ≤ 400 := by rw [List.length_map]; exact l2
  have hDl : D.length ≤ 10000 := by
    rw [hDe]
    unfold tData
    rw [hz0]
    split
    · have := pack_len (l := ps.map (rol k)) hz4
      omega
    · rw [les_len]
      have := Nat.mul_le_mul hln hz4
      omega
  rw [tgaL, ← hTe, ← hDe]
  refine gs_n tyT_ok 0 ?_
  refine gs_end ?_
  refine gw_seq (gw_text rfl ?_)
  repeat (first | refine gs_n tyT_ok 0 ?_ | refine gs_gn tyT_ok 0 rfl ?_ | refine gs_no rfl ?_)
  refine gs_end ?_
  refine gw_seq ?_
  refine gw_join (α := Unit) (fun _ => [(1, .bool runs), (2, ptr b), (5, .int .i64 T), (6, .int .i64 (tBits cs))]) (fun _ => [q1, q2, (b, imc k d w h (.slice a1 cs.length c1) (.slice a2 ps.length c2))]) (fun _ => True) ?_ fun _ e _ => ?_
  · repeat (first | refine gs_n tyT_ok 0 ?_ | refine gs_gn tyT_ok 0 rfl ?_ | refine gs_no rfl ?_ | refine gs_l tyT_ok 2 ?_ | refine gs_gl tyT_ok 2 rfl ?_ | (refine gs_l tyT_ok 2 ?_ (hp := ?hp); case hp => exact ⟨rfl, Nat.le_of_ble_eq_true rfl⟩) | (refine gs_gl tyT_ok 2 rfl ?_ (hp := ?hp); case hp => exact ⟨rfl, Nat.le_of_ble_eq_true rfl⟩) | refine gs_end ?_ | refine gs_end' ?_ | refine gw_seq ?_ | refine gw_text rfl ?_ | refine gw_skip ?_ | refine gw_yes rfl ?_ | refine gw_no rfl ?_ | refine gw_exit ?_ | refine gw_block ?_ | refine gw_label ?_ | (refine gs_n tyT_ok 0 ?_ (hp := ?hp); case hp => exact ⟨by decide, by decide⟩))
    by_cases k1 : cs = []
    · have k2 : cs.length = 0 := by rw [k1]; rfl
      rw [show tBits cs = 0 from if_pos k1, hTe]
      (refine gs_f tyT_ok ?hb ?_; case hb => first | exact decide_eq_false (by omega) | exact congrArg Bool.not (decide_eq_true (by omega)) | (simp; done) | (simp; omega))
      repeat (first | refine gs_n tyT_ok 0 ?_ | refine gs_gn tyT_ok 0 rfl ?_ | refine gs_no rfl ?_ | refine gs_end ?_ | refine gs_end' ?_ | refine gw_seq ?_ | refine gw_text rfl ?_ | refine gw_skip ?_ | refine gw_yes rfl ?_ | refine gw_no rfl ?_ | refine gw_exit ?_ | refine gw_block ?_ | refine gw_label ?_ | (refine gs_n tyT_ok 0 ?_ (hp := ?hp); case hp => exact ⟨by decide, by decide⟩))
      exact ⟨(), trivial, rfl, rfl, rfl, rfl, rfl, trivial⟩
    · have k2 : cs.length ≠ 0 := fun h => k1 (List.eq_nil_of_length_eq_zero h)
      rw [show tBits cs = 24 from if_neg k1, hTe]
      (refine gs_t tyT_ok ?hb ?_; case hb => first | exact decide_eq_true (by omega) | exact congrArg Bool.not (decide_eq_false (by omega)) | (simp; done) | (simp; omega))
      repeat (first | refine gs_n tyT_ok 0 ?_ | refine gs_gn tyT_ok 0 rfl ?_ | refine gs_no rfl ?_ | refine gs_end ?_ | refine gs_end' ?_ | refine gw_seq ?_ | refine gw_text rfl ?_ | refine gw_skip ?_ | refine gw_yes rfl ?_ | refine gw_no rfl ?_ | refine gw_exit ?_ | refine gw_block ?_ | refine gw_label ?_ | (refine gs_n tyT_ok 0 ?_ (hp := ?hp); case hp => exact ⟨by decide, by decide⟩))
      exact ⟨(), trivial, rfl, rfl, rfl, rfl, rfl, trivial⟩
  refine gw_seq (gw_text rfl ?_)
  repeat (first | refine gs_n tyT_ok 0 ?_ | refine gs_gn tyT_ok 0 rfl ?_ | refine gs_no rfl ?_)
  refine gs_end ?_
  refine gw_seq ?_
  refine gw_join (α := Unit) (fun _ => [(1, .bool runs), (2, ptr b), (5, .int .i64 T), (6, .int .i64 (tBits cs)), (7, .int .i64 (tLast k))]) (fun _ => [q1, q2, (b, imc k d w h (.slice a1 cs.length c1) (.slice a2 ps.length c2))]) (fun _ => True) ?_ fun _ e _ => ?_
  · repeat (first | refine gs_n tyT_ok 0 ?_ | refine gs_gn tyT_ok 0 rfl ?_ | refine gs_no rfl ?_ | refine gs_l tyT_ok 2 ?_ | refine gs_gl tyT_ok 2 rfl ?_ | (refine gs_l tyT_ok 2 ?_ (hp := ?hp); case hp => exact ⟨rfl, Nat.le_of_ble_eq_true rfl⟩) | (refine gs_gl tyT_ok 2 rfl ?_ (hp := ?hp); case hp => exact ⟨rfl, Nat.le_of_ble_eq_true rfl⟩) | refine gs_end ?_ | refine gs_end' ?_ | refine gw_seq ?_ | refine gw_text rfl ?_ | refine gw_skip ?_ | refine gw_yes rfl ?_ | refine gw_no rfl ?_ | refine gw_exit ?_ | refine gw_block ?_ | refine gw_label ?_ | (refine gs_n tyT_ok 0 ?_ (hp := ?hp); case hp => exact ⟨by decide, by decide⟩))
    by_cases k1 : k = 3
    · rw [show tLast k = 40 from if_pos k1]
      (refine gs_t tyT_ok ?hb ?_; case hb => first | exact decide_eq_true (by omega) | exact congrArg Bool.not (decide_eq_false (by omega)) | (simp; done) | (simp; omega))
      repeat (first | refine gs_n tyT_ok 0 ?_ | refine gs_gn tyT_ok 0 rfl ?_ | refine gs_no rfl ?_ | refine gs_end ?_ | refine gs_end' ?_ | refine gw_seq ?_ | refine gw_text rfl ?_ | refine gw_skip ?_ | refine gw_yes rfl ?_ | refine gw_no rfl ?_ | refine gw_exit ?_ | refine gw_block ?_ | refine gw_label ?_ | (refine gs_n tyT_ok 0 ?_ (hp := ?hp); case hp => exact ⟨by decide, by decide⟩))
      exact ⟨(), trivial, rfl, rfl, rfl, rfl, rfl, rfl, trivial⟩
    · rw [show tLast k = 32 from if_neg k1]
      (refine gs_f tyT_ok ?hb ?_; case hb => first | exact decide_eq_false (by omega) | exact congrArg Bool.not (decide_eq_true (by omega)) | (simp; done) | (simp; omega))
      repeat (first | refine gs_n tyT_ok 0 ?_ | refine gs_gn tyT_ok 0 rfl ?_ | refine gs_no rfl ?_ | refine gs_end ?_ | refine gs_end' ?_ | refine gw_seq ?_ | refine gw_text rfl ?_ | refine gw_skip ?_ | refine gw_yes rfl ?_ | refine gw_no rfl ?_ | refine gw_exit ?_ | refine gw_block ?_ | refine gw_label ?_ | (refine gs_n tyT_ok 0 ?_ (hp := ?hp); case hp => exact ⟨by decide, by decide⟩))
      exact ⟨(), trivial, rfl, rfl, rfl, rfl, rfl, rfl, trivial⟩
  obtain ⟨w12, h12⟩ : (1 ≤ w ∧ w ≤ 20) ∧ (1 ≤ h ∧ h ≤ 20) := ⟨hok.2.1, hok.2.2.1⟩
  obtain ⟨W, rfl⟩ := Int.eq_ofNat_of_zero_le (show 0 ≤ w by omega)
  obtain ⟨H, rfl⟩ := Int.eq_ofNat_of_zero_le (show 0 ≤ h by omega)
  have b1 : 0 ≤ tHas cs ∧ tHas cs ≤ 1 := by unfold tHas; split <;> omega
  have b2 : 0 ≤ tBits cs ∧ tBits cs ≤ 24 := by unfold tBits; split <;> omega
  have b3 : 0 ≤ tLast k ∧ tLast k ≤ 40 := by unfold tLast; split <;> omega
  have hhas : (if decide ((0 : Int) < (cs.length : Int)) then (1 : Int) else 0) = tHas cs := by
    unfold tHas
    by_cases k1 : cs = []
    · rw [if_pos k1, k1]; rfl
    · rw [if_neg k1, decide_eq_true (show (0 : Int) < (cs.length : Int) by have : cs.length ≠ 0 := fun h => k1 (List.eq_nil_of_length_eq_zero h); omega)]
      rfl
  generalize tHas cs = xh at b1 hhas ⊢
  generalize tBits cs = xb at b2 ⊢
  generalize tLast k = xl at b3 ⊢
  refine gw_seq ?_
  refine gw_nil (gw_nil ?_)
  refine gw_anyP [0, 1, 2, 3, 4, 5, 6, 7, 12, 13, 14, 10, 15, 17, 18, 8, 9, 11, 16, 19, 20, 21, 22] [.N, .L 2, .N, .N, .E [], .N, .N, .N, .A 3 (.row 5 (bytesV [0, xh, T]) 3) (some 3), .L 3, .E [], .N, .N, .L 2, .N, .E [], .N, .N, .N, .A 4 (.row 5 (bytesV [xb]) 1) (some 1), .L 4, .N, .N] rfl rfl rfl ?_
  repeat (first | refine gs_n tyT_ok 0 ?_ | refine gs_gn tyT_ok 0 rfl ?_ | refine gs_no rfl ?_ | refine gs_l tyT_ok 2 ?_ | refine gs_gl tyT_ok 2 rfl ?_ | (refine gs_l tyT_ok 2 ?_ (hp := ?hp); case hp => exact ⟨rfl, Nat.le_of_ble_eq_true rfl⟩) | (refine gs_gl tyT_ok 2 rfl ?_ (hp := ?hp); case hp => exact ⟨rfl, Nat.le_of_ble_eq_true rfl⟩))
  refine gs_n tyT_ok 1 ?_
  refine gs_pu ent111 (flag_w (decide ((0 : Int) < (cs.length : Int)))) ?_
  rw [hhas]
  repeat (first | refine gs_n tyT_ok 0 ?_ | refine gs_gn tyT_ok 0 rfl ?_ | refine gs_no rfl ?_ | refine gs_l tyT_ok 2 ?_ | refine gs_gl tyT_ok 2 rfl ?_ | (refine gs_l tyT_ok 2 ?_ (hp := ?hp); case hp => exact ⟨rfl, Nat.le_of_ble_eq_true rfl⟩) | (refine gs_gl tyT_ok 2 rfl ?_ (hp := ?hp); case hp => exact ⟨rfl, Nat.le_of_ble_eq_true rfl⟩))
  refine gs_pu ent110 (l1Num_w 0 2 (by omega) (by omega)) ?_
  refine gs_pu ent110 (l1Num_w cs.length 2 (by omega) (by omega)) ?_
  repeat (first | refine gs_n tyT_ok 0 ?_ | refine gs_gn tyT_ok 0 rfl ?_ | refine gs_no rfl ?_)
  refine gs_litA tyT_ok 3 (cs := bytesV [0, xh, T]) rfl rfl rfl (by decide) rfl rfl rfl (fun bB => ?_) ⟨rfl, rfl, rfl⟩
  refine gs_txt 3 (xs := [0, xh, T]) rfl rfl rfl ?_
  refine gs_cat (a := [0, xh, T]) (b := le 0 2) rfl rfl (by rw [le_len]; simp) ?_
  refine gs_cat (a := [0, xh, T] ++ le 0 2) (b := le cs.length 2) rfl rfl (by rw [List.length_append, le_len, le_len]; simp) ?_
  refine gs_litA tyT_ok 4 (cs := bytesV [xb]) rfl rfl rfl (by decide) rfl rfl rfl (fun bC => ?_) ⟨rfl, rfl, rfl⟩
  refine gs_txt 4 (xs := [xb]) rfl rfl rfl ?_
  refine gs_cat (a := [0, xh, T] ++ le 0 2 ++ le cs.length 2) (b := [xb]) rfl rfl (by simp [le_len]) ?_
  repeat (first | refine gs_n tyT_ok 0 ?_ | refine gs_gn tyT_ok 0 rfl ?_ | refine gs_no rfl ?_)
  refine gs_end' ?_
  refine gw_weak [0, 1, 2] (by decide) rfl ?_
  have el : ([0, xh, T] ++ le 0 2 ++ le cs.length 2 ++ [xb]).length = 8 := by simp [le_len]
  generalize hA : [0, xh, T] ++ le 0 2 ++ le cs.length 2 ++ [xb] = A at el ⊢
  refine gw_seq ?_
  refine gw_nil ?_
  refine gw_anyP [0, 1, 3, 4, 5, 7, 8, 9, 11, 12, 13, 14, 15, 19, 20, 21, 2, 6, 10, 16, 17, 18, 22, 23] [.N, .E [], .N, .N, .L 2, .E [], .N, .N, .L 2, .E [], .N, .N, .L 2, .N, .N, .N, .A 3 (.row 5 (bytesV [d, xl]) 2) (some 2), .L 3, .N, .N, .L 2, .E [0], .N, .N] rfl rfl rfl ?_
  repeat (first | refine gs_n tyT_ok 0 ?_ | refine gs_gn tyT_ok 0 rfl ?_ | refine gs_no rfl ?_ | refine gs_l tyT_ok 2 ?_ | refine gs_gl tyT_ok 2 rfl ?_ | (refine gs_l tyT_ok 2 ?_ (hp := ?hp); case hp => exact ⟨rfl, Nat.le_of_ble_eq_true rfl⟩) | (refine gs_gl tyT_ok 2 rfl ?_ (hp := ?hp); case hp => exact ⟨rfl, Nat.le_of_ble_eq_true rfl⟩))
  refine gs_pu ent110 (l1Num_w 0 4 (by omega) (by omega)) ?_
  repeat (first | refine gs_n tyT_ok 0 ?_ | refine gs_gn tyT_ok 0 rfl ?_ | refine gs_no rfl ?_ | refine gs_l tyT_ok 2 ?_ | refine gs_gl tyT_ok 2 rfl ?_ | (refine gs_l tyT_ok 2 ?_ (hp := ?hp); case hp => exact ⟨rfl, Nat.le_of_ble_eq_true rfl⟩) | (refine gs_gl tyT_ok 2 rfl ?_ (hp := ?hp); case hp => exact ⟨rfl, Nat.le_of_ble_eq_true rfl⟩))
  refine gs_pu ent110 (l1Num_w W 2 (by omega) (by omega)) ?_
  repeat (first | refine gs_n tyT_ok 0 ?_ | refine gs_gn tyT_ok 0 rfl ?_ | refine gs_no rfl ?_ | refine gs_l tyT_ok 2 ?_ | refine gs_gl tyT_ok 2 rfl ?_ | (refine gs_l tyT_ok 2 ?_ (hp := ?hp); case hp => exact ⟨rfl, Nat.le_of_ble_eq_true rfl⟩) | (refine gs_gl tyT_ok 2 rfl ?_ (hp := ?hp); case hp => exact ⟨rfl, Nat.le_of_ble_eq_true rfl⟩))
  refine gs_pu ent110 (l1Num_w H 2 (by omega) (by omega)) ?_
  repeat (first | refine gs_n tyT_ok 0 ?_ | refine gs_gn tyT_ok 0 rfl ?_ | refine gs_no rfl ?_ | refine gs_l tyT_ok 2 ?_ | refine gs_gl tyT_ok 2 rfl ?_ | (refine gs_l tyT_ok 2 ?_ (hp := ?hp); case hp => exact ⟨rfl, Nat.le_of_ble_eq_true rfl⟩) | (refine gs_gl tyT_ok 2 rfl ?_ (hp := ?hp); case hp => exact ⟨rfl, Nat.le_of_ble_eq_true rfl⟩))
  refine gs_rd [0] ent112 rfl (by decide) (l11Colors_w (z := 3) h1 hcs (by omega) (by omega)) ?_
  refine gs_cat (a := A) (b := le 0 4) rfl rfl (by rw [el, le_len]; simp) ?_
  refine gs_cat (a := A ++ le 0 4) (b := le W 2) rfl rfl (by rw [List.length_append, el, le_len, le_len]; simp) ?_
  refine gs_cat (a := A ++ le 0 4 ++ le W 2) (b := le H 2) rfl rfl (by simp [el, le_len]) ?_
  refine gs_litA tyT_ok 3 (cs := bytesV [d, xl]) rfl rfl rfl (by decide) rfl rfl rfl (fun bB => ?_) ⟨rfl, rfl, rfl⟩
  refine gs_txt 3 (xs := [d, xl]) rfl rfl rfl ?_
  refine gs_cat (a := A ++ le 0 4 ++ le W 2 ++ le H 2) (b := [d, xl]) rfl rfl (by simp [el, le_len]) ?_
  refine gs_cat (a := A ++ le 0 4 ++ le W 2 ++ le H 2 ++ [d, xl]) (b := les 3 cs) rfl rfl (by simp [el, le_len, les_len]; omega) ?_
  repeat (first | refine gs_n tyT_ok 0 ?_ | refine gs_gn tyT_ok 0 rfl ?_ | refine gs_no rfl ?_)
  refine gs_end' ?_
  refine gw_weak [0, 1, 2] (by decide) rfl ?_
  have el2 : (A ++ le 0 4 ++ le W 2 ++ le H 2 ++ [d, xl] ++ les 3 cs).length ≤ 10000 := by simp [el, le_len, les_len]; omega
  have eB : A ++ le 0 4 ++ le W 2 ++ le H 2 ++ [d, xl] ++ les 3 cs = [0, xh, T] ++ les 2 [0, (cs.length : Int)] ++ [xb, 0, 0, 0, 0] ++ les 2 [(W : Int), (H : Int)] ++ [d, xl] ++ les 3 cs := by
    have e0 : le 0 4 = [0, 0, 0, 0] := by decide
    rw [← hA, e0]
    simp [les]
  rw [← eB]
  generalize A ++ le 0 4 ++ le W 2 ++ le H 2 ++ [d, xl] ++ les 3 cs = B at el2 ⊢
  have hdz : d / 8 = (z : Int) := by omega
  have hsmr : small (ps.map (rol k)) := fun x hx => by
    have h0 := hfit x hx
    have := (pow8 hz1 hz4).2.2
    omega
  cases runs
  · have eD : D = les z (ps.map (rol k)) := by rw [hDe, ← hz0]; rfl
    rw [eD]
    repeat (first | refine gs_n tyT_ok 0 ?_ | refine gs_gn tyT_ok 0 rfl ?_ | refine gs_no rfl ?_ | refine gs_l tyT_ok 2 ?_ | refine gs_gl tyT_ok 2 rfl ?_ | (refine gs_l tyT_ok 2 ?_ (hp := ?hp); case hp => exact ⟨rfl, Nat.le_of_ble_eq_true rfl⟩) | (refine gs_gl tyT_ok 2 rfl ?_ (hp := ?hp); case hp => exact ⟨rfl, Nat.le_of_ble_eq_true rfl⟩) | refine gs_end ?_ | refine gs_end' ?_ | refine gw_seq ?_ | refine gw_text rfl ?_ | refine gw_skip ?_ | refine gw_yes rfl ?_ | refine gw_no rfl ?_ | refine gw_exit ?_ | refine gw_block ?_ | refine gw_label ?_ | (refine gs_n tyT_ok 0 ?_ (hp := ?hp); case hp => exact ⟨by decide, by decide⟩))
    refine gs_call [1] ent129 rfl (by decide) (l11Dense_w h2 hsm (by omega)) fun v F' ns ho _ _ => ?_
    obtain ⟨rfl, p, rfl, hv⟩ := ho
    obtain ⟨ua, uc, rfl, hl3⟩ := hv.ls
    repeat (first | refine gs_n tyT_ok 0 ?_ | refine gs_gn tyT_ok 0 rfl ?_ | refine gs_no rfl ?_ | refine gs_l tyT_ok 2 ?_ | refine gs_gl tyT_ok 2 rfl ?_ | (refine gs_l tyT_ok 2 ?_ (hp := ?hp); case hp => exact ⟨rfl, Nat.le_of_ble_eq_true rfl⟩) | (refine gs_gl tyT_ok 2 rfl ?_ (hp := ?hp); case hp => exact ⟨rfl, Nat.le_of_ble_eq_true rfl⟩) | refine gs_end ?_ | refine gs_end' ?_ | refine gw_seq ?_ | refine gw_text rfl ?_ | refine gw_skip ?_ | refine gw_yes rfl ?_ | refine gw_no rfl ?_ | refine gw_exit ?_ | refine gw_block ?_ | refine gw_label ?_ | (refine gs_n tyT_ok 0 ?_ (hp := ?hp); case hp => exact ⟨by decide, by decide⟩))
    rw [hdz]
    refine gs_rd [3] ent112 rfl (by decide) (l11Colors_w hl3 hsmr hz4 (by omega)) ?_
    refine gs_cat (a := B) (b := les z (ps.map (rol k))) rfl rfl (by rw [← eD]; omega) ?_
    repeat (first | refine gs_n tyT_ok 0 ?_ | refine gs_gn tyT_ok 0 rfl ?_ | refine gs_no rfl ?_ | refine gs_end ?_ | refine gs_end' ?_ | refine gw_seq ?_ | refine gw_text rfl ?_ | refine gw_skip ?_ | refine gw_yes rfl ?_ | refine gw_no rfl ?_ | refine gw_exit ?_ | refine gw_block ?_ | refine gw_label ?_ | (refine gs_n tyT_ok 0 ?_ (hp := ?hp); case hp => exact ⟨by decide, by decide⟩))
    exact gw_ret ⟨_, _, [], [0, 1], .tmp .nil, ⟨rfl, rfl, rfl⟩, rfl, rfl, by decide⟩
  · have eD : D = pack (ps.map (rol k)) z := by rw [hDe, ← hz0]; rfl
    rw [eD]
    repeat (first | refine gs_n tyT_ok 0 ?_ | refine gs_gn tyT_ok 0 rfl ?_ | refine gs_no rfl ?_ | refine gs_end ?_ | refine gs_end' ?_ | refine gw_seq ?_ | refine gw_text rfl ?_ | refine gw_skip ?_ | refine gw_yes rfl ?_ | refine gw_no rfl ?_ | refine gw_exit ?_ | refine gw_block ?_ | refine gw_label ?_ | (refine gs_n tyT_ok 0 ?_ (hp := ?hp); case hp => exact ⟨by decide, by decide⟩))
    refine gw_any [.N, .L 2, .E [1], .N, .L 2, .N, .E [3], .N, .N] rfl rfl rfl ?_
    repeat (first | refine gs_n tyT_ok 0 ?_ | refine gs_gn tyT_ok 0 rfl ?_ | refine gs_no rfl ?_ | refine gs_l tyT_ok 2 ?_ | refine gs_gl tyT_ok 2 rfl ?_ | (refine gs_l tyT_ok 2 ?_ (hp := ?hp); case hp => exact ⟨rfl, Nat.le_of_ble_eq_true rfl⟩) | (refine gs_gl tyT_ok 2 rfl ?_ (hp := ?hp); case hp => exact ⟨rfl, Nat.le_of_ble_eq_true rfl⟩))
    refine gs_call [1] ent129 rfl (by decide) (l11Dense_w h2 hsm (by omega)) fun v F' ns ho _ _ => ?_
    obtain ⟨rfl, p, rfl, hv⟩ := ho
    obtain ⟨ua, uc, rfl, hl3⟩ := hv.ls
    repeat (first | refine gs_n tyT_ok 0 ?_ | refine gs_gn tyT_ok 0 rfl ?_ | refine gs_no rfl ?_ | refine gs_l tyT_ok 2 ?_ | refine gs_gl tyT_ok 2 rfl ?_ | (refine gs_l tyT_ok 2 ?_ (hp := ?hp); case hp => exact ⟨rfl, Nat.le_of_ble_eq_true rfl⟩) | (refine gs_gl tyT_ok 2 rfl ?_ (hp := ?hp); case hp => exact ⟨rfl, Nat.le_of_ble_eq_true rfl⟩))
    rw [hdz]
    refine gs_rd [3] ent128 rfl (by decide) (l7Run_w hl3 hsmr ⟨hz1, hz4⟩ (by omega)) ?_
    refine gs_cat (a := B) (b := pack (ps.map (rol k)) z) rfl rfl (by rw [← eD]; omega) ?_
    repeat (first | refine gs_n tyT_ok 0 ?_ | refine gs_gn tyT_ok 0 rfl ?_ | refine gs_no rfl ?_ | refine gs_end ?_ | refine gs_end' ?_ | refine gw_seq ?_ | refine gw_text rfl ?_ | refine gw_skip ?_ | refine gw_yes rfl ?_ | refine gw_no rfl ?_ | refine gw_exit ?_ | refine gw_block ?_ | refine gw_label ?_ | (refine gs_n tyT_ok 0 ?_ (hp := ?hp); case hp => exact ⟨by decide, by decide⟩))
    exact gw_ret ⟨_, _, [], [0, 1], .tmp .nil, ⟨rfl, rfl, rfl⟩, rfl, rfl, by decide⟩
/-- Four bytes. -/
theorem le_small (n : Nat) : le n 4 = [((n / 256 ^ 0 % 256 : Nat) : Int), ((n / 256 ^ 1 % 256 : Nat) : Int), ((n / 256 ^ 2 % 256 : Nat) : Int), ((n / 256 ^ 3 % 256 : Nat) : Int)] := rfl
set_option maxHeartbeats 1000000 in
theorem sTgaPut_w {k d w h : Int} {a1 a2 : Option Addr} {n1 c1 n2 c2 : Nat} {q1 q2 : Nat × GO} {cs ps : List Int} {runs : Bool} (h1 : LS a1 n1 c1 q1 cs) (h2 : LS a2 n2 c2 q2 ps) (z1 : cs.length ≤ 1000000000000) (z2 : ps.length ≤ 1000000000000) :
    Rd Try.prog 32 [img k d w h (.slice a1 n1 c1) (.slice a2 n2 c2), .bool runs] [q1, q2] (.string (txt (tgaPut k d w h cs ps runs))) := by
  obtain rfl := h1.1
  obtain rfl := h2.1
  refine trip_of Try.func32 rfl (by simp [Try.ntmps32]) ?_
  refine gw_seq (gw_text rfl ?_)
  refine gs_box fun b => ?_
  repeat (first | refine gs_n tyT_ok 0 ?_ | refine gs_gn tyT_ok 0 rfl ?_ | refine gs_no rfl ?_ | refine gs_l tyT_ok 2 ?_ | refine gs_gl tyT_ok 2 rfl ?_ | (refine gs_l tyT_ok 2 ?_ (hp := ?hp); case hp => exact ⟨rfl, Nat.le_of_ble_eq_true rfl⟩) | (refine gs_gl tyT_ok 2 rfl ?_ (hp := ?hp); case hp => exact ⟨rfl, Nat.le_of_ble_eq_true rfl⟩) | refine gs_end ?_ | refine gs_end' ?_ | refine gw_seq ?_ | refine gw_text rfl ?_ | refine gw_skip ?_ | refine gw_yes rfl ?_ | refine gw_no rfl ?_ | refine gw_exit ?_ | refine gw_block ?_ | refine gw_label ?_ | (refine gs_n tyT_ok 0 ?_ (hp := ?hp); case hp => exact ⟨by decide, by decide⟩))
  refine gs_rd [0, 1] ent38 rfl (by decide) (sImageOk_w h1 h2 (by omega) (by omega)) ?_
  by_cases hok : imgOk k d w h cs ps
  case neg =>
    rw [decide_eq_false hok, tgaPut, if_neg fun h => hok h.1]
    repeat (first | refine gs_n tyT_ok 0 ?_ | refine gs_gn tyT_ok 0 rfl ?_ | refine gs_no rfl ?_ | refine gs_end ?_ | refine gs_end' ?_ | refine gw_seq ?_ | refine gw_text rfl ?_ | refine gw_skip ?_ | refine gw_yes rfl ?_ | refine gw_no rfl ?_ | refine gw_exit ?_ | refine gw_block ?_ | refine gw_label ?_ | (refine gs_n tyT_ok 0 ?_ (hp := ?hp); case hp => exact ⟨by decide, by decide⟩))
    exact gw_ret ⟨_, _, [], [0, 1], .tmp .nil, ⟨rfl, rfl, rfl⟩, rfl, rfl, by decide⟩
  rw [decide_eq_true hok]
  repeat (first | refine gs_n tyT_ok 0 ?_ | refine gs_gn tyT_ok 0 rfl ?_ | refine gs_no rfl ?_ | refine gs_l tyT_ok 2 ?_ | refine gs_gl tyT_ok 2 rfl ?_ | (refine gs_l tyT_ok 2 ?_ (hp := ?hp); case hp => exact ⟨rfl, Nat.le_of_ble_eq_true rfl⟩) | (refine gs_gl tyT_ok 2 rfl ?_ (hp := ?hp); case hp => exact ⟨rfl, Nat.le_of_ble_eq_true rfl⟩) | refine gs_end ?_ | refine gs_end' ?_ | refine gw_seq ?_ | refine gw_text rfl ?_ | refine gw_skip ?_ | refine gw_yes rfl ?_ | refine gw_no rfl ?_ | refine gw_exit ?_ | refine gw_block ?_ | refine gw_label ?_ | (refine gs_n tyT_ok 0 ?_ (hp := ?hp); case hp => exact ⟨by decide, by decide⟩))
  refine gs_pug ent71 rfl l11Tga_w ?_
  by_cases hT : tT k d = 0
  case pos =>
    rw [tgaPut, if_neg fun h => h.2 hT]
    (refine gs_tg tyT_ok rfl ?hb ?_; case hb => first | exact decide_eq_true (by omega) | exact congrArg Bool.not (decide_eq_false (by omega)) | (simp; done) | (simp; omega))
    repeat (first | refine gs_n tyT_ok 0 ?_ | refine gs_gn tyT_ok 0 rfl ?_ | refine gs_no rfl ?_ | refine gs_end ?_ | refine gs_end' ?_ | refine gw_seq ?_ | refine gw_text rfl ?_ | refine gw_skip ?_ | refine gw_yes rfl ?_ | refine gw_no rfl ?_ | refine gw_exit ?_ | refine gw_block ?_ | refine gw_label ?_ | (refine gs_n tyT_ok 0 ?_ (hp := ?hp); case hp => exact ⟨by decide, by decide⟩))
    exact gw_ret ⟨_, _, [], [0, 1], .tmp .nil, ⟨rfl, rfl, rfl⟩, rfl, rfl, by decide⟩
  rw [tgaPut, if_pos ⟨hok, hT⟩]
  (refine gs_fg tyT_ok rfl ?hb ?_; case hb => first | exact decide_eq_false (by omega) | exact congrArg Bool.not (decide_eq_true (by omega)) | (simp; done) | (simp; omega))
  repeat (first | refine gs_n tyT_ok 0 ?_ | refine gs_gn tyT_ok 0 rfl ?_ | refine gs_no rfl ?_ | refine gs_l tyT_ok 2 ?_ | refine gs_gl tyT_ok 2 rfl ?_ | (refine gs_l tyT_ok 2 ?_ (hp := ?hp); case hp => exact ⟨rfl, Nat.le_of_ble_eq_true rfl⟩) | (refine gs_gl tyT_ok 2 rfl ?_ (hp := ?hp); case hp => exact ⟨rfl, Nat.le_of_ble_eq_true rfl⟩) | refine gs_end ?_ | refine gs_end' ?_ | refine gw_seq ?_ | refine gw_text rfl ?_ | refine gw_skip ?_ | refine gw_yes rfl ?_ | refine gw_no rfl ?_ | refine gw_exit ?_ | refine gw_block ?_ | refine gw_label ?_ | (refine gs_n tyT_ok 0 ?_ (hp := ?hp); case hp => exact ⟨by decide, by decide⟩))
  refine gs_rd [0, 1] ent88 rfl (by decide) (l11Put_w h1 h2 hok hT) ?_
  repeat (first | refine gs_n tyT_ok 0 ?_ | refine gs_gn tyT_ok 0 rfl ?_ | refine gs_no rfl ?_ | refine gs_end ?_ | refine gs_end' ?_ | refine gw_seq ?_ | refine gw_text rfl ?_ | refine gw_skip ?_ | refine gw_yes rfl ?_ | refine gw_no rfl ?_ | refine gw_exit ?_ | refine gw_block ?_ | refine gw_label ?_ | (refine gs_n tyT_ok 0 ?_ (hp := ?hp); case hp => exact ⟨by decide, by decide⟩))
  exact gw_ret ⟨_, _, [], [0, 1], .tmp .nil, ⟨rfl, rfl, rfl⟩, rfl, rfl, by decide⟩
end Go.Proofs.Ytdkhjcmhjlbpaaa.G
