/- BMP: spec RlePut. -/
import Derived.Test.YtjefdcbljpkmlaaBd
import Derived.Test.YtjefdcbljpkmlaaWk
set_option linter.unusedVariables false
set_option maxRecDepth 10000
namespace Go.Proofs.Ytjefdcbljpkmlaa.G
open Go
section
variable {ops os : List Oper} {H : Option (List Hint)} {K : Env → GL → Prop} {e : Env} {l : GL} {d : Nat} {T : TypeId} {pos : String} {af : Array Edge}
theorem gs_atbg (j : Nat) {t : TypeId} {x : Operand} {b off : Nat} {g : GO} {v : Value} {i : TyI} {gd : Nat × Bool} (hw : wantedE ops ⟨some d, .load t x, T, pos, af, some gd⟩ e = true) (hi : tyT t = some i) (ha : i.k.agg = false) (hx : gev e x = .pointer (some ⟨b, off, none⟩)) (hl : l[j]? = some (b, g)) (hv : (cellsG g)[off]? = some v) (k : gseq Try.prog ops os (tl? H) K (upd e d v) l) (hh : hL j H := by trivial) :
    gseq Try.prog ops (⟨some d, .load t x, T, pos, af, some gd⟩ :: os) H K e l := by
  have hv' : LVal Try.prog ⟨some d, .load t x, T, pos, af, some gd⟩ (gev e) l[j]? v := lv_load tyT_ok j rfl hx hl hi ha hv
  exact (hL_or hh).elim (fun q => ⟨.L j, q, hw, _, hv', k⟩) (fun q => ⟨.R, q, .inr ⟨hw, _, ⟨j, hv'⟩, k⟩⟩)
end
def rleS (rs : List (List Int)) (i : Nat) : List Int := rleP rs i ++ (if i = 0 ∨ rs.length ≤ i then [] else [0, 0])
set_option maxHeartbeats 2000000 in
theorem sRlePut_w {a0 : Option Addr} {n0 c0 : Nat} {pv q : Nat × GO} {vs : List Value} {rs : List (List Int)} (hv0 : OV (.slice a0 n0 c0) pv vs) (hr : RowsV q vs rs) (hok : rowsOk rs) :
    Rd Try.prog 141 [.slice a0 n0 c0] [pv, q] (.string (txt (rle rs))) := by
  have hn0 : n0 = rs.length := by
    obtain ⟨a, c, he⟩ := hv0.sl
    cases he
    exact hr.1
  subst hn0
  have hl100 := hok.1
  refine trip_of Try.func141 rfl (by simp [Try.ntmps141]) ?_
  repeat (first | refine gs_n tyT_ok 0 ?_ | refine gs_gn tyT_ok 0 rfl ?_ | refine gs_no rfl ?_ | refine gs_end ?_ | refine gs_end' ?_ | refine gw_seq ?_ | refine gw_text rfl ?_ | refine gw_skip ?_ | refine gw_yes rfl ?_ | refine gw_no rfl ?_ | refine gw_exit ?_ | refine gw_block ?_ | refine gw_label ?_ | (refine gs_n tyT_ok 0 ?_ (hp := ?hp); case hp => exact ⟨by decide, by decide⟩))
  (refine gs_f tyT_ok ?hb ?_; case hb => first | exact decide_eq_false (by omega) | exact congrArg Bool.not (decide_eq_true (by omega)) | (simp; done) | (simp; omega))
  repeat (first | refine gs_n tyT_ok 0 ?_ | refine gs_gn tyT_ok 0 rfl ?_ | refine gs_no rfl ?_ | refine gs_end ?_ | refine gs_end' ?_ | refine gw_seq ?_ | refine gw_text rfl ?_ | refine gw_skip ?_ | refine gw_yes rfl ?_ | refine gw_no rfl ?_ | refine gw_exit ?_ | refine gw_block ?_ | refine gw_label ?_ | (refine gs_n tyT_ok 0 ?_ (hp := ?hp); case hp => exact ⟨by decide, by decide⟩))
  refine gw_loopL (fun _ (i : Nat) => [(0, .slice a0 rs.length c0), (3, .string (txt (rleS rs i))), (4, .int .i64 i)]) (fun _ _ => [pv, q]) (fun m i => i + m = rs.length) rs.length 0 (by omega) rfl ⟨rfl, rfl, rfl, trivial⟩ fun m i e hm => ?_
  have hplen := rleP_len hok i (by omega)
  have hslen : (rleS rs i).length ≤ 30000 := by
    rw [rleS, List.length_append]
    have : (if i = 0 ∨ rs.length ≤ i then ([] : List Int) else [0, 0]).length ≤ 2 := by split <;> simp
    omega
  repeat (first | refine gs_n tyT_ok 0 ?_ | refine gs_gn tyT_ok 0 rfl ?_ | refine gs_no rfl ?_ | refine gs_end ?_ | refine gs_end' ?_ | refine gw_seq ?_ | refine gw_text rfl ?_ | refine gw_skip ?_ | refine gw_yes rfl ?_ | refine gw_no rfl ?_ | refine gw_exit ?_ | refine gw_block ?_ | refine gw_label ?_ | (refine gs_n tyT_ok 0 ?_ (hp := ?hp); case hp => exact ⟨by decide, by decide⟩))
  by_cases k1 : i < rs.length
  case neg =>
    obtain rfl : i = rs.length := by omega
    (refine gs_f tyT_ok ?hb ?_; case hb => first | exact decide_eq_false (by omega) | exact congrArg Bool.not (decide_eq_true (by omega)) | (simp; done) | (simp; omega))
    repeat (first | refine gs_n tyT_ok 0 ?_ | refine gs_gn tyT_ok 0 rfl ?_ | refine gs_no rfl ?_ | refine gs_end ?_ | refine gs_end' ?_ | refine gw_seq ?_ | refine gw_text rfl ?_ | refine gw_skip ?_ | refine gw_yes rfl ?_ | refine gw_no rfl ?_ | refine gw_exit ?_ | refine gw_block ?_ | refine gw_label ?_ | (refine gs_n tyT_ok 0 ?_ (hp := ?hp); case hp => exact ⟨by decide, by decide⟩))
    refine gs_lit tyT_ok (cs := bytesV [0, 1]) rfl rfl rfl (by decide) rfl fun b => ?_
    refine gs_txt 2 (xs := [0, 1]) rfl rfl rfl ?_
    refine gs_cat (a := rleS rs rs.length) (b := [0, 1]) rfl rfl (by simp; omega) ?_
    rw [show rleS rs rs.length ++ [0, 1] = rle rs by rw [rleS, if_pos (.inr (Nat.le_refl _)), List.append_nil, rle]]
    repeat (first | refine gs_n tyT_ok 0 ?_ | refine gs_gn tyT_ok 0 rfl ?_ | refine gs_no rfl ?_ | refine gs_end ?_ | refine gs_end' ?_ | refine gw_seq ?_ | refine gw_text rfl ?_ | refine gw_skip ?_ | refine gw_yes rfl ?_ | refine gw_no rfl ?_ | refine gw_exit ?_ | refine gw_block ?_ | refine gw_label ?_ | (refine gs_n tyT_ok 0 ?_ (hp := ?hp); case hp => exact ⟨by decide, by decide⟩))
    exact gw_ret ⟨_, _, [], [0, 1], .tmp .nil, ⟨rfl, rfl, rfl⟩, rfl, rfl, by decide⟩
  (refine gs_t tyT_ok ?hb ?_; case hb => first | exact decide_eq_true (by omega) | exact congrArg Bool.not (decide_eq_false (by omega)) | (simp; done) | (simp; omega))
  obtain ⟨a, n, c, hvi, hLS⟩ := hr.2 i k1
  obtain ⟨_, u, hu, rfl, hcell⟩ := hv0.at (k := i) (by rw [hr.1]; exact k1)
  rw [hvi] at hu
  cases hu
  have hri := hok.2 (rs.getD i []) (by rw [List.getD_eq_getElem?_getD, List.getElem?_eq_getElem k1]; exact List.getElem_mem _)
  have hstep : rleP rs (i + 1) = rleS rs i ++ r8 (rs.getD i []) := by
    rw [rleP, rleS]
    by_cases h0 : i = 0
    · rw [if_pos h0, if_pos (.inl h0)]
    · rw [if_neg h0, if_neg (by omega)]
  have hstep2 : rleS rs (i + 1) = rleP rs (i + 1) ++ (if i + 1 < rs.length then [0, 0] else []) := by
    rw [rleS]
    by_cases h0 : i + 1 < rs.length
    · rw [if_neg (by omega), if_pos h0]
    · rw [if_pos (by omega), if_neg h0]
  generalize hR : rs.getD i [] = R at *
  obtain rfl := hLS.1
  repeat (first | refine gs_n tyT_ok 0 ?_ | refine gs_gn tyT_ok 0 rfl ?_ | refine gs_no rfl ?_ | refine gs_end ?_ | refine gs_end' ?_ | refine gw_seq ?_ | refine gw_text rfl ?_ | refine gw_skip ?_ | refine gw_yes rfl ?_ | refine gw_no rfl ?_ | refine gw_exit ?_ | refine gw_block ?_ | refine gw_label ?_ | (refine gs_n tyT_ok 0 ?_ (hp := ?hp); case hp => exact ⟨by decide, by decide⟩))
  refine gw_loopL (fun _ (j : Nat) => [(0, .slice (some ⟨pv.1, 0, none⟩) rs.length c0), (3, .string (txt (rleS rs i))), (4, .int .i64 i), (5, .int .i64 j)]) (fun _ _ => [pv, q]) (fun m j => j + m = R.length) R.length 0 (by omega) rfl ⟨rfl, rfl, rfl, rfl, trivial⟩ fun m2 j e hj => ?_
  repeat (first | refine gs_n tyT_ok 0 ?_ | refine gs_gn tyT_ok 0 rfl ?_ | refine gs_no rfl ?_ | refine gs_end ?_ | refine gs_end' ?_ | refine gw_seq ?_ | refine gw_text rfl ?_ | refine gw_skip ?_ | refine gw_yes rfl ?_ | refine gw_no rfl ?_ | refine gw_exit ?_ | refine gw_block ?_ | refine gw_label ?_ | (refine gs_n tyT_ok 0 ?_ (hp := ?hp); case hp => exact ⟨by decide, by decide⟩))
  refine gs_atb 0 rfl rfl rfl rfl hcell ?_
  repeat (first | refine gs_n tyT_ok 0 ?_ | refine gs_gn tyT_ok 0 rfl ?_ | refine gs_no rfl ?_ | refine gs_end ?_ | refine gs_end' ?_ | refine gw_seq ?_ | refine gw_text rfl ?_ | refine gw_skip ?_ | refine gw_yes rfl ?_ | refine gw_no rfl ?_ | refine gw_exit ?_ | refine gw_block ?_ | refine gw_label ?_ | (refine gs_n tyT_ok 0 ?_ (hp := ?hp); case hp => exact ⟨by decide, by decide⟩))
  by_cases k3 : j < R.length
  · (refine gs_t tyT_ok ?hb ?_; case hb => first | exact decide_eq_true (by omega) | exact congrArg Bool.not (decide_eq_false (by omega)) | (simp; done) | (simp; omega))
    repeat (first | refine gs_n tyT_ok 0 ?_ | refine gs_gn tyT_ok 0 rfl ?_ | refine gs_no rfl ?_ | refine gs_end ?_ | refine gs_end' ?_ | refine gw_seq ?_ | refine gw_text rfl ?_ | refine gw_skip ?_ | refine gw_yes rfl ?_ | refine gw_no rfl ?_ | refine gw_exit ?_ | refine gw_block ?_ | refine gw_label ?_ | (refine gs_n tyT_ok 0 ?_ (hp := ?hp); case hp => exact ⟨by decide, by decide⟩))
    obtain ⟨o, rfl, ho⟩ := hLS.at k3
    have hx := hri.2 (R.getD j 0) (by rw [List.getD_eq_getElem?_getD, List.getElem?_eq_getElem k3]; exact List.getElem_mem k3)
    refine gs_atb 0 rfl rfl rfl rfl hcell ?_
    repeat (first | refine gs_n tyT_ok 0 ?_ | refine gs_gn tyT_ok 0 rfl ?_ | refine gs_no rfl ?_)
    refine gs_at 1 tyT_ok rfl rfl rfl rfl ho ?_
    refine gs_pu ent65 (sIn_t hx) ?_
    repeat (first | refine gs_n tyT_ok 0 ?_ | refine gs_gn tyT_ok 0 rfl ?_ | refine gs_no rfl ?_)
    refine gs_atbg 0 rfl rfl rfl rfl rfl hcell ?_
    repeat (first | refine gs_n tyT_ok 0 ?_ | refine gs_gn tyT_ok 0 rfl ?_ | refine gs_no rfl ?_ | refine gs_end ?_ | refine gs_end' ?_ | refine gw_seq ?_ | refine gw_text rfl ?_ | refine gw_skip ?_ | refine gw_yes rfl ?_ | refine gw_no rfl ?_ | refine gw_exit ?_ | refine gw_block ?_ | refine gw_label ?_ | (refine gs_n tyT_ok 0 ?_ (hp := ?hp); case hp => exact ⟨by decide, by decide⟩) | (refine gs_tg tyT_ok rfl ?hb ?_; case hb => first | exact decide_eq_true (by omega) | exact congrArg Bool.not (decide_eq_false (by omega)) | (simp; done) | (simp; omega)) | (refine gs_fg tyT_ok rfl ?hb ?_; case hb => first | exact decide_eq_false (by omega) | exact congrArg Bool.not (decide_eq_true (by omega)) | (simp; done) | (simp; omega)) | (refine gs_t tyT_ok ?hb ?_; case hb => first | exact decide_eq_true (by omega) | exact congrArg Bool.not (decide_eq_false (by omega)) | (simp; done) | (simp; omega)) | (refine gs_f tyT_ok ?hb ?_; case hb => first | exact decide_eq_false (by omega) | exact congrArg Bool.not (decide_eq_true (by omega)) | (simp; done) | (simp; omega)))
    exact ⟨m2 - 1, by omega, j + 1, by omega, rfl, rfl, rfl, rfl, rfl, trivial⟩
  (refine gs_f tyT_ok ?hb ?_; case hb => first | exact decide_eq_false (by omega) | exact congrArg Bool.not (decide_eq_true (by omega)) | (simp; done) | (simp; omega))
  repeat (first | refine gs_n tyT_ok 0 ?_ | refine gs_gn tyT_ok 0 rfl ?_ | refine gs_no rfl ?_ | refine gs_end ?_ | refine gs_end' ?_ | refine gw_seq ?_ | refine gw_text rfl ?_ | refine gw_skip ?_ | refine gw_yes rfl ?_ | refine gw_no rfl ?_ | refine gw_exit ?_ | refine gw_block ?_ | refine gw_label ?_ | (refine gs_n tyT_ok 0 ?_ (hp := ?hp); case hp => exact ⟨by decide, by decide⟩))
  refine gs_atb 0 rfl rfl rfl rfl hcell ?_
  refine gs_rd [1] ent194 rfl (by decide) (l7Row_w hLS hri.2 (by omega)) ?_
  have h8 := r8_len R
  refine gs_cat (a := rleS rs i) (b := r8 R) rfl rfl (by omega) ?_
  rw [← hstep]
  repeat (first | refine gs_n tyT_ok 0 ?_ | refine gs_gn tyT_ok 0 rfl ?_ | refine gs_no rfl ?_ | refine gs_end ?_ | refine gs_end' ?_ | refine gw_seq ?_ | refine gw_text rfl ?_ | refine gw_skip ?_ | refine gw_yes rfl ?_ | refine gw_no rfl ?_ | refine gw_exit ?_ | refine gw_block ?_ | refine gw_label ?_ | (refine gs_n tyT_ok 0 ?_ (hp := ?hp); case hp => exact ⟨by decide, by decide⟩))
  have hplen2 := rleP_len hok (i + 1) (by omega)
  by_cases k4 : i + 1 < rs.length
  · rw [if_pos k4] at hstep2
    (refine gs_t tyT_ok ?hb ?_; case hb => first | exact decide_eq_true (by omega) | exact congrArg Bool.not (decide_eq_false (by omega)) | (simp; done) | (simp; omega))
    repeat (first | refine gs_n tyT_ok 0 ?_ | refine gs_gn tyT_ok 0 rfl ?_ | refine gs_no rfl ?_ | refine gs_end ?_ | refine gs_end' ?_ | refine gw_seq ?_ | refine gw_text rfl ?_ | refine gw_skip ?_ | refine gw_yes rfl ?_ | refine gw_no rfl ?_ | refine gw_exit ?_ | refine gw_block ?_ | refine gw_label ?_ | (refine gs_n tyT_ok 0 ?_ (hp := ?hp); case hp => exact ⟨by decide, by decide⟩))
    refine gs_lit tyT_ok (cs := bytesV [0, 0]) rfl rfl rfl (by decide) rfl fun b => ?_
    refine gs_txt 2 (xs := [0, 0]) rfl rfl rfl ?_
    refine gs_cat (a := rleP rs (i + 1)) (b := [0, 0]) rfl rfl (by simp; omega) ?_
    rw [← hstep2]
    repeat (first | refine gs_n tyT_ok 0 ?_ | refine gs_gn tyT_ok 0 rfl ?_ | refine gs_no rfl ?_)
    refine gs_end ?_
    refine gw_weak [0, 1] (by decide) rfl ?_
    repeat (first | refine gs_n tyT_ok 0 ?_ | refine gs_gn tyT_ok 0 rfl ?_ | refine gs_no rfl ?_ | refine gs_end ?_ | refine gs_end' ?_ | refine gw_seq ?_ | refine gw_text rfl ?_ | refine gw_skip ?_ | refine gw_yes rfl ?_ | refine gw_no rfl ?_ | refine gw_exit ?_ | refine gw_block ?_ | refine gw_label ?_ | (refine gs_n tyT_ok 0 ?_ (hp := ?hp); case hp => exact ⟨by decide, by decide⟩))
    exact ⟨m - 1, by omega, i + 1, by omega, rfl, rfl, rfl, rfl, trivial⟩
  · rw [if_neg k4, List.append_nil] at hstep2
    (refine gs_f tyT_ok ?hb ?_; case hb => first | exact decide_eq_false (by omega) | exact congrArg Bool.not (decide_eq_true (by omega)) | (simp; done) | (simp; omega))
    repeat (first | refine gs_n tyT_ok 0 ?_ | refine gs_gn tyT_ok 0 rfl ?_ | refine gs_no rfl ?_ | refine gs_end ?_ | refine gs_end' ?_ | refine gw_seq ?_ | refine gw_text rfl ?_ | refine gw_skip ?_ | refine gw_yes rfl ?_ | refine gw_no rfl ?_ | refine gw_exit ?_ | refine gw_block ?_ | refine gw_label ?_ | (refine gs_n tyT_ok 0 ?_ (hp := ?hp); case hp => exact ⟨by decide, by decide⟩))
    exact ⟨m - 1, by omega, i + 1, by omega, rfl, rfl, by show Value.string _ = Value.string _; rw [hstep2], rfl, trivial⟩
end Go.Proofs.Ytjefdcbljpkmlaa.G
