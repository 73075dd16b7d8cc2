/- What the law FnExactGifPut needs, out of the texts Yg. -/
import Derived.Test.YtjefdcbljpkmlaaKFnExactGifPut36
import Derived.Test.YtjefdcbljpkmlaaKFnExactGifPut38
section
set_option linter.unusedVariables false
set_option maxRecDepth 10000
namespace Go.Proofs.Ytjefdcbljpkmlaa.G
open Go
set_option maxHeartbeats 2000000 in
theorem exactGifPut_w {k d w h : Int} {a1 a2 : Option Addr} {n1 c1 n2 c2 : Nat} {q1 q2 : Nat × GO} {cs ps : List Int} {woven : Bool} (hT : TImg k d w h a1 n1 c1 a2 n2 c2 q1 q2 cs ps) (hn1 : n1 ≤ 9223372036854775807) (hn2 : n2 ≤ 9223372036854775807) :
    Trip Try.prog 11 [img k d w h (.slice a1 n1 c1) (.slice a2 n2 c2), .bool woven] [q1, q2] (fun v F' ns => v = .bool true) := by
  obtain ⟨rfl, rfl, hT⟩ := hT
  refine trip_of Try.func11 rfl (by simp [Try.ntmps11]) ?_
  refine gw_seq (gw_text rfl ?_)
  refine gs_box fun b => ?_
  repeat (first | refine gs_n tyT_ok 0 ?_ | refine gs_gn tyT_ok 0 rfl ?_ | refine gs_no rfl ?_ | refine gs_l tyT_ok 2 ?_ | refine gs_gl tyT_ok 2 rfl ?_ | (refine gs_l tyT_ok 2 ?_ (hp := ?hp); case hp => exact ⟨rfl, Nat.le_of_ble_eq_true rfl⟩) | (refine gs_gl tyT_ok 2 rfl ?_ (hp := ?hp); case hp => exact ⟨rfl, Nat.le_of_ble_eq_true rfl⟩) | refine gs_end ?_ | refine gs_end' ?_ | refine gw_seq ?_ | refine gw_text rfl ?_ | refine gw_skip ?_ | refine gw_yes rfl ?_ | refine gw_no rfl ?_ | refine gw_exit ?_ | refine gw_block ?_ | refine gw_label ?_ | (refine gs_n tyT_ok 0 ?_ (hp := ?hp); case hp => exact ⟨by decide, by decide⟩))
  refine gs_pu ent14 (szImage_w (m := 1048576) (by omega) hn1 hn2) ?_
  repeat (first | refine gs_n tyT_ok 0 ?_ | refine gs_gn tyT_ok 0 rfl ?_ | refine gs_no rfl ?_ | refine gs_end ?_ | refine gs_end' ?_ | refine gw_seq ?_ | refine gw_text rfl ?_ | refine gw_skip ?_ | refine gw_yes rfl ?_ | refine gw_no rfl ?_ | refine gw_exit ?_ | refine gw_block ?_ | refine gw_label ?_ | (refine gs_n tyT_ok 0 ?_ (hp := ?hp); case hp => exact ⟨by decide, by decide⟩))
  by_cases hneg : szR cs.length ps.length 1048576 < 0
  · (refine gs_t tyT_ok ?hb ?_; case hb => first | exact decide_eq_true (by omega) | exact congrArg Bool.not (decide_eq_false (by omega)) | (simp; done) | (simp; omega))
    repeat (first | refine gs_n tyT_ok 0 ?_ | refine gs_gn tyT_ok 0 rfl ?_ | refine gs_no rfl ?_ | refine gs_end ?_ | refine gs_end' ?_ | refine gw_seq ?_ | refine gw_text rfl ?_ | refine gw_skip ?_ | refine gw_yes rfl ?_ | refine gw_no rfl ?_ | refine gw_exit ?_ | refine gw_block ?_ | refine gw_label ?_ | (refine gs_n tyT_ok 0 ?_ (hp := ?hp); case hp => exact ⟨by decide, by decide⟩))
    exact gw_ret ⟨_, [q1, q2], [], [0, 1], .tmp .nil, rfl, rfl, rfl, by decide⟩
  have hc := szR_some hneg
  have hT := hT (by omega) (by omega)
  (refine gs_f tyT_ok ?hb ?_; case hb => first | exact decide_eq_false (by omega) | exact congrArg Bool.not (decide_eq_true (by omega)) | (simp; done) | (simp; omega))
  repeat (first | refine gs_n tyT_ok 0 ?_ | refine gs_gn tyT_ok 0 rfl ?_ | refine gs_no rfl ?_ | refine gs_l tyT_ok 2 ?_ | refine gs_gl tyT_ok 2 rfl ?_ | (refine gs_l tyT_ok 2 ?_ (hp := ?hp); case hp => exact ⟨rfl, Nat.le_of_ble_eq_true rfl⟩) | (refine gs_gl tyT_ok 2 rfl ?_ (hp := ?hp); case hp => exact ⟨rfl, Nat.le_of_ble_eq_true rfl⟩) | refine gs_end ?_ | refine gs_end' ?_ | refine gw_seq ?_ | refine gw_text rfl ?_ | refine gw_skip ?_ | refine gw_yes rfl ?_ | refine gw_no rfl ?_ | refine gw_exit ?_ | refine gw_block ?_ | refine gw_label ?_ | (refine gs_n tyT_ok 0 ?_ (hp := ?hp); case hp => exact ⟨by decide, by decide⟩))
  refine gs_call [0, 1] ent16 rfl (by decide) hT fun v F' ns ho _ _ => ?_
  obtain ⟨rfl, v1, v2, e1, e2, rfl, rfl, hv1, hv2⟩ := ho
  have hv1' := hv1
  have hv2' := hv2
  obtain ⟨ua1, uc1, rfl, l1⟩ := hv1'.ls
  obtain ⟨ua2, uc2, rfl, l2⟩ := hv2'.ls
  have hI : Rd Try.prog 42 [img k d w h (.slice ua1 cs.length uc1) (.slice ua2 ps.length uc2), .bool woven] [e1, e2] (.string (txt (gifPut k d w h cs ps woven))) := sGifPut_w l1 l2 (by omega) (by omega)
  repeat (first | refine gs_n tyT_ok 0 ?_ | refine gs_gn tyT_ok 0 rfl ?_ | refine gs_no rfl ?_)
  refine gs_rd [3, 4] ent42 rfl (by decide) hI ?_
  repeat (first | refine gs_n tyT_ok 0 ?_ | refine gs_gn tyT_ok 0 rfl ?_ | refine gs_no rfl ?_ | refine gs_l tyT_ok 2 ?_ | refine gs_gl tyT_ok 2 rfl ?_ | (refine gs_l tyT_ok 2 ?_ (hp := ?hp); case hp => exact ⟨rfl, Nat.le_of_ble_eq_true rfl⟩) | (refine gs_gl tyT_ok 2 rfl ?_ (hp := ?hp); case hp => exact ⟨rfl, Nat.le_of_ble_eq_true rfl⟩) | refine gs_end ?_ | refine gs_end' ?_ | refine gw_seq ?_ | refine gw_text rfl ?_ | refine gw_skip ?_ | refine gw_yes rfl ?_ | refine gw_no rfl ?_ | refine gw_exit ?_ | refine gw_block ?_ | refine gw_label ?_ | (refine gs_n tyT_ok 0 ?_ (hp := ?hp); case hp => exact ⟨by decide, by decide⟩))
  refine gs_call [0, 1] ent16 rfl (by decide) hT fun v F' ns ho _ _ => ?_
  obtain ⟨rfl, v1, v2, e3, e4, rfl, rfl, hv3, hv4⟩ := ho
  have hv3' := hv3
  have hv4' := hv4
  obtain ⟨ua3, uc3, rfl, l3⟩ := hv3'.ls
  obtain ⟨ua4, uc4, rfl, l4⟩ := hv4'.ls
  refine gs_alloc tyT_ok rfl fun b7 => ?_
  refine gs_store tyT_ok 7 rfl rfl rfl rfl rfl rfl (Nat.le_of_ble_eq_true rfl) (Nat.le_of_ble_eq_true rfl) ?_
  repeat (first | refine gs_n tyT_ok 0 ?_ | refine gs_gn tyT_ok 0 rfl ?_ | refine gs_no rfl ?_ | refine gs_l tyT_ok 7 ?_ | refine gs_gl tyT_ok 7 rfl ?_ | (refine gs_l tyT_ok 7 ?_ (hp := ?hp); case hp => exact ⟨rfl, Nat.le_of_ble_eq_true rfl⟩) | (refine gs_gl tyT_ok 7 rfl ?_ (hp := ?hp); case hp => exact ⟨rfl, Nat.le_of_ble_eq_true rfl⟩) | refine gs_end ?_ | refine gs_end' ?_ | refine gw_seq ?_ | refine gw_text rfl ?_ | refine gw_skip ?_ | refine gw_yes rfl ?_ | refine gw_no rfl ?_ | refine gw_exit ?_ | refine gw_block ?_ | refine gw_label ?_ | (refine gs_n tyT_ok 0 ?_ (hp := ?hp); case hp => exact ⟨by decide, by decide⟩))
  refine gs_rd [5, 6] ent43 rfl (by decide) (gifPut_w l3 l4 (by omega) (by omega)) ?_
  repeat (first | refine gs_n tyT_ok 0 ?_ | refine gs_gn tyT_ok 0 rfl ?_ | refine gs_no rfl ?_ | refine gs_end ?_ | refine gs_end' ?_ | refine gw_seq ?_ | refine gw_text rfl ?_ | refine gw_skip ?_ | refine gw_yes rfl ?_ | refine gw_no rfl ?_ | refine gw_exit ?_ | refine gw_block ?_ | refine gw_label ?_ | (refine gs_n tyT_ok 0 ?_ (hp := ?hp); case hp => exact ⟨by decide, by decide⟩))
  refine gs_f tyT_ok ?hb ?_
  case hb => simp
  repeat (first | refine gs_n tyT_ok 0 ?_ | refine gs_gn tyT_ok 0 rfl ?_ | refine gs_no rfl ?_ | refine gs_end ?_ | refine gs_end' ?_ | refine gw_seq ?_ | refine gw_text rfl ?_ | refine gw_skip ?_ | refine gw_yes rfl ?_ | refine gw_no rfl ?_ | refine gw_exit ?_ | refine gw_block ?_ | refine gw_label ?_ | (refine gs_n tyT_ok 0 ?_ (hp := ?hp); case hp => exact ⟨by decide, by decide⟩))
  refine gw_any [.L 7, .L 2, .E [0, 1], .E [5, 6, 8, 9], .N] rfl rfl rfl ?_
  repeat (first | refine gs_n tyT_ok 0 ?_ | refine gs_gn tyT_ok 0 rfl ?_ | refine gs_no rfl ?_ | refine gs_l tyT_ok 7 ?_ | refine gs_gl tyT_ok 7 rfl ?_ | (refine gs_l tyT_ok 7 ?_ (hp := ?hp); case hp => exact ⟨rfl, Nat.le_of_ble_eq_true rfl⟩) | (refine gs_gl tyT_ok 7 rfl ?_ (hp := ?hp); case hp => exact ⟨rfl, Nat.le_of_ble_eq_true rfl⟩) | refine gs_l tyT_ok 2 ?_ | refine gs_gl tyT_ok 2 rfl ?_ | (refine gs_l tyT_ok 2 ?_ (hp := ?hp); case hp => exact ⟨rfl, Nat.le_of_ble_eq_true rfl⟩) | (refine gs_gl tyT_ok 2 rfl ?_ (hp := ?hp); case hp => exact ⟨rfl, Nat.le_of_ble_eq_true rfl⟩))
  refine gs_call [0, 1] ent16 rfl (by decide) hT fun v F' ns ho _ _ => ?_
  obtain ⟨rfl, v1, v2, e5, e6, rfl, rfl, hv5, hv6⟩ := ho
  have hv5' := hv5
  have hv6' := hv6
  obtain ⟨ua5, uc5, rfl, l5⟩ := hv5'.ls
  obtain ⟨ua6, uc6, rfl, l6⟩ := hv6'.ls
  refine gs_rd [5, 6, 8, 9] ent18 rfl (by decide) (eqImage_w l3 l4 l5 l6 (by omega) (by omega)) ?_
  repeat (first | refine gs_n tyT_ok 0 ?_ | refine gs_gn tyT_ok 0 rfl ?_ | refine gs_no rfl ?_ | refine gs_end ?_ | refine gs_end' ?_ | refine gw_seq ?_ | refine gw_text rfl ?_ | refine gw_skip ?_ | refine gw_yes rfl ?_ | refine gw_no rfl ?_ | refine gw_exit ?_ | refine gw_block ?_ | refine gw_label ?_ | (refine gs_n tyT_ok 0 ?_ (hp := ?hp); case hp => exact ⟨by decide, by decide⟩))
  exact gw_ret ⟨_, [q1, q2], [], [0, 1], .tmp .nil, rfl, rfl, rfl, by decide⟩
end Go.Proofs.Ytjefdcbljpkmlaa.G
namespace Go.Proofs.Ytjefdcbljpkmlaa.P
open Go
theorem law_FnExactGifPut (k d wd h : Int) (a1 : Option Addr) (n1 c1 : Nat) (z1 : List Int) (a2 : Option Addr) (n2 c2 : Nat) (z2 : List Int) (woven : Bool) (w : World) (r1 : G.RowW .i64 w a1 n1 c1 z1) (r2 : G.RowW .i64 w a2 n2 c2 z2) :
    Calls Try.prog 11 #[G.img k d wd h (.slice a1 n1 c1) (.slice a2 n2 c2), .bool woven] w fun e w' => e = .returned (.bool true) ∧ RowKit.Below w.heap.size w w' :=
  G.Trip.rM (rest := [.bool woven]) r1 r2 fun q1 q2 cs ps ht => G.exactGifPut_w ht (G.RowW.len r1) (G.RowW.len r2)
end Go.Proofs.Ytjefdcbljpkmlaa.P
end
