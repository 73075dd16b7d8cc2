/- What the law FnRep needs, out of the texts Rd. -/
import Derived.Test.YtjefdcbljpkmlaaKFnRep25
import Derived.Test.YtjefdcbljpkmlaaKFnRep36
import Derived.Test.YtjefdcbljpkmlaaKFnRep38
section
set_option linter.unusedVariables false
set_option maxRecDepth 10000
namespace Go.Proofs.Ytjefdcbljpkmlaa.G
open Go
set_option maxHeartbeats 2000000 in
theorem fnRep_w {a : Option Addr} {n c : Nat} {q : Nat × GO} {zs : List Int} (hb : LB a n c q zs) (hn : n ≤ 9223372036854775807) : Trip Try.prog 13 [.slice a n c] [q] (fun v F' ns => v = .bool true) := by
  refine trip_of Try.func13 rfl (by simp [Try.ntmps13]) ?_
  repeat (first | refine gs_n tyT_ok 0 ?_ | refine gs_gn tyT_ok 0 rfl ?_ | refine gs_no rfl ?_ | refine gs_end ?_ | refine gs_end' ?_ | refine gw_seq ?_ | refine gw_text rfl ?_ | refine gw_skip ?_ | refine gw_yes rfl ?_ | refine gw_no rfl ?_ | refine gw_exit ?_ | refine gw_block ?_ | refine gw_label ?_ | (refine gs_n tyT_ok 0 ?_ (hp := ?hp); case hp => exact ⟨by decide, by decide⟩))
  by_cases g1 : n ≤ 1048576
  case neg =>
    (refine gs_t tyT_ok ?hb ?_; case hb => first | exact decide_eq_true (by omega) | exact congrArg Bool.not (decide_eq_false (by omega)) | (simp; done) | (simp; omega))
    repeat (first | refine gs_n tyT_ok 0 ?_ | refine gs_gn tyT_ok 0 rfl ?_ | refine gs_no rfl ?_ | refine gs_end ?_ | refine gs_end' ?_ | refine gw_seq ?_ | refine gw_text rfl ?_ | refine gw_skip ?_ | refine gw_yes rfl ?_ | refine gw_no rfl ?_ | refine gw_exit ?_ | refine gw_block ?_ | refine gw_label ?_ | (refine gs_n tyT_ok 0 ?_ (hp := ?hp); case hp => exact ⟨by decide, by decide⟩))
    exact gw_ret ⟨_, [q], [], [0], .tmp .nil, rfl, rfl, rfl, by decide⟩
  (refine gs_f tyT_ok ?hb ?_; case hb => first | exact decide_eq_false (by omega) | exact congrArg Bool.not (decide_eq_true (by omega)) | (simp; done) | (simp; omega))
  repeat (first | refine gs_n tyT_ok 0 ?_ | refine gs_gn tyT_ok 0 rfl ?_ | refine gs_no rfl ?_ | refine gs_end ?_ | refine gs_end' ?_ | refine gw_seq ?_ | refine gw_text rfl ?_ | refine gw_skip ?_ | refine gw_yes rfl ?_ | refine gw_no rfl ?_ | refine gw_exit ?_ | refine gw_block ?_ | refine gw_label ?_ | (refine gs_n tyT_ok 0 ?_ (hp := ?hp); case hp => exact ⟨by decide, by decide⟩))
  refine gs_call [0] ent46 rfl (by decide) (drawRep_w hb (by omega)) fun v F' ns ho _ _ => ?_
  obtain ⟨f, x, rfl, rfl, rfl, hx, hf⟩ := ho
  obtain ⟨k, d, w, h, a1, n1, c1, a2, n2, c2, e1, e2, cs, ps, p2⟩ := x
  obtain ⟨i1, i2, i3, i4⟩ := hx
  dsimp only [DP.v] at i1 i2 i3 i4 ⊢
  repeat (first | refine gs_n tyT_ok 0 ?_ | refine gs_gn tyT_ok 0 rfl ?_ | refine gs_no rfl ?_ | refine gs_end ?_ | refine gs_end' ?_ | refine gw_seq ?_ | refine gw_text rfl ?_ | refine gw_skip ?_ | refine gw_yes rfl ?_ | refine gw_no rfl ?_ | refine gw_exit ?_ | refine gw_block ?_ | refine gw_label ?_ | (refine gs_n tyT_ok 0 ?_ (hp := ?hp); case hp => exact ⟨by decide, by decide⟩))
  refine gs_alloc tyT_ok rfl fun b3 => ?_
  repeat (first | refine gs_n tyT_ok 0 ?_ | refine gs_gn tyT_ok 0 rfl ?_ | refine gs_no rfl ?_)
  refine gs_store tyT_ok 3 rfl rfl rfl rfl rfl rfl (Nat.le_of_ble_eq_true rfl) (Nat.le_of_ble_eq_true rfl) ?_
  repeat (first | refine gs_n tyT_ok 0 ?_ | refine gs_gn tyT_ok 0 rfl ?_ | refine gs_no rfl ?_ | refine gs_l tyT_ok 3 ?_ | refine gs_gl tyT_ok 3 rfl ?_ | (refine gs_l tyT_ok 3 ?_ (hp := ?hp); case hp => exact ⟨rfl, Nat.le_of_ble_eq_true rfl⟩) | (refine gs_gl tyT_ok 3 rfl ?_ (hp := ?hp); case hp => exact ⟨rfl, Nat.le_of_ble_eq_true rfl⟩) | refine gs_end ?_ | refine gs_end' ?_ | refine gw_seq ?_ | refine gw_text rfl ?_ | refine gw_skip ?_ | refine gw_yes rfl ?_ | refine gw_no rfl ?_ | refine gw_exit ?_ | refine gw_block ?_ | refine gw_label ?_ | (refine gs_n tyT_ok 0 ?_ (hp := ?hp); case hp => exact ⟨by decide, by decide⟩))
  refine gs_rd [1, 2] ent29 rfl (by decide) (rep_w i1 i2 (by omega) (by omega)) ?_
  repeat (first | refine gs_n tyT_ok 0 ?_ | refine gs_gn tyT_ok 0 rfl ?_ | refine gs_no rfl ?_ | refine gs_end ?_ | refine gs_end' ?_ | refine gw_seq ?_ | refine gw_text rfl ?_ | refine gw_skip ?_ | refine gw_yes rfl ?_ | refine gw_no rfl ?_ | refine gw_exit ?_ | refine gw_block ?_ | refine gw_label ?_ | (refine gs_n tyT_ok 0 ?_ (hp := ?hp); case hp => exact ⟨by decide, by decide⟩))
  refine gw_any [.N, .N, .L 3, .E [1, 2], .N, .N, .L 3, .E [1, 2], .L 3, .E [1, 2], .N, .N] rfl rfl rfl ?_
  repeat (first | refine gs_n tyT_ok 0 ?_ | refine gs_gn tyT_ok 0 rfl ?_ | refine gs_no rfl ?_ | refine gs_l tyT_ok 3 ?_ | refine gs_gl tyT_ok 3 rfl ?_ | (refine gs_l tyT_ok 3 ?_ (hp := ?hp); case hp => exact ⟨rfl, Nat.le_of_ble_eq_true rfl⟩) | (refine gs_gl tyT_ok 3 rfl ?_ (hp := ?hp); case hp => exact ⟨rfl, Nat.le_of_ble_eq_true rfl⟩))
  refine gs_rd [1, 2] ent24 rfl (by decide) (sRep_w i1 i2 (by omega) (by omega)) ?_
  refine gs_f tyT_ok (congrArg Bool.not (beq_self_eq_true _)) ?_
  repeat (first | refine gs_n tyT_ok 0 ?_ | refine gs_gn tyT_ok 0 rfl ?_ | refine gs_no rfl ?_ | refine gs_l tyT_ok 3 ?_ | refine gs_gl tyT_ok 3 rfl ?_ | (refine gs_l tyT_ok 3 ?_ (hp := ?hp); case hp => exact ⟨rfl, Nat.le_of_ble_eq_true rfl⟩) | (refine gs_gl tyT_ok 3 rfl ?_ (hp := ?hp); case hp => exact ⟨rfl, Nat.le_of_ble_eq_true rfl⟩))
  refine gs_rdg [1, 2] ent47 rfl rfl (by decide) (imageOk_w i1 i2 (by omega) (by omega)) ?_
  repeat (first | refine gs_n tyT_ok 0 ?_ | refine gs_gn tyT_ok 0 rfl ?_ | refine gs_no rfl ?_ | refine gs_l tyT_ok 3 ?_ | refine gs_gl tyT_ok 3 rfl ?_ | (refine gs_l tyT_ok 3 ?_ (hp := ?hp); case hp => exact ⟨rfl, Nat.le_of_ble_eq_true rfl⟩) | (refine gs_gl tyT_ok 3 rfl ?_ (hp := ?hp); case hp => exact ⟨rfl, Nat.le_of_ble_eq_true rfl⟩))
  refine gs_rdg [1, 2] ent48 rfl rfl (by decide) (sImageOk_w i1 i2 (by omega) (by omega)) ?_
  refine gs_fg tyT_ok rfl (congrArg Bool.not (beq_self_eq_true _)) ?_
  repeat (first | refine gs_n tyT_ok 0 ?_ | refine gs_gn tyT_ok 0 rfl ?_ | refine gs_no rfl ?_ | refine gs_l tyT_ok 3 ?_ | refine gs_gl tyT_ok 3 rfl ?_ | (refine gs_l tyT_ok 3 ?_ (hp := ?hp); case hp => exact ⟨rfl, Nat.le_of_ble_eq_true rfl⟩) | (refine gs_gl tyT_ok 3 rfl ?_ (hp := ?hp); case hp => exact ⟨rfl, Nat.le_of_ble_eq_true rfl⟩) | refine gs_end ?_ | refine gs_end' ?_ | refine gw_seq ?_ | refine gw_text rfl ?_ | refine gw_skip ?_ | refine gw_yes rfl ?_ | refine gw_no rfl ?_ | refine gw_exit ?_ | refine gw_block ?_ | refine gw_label ?_ | (refine gs_n tyT_ok 0 ?_ (hp := ?hp); case hp => exact ⟨by decide, by decide⟩))
  refine gs_rd [1, 2] ent48 rfl (by decide) (sImageOk_w i1 i2 (by omega) (by omega)) ?_
  by_cases hok : imgOk k d w h cs ps
  case neg =>
    rw [decide_eq_false hok, decide_eq_false fun y : repOk f k d w h cs ps => hok y.1]
    repeat (first | refine gs_n tyT_ok 0 ?_ | refine gs_gn tyT_ok 0 rfl ?_ | refine gs_no rfl ?_ | refine gs_end ?_ | refine gs_end' ?_ | refine gw_seq ?_ | refine gw_text rfl ?_ | refine gw_skip ?_ | refine gw_yes rfl ?_ | refine gw_no rfl ?_ | refine gw_exit ?_ | refine gw_block ?_ | refine gw_label ?_ | (refine gs_n tyT_ok 0 ?_ (hp := ?hp); case hp => exact ⟨by decide, by decide⟩))
    exact gw_ret ⟨_, [q], [], [0], .tmp .nil, rfl, rfl, rfl, by decide⟩
  rw [decide_eq_true hok]
  repeat (first | refine gs_n tyT_ok 0 ?_ | refine gs_gn tyT_ok 0 rfl ?_ | refine gs_no rfl ?_ | refine gs_l tyT_ok 3 ?_ | refine gs_gl tyT_ok 3 rfl ?_ | (refine gs_l tyT_ok 3 ?_ (hp := ?hp); case hp => exact ⟨rfl, Nat.le_of_ble_eq_true rfl⟩) | (refine gs_gl tyT_ok 3 rfl ?_ (hp := ?hp); case hp => exact ⟨rfl, Nat.le_of_ble_eq_true rfl⟩) | refine gs_end ?_ | refine gs_end' ?_ | refine gw_seq ?_ | refine gw_text rfl ?_ | refine gw_skip ?_ | refine gw_yes rfl ?_ | refine gw_no rfl ?_ | refine gw_exit ?_ | refine gw_block ?_ | refine gw_label ?_ | (refine gs_n tyT_ok 0 ?_ (hp := ?hp); case hp => exact ⟨by decide, by decide⟩))
  refine gs_rd [1, 2] ent29 rfl (by decide) (rep_w i1 i2 (by omega) (by omega)) ?_
  rw [decide_eq_true (show repOk 1 k d w h cs ps from ⟨hok, .inl rfl⟩)]
  repeat (first | refine gs_n tyT_ok 0 ?_ | refine gs_gn tyT_ok 0 rfl ?_ | refine gs_no rfl ?_ | refine gs_l tyT_ok 3 ?_ | refine gs_gl tyT_ok 3 rfl ?_ | (refine gs_l tyT_ok 3 ?_ (hp := ?hp); case hp => exact ⟨rfl, Nat.le_of_ble_eq_true rfl⟩) | (refine gs_gl tyT_ok 3 rfl ?_ (hp := ?hp); case hp => exact ⟨rfl, Nat.le_of_ble_eq_true rfl⟩) | refine gs_end ?_ | refine gs_end' ?_ | refine gw_seq ?_ | refine gw_text rfl ?_ | refine gw_skip ?_ | refine gw_yes rfl ?_ | refine gw_no rfl ?_ | refine gw_exit ?_ | refine gw_block ?_ | refine gw_label ?_ | (refine gs_n tyT_ok 0 ?_ (hp := ?hp); case hp => exact ⟨by decide, by decide⟩))
  refine gs_callg [1, 2] ent49 rfl rfl (by decide) (imageFlip_w i1 i2 (by omega) (by omega) hok) fun v F' ns ho _ _ => ?_
  obtain ⟨rfl, w1, w2, e3, e4, rfl, rfl, hv1, hv2⟩ := ho
  have o1 := imgOk_rows hok
  obtain ⟨_, m1, _⟩ := imgOk_len o1
  obtain ⟨x1, y1, rfl, l1⟩ := hv1.ls
  obtain ⟨x2, y2, rfl, l2⟩ := hv2.ls
  refine gs_rdg [4, 5] ent29 rfl rfl (by decide) (rep_w l1 l2 (by omega) (by omega)) ?_
  have r1 : decide (repOk f k d w h cs (rows w.toNat h.toNat ps h.toNat)) = decide (repOk f k d w h cs ps) := by simp [repOk, hok, o1]
  rw [r1]
  repeat (first | refine gs_n tyT_ok 0 ?_ | refine gs_gn tyT_ok 0 rfl ?_ | refine gs_no rfl ?_ | refine gs_end ?_ | refine gs_end' ?_ | refine gw_seq ?_ | refine gw_text rfl ?_ | refine gw_skip ?_ | refine gw_yes rfl ?_ | refine gw_no rfl ?_ | refine gw_exit ?_ | refine gw_block ?_ | refine gw_label ?_ | (refine gs_n tyT_ok 0 ?_ (hp := ?hp); case hp => exact ⟨by decide, by decide⟩))
  refine gs_tg tyT_ok rfl (beq_self_eq_true _) ?_
  repeat (first | refine gs_n tyT_ok 0 ?_ | refine gs_gn tyT_ok 0 rfl ?_ | refine gs_no rfl ?_ | refine gs_l tyT_ok 3 ?_ | refine gs_gl tyT_ok 3 rfl ?_ | (refine gs_l tyT_ok 3 ?_ (hp := ?hp); case hp => exact ⟨rfl, Nat.le_of_ble_eq_true rfl⟩) | (refine gs_gl tyT_ok 3 rfl ?_ (hp := ?hp); case hp => exact ⟨rfl, Nat.le_of_ble_eq_true rfl⟩) | refine gs_end ?_ | refine gs_end' ?_ | refine gw_seq ?_ | refine gw_text rfl ?_ | refine gw_skip ?_ | refine gw_yes rfl ?_ | refine gw_no rfl ?_ | refine gw_exit ?_ | refine gw_block ?_ | refine gw_label ?_ | (refine gs_n tyT_ok 0 ?_ (hp := ?hp); case hp => exact ⟨by decide, by decide⟩))
  refine gs_callg [1, 2] ent50 rfl rfl (by decide) (imageTurn_w i1 i2 (by omega) (by omega) hok) fun v F' ns ho _ _ => ?_
  obtain ⟨rfl, w3, w4, e5, e6, rfl, rfl, hv3, hv4⟩ := ho
  have o2 := imgOk_rowsT hok
  obtain ⟨_, m2, _⟩ := imgOk_len o2
  obtain ⟨x3, y3, rfl, l3⟩ := hv3.ls
  obtain ⟨x4, y4, rfl, l4⟩ := hv4.ls
  refine gs_rdg [6, 7] ent29 rfl rfl (by decide) (rep_w l3 l4 (by omega) (by omega)) ?_
  have r2 : decide (repOk f k d h w cs (rowsT w.toNat h.toNat ps w.toNat)) = decide (repOk f k d w h cs ps) := by simp [repOk, hok, o2]
  rw [r2]
  repeat (first | refine gs_n tyT_ok 0 ?_ | refine gs_gn tyT_ok 0 rfl ?_ | refine gs_no rfl ?_ | refine gs_end ?_ | refine gs_end' ?_ | refine gw_seq ?_ | refine gw_text rfl ?_ | refine gw_skip ?_ | refine gw_yes rfl ?_ | refine gw_no rfl ?_ | refine gw_exit ?_ | refine gw_block ?_ | refine gw_label ?_ | (refine gs_n tyT_ok 0 ?_ (hp := ?hp); case hp => exact ⟨by decide, by decide⟩))
  refine gs_tg tyT_ok rfl (beq_self_eq_true _) ?_
  repeat (first | refine gs_n tyT_ok 0 ?_ | refine gs_gn tyT_ok 0 rfl ?_ | refine gs_no rfl ?_ | refine gs_end ?_ | refine gs_end' ?_ | refine gw_seq ?_ | refine gw_text rfl ?_ | refine gw_skip ?_ | refine gw_yes rfl ?_ | refine gw_no rfl ?_ | refine gw_exit ?_ | refine gw_block ?_ | refine gw_label ?_ | (refine gs_n tyT_ok 0 ?_ (hp := ?hp); case hp => exact ⟨by decide, by decide⟩))
  exact gw_ret ⟨_, [q], [], [0], .tmp .nil, rfl, rfl, rfl, by decide⟩
end Go.Proofs.Ytjefdcbljpkmlaa.G
namespace Go.Proofs.Ytjefdcbljpkmlaa.P
open Go
theorem law_FnRep (a : Option Addr) (len cap : Nat) (z : List Int) (w : World) (w0 : G.RowW .u8 w a len cap z) (y0 : len * 1 ≤ 140737488351232) :
    Calls Try.prog 13 #[.slice a len cap] w fun e w' => e = .returned (.bool true) ∧ RowKit.Below w.heap.size w w' := G.Trip.rB w0 fun q zs hb _ => G.fnRep_w hb (by omega)
end Go.Proofs.Ytjefdcbljpkmlaa.P
end
