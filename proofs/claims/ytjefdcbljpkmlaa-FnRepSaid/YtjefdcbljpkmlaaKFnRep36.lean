/- What the law FnRep needs, out of the texts Rc. -/
import Derived.Test.YtjefdcbljpkmlaaKFnRep31
import Derived.Test.YtjefdcbljpkmlaaKFnRep35
section
set_option linter.unusedVariables false
set_option maxRecDepth 10000
namespace Go.Proofs.Ytjefdcbljpkmlaa.G
open Go
theorem RS.n {g : Nat} {q : Nat × GO} {B B' : Nat} {p : Nat × GO} (h : RS g q B p) (hb : B ≤ B') : RS g q B' p := h.mono hb
/-- A picture that was drawn, full colours. -/
def FullDrawn (g : Nat) (q : Nat × GO) (B : Nat) : OutT := fun v F' ns => ∃ d w h a1 n1 c1 a2 n2 c2 e1 e2 cs ps p, v = img 4 d w h (.slice a1 n1 c1) (.slice a2 n2 c2) ∧ F' = [p, q] ∧ ns = [e1, e2] ∧ LS a1 n1 c1 e1 cs ∧ LS a2 n2 c2 e2 ps ∧ cs.length ≤ 256 ∧ ps.length ≤ 144 ∧ RS g q (B + 1000) p
set_option maxHeartbeats 1000000 in
theorem full_w {g : Nat} {p q : Nat × GO} {B : Nat} (hr : RS g q B p) (hB : B ≤ 100000000) : Trip Try.prog 189 [ptr g] [p, q] (FullDrawn g q B) := by
  refine trip_of Try.func189 rfl (by simp [Try.ntmps189]) ?_
  refine gw_seq (gw_text rfl ?_)
  refine gs_alloc tyT_ok rfl fun b2 => ?_
  refine gs_end ?_
  refine gw_nil (gw_nil ?_)
  refine gw_seq (gw_anyP [1, 2, 5, 6, 8, 9, 7, 10, 0, 3, 4, 12, 11, 13] [.A 3 (.row 3 (ints [1, 2, 4, 8]) 4) (some 4), .N, .E [0, 1], .N, .L 3, .N, .E [0, 1], .N, .N, .E [0, 1], .N, .N, .A 4 zimg none, .E [4]] rfl rfl rfl ?_)
  repeat (first | refine gs_n tyT_ok 0 ?_ | refine gs_gn tyT_ok 0 rfl ?_ | refine gs_no rfl ?_)
  refine gs_pick 0 1 hr rfl rfl rfl rfl (by decide) (by omega) (by omega) fun r1 p1 hr1 r1a r1b => ?_
  repeat (first | refine gs_n tyT_ok 0 ?_ | refine gs_gn tyT_ok 0 rfl ?_ | refine gs_no rfl ?_)
  refine gs_pick 0 1 hr1 rfl rfl rfl rfl (by decide) (by omega) (by omega) fun r2 p2 hr2 r2a r2b => ?_
  repeat (first | refine gs_n tyT_ok 0 ?_ | refine gs_gn tyT_ok 0 rfl ?_ | refine gs_no rfl ?_)
  refine gs_pick 0 1 hr2 rfl rfl rfl rfl (by decide) (by omega) (by omega) fun r3 p3 hr3 r3a r3b => ?_
  repeat (first | refine gs_n tyT_ok 0 ?_ | refine gs_gn tyT_ok 0 rfl ?_ | refine gs_no rfl ?_)
  refine gs_litA tyT_ok 3 (cs := ints [1, 2, 4, 8]) rfl rfl rfl (by decide) rfl rfl rfl (fun bA => ?_) ⟨rfl, rfl, rfl⟩
  obtain ⟨R, rfl⟩ := Int.eq_ofNat_of_zero_le r1a
  have hR : R < 4 := by omega
  obtain ⟨D, hD, hD8⟩ : ∃ D : Nat, (ints [1, 2, 4, 8])[0 + R * 1]? = some (.int .i64 (D : Int)) ∧ (1 ≤ D ∧ D ≤ 8) := by
    have : R = 0 ∨ R = 1 ∨ R = 2 ∨ R = 3 := by omega
    rcases this with rfl | rfl | rfl | rfl
    · exact ⟨1, rfl, by decide⟩
    · exact ⟨2, rfl, by decide⟩
    · exact ⟨4, rfl, by decide⟩
    · exact ⟨8, rfl, by decide⟩
  repeat (first | refine gs_n tyT_ok 0 ?_ | refine gs_gn tyT_ok 0 rfl ?_ | refine gs_no rfl ?_)
  refine gs_at 3 tyT_ok rfl rfl rfl rfl hD ?_
  repeat (first | refine gs_n tyT_ok 0 ?_ | refine gs_gn tyT_ok 0 rfl ?_ | refine gs_no rfl ?_)
  refine gs_allocA tyT_ok 4 (r := zimg) rfl rfl rfl (fun b3 => ?_) ⟨rfl, rfl, rfl⟩
  repeat (first | refine gs_n tyT_ok 0 ?_ | refine gs_gn tyT_ok 0 rfl ?_ | refine gs_no rfl ?_)
  refine gs_store tyT_ok 4 rfl rfl rfl rfl rfl rfl (Nat.le_of_ble_eq_true rfl) (Nat.le_of_ble_eq_true rfl) ?_
  refine gs_end' ?_
  refine gw_weak [0, 1, 2, 4] (by decide) rfl ?_
  clear hD
  obtain ⟨w, hw⟩ : ∃ w, w = 1 + r2 := ⟨_, rfl⟩
  obtain ⟨h, hh⟩ : ∃ h, h = 1 + r3 := ⟨_, rfl⟩
  have hw2 : 1 ≤ w ∧ w ≤ 12 := by omega
  have hh2 : 1 ≤ h ∧ h ≤ 12 := by omega
  rw [← hw, ← hh]
  clear hw hh
  obtain ⟨N, hN, hN2⟩ : ∃ N : Nat, (1 : Int) * 2 ^ D = (N : Int) ∧ (1 ≤ N ∧ N ≤ 256) := by
    have h1 : 2 ^ D ≤ 2 ^ 8 := Nat.pow_le_pow_right (by decide) hD8.2
    have h2 : 1 ≤ 2 ^ D := Nat.one_le_two_pow
    exact ⟨2 ^ D, by simp, h2, by omega⟩
  have hpow : Pu Try.prog 115 [.int .i64 (D : Int)] (.int .i64 (N : Int)) := by
    rw [← hN]
    exact sPow_w (n := D) (by omega)
  refine gw_nil ?_
  repeat (first | refine gs_n tyT_ok 0 ?_ | refine gs_gn tyT_ok 0 rfl ?_ | refine gs_no rfl ?_ | refine gs_end ?_ | refine gs_end' ?_ | refine gw_seq ?_ | refine gw_text rfl ?_ | refine gw_skip ?_ | refine gw_yes rfl ?_ | refine gw_no rfl ?_ | refine gw_exit ?_ | refine gw_block ?_ | refine gw_label ?_ | (refine gs_n tyT_ok 0 ?_ (hp := ?hp); case hp => exact ⟨by decide, by decide⟩))
  refine gw_loopL (fun _ (x : Nat × Value × (Nat × GO) × List Int × (Nat × GO)) => [(0, ptr g), (2, ptr b2), (3, ptr b3), (4, .int .i64 x.1)]) (fun _ x => [x.2.2.2.2, q, (b2, zimg), (b3, imc 4 D w h x.2.1 (.slice none 0 0)), x.2.2.1]) (fun m x => x.1 + m = N ∧ OI x.2.1 x.2.2.1 x.2.2.2.1 ∧ x.2.2.2.1.length = x.1 ∧ RS g q (B + 3 + x.1) x.2.2.2.2) N (0, .slice none 0 0, (0, .none), [], p3) ⟨by simp, OI.nil, rfl, hr3.mono (by omega)⟩ rfl ⟨rfl, rfl, rfl, rfl, trivial⟩ fun m ⟨j, v1, e1, cs, p4⟩ e ⟨hj, hv1, hl, hr4⟩ => ?_
  dsimp only at hj hv1 hl hr4 ⊢
  have hv1' := hv1
  obtain ⟨va, vc, rfl, l1⟩ := hv1'.ls
  repeat (first | refine gs_n tyT_ok 0 ?_ | refine gs_gn tyT_ok 0 rfl ?_ | refine gs_no rfl ?_ | refine gs_l tyT_ok 3 ?_ | refine gs_gl tyT_ok 3 rfl ?_ | (refine gs_l tyT_ok 3 ?_ (hp := ?hp); case hp => exact ⟨rfl, Nat.le_of_ble_eq_true rfl⟩) | (refine gs_gl tyT_ok 3 rfl ?_ (hp := ?hp); case hp => exact ⟨rfl, Nat.le_of_ble_eq_true rfl⟩) | refine gs_end ?_ | refine gs_end' ?_ | refine gw_seq ?_ | refine gw_text rfl ?_ | refine gw_skip ?_ | refine gw_yes rfl ?_ | refine gw_no rfl ?_ | refine gw_exit ?_ | refine gw_block ?_ | refine gw_label ?_ | (refine gs_n tyT_ok 0 ?_ (hp := ?hp); case hp => exact ⟨by decide, by decide⟩))
  refine gs_pu ent115 hpow ?_
  by_cases k6 : j < N
  case pos =>
    (refine gs_t tyT_ok ?hb ?_; case hb => first | exact decide_eq_true (by omega) | exact congrArg Bool.not (decide_eq_false (by omega)) | (simp; done) | (simp; omega))
    repeat (first | refine gs_n tyT_ok 0 ?_ | refine gs_gn tyT_ok 0 rfl ?_ | refine gs_no rfl ?_ | refine gs_end ?_ | refine gs_end' ?_ | refine gw_seq ?_ | refine gw_text rfl ?_ | refine gw_skip ?_ | refine gw_yes rfl ?_ | refine gw_no rfl ?_ | refine gw_exit ?_ | refine gw_block ?_ | refine gw_label ?_ | (refine gs_n tyT_ok 0 ?_ (hp := ?hp); case hp => exact ⟨by decide, by decide⟩))
    refine gw_any [.N, .L 3, .N, .E [0, 1], .N, .N, .N, .E [], .E [4, 5], .N, .E [3]] rfl rfl rfl ?_
    repeat (first | refine gs_n tyT_ok 0 ?_ | refine gs_gn tyT_ok 0 rfl ?_ | refine gs_no rfl ?_ | refine gs_l tyT_ok 3 ?_ | refine gs_gl tyT_ok 3 rfl ?_ | (refine gs_l tyT_ok 3 ?_ (hp := ?hp); case hp => exact ⟨rfl, Nat.le_of_ble_eq_true rfl⟩) | (refine gs_gl tyT_ok 3 rfl ?_ (hp := ?hp); case hp => exact ⟨rfl, Nat.le_of_ble_eq_true rfl⟩))
    refine gs_pick 0 1 hr4 rfl rfl rfl rfl (by decide) (by omega) (by omega) fun x1 p10 hr10 x1a x1b => ?_
    repeat (first | refine gs_n tyT_ok 0 ?_ | refine gs_gn tyT_ok 0 rfl ?_ | refine gs_no rfl ?_ | refine gs_l tyT_ok 3 ?_ | refine gs_gl tyT_ok 3 rfl ?_ | (refine gs_l tyT_ok 3 ?_ (hp := ?hp); case hp => exact ⟨rfl, Nat.le_of_ble_eq_true rfl⟩) | (refine gs_gl tyT_ok 3 rfl ?_ (hp := ?hp); case hp => exact ⟨rfl, Nat.le_of_ble_eq_true rfl⟩))
    refine gs_push 4 (n := x1 * 65536 + j) rfl rfl hv1 (fun _ => rfl) (by omega) fun b a1 c1 e2 hv2 => ?_
    repeat (first | refine gs_n tyT_ok 0 ?_ | refine gs_gn tyT_ok 0 rfl ?_ | refine gs_no rfl ?_)
    refine gs_store tyT_ok 3 rfl rfl rfl rfl rfl rfl (Nat.le_of_ble_eq_true rfl) (Nat.le_of_ble_eq_true rfl) ?_
    refine gs_end' ?_
    refine gw_weak [0, 1, 2, 3, 4] (by decide) rfl ?_
    repeat (first | refine gs_n tyT_ok 0 ?_ | refine gs_gn tyT_ok 0 rfl ?_ | refine gs_no rfl ?_ | refine gs_end ?_ | refine gs_end' ?_ | refine gw_seq ?_ | refine gw_text rfl ?_ | refine gw_skip ?_ | refine gw_yes rfl ?_ | refine gw_no rfl ?_ | refine gw_exit ?_ | refine gw_block ?_ | refine gw_label ?_ | (refine gs_n tyT_ok 0 ?_ (hp := ?hp); case hp => exact ⟨by decide, by decide⟩))
    refine ⟨m - 1, by omega, (j + 1, _, e2, cs ++ [x1 * 65536 + j], p10), ⟨by show j + 1 + (m - 1) = _; omega, hv2, by show (cs ++ [x1 * 65536 + (j : Int)]).length = j + 1; rw [List.length_append, hl]; rfl, hr10.mono (by show B + 3 + j + 1 ≤ B + 3 + (j + 1); omega)⟩, rfl, rfl, rfl, rfl, rfl, trivial⟩
  (refine gs_f tyT_ok ?hb ?_; case hb => first | exact decide_eq_false (by omega) | exact congrArg Bool.not (decide_eq_true (by omega)) | (simp; done) | (simp; omega))
  repeat (first | refine gs_n tyT_ok 0 ?_ | refine gs_gn tyT_ok 0 rfl ?_ | refine gs_no rfl ?_ | refine gs_end ?_ | refine gs_end' ?_ | refine gw_seq ?_ | refine gw_text rfl ?_ | refine gw_skip ?_ | refine gw_yes rfl ?_ | refine gw_no rfl ?_ | refine gw_exit ?_ | refine gw_block ?_ | refine gw_label ?_ | (refine gs_n tyT_ok 0 ?_ (hp := ?hp); case hp => exact ⟨by decide, by decide⟩))
  have hcl : cs.length ≤ 256 := by omega
  have hwh : 0 ≤ w * h ∧ w * h ≤ 144 := by
    obtain ⟨W, rfl⟩ := Int.eq_ofNat_of_zero_le (show 0 ≤ w by omega)
    obtain ⟨H, rfl⟩ := Int.eq_ofNat_of_zero_le (show 0 ≤ h by omega)
    have := Nat.mul_le_mul (show W ≤ 12 by omega) (show H ≤ 12 by omega)
    rw [← Int.natCast_mul]
    omega
  obtain ⟨S, hS⟩ := Int.eq_ofNat_of_zero_le hwh.1
  refine gw_nil ?_
  refine gw_loopL (fun _ (x : Nat × Value × (Nat × GO) × List Int × (Nat × GO)) => [(0, ptr g), (2, ptr b2), (3, ptr b3), (5, .int .i64 x.1)]) (fun _ x => [x.2.2.2.2, q, (b2, zimg), (b3, imc 4 D w h (.slice va cs.length vc) x.2.1), e1, x.2.2.1]) (fun m x => x.1 + m = S ∧ OI x.2.1 x.2.2.1 x.2.2.2.1 ∧ x.2.2.2.1.length = x.1 ∧ RS g q (B + 300 + x.1) x.2.2.2.2) S (0, .slice none 0 0, (0, .none), [], p4) ⟨by simp, OI.nil, rfl, hr4.mono (by show B + 3 + j ≤ B + 300 + 0; omega)⟩ rfl ⟨rfl, rfl, rfl, rfl, trivial⟩ fun m ⟨j, v, e2, ps, p5⟩ e ⟨hj, hv, hl, hr5⟩ => ?_
  dsimp only at hj hv hl hr5 ⊢
  have hv' := hv
  obtain ⟨ua, uc, rfl, l2⟩ := hv'.ls
  repeat (first | refine gs_n tyT_ok 0 ?_ | refine gs_gn tyT_ok 0 rfl ?_ | refine gs_no rfl ?_ | refine gs_l tyT_ok 3 ?_ | refine gs_gl tyT_ok 3 rfl ?_ | (refine gs_l tyT_ok 3 ?_ (hp := ?hp); case hp => exact ⟨rfl, Nat.le_of_ble_eq_true rfl⟩) | (refine gs_gl tyT_ok 3 rfl ?_ (hp := ?hp); case hp => exact ⟨rfl, Nat.le_of_ble_eq_true rfl⟩) | refine gs_end ?_ | refine gs_end' ?_ | refine gw_seq ?_ | refine gw_text rfl ?_ | refine gw_skip ?_ | refine gw_yes rfl ?_ | refine gw_no rfl ?_ | refine gw_exit ?_ | refine gw_block ?_ | refine gw_label ?_ | (refine gs_n tyT_ok 0 ?_ (hp := ?hp); case hp => exact ⟨by decide, by decide⟩))
  rw [hS]
  by_cases k6 : j < S
  case neg =>
    (refine gs_f tyT_ok ?hb ?_; case hb => first | exact decide_eq_false (by omega) | exact congrArg Bool.not (decide_eq_true (by omega)) | (simp; done) | (simp; omega))
    repeat (first | refine gs_n tyT_ok 0 ?_ | refine gs_gn tyT_ok 0 rfl ?_ | refine gs_no rfl ?_ | refine gs_l tyT_ok 3 ?_ | refine gs_gl tyT_ok 3 rfl ?_ | (refine gs_l tyT_ok 3 ?_ (hp := ?hp); case hp => exact ⟨rfl, Nat.le_of_ble_eq_true rfl⟩) | (refine gs_gl tyT_ok 3 rfl ?_ (hp := ?hp); case hp => exact ⟨rfl, Nat.le_of_ble_eq_true rfl⟩) | refine gs_end ?_ | refine gs_end' ?_ | refine gw_seq ?_ | refine gw_text rfl ?_ | refine gw_skip ?_ | refine gw_yes rfl ?_ | refine gw_no rfl ?_ | refine gw_exit ?_ | refine gw_block ?_ | refine gw_label ?_ | (refine gs_n tyT_ok 0 ?_ (hp := ?hp); case hp => exact ⟨by decide, by decide⟩))
    refine gs_store tyT_ok 2 rfl rfl rfl rfl rfl rfl (Nat.le_of_ble_eq_true rfl) (Nat.le_of_ble_eq_true rfl) ?_
    repeat (first | refine gs_n tyT_ok 0 ?_ | refine gs_gn tyT_ok 0 rfl ?_ | refine gs_no rfl ?_ | refine gs_end ?_ | refine gs_end' ?_ | refine gw_seq ?_ | refine gw_text rfl ?_ | refine gw_skip ?_ | refine gw_yes rfl ?_ | refine gw_no rfl ?_ | refine gw_exit ?_ | refine gw_block ?_ | refine gw_label ?_ | (refine gs_n tyT_ok 0 ?_ (hp := ?hp); case hp => exact ⟨by decide, by decide⟩))
    exact gw_ret ⟨_, [p5, q], [e1, e2], [0, 1, 4, 5], rv_cell tyT_ok 2 rfl rfl rfl rfl rfl (Nat.le_of_ble_eq_true rfl) .nil, ⟨D, w, h, _, _, _, _, _, _, e1, e2, cs, ps, p5, rfl, rfl, rfl, l1, l2, hcl, by omega, hr5.mono (by omega)⟩, rfl, rfl, by decide⟩
  (refine gs_t tyT_ok ?hb ?_; case hb => first | exact decide_eq_true (by omega) | exact congrArg Bool.not (decide_eq_false (by omega)) | (simp; done) | (simp; omega))
  repeat (first | refine gs_n tyT_ok 0 ?_ | refine gs_gn tyT_ok 0 rfl ?_ | refine gs_no rfl ?_ | refine gs_end ?_ | refine gs_end' ?_ | refine gw_seq ?_ | refine gw_text rfl ?_ | refine gw_skip ?_ | refine gw_yes rfl ?_ | refine gw_no rfl ?_ | refine gw_exit ?_ | refine gw_block ?_ | refine gw_label ?_ | (refine gs_n tyT_ok 0 ?_ (hp := ?hp); case hp => exact ⟨by decide, by decide⟩))
  refine gw_any [.N, .L 3, .N, .N, .L 3, .E [], .E [0, 1], .E [], .E [5, 6], .N, .E [3]] rfl rfl rfl ?_
  repeat (first | refine gs_n tyT_ok 0 ?_ | refine gs_gn tyT_ok 0 rfl ?_ | refine gs_no rfl ?_ | refine gs_l tyT_ok 3 ?_ | refine gs_gl tyT_ok 3 rfl ?_ | (refine gs_l tyT_ok 3 ?_ (hp := ?hp); case hp => exact ⟨rfl, Nat.le_of_ble_eq_true rfl⟩) | (refine gs_gl tyT_ok 3 rfl ?_ (hp := ?hp); case hp => exact ⟨rfl, Nat.le_of_ble_eq_true rfl⟩))
  refine gs_pu ent115 hpow ?_
  refine gs_pick 0 1 hr5 rfl rfl rfl rfl (by decide) (by omega) (by omega) fun x1 p10 hr10 x1a x1b => ?_
  repeat (first | refine gs_n tyT_ok 0 ?_ | refine gs_gn tyT_ok 0 rfl ?_ | refine gs_no rfl ?_ | refine gs_l tyT_ok 3 ?_ | refine gs_gl tyT_ok 3 rfl ?_ | (refine gs_l tyT_ok 3 ?_ (hp := ?hp); case hp => exact ⟨rfl, Nat.le_of_ble_eq_true rfl⟩) | (refine gs_gl tyT_ok 3 rfl ?_ (hp := ?hp); case hp => exact ⟨rfl, Nat.le_of_ble_eq_true rfl⟩))
  refine gs_push 5 (n := x1) rfl rfl hv (fun _ => rfl) (by omega) fun b a1 c1 e3 hv2 => ?_
  repeat (first | refine gs_n tyT_ok 0 ?_ | refine gs_gn tyT_ok 0 rfl ?_ | refine gs_no rfl ?_)
  refine gs_store tyT_ok 3 rfl rfl rfl rfl rfl rfl (Nat.le_of_ble_eq_true rfl) (Nat.le_of_ble_eq_true rfl) ?_
  refine gs_end' ?_
  refine gw_weak [0, 1, 2, 3, 4, 5] (by decide) rfl ?_
  repeat (first | refine gs_n tyT_ok 0 ?_ | refine gs_gn tyT_ok 0 rfl ?_ | refine gs_no rfl ?_ | refine gs_end ?_ | refine gs_end' ?_ | refine gw_seq ?_ | refine gw_text rfl ?_ | refine gw_skip ?_ | refine gw_yes rfl ?_ | refine gw_no rfl ?_ | refine gw_exit ?_ | refine gw_block ?_ | refine gw_label ?_ | (refine gs_n tyT_ok 0 ?_ (hp := ?hp); case hp => exact ⟨by decide, by decide⟩))
  refine ⟨m - 1, by omega, (j + 1, _, e3, ps ++ [x1], p10), ⟨by show j + 1 + (m - 1) = _; omega, hv2, by show (ps ++ [x1]).length = j + 1; rw [List.length_append, hl]; rfl, hr10.mono (by show B + 300 + j + 1 ≤ B + 300 + (j + 1); omega)⟩, rfl, rfl, rfl, rfl, rfl, trivial⟩
/-- A picture that stands in memory. -/
structure DP where
  k : Int
  d : Int
  w : Int
  h : Int
  a1 : Option Addr
  n1 : Nat
  c1 : Nat
  a2 : Option Addr
  n2 : Nat
  c2 : Nat
  e1 : Nat × GO
  e2 : Nat × GO
  cs : List Int
  ps : List Int
  p : Nat × GO
def DP.v (x : DP) : Value := img x.k x.d x.w x.h (.slice x.a1 x.n1 x.c1) (.slice x.a2 x.n2 x.c2)
def DP.g (x : DP) : GO := imc x.k x.d x.w x.h (.slice x.a1 x.n1 x.c1) (.slice x.a2 x.n2 x.c2)
def DP.ok (x : DP) : Prop := LS x.a1 x.n1 x.c1 x.e1 x.cs ∧ LS x.a2 x.n2 x.c2 x.e2 x.ps ∧ x.cs.length ≤ 2000 ∧ x.ps.length ≤ 2000
/-- A format, a picture, and a way. -/
def FormOut (g : Nat) (q : Nat × GO) (B : Nat) : OutT := fun v F' ns => ∃ f y : Int, ∃ x : DP, v = .tuple #[.int .i64 f, x.v, .int .i64 y] ∧ F' = [x.p, q] ∧ ns = [x.e1, x.e2] ∧ x.ok ∧ (1 ≤ f ∧ f ≤ 5) ∧ (0 ≤ y ∧ y ≤ 30) ∧ RS g q (B + 200000) x.p
set_option maxHeartbeats 2000000 in
theorem form_w {g : Nat} {p q : Nat × GO} {B : Nat} (hr : RS g q B p) (hB : B ≤ 1000000) : Trip Try.prog 133 [ptr g] [p, q] (FormOut g q B) := by
  refine trip_of Try.func133 rfl (by simp [Try.ntmps133]) ?_
  refine gw_seq (gw_text rfl ?_)
  repeat (first | refine gs_n tyT_ok 0 ?_ | refine gs_gn tyT_ok 0 rfl ?_ | refine gs_no rfl ?_)
  refine gs_alloc tyT_ok rfl fun b3 => ?_
  repeat (first | refine gs_n tyT_ok 0 ?_ | refine gs_gn tyT_ok 0 rfl ?_ | refine gs_no rfl ?_ | refine gs_end ?_ | refine gs_end' ?_ | refine gw_seq ?_ | refine gw_text rfl ?_ | refine gw_skip ?_ | refine gw_yes rfl ?_ | refine gw_no rfl ?_ | refine gw_exit ?_ | refine gw_block ?_ | refine gw_label ?_ | (refine gs_n tyT_ok 0 ?_ (hp := ?hp); case hp => exact ⟨by decide, by decide⟩))
  refine gs_pick 0 1 hr rfl rfl rfl rfl (by decide) (by omega) (by omega) fun r1 p1 hr1 r1a r1b => ?_
  repeat (first | refine gs_n tyT_ok 0 ?_ | refine gs_gn tyT_ok 0 rfl ?_ | refine gs_no rfl ?_ | refine gs_end ?_ | refine gs_end' ?_ | refine gw_seq ?_ | refine gw_text rfl ?_ | refine gw_skip ?_ | refine gw_yes rfl ?_ | refine gw_no rfl ?_ | refine gw_exit ?_ | refine gw_block ?_ | refine gw_label ?_ | (refine gs_n tyT_ok 0 ?_ (hp := ?hp); case hp => exact ⟨by decide, by decide⟩))
  refine gs_call [0, 1] ent80 rfl (by decide) (any_w hr1 (by omega)) fun v F' ns ho _ _ => ?_
  obtain ⟨k, d, w, h, a1, n1, c1, a2, n2, c2, e1, e2, cs, ps, p2, rfl, rfl, rfl, i1, i2, i3, i4, hr2⟩ := ho
  obtain ⟨f, hf⟩ : ∃ f, f = 1 + r1 := ⟨_, rfl⟩
  have hf5 : 1 ≤ f ∧ f ≤ 5 := by omega
  rw [← hf]
  clear hf
  refine gs_alloc tyT_ok rfl fun b6 => ?_
  refine gs_store tyT_ok 5 rfl rfl rfl rfl rfl rfl (Nat.le_of_ble_eq_true rfl) (Nat.le_of_ble_eq_true rfl) ?_
  refine gs_end ?_
  refine gw_weak [0, 1, 2, 5, 3, 4] (by decide) rfl ?_
  repeat (first | refine gs_n tyT_ok 0 ?_ | refine gs_gn tyT_ok 0 rfl ?_ | refine gs_no rfl ?_ | refine gs_end ?_ | refine gs_end' ?_ | refine gw_seq ?_ | refine gw_text rfl ?_ | refine gw_skip ?_ | refine gw_yes rfl ?_ | refine gw_no rfl ?_ | refine gw_exit ?_ | refine gw_block ?_ | refine gw_label ?_ | (refine gs_n tyT_ok 0 ?_ (hp := ?hp); case hp => exact ⟨by decide, by decide⟩))
  refine gw_loopL (fun _ (x : Nat × DP) => [(0, ptr g), (3, ptr b3), (5, .int .i64 f), (6, ptr b6), (7, .int .i64 x.1)]) (fun _ x => [x.2.p, q, (b3, zimg), (b6, x.2.g), x.2.e1, x.2.e2]) (fun m x => x.1 + m = 6 ∧ x.2.ok ∧ RS g q (B + 130000 + 11000 * x.1) x.2.p) 6 (0, ⟨k, d, w, h, a1, n1, c1, a2, n2, c2, e1, e2, cs, ps, p2⟩) ⟨rfl, ⟨i1, i2, i3, i4⟩, hr2.mono (by show B + 1 + 20000 + 100000 ≤ B + 130000 + 11000 * 0; omega)⟩ rfl ⟨rfl, rfl, rfl, rfl, rfl, trivial⟩ fun m ⟨j, x⟩ e ⟨hj, hx, hr3⟩ => ?_
  obtain ⟨k, d, w, h, a1, n1, c1, a2, n2, c2, e1, e2, cs, ps, p2⟩ := x
  obtain ⟨i1, i2, i3, i4⟩ := hx
  dsimp only at hj i1 i2 i3 i4 hr3
  show GW _ _ _ _ _ [p2, q, (b3, zimg), (b6, imc k d w h (.slice a1 n1 c1) (.slice a2 n2 c2)), e1, e2]
  have fin : ∀ (Q : QT) (e : Env), e 0 = ptr g → e 3 = ptr b3 → e 5 = .int .i64 f → e 6 = ptr b6 → True := fun _ _ _ _ _ _ => trivial
  repeat (first | refine gs_n tyT_ok 0 ?_ | refine gs_gn tyT_ok 0 rfl ?_ | refine gs_no rfl ?_ | refine gs_l tyT_ok 3 ?_ | refine gs_gl tyT_ok 3 rfl ?_ | (refine gs_l tyT_ok 3 ?_ (hp := ?hp); case hp => exact ⟨rfl, Nat.le_of_ble_eq_true rfl⟩) | (refine gs_gl tyT_ok 3 rfl ?_ (hp := ?hp); case hp => exact ⟨rfl, Nat.le_of_ble_eq_true rfl⟩) | refine gs_end ?_ | refine gs_end' ?_ | refine gw_seq ?_ | refine gw_text rfl ?_ | refine gw_skip ?_ | refine gw_yes rfl ?_ | refine gw_no rfl ?_ | refine gw_exit ?_ | refine gw_block ?_ | refine gw_label ?_ | (refine gs_n tyT_ok 0 ?_ (hp := ?hp); case hp => exact ⟨by decide, by decide⟩))
  by_cases hgo : j < 6 ∧ ¬ repOk f k d w h cs ps
  case pos =>
    (refine gs_t tyT_ok ?hb ?_; case hb => first | exact decide_eq_true (by omega) | exact congrArg Bool.not (decide_eq_false (by omega)) | (simp; done) | (simp; omega))
    repeat (first | refine gs_n tyT_ok 0 ?_ | refine gs_gn tyT_ok 0 rfl ?_ | refine gs_no rfl ?_ | refine gs_l tyT_ok 3 ?_ | refine gs_gl tyT_ok 3 rfl ?_ | (refine gs_l tyT_ok 3 ?_ (hp := ?hp); case hp => exact ⟨rfl, Nat.le_of_ble_eq_true rfl⟩) | (refine gs_gl tyT_ok 3 rfl ?_ (hp := ?hp); case hp => exact ⟨rfl, Nat.le_of_ble_eq_true rfl⟩) | refine gs_end ?_ | refine gs_end' ?_ | refine gw_seq ?_ | refine gw_text rfl ?_ | refine gw_skip ?_ | refine gw_yes rfl ?_ | refine gw_no rfl ?_ | refine gw_exit ?_ | refine gw_block ?_ | refine gw_label ?_ | (refine gs_n tyT_ok 0 ?_ (hp := ?hp); case hp => exact ⟨by decide, by decide⟩))
    refine gs_rdg [4, 5] ent24 rfl rfl (by decide) (sRep_w i1 i2 (by omega) (by omega)) ?_
    rw [decide_eq_false hgo.2]
    repeat (first | refine gs_n tyT_ok 0 ?_ | refine gs_gn tyT_ok 0 rfl ?_ | refine gs_no rfl ?_ | refine gs_end ?_ | refine gs_end' ?_ | refine gw_seq ?_ | refine gw_text rfl ?_ | refine gw_skip ?_ | refine gw_yes rfl ?_ | refine gw_no rfl ?_ | refine gw_exit ?_ | refine gw_block ?_ | refine gw_label ?_ | (refine gs_n tyT_ok 0 ?_ (hp := ?hp); case hp => exact ⟨by decide, by decide⟩))
    refine gs_call [0, 1] ent152 rfl (by decide) (image_w hr3 (by omega)) fun v F' ns ho _ _ => ?_
    obtain ⟨k3, d3, w3, h3, v1, v2, e3, e4, cs3, ps3, p3, rfl, rfl, rfl, hv1, hv2, g1, g2, hr4, _⟩ := ho
    obtain ⟨ua, uc, rfl, l1⟩ := hv1.ls
    obtain ⟨va, vc, rfl, l2⟩ := hv2.ls
    refine gs_store tyT_ok 3 rfl rfl rfl rfl rfl rfl (Nat.le_of_ble_eq_true rfl) (Nat.le_of_ble_eq_true rfl) ?_
    repeat (first | refine gs_n tyT_ok 0 ?_ | refine gs_gn tyT_ok 0 rfl ?_ | refine gs_no rfl ?_ | refine gs_end ?_ | refine gs_end' ?_ | refine gw_seq ?_ | refine gw_text rfl ?_ | refine gw_skip ?_ | refine gw_yes rfl ?_ | refine gw_no rfl ?_ | refine gw_exit ?_ | refine gw_block ?_ | refine gw_label ?_ | (refine gs_n tyT_ok 0 ?_ (hp := ?hp); case hp => exact ⟨by decide, by decide⟩))
    by_cases f2 : f = 2
    · (refine gs_t tyT_ok ?hb ?_; case hb => first | exact decide_eq_true (by omega) | exact congrArg Bool.not (decide_eq_false (by omega)) | (simp; done) | (simp; omega))
      repeat (first | refine gs_n tyT_ok 0 ?_ | refine gs_gn tyT_ok 0 rfl ?_ | refine gs_no rfl ?_ | refine gs_end ?_ | refine gs_end' ?_ | refine gw_seq ?_ | refine gw_text rfl ?_ | refine gw_skip ?_ | refine gw_yes rfl ?_ | refine gw_no rfl ?_ | refine gw_exit ?_ | refine gw_block ?_ | refine gw_label ?_ | (refine gs_n tyT_ok 0 ?_ (hp := ?hp); case hp => exact ⟨by decide, by decide⟩))
      refine gs_call [0, 1] ent189 rfl (by decide) (full_w hr4 (by omega)) fun v F' ns ho _ _ => ?_
      obtain ⟨d5, w5, h5, a5, n5, c5, a6, n6, c6, e5, e6, cs5, ps5, p5, rfl, rfl, rfl, l5, l6, y1, y2, hr5⟩ := ho
      refine gs_store tyT_ok 3 rfl rfl rfl rfl rfl rfl (Nat.le_of_ble_eq_true rfl) (Nat.le_of_ble_eq_true rfl) ?_
      refine gs_end ?_
      refine gw_weak [0, 1, 2, 3, 8, 9] (by decide) rfl ?_
      repeat (first | refine gs_n tyT_ok 0 ?_ | refine gs_gn tyT_ok 0 rfl ?_ | refine gs_no rfl ?_ | refine gs_end ?_ | refine gs_end' ?_ | refine gw_seq ?_ | refine gw_text rfl ?_ | refine gw_skip ?_ | refine gw_yes rfl ?_ | refine gw_no rfl ?_ | refine gw_exit ?_ | refine gw_block ?_ | refine gw_label ?_ | (refine gs_n tyT_ok 0 ?_ (hp := ?hp); case hp => exact ⟨by decide, by decide⟩))
      exact ⟨m - 1, by omega, (j + 1, ⟨4, d5, w5, h5, a5, n5, c5, a6, n6, c6, e5, e6, cs5, ps5, p5⟩), ⟨by show j + 1 + (m - 1) = _; omega, ⟨l5, l6, by show cs5.length ≤ 2000; omega, by show ps5.length ≤ 2000; omega⟩, hr5.mono (by show B + 130000 + 11000 * j + 10000 + 1000 ≤ B + 130000 + 11000 * (j + 1); omega)⟩, rfl, rfl, rfl, rfl, rfl, rfl, trivial⟩
    · (refine gs_f tyT_ok ?hb ?_; case hb => first | exact decide_eq_false (by omega) | exact congrArg Bool.not (decide_eq_true (by omega)) | (simp; done) | (simp; omega))
      refine gs_end ?_
      refine gw_no rfl ?_
      refine gw_skip ?_
      refine gw_weak [0, 1, 2, 3, 6, 7] (by decide) rfl ?_
      repeat (first | refine gs_n tyT_ok 0 ?_ | refine gs_gn tyT_ok 0 rfl ?_ | refine gs_no rfl ?_ | refine gs_end ?_ | refine gs_end' ?_ | refine gw_seq ?_ | refine gw_text rfl ?_ | refine gw_skip ?_ | refine gw_yes rfl ?_ | refine gw_no rfl ?_ | refine gw_exit ?_ | refine gw_block ?_ | refine gw_label ?_ | (refine gs_n tyT_ok 0 ?_ (hp := ?hp); case hp => exact ⟨by decide, by decide⟩))
      exact ⟨m - 1, by omega, (j + 1, ⟨k3, d3, w3, h3, _, _, _, _, _, _, e3, e4, cs3, ps3, p3⟩), ⟨by show j + 1 + (m - 1) = _; omega, ⟨l1, l2, by show cs3.length ≤ 2000; omega, by show ps3.length ≤ 2000; omega⟩, hr4.mono (by show B + 130000 + 11000 * j + 10000 ≤ B + 130000 + 11000 * (j + 1); omega)⟩, rfl, rfl, rfl, rfl, rfl, rfl, trivial⟩
  have out : ∀ (e : Env), e 0 = ptr g → e 3 = ptr b3 → e 5 = .int .i64 f → e 6 = ptr b6 → True := fun _ _ _ _ _ => trivial
  clear fin out
  have hcond : j < 6 ∧ repOk f k d w h cs ps ∨ ¬ j < 6 := by
    by_cases c1 : j < 6
    · by_cases c2 : repOk f k d w h cs ps
      · exact .inl ⟨c1, c2⟩
      · exact absurd ⟨c1, c2⟩ hgo
    · exact .inr c1
  rcases hcond with ⟨j1, j2⟩ | j1
  · (refine gs_t tyT_ok ?hb ?_; case hb => first | exact decide_eq_true (by omega) | exact congrArg Bool.not (decide_eq_false (by omega)) | (simp; done) | (simp; omega))
    repeat (first | refine gs_n tyT_ok 0 ?_ | refine gs_gn tyT_ok 0 rfl ?_ | refine gs_no rfl ?_ | refine gs_l tyT_ok 3 ?_ | refine gs_gl tyT_ok 3 rfl ?_ | (refine gs_l tyT_ok 3 ?_ (hp := ?hp); case hp => exact ⟨rfl, Nat.le_of_ble_eq_true rfl⟩) | (refine gs_gl tyT_ok 3 rfl ?_ (hp := ?hp); case hp => exact ⟨rfl, Nat.le_of_ble_eq_true rfl⟩) | refine gs_end ?_ | refine gs_end' ?_ | refine gw_seq ?_ | refine gw_text rfl ?_ | refine gw_skip ?_ | refine gw_yes rfl ?_ | refine gw_no rfl ?_ | refine gw_exit ?_ | refine gw_block ?_ | refine gw_label ?_ | (refine gs_n tyT_ok 0 ?_ (hp := ?hp); case hp => exact ⟨by decide, by decide⟩))
    refine gs_rdg [4, 5] ent24 rfl rfl (by decide) (sRep_w i1 i2 (by omega) (by omega)) ?_
    rw [decide_eq_true j2]
    repeat (first | refine gs_n tyT_ok 0 ?_ | refine gs_gn tyT_ok 0 rfl ?_ | refine gs_no rfl ?_ | refine gs_end ?_ | refine gs_end' ?_ | refine gw_seq ?_ | refine gw_text rfl ?_ | refine gw_skip ?_ | refine gw_yes rfl ?_ | refine gw_no rfl ?_ | refine gw_exit ?_ | refine gw_block ?_ | refine gw_label ?_ | (refine gs_n tyT_ok 0 ?_ (hp := ?hp); case hp => exact ⟨by decide, by decide⟩))
    refine gs_pick 0 1 hr3 rfl rfl rfl rfl (by decide) (by omega) (by omega) fun r4 p4 hr4 r4a r4b => ?_
    repeat (first | refine gs_n tyT_ok 0 ?_ | refine gs_gn tyT_ok 0 rfl ?_ | refine gs_no rfl ?_ | refine gs_end ?_ | refine gs_end' ?_ | refine gw_seq ?_ | refine gw_text rfl ?_ | refine gw_skip ?_ | refine gw_yes rfl ?_ | refine gw_no rfl ?_ | refine gw_exit ?_ | refine gw_block ?_ | refine gw_label ?_ | (refine gs_n tyT_ok 0 ?_ (hp := ?hp); case hp => exact ⟨by decide, by decide⟩))
    by_cases g1 : f = 1
    · (refine gs_t tyT_ok ?hb ?_; case hb => first | exact decide_eq_true (by omega) | exact congrArg Bool.not (decide_eq_false (by omega)) | (simp; done) | (simp; omega))
      repeat (first | refine gs_n tyT_ok 0 ?_ | refine gs_gn tyT_ok 0 rfl ?_ | refine gs_no rfl ?_ | refine gs_end ?_ | refine gs_end' ?_ | refine gw_seq ?_ | refine gw_text rfl ?_ | refine gw_skip ?_ | refine gw_yes rfl ?_ | refine gw_no rfl ?_ | refine gw_exit ?_ | refine gw_block ?_ | refine gw_label ?_ | (refine gs_n tyT_ok 0 ?_ (hp := ?hp); case hp => exact ⟨by decide, by decide⟩))
      refine gs_pick 0 1 hr4 rfl rfl rfl rfl (by decide) (by omega) (by omega) fun r5 p5 hr5 r5a r5b => ?_
      repeat (first | refine gs_n tyT_ok 0 ?_ | refine gs_gn tyT_ok 0 rfl ?_ | refine gs_no rfl ?_ | refine gs_end ?_ | refine gs_end' ?_ | refine gw_seq ?_ | refine gw_text rfl ?_ | refine gw_skip ?_ | refine gw_yes rfl ?_ | refine gw_no rfl ?_ | refine gw_exit ?_ | refine gw_block ?_ | refine gw_label ?_ | (refine gs_n tyT_ok 0 ?_ (hp := ?hp); case hp => exact ⟨by decide, by decide⟩))
      refine gw_any [.N, .L 3, .N, .N, .E [2], .N] rfl rfl rfl ?_
      repeat (first | refine gs_n tyT_ok 0 ?_ | refine gs_gn tyT_ok 0 rfl ?_ | refine gs_no rfl ?_ | refine gs_l tyT_ok 3 ?_ | refine gs_gl tyT_ok 3 rfl ?_ | (refine gs_l tyT_ok 3 ?_ (hp := ?hp); case hp => exact ⟨rfl, Nat.le_of_ble_eq_true rfl⟩) | (refine gs_gl tyT_ok 3 rfl ?_ (hp := ?hp); case hp => exact ⟨rfl, Nat.le_of_ble_eq_true rfl⟩))
      refine gs_store tyT_ok 2 rfl rfl rfl rfl rfl rfl (Nat.le_of_ble_eq_true rfl) (Nat.le_of_ble_eq_true rfl) ?_
      repeat (first | refine gs_n tyT_ok 0 ?_ | refine gs_gn tyT_ok 0 rfl ?_ | refine gs_no rfl ?_ | refine gs_end ?_ | refine gs_end' ?_ | refine gw_seq ?_ | refine gw_text rfl ?_ | refine gw_skip ?_ | refine gw_yes rfl ?_ | refine gw_no rfl ?_ | refine gw_exit ?_ | refine gw_block ?_ | refine gw_label ?_ | (refine gs_n tyT_ok 0 ?_ (hp := ?hp); case hp => exact ⟨by decide, by decide⟩))
      exact gw_ret ⟨_, [p5, q], [e1, e2], [0, 1, 4, 5], .tmp (rv_cell tyT_ok 2 rfl rfl rfl rfl rfl (Nat.le_of_ble_eq_true rfl) (.tmp .nil)), ⟨f, r5, ⟨k, d, w, h, a1, n1, c1, a2, n2, c2, e1, e2, cs, ps, p5⟩, rfl, rfl, rfl, ⟨i1, i2, i3, i4⟩, hf5, by omega, hr5.mono (by omega)⟩, rfl, rfl, by decide⟩
    · (refine gs_f tyT_ok ?hb ?_; case hb => first | exact decide_eq_false (by omega) | exact congrArg Bool.not (decide_eq_true (by omega)) | (simp; done) | (simp; omega))
      refine gs_end ?_
      refine gw_no rfl ?_
      refine gw_skip ?_
      refine gw_seq (gw_any [.N, .L 3, .N, .N, .E [2], .N] rfl rfl rfl ?_)
      repeat (first | refine gs_n tyT_ok 0 ?_ | refine gs_gn tyT_ok 0 rfl ?_ | refine gs_no rfl ?_ | refine gs_l tyT_ok 3 ?_ | refine gs_gl tyT_ok 3 rfl ?_ | (refine gs_l tyT_ok 3 ?_ (hp := ?hp); case hp => exact ⟨rfl, Nat.le_of_ble_eq_true rfl⟩) | (refine gs_gl tyT_ok 3 rfl ?_ (hp := ?hp); case hp => exact ⟨rfl, Nat.le_of_ble_eq_true rfl⟩))
      refine gs_store tyT_ok 2 rfl rfl rfl rfl rfl rfl (Nat.le_of_ble_eq_true rfl) (Nat.le_of_ble_eq_true rfl) ?_
      repeat (first | refine gs_n tyT_ok 0 ?_ | refine gs_gn tyT_ok 0 rfl ?_ | refine gs_no rfl ?_ | refine gs_end ?_ | refine gs_end' ?_ | refine gw_seq ?_ | refine gw_text rfl ?_ | refine gw_skip ?_ | refine gw_yes rfl ?_ | refine gw_no rfl ?_ | refine gw_exit ?_ | refine gw_block ?_ | refine gw_label ?_ | (refine gs_n tyT_ok 0 ?_ (hp := ?hp); case hp => exact ⟨by decide, by decide⟩))
      exact gw_ret ⟨_, [p4, q], [e1, e2], [0, 1, 4, 5], .tmp (rv_cell tyT_ok 2 rfl rfl rfl rfl rfl (Nat.le_of_ble_eq_true rfl) (.tmp .nil)), ⟨f, r4, ⟨k, d, w, h, a1, n1, c1, a2, n2, c2, e1, e2, cs, ps, p4⟩, rfl, rfl, rfl, ⟨i1, i2, i3, i4⟩, hf5, by omega, hr4.mono (by omega)⟩, rfl, rfl, by decide⟩
  · (refine gs_f tyT_ok ?hb ?_; case hb => first | exact decide_eq_false (by omega) | exact congrArg Bool.not (decide_eq_true (by omega)) | (simp; done) | (simp; omega))
    repeat (first | refine gs_n tyT_ok 0 ?_ | refine gs_gn tyT_ok 0 rfl ?_ | refine gs_no rfl ?_ | refine gs_end ?_ | refine gs_end' ?_ | refine gw_seq ?_ | refine gw_text rfl ?_ | refine gw_skip ?_ | refine gw_yes rfl ?_ | refine gw_no rfl ?_ | refine gw_exit ?_ | refine gw_block ?_ | refine gw_label ?_ | (refine gs_n tyT_ok 0 ?_ (hp := ?hp); case hp => exact ⟨by decide, by decide⟩))
    refine gs_pick 0 1 hr3 rfl rfl rfl rfl (by decide) (by omega) (by omega) fun r4 p4 hr4 r4a r4b => ?_
    repeat (first | refine gs_n tyT_ok 0 ?_ | refine gs_gn tyT_ok 0 rfl ?_ | refine gs_no rfl ?_ | refine gs_end ?_ | refine gs_end' ?_ | refine gw_seq ?_ | refine gw_text rfl ?_ | refine gw_skip ?_ | refine gw_yes rfl ?_ | refine gw_no rfl ?_ | refine gw_exit ?_ | refine gw_block ?_ | refine gw_label ?_ | (refine gs_n tyT_ok 0 ?_ (hp := ?hp); case hp => exact ⟨by decide, by decide⟩))
    by_cases g1 : f = 1
    · (refine gs_t tyT_ok ?hb ?_; case hb => first | exact decide_eq_true (by omega) | exact congrArg Bool.not (decide_eq_false (by omega)) | (simp; done) | (simp; omega))
      repeat (first | refine gs_n tyT_ok 0 ?_ | refine gs_gn tyT_ok 0 rfl ?_ | refine gs_no rfl ?_ | refine gs_end ?_ | refine gs_end' ?_ | refine gw_seq ?_ | refine gw_text rfl ?_ | refine gw_skip ?_ | refine gw_yes rfl ?_ | refine gw_no rfl ?_ | refine gw_exit ?_ | refine gw_block ?_ | refine gw_label ?_ | (refine gs_n tyT_ok 0 ?_ (hp := ?hp); case hp => exact ⟨by decide, by decide⟩))
      refine gs_pick 0 1 hr4 rfl rfl rfl rfl (by decide) (by omega) (by omega) fun r5 p5 hr5 r5a r5b => ?_
      repeat (first | refine gs_n tyT_ok 0 ?_ | refine gs_gn tyT_ok 0 rfl ?_ | refine gs_no rfl ?_ | refine gs_end ?_ | refine gs_end' ?_ | refine gw_seq ?_ | refine gw_text rfl ?_ | refine gw_skip ?_ | refine gw_yes rfl ?_ | refine gw_no rfl ?_ | refine gw_exit ?_ | refine gw_block ?_ | refine gw_label ?_ | (refine gs_n tyT_ok 0 ?_ (hp := ?hp); case hp => exact ⟨by decide, by decide⟩))
      refine gw_any [.N, .L 3, .N, .N, .E [2], .N] rfl rfl rfl ?_
      repeat (first | refine gs_n tyT_ok 0 ?_ | refine gs_gn tyT_ok 0 rfl ?_ | refine gs_no rfl ?_ | refine gs_l tyT_ok 3 ?_ | refine gs_gl tyT_ok 3 rfl ?_ | (refine gs_l tyT_ok 3 ?_ (hp := ?hp); case hp => exact ⟨rfl, Nat.le_of_ble_eq_true rfl⟩) | (refine gs_gl tyT_ok 3 rfl ?_ (hp := ?hp); case hp => exact ⟨rfl, Nat.le_of_ble_eq_true rfl⟩))
      refine gs_store tyT_ok 2 rfl rfl rfl rfl rfl rfl (Nat.le_of_ble_eq_true rfl) (Nat.le_of_ble_eq_true rfl) ?_
      repeat (first | refine gs_n tyT_ok 0 ?_ | refine gs_gn tyT_ok 0 rfl ?_ | refine gs_no rfl ?_ | refine gs_end ?_ | refine gs_end' ?_ | refine gw_seq ?_ | refine gw_text rfl ?_ | refine gw_skip ?_ | refine gw_yes rfl ?_ | refine gw_no rfl ?_ | refine gw_exit ?_ | refine gw_block ?_ | refine gw_label ?_ | (refine gs_n tyT_ok 0 ?_ (hp := ?hp); case hp => exact ⟨by decide, by decide⟩))
      exact gw_ret ⟨_, [p5, q], [e1, e2], [0, 1, 4, 5], .tmp (rv_cell tyT_ok 2 rfl rfl rfl rfl rfl (Nat.le_of_ble_eq_true rfl) (.tmp .nil)), ⟨f, r5, ⟨k, d, w, h, a1, n1, c1, a2, n2, c2, e1, e2, cs, ps, p5⟩, rfl, rfl, rfl, ⟨i1, i2, i3, i4⟩, hf5, by omega, hr5.mono (by omega)⟩, rfl, rfl, by decide⟩
    · (refine gs_f tyT_ok ?hb ?_; case hb => first | exact decide_eq_false (by omega) | exact congrArg Bool.not (decide_eq_true (by omega)) | (simp; done) | (simp; omega))
      refine gs_end ?_
      refine gw_no rfl ?_
      refine gw_skip ?_
      refine gw_seq (gw_any [.N, .L 3, .N, .N, .E [2], .N] rfl rfl rfl ?_)
      repeat (first | refine gs_n tyT_ok 0 ?_ | refine gs_gn tyT_ok 0 rfl ?_ | refine gs_no rfl ?_ | refine gs_l tyT_ok 3 ?_ | refine gs_gl tyT_ok 3 rfl ?_ | (refine gs_l tyT_ok 3 ?_ (hp := ?hp); case hp => exact ⟨rfl, Nat.le_of_ble_eq_true rfl⟩) | (refine gs_gl tyT_ok 3 rfl ?_ (hp := ?hp); case hp => exact ⟨rfl, Nat.le_of_ble_eq_true rfl⟩))
      refine gs_store tyT_ok 2 rfl rfl rfl rfl rfl rfl (Nat.le_of_ble_eq_true rfl) (Nat.le_of_ble_eq_true rfl) ?_
      repeat (first | refine gs_n tyT_ok 0 ?_ | refine gs_gn tyT_ok 0 rfl ?_ | refine gs_no rfl ?_ | refine gs_end ?_ | refine gs_end' ?_ | refine gw_seq ?_ | refine gw_text rfl ?_ | refine gw_skip ?_ | refine gw_yes rfl ?_ | refine gw_no rfl ?_ | refine gw_exit ?_ | refine gw_block ?_ | refine gw_label ?_ | (refine gs_n tyT_ok 0 ?_ (hp := ?hp); case hp => exact ⟨by decide, by decide⟩))
      exact gw_ret ⟨_, [p4, q], [e1, e2], [0, 1, 4, 5], .tmp (rv_cell tyT_ok 2 rfl rfl rfl rfl rfl (Nat.le_of_ble_eq_true rfl) (.tmp .nil)), ⟨f, r4, ⟨k, d, w, h, a1, n1, c1, a2, n2, c2, e1, e2, cs, ps, p4⟩, rfl, rfl, rfl, ⟨i1, i2, i3, i4⟩, hf5, by omega, hr4.mono (by omega)⟩, rfl, rfl, by decide⟩
/-- A format and a picture that were drawn. -/
def RepDrawn (q : Nat × GO) : OutT := fun v F' ns => ∃ f : Int, ∃ x : DP, v = .tuple #[.int .i64 f, x.v] ∧ F' = [q] ∧ ns = [x.e1, x.e2] ∧ x.ok ∧ (0 ≤ f ∧ f ≤ 7)
set_option maxHeartbeats 1000000 in
theorem drawRep_w {a : Option Addr} {n c : Nat} {q : Nat × GO} {zs : List Int} (hb : LB a n c q zs) (hn : n ≤ 1000000000000) : Trip Try.prog 46 [.slice a n c] [q] (RepDrawn q) := by
  refine trip_of Try.func46 rfl (by simp [Try.ntmps46]) ?_
  refine gw_seq (gw_text rfl ?_)
  repeat (first | refine gs_n tyT_ok 0 ?_ | refine gs_gn tyT_ok 0 rfl ?_ | refine gs_no rfl ?_)
  refine gs_alloc tyT_ok rfl fun b3 => ?_
  repeat (first | refine gs_n tyT_ok 0 ?_ | refine gs_gn tyT_ok 0 rfl ?_ | refine gs_no rfl ?_ | refine gs_end ?_ | refine gs_end' ?_ | refine gw_seq ?_ | refine gw_text rfl ?_ | refine gw_skip ?_ | refine gw_yes rfl ?_ | refine gw_no rfl ?_ | refine gw_exit ?_ | refine gw_block ?_ | refine gw_label ?_ | (refine gs_n tyT_ok 0 ?_ (hp := ?hp); case hp => exact ⟨by decide, by decide⟩))
  refine gs_call [0] ent78 rfl (by decide) (open_w hb hn) fun v F' ns ho _ _ => ?_
  obtain ⟨g, p, rfl, rfl, rfl, hr⟩ := ho
  repeat (first | refine gs_n tyT_ok 0 ?_ | refine gs_gn tyT_ok 0 rfl ?_ | refine gs_no rfl ?_ | refine gs_end ?_ | refine gs_end' ?_ | refine gw_seq ?_ | refine gw_text rfl ?_ | refine gw_skip ?_ | refine gw_yes rfl ?_ | refine gw_no rfl ?_ | refine gw_exit ?_ | refine gw_block ?_ | refine gw_label ?_ | (refine gs_n tyT_ok 0 ?_ (hp := ?hp); case hp => exact ⟨by decide, by decide⟩))
  refine gs_call [2, 0] ent133 rfl (by decide) (form_w hr (by omega)) fun v F' ns ho _ _ => ?_
  obtain ⟨f, y, x, rfl, rfl, rfl, hx, hf, hy, hr1⟩ := ho
  obtain ⟨k, d, w, h, a1, n1, c1, a2, n2, c2, e1, e2, cs, ps, p2⟩ := x
  dsimp only [DP.v] at hr1 ⊢
  repeat (first | refine gs_n tyT_ok 0 ?_ | refine gs_gn tyT_ok 0 rfl ?_ | refine gs_no rfl ?_ | refine gs_end ?_ | refine gs_end' ?_ | refine gw_seq ?_ | refine gw_text rfl ?_ | refine gw_skip ?_ | refine gw_yes rfl ?_ | refine gw_no rfl ?_ | refine gw_exit ?_ | refine gw_block ?_ | refine gw_label ?_ | (refine gs_n tyT_ok 0 ?_ (hp := ?hp); case hp => exact ⟨by decide, by decide⟩))
  refine gs_alloc tyT_ok rfl fun b6 => ?_
  repeat (first | refine gs_n tyT_ok 0 ?_ | refine gs_gn tyT_ok 0 rfl ?_ | refine gs_no rfl ?_)
  refine gs_store tyT_ok 5 rfl rfl rfl rfl rfl rfl (Nat.le_of_ble_eq_true rfl) (Nat.le_of_ble_eq_true rfl) ?_
  repeat (first | refine gs_n tyT_ok 0 ?_ | refine gs_gn tyT_ok 0 rfl ?_ | refine gs_no rfl ?_ | refine gs_end ?_ | refine gs_end' ?_ | refine gw_seq ?_ | refine gw_text rfl ?_ | refine gw_skip ?_ | refine gw_yes rfl ?_ | refine gw_no rfl ?_ | refine gw_exit ?_ | refine gw_block ?_ | refine gw_label ?_ | (refine gs_n tyT_ok 0 ?_ (hp := ?hp); case hp => exact ⟨by decide, by decide⟩))
  refine gs_pick 2 0 hr1 rfl rfl rfl rfl (by decide) (by omega) (by omega) fun r1 p3 hr3 r1a r1b => ?_
  by_cases k1 : r1 = 0
  · (refine gs_t tyT_ok ?hb ?_; case hb => first | exact decide_eq_true (by omega) | exact congrArg Bool.not (decide_eq_false (by omega)) | (simp; done) | (simp; omega))
    refine gs_end ?_
    refine gw_yes rfl ?_
    refine gw_seq (gw_any [.N, .E [2, 0], .L 5, .N, .E [1]] rfl rfl rfl ?_)
    repeat (first | refine gs_n tyT_ok 0 ?_ | refine gs_gn tyT_ok 0 rfl ?_ | refine gs_no rfl ?_)
    refine gs_pick 2 0 hr3 rfl rfl rfl rfl (by decide) (by omega) (by omega) fun r2 p4 hr4 r2a r2b => ?_
    repeat (first | refine gs_n tyT_ok 0 ?_ | refine gs_gn tyT_ok 0 rfl ?_ | refine gs_no rfl ?_ | refine gs_l tyT_ok 5 ?_ | refine gs_gl tyT_ok 5 rfl ?_ | (refine gs_l tyT_ok 5 ?_ (hp := ?hp); case hp => exact ⟨rfl, Nat.le_of_ble_eq_true rfl⟩) | (refine gs_gl tyT_ok 5 rfl ?_ (hp := ?hp); case hp => exact ⟨rfl, Nat.le_of_ble_eq_true rfl⟩))
    refine gs_store tyT_ok 1 rfl rfl rfl rfl rfl rfl (Nat.le_of_ble_eq_true rfl) (Nat.le_of_ble_eq_true rfl) ?_
    repeat (first | refine gs_n tyT_ok 0 ?_ | refine gs_gn tyT_ok 0 rfl ?_ | refine gs_no rfl ?_ | refine gs_end ?_ | refine gs_end' ?_ | refine gw_seq ?_ | refine gw_text rfl ?_ | refine gw_skip ?_ | refine gw_yes rfl ?_ | refine gw_no rfl ?_ | refine gw_exit ?_ | refine gw_block ?_ | refine gw_label ?_ | (refine gs_n tyT_ok 0 ?_ (hp := ?hp); case hp => exact ⟨by decide, by decide⟩))
    exact gw_ret ⟨_, [q], [e1, e2], [0, 3, 4], .tmp (rv_cell tyT_ok 1 rfl rfl rfl rfl rfl (Nat.le_of_ble_eq_true rfl) .nil), ⟨r2, ⟨k, d, w, h, a1, n1, c1, a2, n2, c2, e1, e2, cs, ps, p2⟩, rfl, rfl, rfl, hx, by omega⟩, rfl, rfl, by decide⟩
  · (refine gs_f tyT_ok ?hb ?_; case hb => first | exact decide_eq_false (by omega) | exact congrArg Bool.not (decide_eq_true (by omega)) | (simp; done) | (simp; omega))
    refine gs_end ?_
    refine gw_no rfl ?_
    refine gw_skip ?_
    refine gw_seq (gw_any [.N, .L 5, .N, .E [1]] rfl rfl rfl ?_)
    repeat (first | refine gs_n tyT_ok 0 ?_ | refine gs_gn tyT_ok 0 rfl ?_ | refine gs_no rfl ?_ | refine gs_l tyT_ok 5 ?_ | refine gs_gl tyT_ok 5 rfl ?_ | (refine gs_l tyT_ok 5 ?_ (hp := ?hp); case hp => exact ⟨rfl, Nat.le_of_ble_eq_true rfl⟩) | (refine gs_gl tyT_ok 5 rfl ?_ (hp := ?hp); case hp => exact ⟨rfl, Nat.le_of_ble_eq_true rfl⟩))
    refine gs_store tyT_ok 1 rfl rfl rfl rfl rfl rfl (Nat.le_of_ble_eq_true rfl) (Nat.le_of_ble_eq_true rfl) ?_
    repeat (first | refine gs_n tyT_ok 0 ?_ | refine gs_gn tyT_ok 0 rfl ?_ | refine gs_no rfl ?_ | refine gs_end ?_ | refine gs_end' ?_ | refine gw_seq ?_ | refine gw_text rfl ?_ | refine gw_skip ?_ | refine gw_yes rfl ?_ | refine gw_no rfl ?_ | refine gw_exit ?_ | refine gw_block ?_ | refine gw_label ?_ | (refine gs_n tyT_ok 0 ?_ (hp := ?hp); case hp => exact ⟨by decide, by decide⟩))
    exact gw_ret ⟨_, [q], [e1, e2], [0, 3, 4], .tmp (rv_cell tyT_ok 1 rfl rfl rfl rfl rfl (Nat.le_of_ble_eq_true rfl) .nil), ⟨f, ⟨k, d, w, h, a1, n1, c1, a2, n2, c2, e1, e2, cs, ps, p2⟩, rfl, rfl, rfl, hx, by omega⟩, rfl, rfl, by decide⟩
end Go.Proofs.Ytjefdcbljpkmlaa.G
end
