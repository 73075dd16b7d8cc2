/- What the law FnExactGifPut needs, out of the texts Yd. -/
import Derived.Test.YtjefdcbljpkmlaaKFnExactGifPut18
import Derived.Test.YtjefdcbljpkmlaaKFnExactGifPut31
section
set_option linter.unusedVariables false
set_option linter.unusedSimpArgs false
set_option maxRecDepth 10000
namespace Go.Proofs.Ytjefdcbljpkmlaa.G
open Go
def runW (f st n : Nat) : List Int := (List.range n).map fun i => ((f + st * i : Nat) : Int)
theorem runW_succ (f st n : Nat) : runW f st (n + 1) = runW f st n ++ [((f + st * n : Nat) : Int)] := by simp [runW, List.range_succ]
theorem runW_len (f st n : Nat) : (runW f st n).length = n := by simp [runW]
def cntW (f st h : Nat) : Nat := (h - f + (st - 1)) / st
def wvL : List (Nat × Nat) := [(0, 8), (4, 8), (2, 4), (1, 2)]
def wovP (h i : Nat) : List Int := (wvL.take i).flatMap fun p => runW p.1 p.2 (cntW p.1 p.2 h)
theorem wov_cases {i : Nat} (hi : i < 4) : ∃ f st, wvL.getD i (0, 0) = (f, st) ∧ ((f = 0 ∧ st = 8) ∨ (f = 4 ∧ st = 8) ∨ (f = 2 ∧ st = 4) ∨ (f = 1 ∧ st = 2)) := by
  have : i = 0 ∨ i = 1 ∨ i = 2 ∨ i = 3 := by omega
  rcases this with rfl | rfl | rfl | rfl <;> exact ⟨_, _, rfl, by decide⟩
theorem wovP_succ {h i : Nat} (hi : i < 4) : wovP h (i + 1) = wovP h i ++ runW (wvL.getD i (0, 0)).1 (wvL.getD i (0, 0)).2 (cntW (wvL.getD i (0, 0)).1 (wvL.getD i (0, 0)).2 h) := by
  unfold wovP
  rw [take_succD wvL (0, 0) (show i < wvL.length from hi), List.flatMap_append]
  simp
theorem cnt_iff {f st h n : Nat} (hc : (f = 0 ∧ st = 8) ∨ (f = 4 ∧ st = 8) ∨ (f = 2 ∧ st = 4) ∨ (f = 1 ∧ st = 2)) : f + st * n < h ↔ n < cntW f st h := by
  unfold cntW
  rcases hc with ⟨rfl, rfl⟩ | ⟨rfl, rfl⟩ | ⟨rfl, rfl⟩ | ⟨rfl, rfl⟩ <;> omega
theorem cnt_le {f st h : Nat} (hc : (f = 0 ∧ st = 8) ∨ (f = 4 ∧ st = 8) ∨ (f = 2 ∧ st = 4) ∨ (f = 1 ∧ st = 2)) : cntW f st h ≤ h := by
  unfold cntW
  rcases hc with ⟨rfl, rfl⟩ | ⟨rfl, rfl⟩ | ⟨rfl, rfl⟩ | ⟨rfl, rfl⟩ <;> omega
theorem wovP_len (h : Nat) : ∀ i, i ≤ 4 → (wovP h i).length ≤ h * i
  | 0, _ => by simp [wovP]
  | i + 1, hi => by
    have ih := wovP_len h i (by omega)
    obtain ⟨f, st, he, hc⟩ := wov_cases (i := i) (by omega)
    rw [wovP_succ (by omega), List.length_append, runW_len, he, Nat.mul_succ]
    have := cnt_le (h := h) hc
    dsimp only
    omega
def rowsO (h : Nat) (woven : Bool) : List Int := if woven then wovP h 4 else (List.range h).map fun (i : Nat) => (i : Int)
def rng (n : Nat) : List Int := (List.range n).map fun (i : Nat) => (i : Int)
theorem rng_succ (n : Nat) : rng (n + 1) = rng n ++ [(n : Int)] := by simp [rng, List.range_succ]
theorem rng_len (n : Nat) : (rng n).length = n := by simp [rng]
def OutRows (L : List Int) : OutT := fun v F' ns => ∃ p, F' = [] ∧ ns = [p] ∧ OI v p L
set_option maxHeartbeats 2000000 in
theorem wovenRows_w {h : Nat} (hh : 1 ≤ h ∧ h ≤ 20) : Trip Try.prog 182 [.int .i64 (h : Int)] [] (OutRows (rowsO h true)) := by
  refine trip_of Try.func182 rfl (by simp [Try.ntmps182]) ?_
  repeat (first | refine gs_n tyT_ok 0 ?_ | refine gs_gn tyT_ok 0 rfl ?_ | refine gs_no rfl ?_ | refine gs_end ?_ | refine gs_end' ?_ | refine gw_seq ?_ | refine gw_text rfl ?_ | refine gw_skip ?_ | refine gw_yes rfl ?_ | refine gw_no rfl ?_ | refine gw_exit ?_ | refine gw_block ?_ | refine gw_label ?_ | (refine gs_n tyT_ok 0 ?_ (hp := ?hp); case hp => exact ⟨by decide, by decide⟩))
  refine gs_pu ent72 (in_t (by omega)) ?_
  repeat (first | refine gs_n tyT_ok 0 ?_ | refine gs_gn tyT_ok 0 rfl ?_ | refine gs_no rfl ?_ | refine gs_end ?_ | refine gs_end' ?_ | refine gw_seq ?_ | refine gw_text rfl ?_ | refine gw_skip ?_ | refine gw_yes rfl ?_ | refine gw_no rfl ?_ | refine gw_exit ?_ | refine gw_block ?_ | refine gw_label ?_ | (refine gs_n tyT_ok 0 ?_ (hp := ?hp); case hp => exact ⟨by decide, by decide⟩))
  refine gs_lit tyT_ok (cs := ints [0, 8, 4, 8, 2, 4, 1, 2]) rfl rfl rfl (by decide) rfl fun b14 => ?_
  repeat (first | refine gs_n tyT_ok 0 ?_ | refine gs_gn tyT_ok 0 rfl ?_ | refine gs_no rfl ?_ | refine gs_end ?_ | refine gs_end' ?_ | refine gw_seq ?_ | refine gw_text rfl ?_ | refine gw_skip ?_ | refine gw_yes rfl ?_ | refine gw_no rfl ?_ | refine gw_exit ?_ | refine gw_block ?_ | refine gw_label ?_ | (refine gs_n tyT_ok 0 ?_ (hp := ?hp); case hp => exact ⟨by decide, by decide⟩))
  refine gw_nil ?_
  refine gw_loopW (fun _ (x : Nat × Value × (Nat × GO)) => [(0, .int .i64 (h : Int)), (3, x.2.1), (14, .slice (some ⟨b14, 0, none⟩) 4 4), (15, .int .i64 4), (16, .int .i64 (x.1 : Int))]) (fun _ x => [(b14, .row 193 (ints [0, 8, 4, 8, 2, 4, 1, 2]) 8), x.2.2]) (fun m x => x.1 + m = 4 ∧ OI x.2.1 x.2.2 (wovP h x.1)) 4 (0, .slice none 0 0, (0, .none)) ⟨by simp, OI.nil⟩ ⟨[0, 1], by decide, rfl⟩ ⟨rfl, rfl, rfl, rfl, rfl, trivial⟩ fun m ⟨i, v, p⟩ e ⟨hi, hv⟩ => ?_
  dsimp only at hi hv ⊢
  obtain ⟨va, vc, rfl, _⟩ := hv.ls
  repeat (first | refine gs_n tyT_ok 0 ?_ | refine gs_gn tyT_ok 0 rfl ?_ | refine gs_no rfl ?_ | refine gs_end ?_ | refine gs_end' ?_ | refine gw_seq ?_ | refine gw_text rfl ?_ | refine gw_skip ?_ | refine gw_yes rfl ?_ | refine gw_no rfl ?_ | refine gw_exit ?_ | refine gw_block ?_ | refine gw_label ?_ | (refine gs_n tyT_ok 0 ?_ (hp := ?hp); case hp => exact ⟨by decide, by decide⟩))
  by_cases hlt : i < 4
  case neg =>
    obtain rfl : i = 4 := by omega
    (refine gs_f tyT_ok ?hb ?_; case hb => first | exact decide_eq_false (by omega) | exact congrArg Bool.not (decide_eq_true (by omega)) | (simp; done) | (simp; omega))
    repeat (first | refine gs_n tyT_ok 0 ?_ | refine gs_gn tyT_ok 0 rfl ?_ | refine gs_no rfl ?_ | refine gs_end ?_ | refine gs_end' ?_ | refine gw_seq ?_ | refine gw_text rfl ?_ | refine gw_skip ?_ | refine gw_yes rfl ?_ | refine gw_no rfl ?_ | refine gw_exit ?_ | refine gw_block ?_ | refine gw_label ?_ | (refine gs_n tyT_ok 0 ?_ (hp := ?hp); case hp => exact ⟨by decide, by decide⟩))
    exact gw_ret ⟨_, [], [p], [1], .tmp .nil, ⟨p, rfl, rfl, hv⟩, rfl, rfl, by decide⟩
  (refine gs_t tyT_ok ?hb ?_; case hb => first | exact decide_eq_true (by omega) | exact congrArg Bool.not (decide_eq_false (by omega)) | (simp; done) | (simp; omega))
  obtain ⟨f, st, he, hc⟩ := wov_cases hlt
  have hsucc := wovP_succ (h := h) hlt
  have hlen : (wovP h i).length ≤ 80 := Nat.le_trans (wovP_len h i (by omega)) (Nat.mul_le_mul hh.2 (show i ≤ 4 by omega))
  have hcl := cnt_le (h := h) hc
  rw [he] at hsucc
  dsimp only at hsucc
  have hcell : ((ints [0, 8, 4, 8, 2, 4, 1, 2]).drop (0 + i * 2)).take 2 = [.int .i64 (f : Int), .int .i64 (st : Int)] := by
    have : i = 0 ∨ i = 1 ∨ i = 2 ∨ i = 3 := by omega
    rcases this with rfl | rfl | rfl | rfl <;> (cases he; rfl)
  have hst : f ≤ 4 ∧ st ≤ 8 ∧ 1 ≤ st := by omega
  repeat (first | refine gs_n tyT_ok 0 ?_ | refine gs_gn tyT_ok 0 rfl ?_ | refine gs_no rfl ?_ | refine gs_end ?_ | refine gs_end' ?_ | refine gw_seq ?_ | refine gw_text rfl ?_ | refine gw_skip ?_ | refine gw_yes rfl ?_ | refine gw_no rfl ?_ | refine gw_exit ?_ | refine gw_block ?_ | refine gw_label ?_ | (refine gs_n tyT_ok 0 ?_ (hp := ?hp); case hp => exact ⟨by decide, by decide⟩))
  refine gs_v 0 (lv_loads tyT_ok 0 rfl rfl rfl rfl rfl hcell (by show 0 + i * 2 + 2 ≤ 8; omega)) ?_
  refine gs_alloc tyT_ok rfl fun b5 => ?_
  refine gs_store tyT_ok 2 rfl rfl rfl rfl rfl rfl (Nat.le_of_ble_eq_true rfl) (Nat.le_of_ble_eq_true rfl) ?_
  repeat (first | refine gs_n tyT_ok 0 ?_ | refine gs_gn tyT_ok 0 rfl ?_ | refine gs_no rfl ?_ | refine gs_l tyT_ok 2 ?_ | refine gs_gl tyT_ok 2 rfl ?_ | (refine gs_l tyT_ok 2 ?_ (hp := ?hp); case hp => exact ⟨rfl, Nat.le_of_ble_eq_true rfl⟩) | (refine gs_gl tyT_ok 2 rfl ?_ (hp := ?hp); case hp => exact ⟨rfl, Nat.le_of_ble_eq_true rfl⟩) | refine gs_end ?_ | refine gs_end' ?_ | refine gw_seq ?_ | refine gw_text rfl ?_ | refine gw_skip ?_ | refine gw_yes rfl ?_ | refine gw_no rfl ?_ | refine gw_exit ?_ | refine gw_block ?_ | refine gw_label ?_ | (refine gs_n tyT_ok 0 ?_ (hp := ?hp); case hp => exact ⟨by decide, by decide⟩))
  refine gw_loopW (fun _ (x : Nat × Value × (Nat × GO)) => [(0, .int .i64 (h : Int)), (3, x.2.1), (5, ptr b5), (6, .int .i64 ((f + st * x.1 : Nat) : Int)), (14, .slice (some ⟨b14, 0, none⟩) 4 4), (15, .int .i64 4), (16, .int .i64 (i : Int))]) (fun _ x => [(b14, .row 193 (ints [0, 8, 4, 8, 2, 4, 1, 2]) 8), x.2.2, (b5, .row 193 [.int .i64 (f : Int), .int .i64 (st : Int)] 2)]) (fun m x => x.1 + m = cntW f st h ∧ OI x.2.1 x.2.2 (wovP h i ++ runW f st x.1)) (cntW f st h) (0, .slice va (wovP h i).length vc, p) ⟨by simp, by simpa [runW] using hv⟩ ⟨[0, 1, 2], by decide, rfl⟩ ⟨rfl, rfl, rfl, rfl, rfl, rfl, rfl, trivial⟩ fun m2 ⟨n, v, p⟩ e ⟨hn, hv⟩ => ?_
  dsimp only at hn hv ⊢
  have hci := cnt_iff (h := h) (n := n) hc
  obtain ⟨wa, wc, rfl, _⟩ := hv.ls
  repeat (first | refine gs_n tyT_ok 0 ?_ | refine gs_gn tyT_ok 0 rfl ?_ | refine gs_no rfl ?_ | refine gs_end ?_ | refine gs_end' ?_ | refine gw_seq ?_ | refine gw_text rfl ?_ | refine gw_skip ?_ | refine gw_yes rfl ?_ | refine gw_no rfl ?_ | refine gw_exit ?_ | refine gw_block ?_ | refine gw_label ?_ | (refine gs_n tyT_ok 0 ?_ (hp := ?hp); case hp => exact ⟨by decide, by decide⟩))
  by_cases hnh : f + st * n < h
  case neg =>
    have hnn : n = cntW f st h := by
      have : ¬ n < cntW f st h := fun x => hnh (hci.2 x)
      omega
    rw [hnn, ← hsucc] at hv
    refine gs_f tyT_ok ?hb ?_
    case hb => exact decide_eq_false (by omega)
    repeat (first | refine gs_n tyT_ok 0 ?_ | refine gs_gn tyT_ok 0 rfl ?_ | refine gs_no rfl ?_ | refine gs_end ?_ | refine gs_end' ?_ | refine gw_seq ?_ | refine gw_text rfl ?_ | refine gw_skip ?_ | refine gw_yes rfl ?_ | refine gw_no rfl ?_ | refine gw_exit ?_ | refine gw_block ?_ | refine gw_label ?_ | (refine gs_n tyT_ok 0 ?_ (hp := ?hp); case hp => exact ⟨by decide, by decide⟩))
    refine ⟨m - 1, by omega, (i + 1, _, p), ⟨by show i + 1 + (m - 1) = _; omega, hv⟩, ⟨[0, 1], by decide, rfl⟩, rfl, ?_, rfl, rfl, rfl, trivial⟩
    show Value.slice _ _ _ = Value.slice _ _ _
    rw [hsucc, hnn]
  have hnc := hci.1 hnh
  refine gs_t tyT_ok ?hb ?_
  case hb => exact decide_eq_true (by omega)
  repeat (first | refine gs_n tyT_ok 0 ?_ | refine gs_gn tyT_ok 0 rfl ?_ | refine gs_no rfl ?_ | refine gs_end ?_ | refine gs_end' ?_ | refine gw_seq ?_ | refine gw_text rfl ?_ | refine gw_skip ?_ | refine gw_yes rfl ?_ | refine gw_no rfl ?_ | refine gw_exit ?_ | refine gw_block ?_ | refine gw_label ?_ | (refine gs_n tyT_ok 0 ?_ (hp := ?hp); case hp => exact ⟨by decide, by decide⟩))
  refine gs_push 1 (n := ((f + st * n : Nat) : Int)) rfl rfl hv (fun _ => rfl) (by rw [List.length_append, runW_len]; omega) fun b6 a6 c6 p6 hv6 => ?_
  rw [List.append_assoc, ← runW_succ] at hv6
  repeat (first | refine gs_n tyT_ok 0 ?_ | refine gs_gn tyT_ok 0 rfl ?_ | refine gs_no rfl ?_ | refine gs_l tyT_ok 2 ?_ | refine gs_gl tyT_ok 2 rfl ?_ | (refine gs_l tyT_ok 2 ?_ (hp := ?hp); case hp => exact ⟨rfl, Nat.le_of_ble_eq_true rfl⟩) | (refine gs_gl tyT_ok 2 rfl ?_ (hp := ?hp); case hp => exact ⟨rfl, Nat.le_of_ble_eq_true rfl⟩) | refine gs_end ?_ | refine gs_end' ?_ | refine gw_seq ?_ | refine gw_text rfl ?_ | refine gw_skip ?_ | refine gw_yes rfl ?_ | refine gw_no rfl ?_ | refine gw_exit ?_ | refine gw_block ?_ | refine gw_label ?_ | (refine gs_n tyT_ok 0 ?_ (hp := ?hp); case hp => exact ⟨by decide, by decide⟩))
  refine ⟨m2 - 1, by omega, (n + 1, _, p6), ⟨by show n + 1 + (m2 - 1) = _; omega, hv6⟩, ⟨[0, 1, 2], by decide, rfl⟩, rfl, ?_, rfl, ?_, rfl, rfl, rfl, trivial⟩
  · show Value.slice _ _ _ = Value.slice _ _ _
    simp [runW_len]
  · show Value.int _ _ = Value.int _ _
    congr 1
    show ((f + st * n : Nat) : Int) + (st : Int) = ((f + st * (n + 1) : Nat) : Int)
    rw [Nat.mul_succ]
    omega
set_option maxHeartbeats 1000000 in
theorem rowOrder_w {h : Nat} {woven : Bool} (hh : 1 ≤ h ∧ h ≤ 20) : Trip Try.prog 121 [.int .i64 (h : Int), .bool woven] [] (OutRows (rowsO h woven)) := by
  refine trip_of Try.func121 rfl (by simp [Try.ntmps121]) ?_
  cases woven
  · repeat (first | refine gs_n tyT_ok 0 ?_ | refine gs_gn tyT_ok 0 rfl ?_ | refine gs_no rfl ?_ | refine gs_end ?_ | refine gs_end' ?_ | refine gw_seq ?_ | refine gw_text rfl ?_ | refine gw_skip ?_ | refine gw_yes rfl ?_ | refine gw_no rfl ?_ | refine gw_exit ?_ | refine gw_block ?_ | refine gw_label ?_ | (refine gs_n tyT_ok 0 ?_ (hp := ?hp); case hp => exact ⟨by decide, by decide⟩))
    refine gw_nil ?_
    refine gw_loopW (fun _ (x : Nat × Value × (Nat × GO)) => [(5, x.2.1), (10, .int .i64 (h : Int)), (11, .int .i64 (x.1 : Int))]) (fun _ x => [x.2.2]) (fun m x => x.1 + m = h ∧ OI x.2.1 x.2.2 (rng x.1)) h (0, .slice none 0 0, (0, .none)) ⟨by simp, OI.nil⟩ ⟨[0], by decide, rfl⟩ ⟨rfl, rfl, rfl, trivial⟩ fun m ⟨i, v, p⟩ e ⟨hi, hv⟩ => ?_
    dsimp only at hi hv ⊢
    obtain ⟨va, vc, rfl, _⟩ := hv.ls
    repeat (first | refine gs_n tyT_ok 0 ?_ | refine gs_gn tyT_ok 0 rfl ?_ | refine gs_no rfl ?_ | refine gs_end ?_ | refine gs_end' ?_ | refine gw_seq ?_ | refine gw_text rfl ?_ | refine gw_skip ?_ | refine gw_yes rfl ?_ | refine gw_no rfl ?_ | refine gw_exit ?_ | refine gw_block ?_ | refine gw_label ?_ | (refine gs_n tyT_ok 0 ?_ (hp := ?hp); case hp => exact ⟨by decide, by decide⟩))
    by_cases hlt : i < h
    · (refine gs_t tyT_ok ?hb ?_; case hb => first | exact decide_eq_true (by omega) | exact congrArg Bool.not (decide_eq_false (by omega)) | (simp; done) | (simp; omega))
      repeat (first | refine gs_n tyT_ok 0 ?_ | refine gs_gn tyT_ok 0 rfl ?_ | refine gs_no rfl ?_ | refine gs_end ?_ | refine gs_end' ?_ | refine gw_seq ?_ | refine gw_text rfl ?_ | refine gw_skip ?_ | refine gw_yes rfl ?_ | refine gw_no rfl ?_ | refine gw_exit ?_ | refine gw_block ?_ | refine gw_label ?_ | (refine gs_n tyT_ok 0 ?_ (hp := ?hp); case hp => exact ⟨by decide, by decide⟩))
      refine gs_push 0 (n := (i : Int)) rfl rfl hv (fun _ => rfl) (by rw [rng_len]; omega) fun b6 a6 c6 p6 hv6 => ?_
      rw [← rng_succ] at hv6
      repeat (first | refine gs_n tyT_ok 0 ?_ | refine gs_gn tyT_ok 0 rfl ?_ | refine gs_no rfl ?_ | refine gs_end ?_ | refine gs_end' ?_ | refine gw_seq ?_ | refine gw_text rfl ?_ | refine gw_skip ?_ | refine gw_yes rfl ?_ | refine gw_no rfl ?_ | refine gw_exit ?_ | refine gw_block ?_ | refine gw_label ?_ | (refine gs_n tyT_ok 0 ?_ (hp := ?hp); case hp => exact ⟨by decide, by decide⟩))
      exact ⟨m - 1, by omega, (i + 1, _, p6), ⟨by show i + 1 + (m - 1) = _; omega, hv6⟩, ⟨[0], by decide, rfl⟩, by show Value.slice _ _ _ = Value.slice _ _ _; rw [rng_len], rfl, rfl, trivial⟩
    · obtain rfl : i = h := by omega
      (refine gs_f tyT_ok ?hb ?_; case hb => first | exact decide_eq_false (by omega) | exact congrArg Bool.not (decide_eq_true (by omega)) | (simp; done) | (simp; omega))
      repeat (first | refine gs_n tyT_ok 0 ?_ | refine gs_gn tyT_ok 0 rfl ?_ | refine gs_no rfl ?_ | refine gs_end ?_ | refine gs_end' ?_ | refine gw_seq ?_ | refine gw_text rfl ?_ | refine gw_skip ?_ | refine gw_yes rfl ?_ | refine gw_no rfl ?_ | refine gw_exit ?_ | refine gw_block ?_ | refine gw_label ?_ | (refine gs_n tyT_ok 0 ?_ (hp := ?hp); case hp => exact ⟨by decide, by decide⟩))
      exact gw_ret ⟨_, [], [p], [0], .tmp .nil, ⟨p, rfl, rfl, hv⟩, rfl, rfl, by decide⟩
  · repeat (first | refine gs_n tyT_ok 0 ?_ | refine gs_gn tyT_ok 0 rfl ?_ | refine gs_no rfl ?_ | refine gs_end ?_ | refine gs_end' ?_ | refine gw_seq ?_ | refine gw_text rfl ?_ | refine gw_skip ?_ | refine gw_yes rfl ?_ | refine gw_no rfl ?_ | refine gw_exit ?_ | refine gw_block ?_ | refine gw_label ?_ | (refine gs_n tyT_ok 0 ?_ (hp := ?hp); case hp => exact ⟨by decide, by decide⟩))
    refine gs_call [] ent182 rfl (by decide) (wovenRows_w hh) fun v F' ns ho _ _ => ?_
    obtain ⟨p, rfl, rfl, hv⟩ := ho
    obtain ⟨va, vc, rfl, _⟩ := hv.ls
    repeat (first | refine gs_n tyT_ok 0 ?_ | refine gs_gn tyT_ok 0 rfl ?_ | refine gs_no rfl ?_ | refine gs_end ?_ | refine gs_end' ?_ | refine gw_seq ?_ | refine gw_text rfl ?_ | refine gw_skip ?_ | refine gw_yes rfl ?_ | refine gw_no rfl ?_ | refine gw_exit ?_ | refine gw_block ?_ | refine gw_label ?_ | (refine gs_n tyT_ok 0 ?_ (hp := ?hp); case hp => exact ⟨by decide, by decide⟩))
    exact gw_ret ⟨_, [], [p], [0], .tmp .nil, ⟨p, rfl, rfl, hv⟩, rfl, rfl, by decide⟩
set_option maxHeartbeats 2000000 in
theorem l10Rows_w {h : Nat} {woven : Bool} (hh : 1 ≤ h ∧ h ≤ 20) : Trip Try.prog 178 [.int .i64 (h : Int), .bool woven] [] (OutRows (rowsO h woven)) := by
  refine trip_of Try.func178 rfl (by simp [Try.ntmps178]) ?_
  cases woven
  · repeat (first | refine gs_n tyT_ok 0 ?_ | refine gs_gn tyT_ok 0 rfl ?_ | refine gs_no rfl ?_ | refine gs_end ?_ | refine gs_end' ?_ | refine gw_seq ?_ | refine gw_text rfl ?_ | refine gw_skip ?_ | refine gw_yes rfl ?_ | refine gw_no rfl ?_ | refine gw_exit ?_ | refine gw_block ?_ | refine gw_label ?_ | (refine gs_n tyT_ok 0 ?_ (hp := ?hp); case hp => exact ⟨by decide, by decide⟩))
    refine gs_lit tyT_ok (cs := []) rfl rfl rfl (by decide) rfl fun b5 => ?_
    repeat (first | refine gs_n tyT_ok 0 ?_ | refine gs_gn tyT_ok 0 rfl ?_ | refine gs_no rfl ?_ | refine gs_end ?_ | refine gs_end' ?_ | refine gw_seq ?_ | refine gw_text rfl ?_ | refine gw_skip ?_ | refine gw_yes rfl ?_ | refine gw_no rfl ?_ | refine gw_exit ?_ | refine gw_block ?_ | refine gw_label ?_ | (refine gs_n tyT_ok 0 ?_ (hp := ?hp); case hp => exact ⟨by decide, by decide⟩))
    refine gw_loopW (fun _ (x : Nat × Value × (Nat × GO)) => [(0, .int .i64 (h : Int)), (5, x.2.1), (6, .int .i64 (x.1 : Int))]) (fun _ x => [x.2.2]) (fun m x => x.1 + m = h ∧ OI x.2.1 x.2.2 (rng x.1)) h (0, .slice (some ⟨b5, 0, none⟩) 0 0, (b5, .row 3 [] 0)) ⟨by simp, OI.empty⟩ ⟨[0], by decide, rfl⟩ ⟨rfl, rfl, rfl, trivial⟩ fun m ⟨i, v, p⟩ e ⟨hi, hv⟩ => ?_
    dsimp only at hi hv ⊢
    obtain ⟨va, vc, rfl, _⟩ := hv.ls
    repeat (first | refine gs_n tyT_ok 0 ?_ | refine gs_gn tyT_ok 0 rfl ?_ | refine gs_no rfl ?_ | refine gs_end ?_ | refine gs_end' ?_ | refine gw_seq ?_ | refine gw_text rfl ?_ | refine gw_skip ?_ | refine gw_yes rfl ?_ | refine gw_no rfl ?_ | refine gw_exit ?_ | refine gw_block ?_ | refine gw_label ?_ | (refine gs_n tyT_ok 0 ?_ (hp := ?hp); case hp => exact ⟨by decide, by decide⟩))
    by_cases hlt : i < h
    · (refine gs_t tyT_ok ?hb ?_; case hb => first | exact decide_eq_true (by omega) | exact congrArg Bool.not (decide_eq_false (by omega)) | (simp; done) | (simp; omega))
      repeat (first | refine gs_n tyT_ok 0 ?_ | refine gs_gn tyT_ok 0 rfl ?_ | refine gs_no rfl ?_ | refine gs_end ?_ | refine gs_end' ?_ | refine gw_seq ?_ | refine gw_text rfl ?_ | refine gw_skip ?_ | refine gw_yes rfl ?_ | refine gw_no rfl ?_ | refine gw_exit ?_ | refine gw_block ?_ | refine gw_label ?_ | (refine gs_n tyT_ok 0 ?_ (hp := ?hp); case hp => exact ⟨by decide, by decide⟩))
      refine gs_push 0 (n := (i : Int)) rfl rfl hv (fun _ => rfl) (by rw [rng_len]; omega) fun b6 a6 c6 p6 hv6 => ?_
      rw [← rng_succ] at hv6
      repeat (first | refine gs_n tyT_ok 0 ?_ | refine gs_gn tyT_ok 0 rfl ?_ | refine gs_no rfl ?_ | refine gs_end ?_ | refine gs_end' ?_ | refine gw_seq ?_ | refine gw_text rfl ?_ | refine gw_skip ?_ | refine gw_yes rfl ?_ | refine gw_no rfl ?_ | refine gw_exit ?_ | refine gw_block ?_ | refine gw_label ?_ | (refine gs_n tyT_ok 0 ?_ (hp := ?hp); case hp => exact ⟨by decide, by decide⟩))
      exact ⟨m - 1, by omega, (i + 1, _, p6), ⟨by show i + 1 + (m - 1) = _; omega, hv6⟩, ⟨[0], by decide, rfl⟩, rfl, by show Value.slice _ _ _ = Value.slice _ _ _; rw [rng_len], rfl, trivial⟩
    · obtain rfl : i = h := by omega
      (refine gs_f tyT_ok ?hb ?_; case hb => first | exact decide_eq_false (by omega) | exact congrArg Bool.not (decide_eq_true (by omega)) | (simp; done) | (simp; omega))
      repeat (first | refine gs_n tyT_ok 0 ?_ | refine gs_gn tyT_ok 0 rfl ?_ | refine gs_no rfl ?_ | refine gs_end ?_ | refine gs_end' ?_ | refine gw_seq ?_ | refine gw_text rfl ?_ | refine gw_skip ?_ | refine gw_yes rfl ?_ | refine gw_no rfl ?_ | refine gw_exit ?_ | refine gw_block ?_ | refine gw_label ?_ | (refine gs_n tyT_ok 0 ?_ (hp := ?hp); case hp => exact ⟨by decide, by decide⟩))
      exact gw_ret ⟨_, [], [p], [0], .tmp .nil, ⟨p, rfl, rfl, hv⟩, rfl, rfl, by decide⟩
  repeat (first | refine gs_n tyT_ok 0 ?_ | refine gs_gn tyT_ok 0 rfl ?_ | refine gs_no rfl ?_ | refine gs_end ?_ | refine gs_end' ?_ | refine gw_seq ?_ | refine gw_text rfl ?_ | refine gw_skip ?_ | refine gw_yes rfl ?_ | refine gw_no rfl ?_ | refine gw_exit ?_ | refine gw_block ?_ | refine gw_label ?_ | (refine gs_n tyT_ok 0 ?_ (hp := ?hp); case hp => exact ⟨by decide, by decide⟩))
  refine gs_lit tyT_ok (cs := []) rfl rfl rfl (by decide) rfl fun b5 => ?_
  repeat (first | refine gs_n tyT_ok 0 ?_ | refine gs_gn tyT_ok 0 rfl ?_ | refine gs_no rfl ?_ | refine gs_end ?_ | refine gs_end' ?_ | refine gw_seq ?_ | refine gw_text rfl ?_ | refine gw_skip ?_ | refine gw_yes rfl ?_ | refine gw_no rfl ?_ | refine gw_exit ?_ | refine gw_block ?_ | refine gw_label ?_ | (refine gs_n tyT_ok 0 ?_ (hp := ?hp); case hp => exact ⟨by decide, by decide⟩))
  refine gs_lit tyT_ok (cs := ints [0, 4, 2, 1]) rfl rfl rfl (by decide) rfl fun b7 => ?_
  repeat (first | refine gs_n tyT_ok 0 ?_ | refine gs_gn tyT_ok 0 rfl ?_ | refine gs_no rfl ?_ | refine gs_end ?_ | refine gs_end' ?_ | refine gw_seq ?_ | refine gw_text rfl ?_ | refine gw_skip ?_ | refine gw_yes rfl ?_ | refine gw_no rfl ?_ | refine gw_exit ?_ | refine gw_block ?_ | refine gw_label ?_ | (refine gs_n tyT_ok 0 ?_ (hp := ?hp); case hp => exact ⟨by decide, by decide⟩))
  refine gs_lit tyT_ok (cs := ints [8, 8, 4, 2]) rfl rfl rfl (by decide) rfl fun b8 => ?_
  repeat (first | refine gs_n tyT_ok 0 ?_ | refine gs_gn tyT_ok 0 rfl ?_ | refine gs_no rfl ?_ | refine gs_end ?_ | refine gs_end' ?_ | refine gw_seq ?_ | refine gw_text rfl ?_ | refine gw_skip ?_ | refine gw_yes rfl ?_ | refine gw_no rfl ?_ | refine gw_exit ?_ | refine gw_block ?_ | refine gw_label ?_ | (refine gs_n tyT_ok 0 ?_ (hp := ?hp); case hp => exact ⟨by decide, by decide⟩))
  refine gw_loopW (fun _ (x : Nat × Value × (Nat × GO)) => [(0, .int .i64 (h : Int)), (5, x.2.1), (7, .slice (some ⟨b7, 0, none⟩) 4 4), (8, .slice (some ⟨b8, 0, none⟩) 4 4), (9, .int .i64 (x.1 : Int))]) (fun _ x => [(b7, .row 3 (ints [0, 4, 2, 1]) 4), (b8, .row 3 (ints [8, 8, 4, 2]) 4), x.2.2]) (fun m x => x.1 + m = 4 ∧ OI x.2.1 x.2.2 (wovP h x.1)) 4 (0, .slice (some ⟨b5, 0, none⟩) 0 0, (b5, .row 3 [] 0)) ⟨by simp, OI.empty⟩ ⟨[1, 2, 0], by decide, rfl⟩ ⟨rfl, rfl, rfl, rfl, rfl, trivial⟩ fun m ⟨i, v, p⟩ e ⟨hi, hv⟩ => ?_
  dsimp only at hi hv ⊢
  obtain ⟨va, vc, rfl, _⟩ := hv.ls
  repeat (first | refine gs_n tyT_ok 0 ?_ | refine gs_gn tyT_ok 0 rfl ?_ | refine gs_no rfl ?_ | refine gs_end ?_ | refine gs_end' ?_ | refine gw_seq ?_ | refine gw_text rfl ?_ | refine gw_skip ?_ | refine gw_yes rfl ?_ | refine gw_no rfl ?_ | refine gw_exit ?_ | refine gw_block ?_ | refine gw_label ?_ | (refine gs_n tyT_ok 0 ?_ (hp := ?hp); case hp => exact ⟨by decide, by decide⟩))
  by_cases hlt : i < 4
  case neg =>
    obtain rfl : i = 4 := by omega
    (refine gs_f tyT_ok ?hb ?_; case hb => first | exact decide_eq_false (by omega) | exact congrArg Bool.not (decide_eq_true (by omega)) | (simp; done) | (simp; omega))
    repeat (first | refine gs_n tyT_ok 0 ?_ | refine gs_gn tyT_ok 0 rfl ?_ | refine gs_no rfl ?_ | refine gs_end ?_ | refine gs_end' ?_ | refine gw_seq ?_ | refine gw_text rfl ?_ | refine gw_skip ?_ | refine gw_yes rfl ?_ | refine gw_no rfl ?_ | refine gw_exit ?_ | refine gw_block ?_ | refine gw_label ?_ | (refine gs_n tyT_ok 0 ?_ (hp := ?hp); case hp => exact ⟨by decide, by decide⟩))
    exact gw_ret ⟨_, [], [p], [2], .tmp .nil, ⟨p, rfl, rfl, hv⟩, rfl, rfl, by decide⟩
  (refine gs_t tyT_ok ?hb ?_; case hb => first | exact decide_eq_true (by omega) | exact congrArg Bool.not (decide_eq_false (by omega)) | (simp; done) | (simp; omega))
  obtain ⟨f, st, he, hc⟩ := wov_cases hlt
  have hsucc := wovP_succ (h := h) hlt
  have hlen : (wovP h i).length ≤ 80 := Nat.le_trans (wovP_len h i (by omega)) (Nat.mul_le_mul hh.2 (show i ≤ 4 by omega))
  have hcl := cnt_le (h := h) hc
  rw [he] at hsucc
  dsimp only at hsucc
  have hc1 : (ints [0, 4, 2, 1])[0 + i * 1]? = some (.int .i64 (f : Int)) ∧ (ints [8, 8, 4, 2])[0 + i * 1]? = some (.int .i64 (st : Int)) := by
    have : i = 0 ∨ i = 1 ∨ i = 2 ∨ i = 3 := by omega
    rcases this with rfl | rfl | rfl | rfl <;> (cases he; exact ⟨rfl, rfl⟩)
  have hst : f ≤ 4 ∧ st ≤ 8 ∧ 1 ≤ st := by omega
  repeat (first | refine gs_n tyT_ok 0 ?_ | refine gs_gn tyT_ok 0 rfl ?_ | refine gs_no rfl ?_ | refine gs_end ?_ | refine gs_end' ?_ | refine gw_seq ?_ | refine gw_text rfl ?_ | refine gw_skip ?_ | refine gw_yes rfl ?_ | refine gw_no rfl ?_ | refine gw_exit ?_ | refine gw_block ?_ | refine gw_label ?_ | (refine gs_n tyT_ok 0 ?_ (hp := ?hp); case hp => exact ⟨by decide, by decide⟩))
  refine gs_at 0 tyT_ok rfl rfl rfl rfl hc1.1 ?_
  repeat (first | refine gs_n tyT_ok 0 ?_ | refine gs_gn tyT_ok 0 rfl ?_ | refine gs_no rfl ?_ | refine gs_end ?_ | refine gs_end' ?_ | refine gw_seq ?_ | refine gw_text rfl ?_ | refine gw_skip ?_ | refine gw_yes rfl ?_ | refine gw_no rfl ?_ | refine gw_exit ?_ | refine gw_block ?_ | refine gw_label ?_ | (refine gs_n tyT_ok 0 ?_ (hp := ?hp); case hp => exact ⟨by decide, by decide⟩))
  refine gw_loopW (fun _ (x : Nat × Value × (Nat × GO)) => [(0, .int .i64 (h : Int)), (5, x.2.1), (7, .slice (some ⟨b7, 0, none⟩) 4 4), (8, .slice (some ⟨b8, 0, none⟩) 4 4), (9, .int .i64 (i : Int)), (10, .int .i64 ((f + st * x.1 : Nat) : Int))]) (fun _ x => [(b7, .row 3 (ints [0, 4, 2, 1]) 4), (b8, .row 3 (ints [8, 8, 4, 2]) 4), x.2.2]) (fun m x => x.1 + m = cntW f st h ∧ OI x.2.1 x.2.2 (wovP h i ++ runW f st x.1)) (cntW f st h) (0, .slice va (wovP h i).length vc, p) ⟨by simp, by simpa [runW] using hv⟩ ⟨[0, 1, 2], by decide, rfl⟩ ⟨rfl, rfl, rfl, rfl, rfl, rfl, trivial⟩ fun m2 ⟨n, v, p⟩ e ⟨hn, hv⟩ => ?_
  dsimp only at hn hv ⊢
  have hci := cnt_iff (h := h) (n := n) hc
  obtain ⟨wa, wc, rfl, _⟩ := hv.ls
  repeat (first | refine gs_n tyT_ok 0 ?_ | refine gs_gn tyT_ok 0 rfl ?_ | refine gs_no rfl ?_ | refine gs_end ?_ | refine gs_end' ?_ | refine gw_seq ?_ | refine gw_text rfl ?_ | refine gw_skip ?_ | refine gw_yes rfl ?_ | refine gw_no rfl ?_ | refine gw_exit ?_ | refine gw_block ?_ | refine gw_label ?_ | (refine gs_n tyT_ok 0 ?_ (hp := ?hp); case hp => exact ⟨by decide, by decide⟩))
  by_cases hnh : f + st * n < h
  case neg =>
    have hnn : n = cntW f st h := by
      have : ¬ n < cntW f st h := fun x => hnh (hci.2 x)
      omega
    rw [hnn, ← hsucc] at hv
    refine gs_f tyT_ok ?hb ?_
    case hb => exact decide_eq_false (by omega)
    repeat (first | refine gs_n tyT_ok 0 ?_ | refine gs_gn tyT_ok 0 rfl ?_ | refine gs_no rfl ?_ | refine gs_end ?_ | refine gs_end' ?_ | refine gw_seq ?_ | refine gw_text rfl ?_ | refine gw_skip ?_ | refine gw_yes rfl ?_ | refine gw_no rfl ?_ | refine gw_exit ?_ | refine gw_block ?_ | refine gw_label ?_ | (refine gs_n tyT_ok 0 ?_ (hp := ?hp); case hp => exact ⟨by decide, by decide⟩))
    refine ⟨m - 1, by omega, (i + 1, _, p), ⟨by show i + 1 + (m - 1) = _; omega, hv⟩, ⟨[0, 1, 2], by decide, rfl⟩, rfl, ?_, rfl, rfl, rfl, trivial⟩
    show Value.slice _ _ _ = Value.slice _ _ _
    rw [hsucc, hnn]
  have hnc := hci.1 hnh
  refine gs_t tyT_ok ?hb ?_
  case hb => exact decide_eq_true (by omega)
  repeat (first | refine gs_n tyT_ok 0 ?_ | refine gs_gn tyT_ok 0 rfl ?_ | refine gs_no rfl ?_ | refine gs_end ?_ | refine gs_end' ?_ | refine gw_seq ?_ | refine gw_text rfl ?_ | refine gw_skip ?_ | refine gw_yes rfl ?_ | refine gw_no rfl ?_ | refine gw_exit ?_ | refine gw_block ?_ | refine gw_label ?_ | (refine gs_n tyT_ok 0 ?_ (hp := ?hp); case hp => exact ⟨by decide, by decide⟩))
  refine gs_push 2 (n := ((f + st * n : Nat) : Int)) rfl rfl hv (fun _ => rfl) (by rw [List.length_append, runW_len]; omega) fun b6 a6 c6 p6 hv6 => ?_
  rw [List.append_assoc, ← runW_succ] at hv6
  repeat (first | refine gs_n tyT_ok 0 ?_ | refine gs_gn tyT_ok 0 rfl ?_ | refine gs_no rfl ?_ | refine gs_end ?_ | refine gs_end' ?_ | refine gw_seq ?_ | refine gw_text rfl ?_ | refine gw_skip ?_ | refine gw_yes rfl ?_ | refine gw_no rfl ?_ | refine gw_exit ?_ | refine gw_block ?_ | refine gw_label ?_ | (refine gs_n tyT_ok 0 ?_ (hp := ?hp); case hp => exact ⟨by decide, by decide⟩))
  refine gs_at 1 tyT_ok rfl rfl rfl rfl hc1.2 ?_
  repeat (first | refine gs_n tyT_ok 0 ?_ | refine gs_gn tyT_ok 0 rfl ?_ | refine gs_no rfl ?_ | refine gs_end ?_ | refine gs_end' ?_ | refine gw_seq ?_ | refine gw_text rfl ?_ | refine gw_skip ?_ | refine gw_yes rfl ?_ | refine gw_no rfl ?_ | refine gw_exit ?_ | refine gw_block ?_ | refine gw_label ?_ | (refine gs_n tyT_ok 0 ?_ (hp := ?hp); case hp => exact ⟨by decide, by decide⟩))
  refine ⟨m2 - 1, by omega, (n + 1, _, p6), ⟨by show n + 1 + (m2 - 1) = _; omega, hv6⟩, ⟨[0, 1, 2], by decide, rfl⟩, rfl, ?_, rfl, rfl, rfl, ?_, trivial⟩
  · show Value.slice _ _ _ = Value.slice _ _ _
    simp [runW_len]
  · show Value.int _ _ = Value.int _ _
    congr 1
    show ((f + st * n : Nat) : Int) + (st : Int) = ((f + st * (n + 1) : Nat) : Int)
    rw [Nat.mul_succ]
    omega
set_option maxHeartbeats 1000000 in
/-- Bytes of numbers that are bytes. -/
theorem bytesOf_w {a : Option Addr} {n c : Nat} {q : Nat × GO} {zs : List Int} (h : LS a n c q zs) (hb : ∀ x ∈ zs, 0 ≤ x ∧ x ≤ 255) (hz : zs.length ≤ 1000000) : Trip Try.prog 122 [.slice a n c] [q] (fun v F' ns => ∃ p, F' = [q] ∧ ns = [p] ∧ OB v p zs) := by
  obtain rfl := h.1
  refine trip_of Try.func122 rfl (by simp [Try.ntmps122]) ?_
  repeat (first | refine gs_n tyT_ok 0 ?_ | refine gs_gn tyT_ok 0 rfl ?_ | refine gs_no rfl ?_ | refine gs_end ?_ | refine gs_end' ?_ | refine gw_seq ?_ | refine gw_text rfl ?_ | refine gw_skip ?_ | refine gw_yes rfl ?_ | refine gw_no rfl ?_ | refine gw_exit ?_ | refine gw_block ?_ | refine gw_label ?_ | (refine gs_n tyT_ok 0 ?_ (hp := ?hp); case hp => exact ⟨by decide, by decide⟩))
  refine gs_make tyT_ok (n := zs.length) rfl rfl rfl rfl rfl (by omega) (by decide) fun b => ?_
  repeat (first | refine gs_n tyT_ok 0 ?_ | refine gs_gn tyT_ok 0 rfl ?_ | refine gs_no rfl ?_ | refine gs_end ?_ | refine gs_end' ?_ | refine gw_seq ?_ | refine gw_text rfl ?_ | refine gw_skip ?_ | refine gw_yes rfl ?_ | refine gw_no rfl ?_ | refine gw_exit ?_ | refine gw_block ?_ | refine gw_label ?_ | (refine gs_n tyT_ok 0 ?_ (hp := ?hp); case hp => exact ⟨by decide, by decide⟩))
  refine gw_loopW (fun _ (i : Nat) => [(3, .slice (some ⟨b, 0, none⟩) zs.length zs.length), (9, .slice a zs.length c), (10, .int .i64 (zs.length : Int)), (11, .int .i64 (i : Int))]) (fun _ i => [q, (b, .row 5 (bytesV (zs.take i ++ List.replicate (zs.length - i) 0)) (zs.length * 1))]) (fun m i => i + m = zs.length) zs.length 0 (by simp) ⟨[0, 1], by decide, ?_⟩ ⟨rfl, rfl, rfl, rfl, trivial⟩ fun m i e hi => ?_
  · simp only [List.take_zero, List.nil_append, Nat.sub_zero, bytesV, List.map_replicate]
    show some [q, (b, GO.row 5 (List.replicate zs.length [Value.int .u8 0]).flatten (zs.length * 1))] = _
    simp [List.flatten_replicate_singleton]
  have hlen : (zs.take i ++ List.replicate (zs.length - i) (0 : Int)).length = zs.length := by simp; omega
  repeat (first | refine gs_n tyT_ok 0 ?_ | refine gs_gn tyT_ok 0 rfl ?_ | refine gs_no rfl ?_ | refine gs_end ?_ | refine gs_end' ?_ | refine gw_seq ?_ | refine gw_text rfl ?_ | refine gw_skip ?_ | refine gw_yes rfl ?_ | refine gw_no rfl ?_ | refine gw_exit ?_ | refine gw_block ?_ | refine gw_label ?_ | (refine gs_n tyT_ok 0 ?_ (hp := ?hp); case hp => exact ⟨by decide, by decide⟩))
  by_cases g : i < zs.length
  · (refine gs_t tyT_ok ?hb ?_; case hb => first | exact decide_eq_true (by omega) | exact congrArg Bool.not (decide_eq_false (by omega)) | (simp; done) | (simp; omega))
    obtain ⟨o, rfl, ho⟩ := h.at g
    have hx := hb (zs.getD i 0) (by rw [List.getD_eq_getElem?_getD, List.getElem?_eq_getElem g]; exact List.getElem_mem g)
    have hset : (zs.take i ++ List.replicate (zs.length - i) (0 : Int)).set i (zs.getD i 0) = zs.take (i + 1) ++ List.replicate (zs.length - (i + 1)) 0 := by
      rw [List.set_append_right _ _ (by simp; omega), show zs.length - i = zs.length - (i + 1) + 1 by omega, List.replicate_succ, show i - (zs.take i).length = 0 by simp; omega, List.set_cons_zero, take_succD zs 0 g, List.append_assoc]
      rfl
    repeat (first | refine gs_n tyT_ok 0 ?_ | refine gs_gn tyT_ok 0 rfl ?_ | refine gs_no rfl ?_ | refine gs_end ?_ | refine gs_end' ?_ | refine gw_seq ?_ | refine gw_text rfl ?_ | refine gw_skip ?_ | refine gw_yes rfl ?_ | refine gw_no rfl ?_ | refine gw_exit ?_ | refine gw_block ?_ | refine gw_label ?_ | (refine gs_n tyT_ok 0 ?_ (hp := ?hp); case hp => exact ⟨by decide, by decide⟩))
    refine gs_at 0 tyT_ok rfl rfl rfl rfl ho ?_
    repeat (first | refine gs_n tyT_ok 0 ?_ | refine gs_gn tyT_ok 0 rfl ?_ | refine gs_no rfl ?_ | refine gs_end ?_ | refine gs_end' ?_ | refine gw_seq ?_ | refine gw_text rfl ?_ | refine gw_skip ?_ | refine gw_yes rfl ?_ | refine gw_no rfl ?_ | refine gw_exit ?_ | refine gw_block ?_ | refine gw_label ?_ | (refine gs_n tyT_ok 0 ?_ (hp := ?hp); case hp => exact ⟨by decide, by decide⟩))
    refine gs_putb 1 (i := i) (n := zs.getD i 0) rfl rfl rfl (by omega) (by omega) ?_
    rw [hset]
    repeat (first | refine gs_n tyT_ok 0 ?_ | refine gs_gn tyT_ok 0 rfl ?_ | refine gs_no rfl ?_ | refine gs_end ?_ | refine gs_end' ?_ | refine gw_seq ?_ | refine gw_text rfl ?_ | refine gw_skip ?_ | refine gw_yes rfl ?_ | refine gw_no rfl ?_ | refine gw_exit ?_ | refine gw_block ?_ | refine gw_label ?_ | (refine gs_n tyT_ok 0 ?_ (hp := ?hp); case hp => exact ⟨by decide, by decide⟩))
    exact ⟨m - 1, by omega, i + 1, by omega, ⟨[0, 1], by decide, rfl⟩, rfl, rfl, rfl, rfl, trivial⟩
  · obtain rfl : i = zs.length := by omega
    rw [List.take_length, Nat.sub_self, List.replicate_zero, List.append_nil]
    (refine gs_f tyT_ok ?hb ?_; case hb => first | exact decide_eq_false (by omega) | exact congrArg Bool.not (decide_eq_true (by omega)) | (simp; done) | (simp; omega))
    repeat (first | refine gs_n tyT_ok 0 ?_ | refine gs_gn tyT_ok 0 rfl ?_ | refine gs_no rfl ?_ | refine gs_end ?_ | refine gs_end' ?_ | refine gw_seq ?_ | refine gw_text rfl ?_ | refine gw_skip ?_ | refine gw_yes rfl ?_ | refine gw_no rfl ?_ | refine gw_exit ?_ | refine gw_block ?_ | refine gw_label ?_ | (refine gs_n tyT_ok 0 ?_ (hp := ?hp); case hp => exact ⟨by decide, by decide⟩))
    exact gw_ret ⟨_, [q], [(b, .row 5 (bytesV zs) (zs.length * 1))], [0, 1], .tmp .nil, ⟨_, rfl, rfl, .inr ⟨b, zs.length, zs.length, zs.length * 1, rfl, rfl, by simp [bytesV], Nat.le_refl _, Nat.le_refl _⟩⟩, rfl, rfl, by decide⟩
end Go.Proofs.Ytjefdcbljpkmlaa.G
end
