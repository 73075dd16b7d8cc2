/- What the law FnExactGifPut needs, out of the texts Zh. -/
import Derived.Test.YtjefdcbljpkmlaaKFnExactGifPut22
import Derived.Test.YtjefdcbljpkmlaaKFnExactGifPut26
section
set_option linter.unusedVariables false
set_option linter.unusedSimpArgs false
set_option maxRecDepth 10000
namespace Go.Proofs.Ytjefdcbljpkmlaa.G
open Go
theorem pow_w {n : Nat} (h : n ≤ 62) : Pu Try.prog 115 [.int .i64 (n : Int)] (.int .i64 ((2 ^ n : Nat) : Int)) := by
  have e : (1 : Int) * 2 ^ n = ((2 ^ n : Nat) : Int) := by simp
  rw [← e]
  exact sPow_w h
instance (bits : Nat) (t : ByteArray) : Decidable (fitsZ bits t) := by unfold fitsZ; infer_instance
set_option maxHeartbeats 1000000 in
theorem l6Width_w {known bits : Nat} {wide : Bool} (hb : bits ≤ 8) (hm : known ≤ 100000) : Pu Try.prog 208 [.int .i64 (known : Int), .int .i64 (bits : Int), .bool wide] (.int .i64 (widZ bits wide known : Nat)) := by
  refine trip_of Try.func208 rfl (by simp [Try.ntmps208]) ?_
  refine gw_seq (gw_text rfl ?_)
  repeat (first | refine gs_n tyT_ok 0 ?_ | refine gs_gn tyT_ok 0 rfl ?_ | refine gs_no rfl ?_)
  refine gs_end ?_
  refine gw_seq (gw_text rfl ?_)
  repeat (first | refine gs_n tyT_ok 0 ?_ | refine gs_gn tyT_ok 0 rfl ?_ | refine gs_no rfl ?_)
  refine gs_end ?_
  obtain ⟨n, hn⟩ : ∃ n, n = known + if wide then 1 else 0 := ⟨_, rfl⟩
  have hn2 : n ≤ 100001 := by rw [hn]; split <;> omega
  refine gw_joinW (α := Unit) (fun _ => [(0, .int .i64 (n : Int)), (7, .int .i64 ((bits + 1 : Nat) : Int))]) (fun _ => []) (fun _ => True) ?_ fun _ e _ => ?_
  · cases wide
    · repeat (first | refine gs_n tyT_ok 0 ?_ | refine gs_gn tyT_ok 0 rfl ?_ | refine gs_no rfl ?_ | refine gs_end ?_ | refine gs_end' ?_ | refine gw_seq ?_ | refine gw_text rfl ?_ | refine gw_skip ?_ | refine gw_yes rfl ?_ | refine gw_no rfl ?_ | refine gw_exit ?_ | refine gw_block ?_ | refine gw_label ?_ | (refine gs_n tyT_ok 0 ?_ (hp := ?hp); case hp => exact ⟨by decide, by decide⟩))
      exact ⟨(), trivial, ⟨[], by decide, rfl⟩, by rw [hn]; rfl, rfl, trivial⟩
    · repeat (first | refine gs_n tyT_ok 0 ?_ | refine gs_gn tyT_ok 0 rfl ?_ | refine gs_no rfl ?_ | refine gs_end ?_ | refine gs_end' ?_ | refine gw_seq ?_ | refine gw_text rfl ?_ | refine gw_skip ?_ | refine gw_yes rfl ?_ | refine gw_no rfl ?_ | refine gw_exit ?_ | refine gw_block ?_ | refine gw_label ?_ | (refine gs_n tyT_ok 0 ?_ (hp := ?hp); case hp => exact ⟨by decide, by decide⟩))
      exact ⟨(), trivial, ⟨[], by decide, rfl⟩, by rw [hn]; rfl, rfl, trivial⟩
  have hgoal : widZ bits wide known = widF n 12 (bits + 1) := by rw [hn]; rfl
  rw [hgoal]
  repeat (first | refine gs_n tyT_ok 0 ?_ | refine gs_gn tyT_ok 0 rfl ?_ | refine gs_no rfl ?_ | refine gs_end ?_ | refine gs_end' ?_ | refine gw_seq ?_ | refine gw_text rfl ?_ | refine gw_skip ?_ | refine gw_yes rfl ?_ | refine gw_no rfl ?_ | refine gw_exit ?_ | refine gw_block ?_ | refine gw_label ?_ | (refine gs_n tyT_ok 0 ?_ (hp := ?hp); case hp => exact ⟨by decide, by decide⟩))
  refine gw_loopW (fun _ (w : Nat) => [(0, .int .i64 (n : Int)), (7, .int .i64 (w : Int))]) (fun _ _ => []) (fun m w => w ≤ 12 ∧ 12 ≤ w + m ∧ widF n m w = widF n 12 (bits + 1)) 12 (bits + 1) ⟨by omega, by omega, rfl⟩ ⟨[], by decide, rfl⟩ ⟨rfl, rfl, trivial⟩ fun m w e ⟨hw, hw2, hw3⟩ => ?_
  have hp1 : 1 ≤ 2 ^ w := Nat.one_le_two_pow
  repeat (first | refine gs_n tyT_ok 0 ?_ | refine gs_gn tyT_ok 0 rfl ?_ | refine gs_no rfl ?_ | refine gs_end ?_ | refine gs_end' ?_ | refine gw_seq ?_ | refine gw_text rfl ?_ | refine gw_skip ?_ | refine gw_yes rfl ?_ | refine gw_no rfl ?_ | refine gw_exit ?_ | refine gw_block ?_ | refine gw_label ?_ | (refine gs_n tyT_ok 0 ?_ (hp := ?hp); case hp => exact ⟨by decide, by decide⟩))
  by_cases h1 : w < 12
  case neg =>
    (refine gs_f tyT_ok ?hb ?_; case hb => first | exact decide_eq_false (by omega) | exact congrArg Bool.not (decide_eq_true (by omega)) | (simp; done) | (simp; omega))
    repeat (first | refine gs_n tyT_ok 0 ?_ | refine gs_gn tyT_ok 0 rfl ?_ | refine gs_no rfl ?_ | refine gs_end ?_ | refine gs_end' ?_ | refine gw_seq ?_ | refine gw_text rfl ?_ | refine gw_skip ?_ | refine gw_yes rfl ?_ | refine gw_no rfl ?_ | refine gw_exit ?_ | refine gw_block ?_ | refine gw_label ?_ | (refine gs_n tyT_ok 0 ?_ (hp := ?hp); case hp => exact ⟨by decide, by decide⟩))
    obtain rfl : w = 12 := by omega
    rw [← hw3, widF_stop (fun h => by omega)]
    exact gw_ret ⟨_, [], [], [], (.tmp .nil), ⟨rfl, rfl, rfl⟩, rfl, rfl, List.nodup_nil⟩
  (refine gs_t tyT_ok ?hb ?_; case hb => first | exact decide_eq_true (by omega) | exact congrArg Bool.not (decide_eq_false (by omega)) | (simp; done) | (simp; omega))
  repeat (first | refine gs_n tyT_ok 0 ?_ | refine gs_gn tyT_ok 0 rfl ?_ | refine gs_no rfl ?_ | refine gs_end ?_ | refine gs_end' ?_ | refine gw_seq ?_ | refine gw_text rfl ?_ | refine gw_skip ?_ | refine gw_yes rfl ?_ | refine gw_no rfl ?_ | refine gw_exit ?_ | refine gw_block ?_ | refine gw_label ?_ | (refine gs_n tyT_ok 0 ?_ (hp := ?hp); case hp => exact ⟨by decide, by decide⟩))
  refine gs_pug ent115 rfl (pow_w (by omega)) ?_
  obtain ⟨m', rfl⟩ : ∃ m', m = m' + 1 := ⟨m - 1, by omega⟩
  by_cases h2 : 2 ^ w ≤ n
  case neg =>
    refine gs_fg tyT_ok rfl ?hb ?_
    case hb => exact decide_eq_false (by omega)
    repeat (first | refine gs_n tyT_ok 0 ?_ | refine gs_gn tyT_ok 0 rfl ?_ | refine gs_no rfl ?_ | refine gs_end ?_ | refine gs_end' ?_ | refine gw_seq ?_ | refine gw_text rfl ?_ | refine gw_skip ?_ | refine gw_yes rfl ?_ | refine gw_no rfl ?_ | refine gw_exit ?_ | refine gw_block ?_ | refine gw_label ?_ | (refine gs_n tyT_ok 0 ?_ (hp := ?hp); case hp => exact ⟨by decide, by decide⟩))
    rw [← hw3, widF_stop (fun h => h2 h.2)]
    exact gw_ret ⟨_, [], [], [], (.tmp .nil), ⟨rfl, rfl, rfl⟩, rfl, rfl, List.nodup_nil⟩
  refine gs_tg tyT_ok rfl ?hb ?_
  case hb => exact decide_eq_true (by omega)
  repeat (first | refine gs_n tyT_ok 0 ?_ | refine gs_gn tyT_ok 0 rfl ?_ | refine gs_no rfl ?_ | refine gs_end ?_ | refine gs_end' ?_ | refine gw_seq ?_ | refine gw_text rfl ?_ | refine gw_skip ?_ | refine gw_yes rfl ?_ | refine gw_no rfl ?_ | refine gw_exit ?_ | refine gw_block ?_ | refine gw_label ?_ | (refine gs_n tyT_ok 0 ?_ (hp := ?hp); case hp => exact ⟨by decide, by decide⟩))
  refine ⟨m', by omega, w + 1, ⟨by omega, by omega, ?_⟩, ⟨[], by decide, rfl⟩, rfl, rfl, trivial⟩
  rw [← hw3]
  show _ = if w < 12 ∧ 2 ^ w ≤ n then _ else _
  rw [if_pos ⟨h1, h2⟩]
theorem l6Full_w {wide : Bool} : Pu Try.prog 168 [.bool wide] (.int .i64 (fullZ wide : Nat)) := by
  refine trip_of Try.func168 rfl (by simp [Try.ntmps168]) ?_
  cases wide
  · repeat (first | refine gs_n tyT_ok 0 ?_ | refine gs_gn tyT_ok 0 rfl ?_ | refine gs_no rfl ?_ | refine gs_end ?_ | refine gs_end' ?_ | refine gw_seq ?_ | refine gw_text rfl ?_ | refine gw_skip ?_ | refine gw_yes rfl ?_ | refine gw_no rfl ?_ | refine gw_exit ?_ | refine gw_block ?_ | refine gw_label ?_ | (refine gs_n tyT_ok 0 ?_ (hp := ?hp); case hp => exact ⟨by decide, by decide⟩))
    exact gw_ret ⟨_, [], [], [], (.tmp .nil), ⟨rfl, rfl, rfl⟩, rfl, rfl, List.nodup_nil⟩
  · repeat (first | refine gs_n tyT_ok 0 ?_ | refine gs_gn tyT_ok 0 rfl ?_ | refine gs_no rfl ?_ | refine gs_end ?_ | refine gs_end' ?_ | refine gw_seq ?_ | refine gw_text rfl ?_ | refine gw_skip ?_ | refine gw_yes rfl ?_ | refine gw_no rfl ?_ | refine gw_exit ?_ | refine gw_block ?_ | refine gw_label ?_ | (refine gs_n tyT_ok 0 ?_ (hp := ?hp); case hp => exact ⟨by decide, by decide⟩))
    exact gw_ret ⟨_, [], [], [], (.tmp .nil), ⟨rfl, rfl, rfl⟩, rfl, rfl, List.nodup_nil⟩
theorem l6Known_w {a : Option Addr} {n c bits : Nat} (hb : bits ≤ 8) (hn : lzB bits ≤ n) (hn2 : n ≤ 100000) : Pu Try.prog 209 [.slice a n c, .int .i64 (bits : Int)] (.int .i64 (knoZ bits (n - lzB bits) : Nat)) := by
  have h8 : 2 ^ bits ≤ 2 ^ 8 := Nat.pow_le_pow_right (by decide) hb
  have h81 : 1 ≤ 2 ^ bits := Nat.one_le_two_pow
  have hB := lzB_le hb
  have hnat : ((2 ^ bits : Nat) : Int) + 2 = ((lzB bits : Nat) : Int) := by unfold lzB; omega
  refine trip_of Try.func209 rfl (by simp [Try.ntmps209]) ?_
  repeat (first | refine gs_n tyT_ok 0 ?_ | refine gs_gn tyT_ok 0 rfl ?_ | refine gs_no rfl ?_ | refine gs_end ?_ | refine gs_end' ?_ | refine gw_seq ?_ | refine gw_text rfl ?_ | refine gw_skip ?_ | refine gw_yes rfl ?_ | refine gw_no rfl ?_ | refine gw_exit ?_ | refine gw_block ?_ | refine gw_label ?_ | (refine gs_n tyT_ok 0 ?_ (hp := ?hp); case hp => exact ⟨by decide, by decide⟩))
  refine gs_pu ent115 (pow_w (by omega)) ?_
  repeat (first | refine gs_n tyT_ok 0 ?_ | refine gs_gn tyT_ok 0 rfl ?_ | refine gs_no rfl ?_ | refine gs_end ?_ | refine gs_end' ?_ | refine gw_seq ?_ | refine gw_text rfl ?_ | refine gw_skip ?_ | refine gw_yes rfl ?_ | refine gw_no rfl ?_ | refine gw_exit ?_ | refine gw_block ?_ | refine gw_label ?_ | (refine gs_n tyT_ok 0 ?_ (hp := ?hp); case hp => exact ⟨by decide, by decide⟩))
  rw [hnat]
  by_cases h : n = lzB bits
  · refine gs_t tyT_ok ?hb ?_
    case hb => exact decide_eq_true (by omega)
    repeat (first | refine gs_n tyT_ok 0 ?_ | refine gs_gn tyT_ok 0 rfl ?_ | refine gs_no rfl ?_ | refine gs_end ?_ | refine gs_end' ?_ | refine gw_seq ?_ | refine gw_text rfl ?_ | refine gw_skip ?_ | refine gw_yes rfl ?_ | refine gw_no rfl ?_ | refine gw_exit ?_ | refine gw_block ?_ | refine gw_label ?_ | (refine gs_n tyT_ok 0 ?_ (hp := ?hp); case hp => exact ⟨by decide, by decide⟩))
    rw [knoZ, if_pos (by omega), ← h]
    exact gw_ret ⟨_, [], [], [], (.tmp .nil), ⟨rfl, rfl, rfl⟩, rfl, rfl, List.nodup_nil⟩
  · refine gs_f tyT_ok ?hb ?_
    case hb => exact decide_eq_false (by omega)
    repeat (first | refine gs_n tyT_ok 0 ?_ | refine gs_gn tyT_ok 0 rfl ?_ | refine gs_no rfl ?_ | refine gs_end ?_ | refine gs_end' ?_ | refine gw_seq ?_ | refine gw_text rfl ?_ | refine gw_skip ?_ | refine gw_yes rfl ?_ | refine gw_no rfl ?_ | refine gw_exit ?_ | refine gw_block ?_ | refine gw_label ?_ | (refine gs_n tyT_ok 0 ?_ (hp := ?hp); case hp => exact ⟨by decide, by decide⟩))
    rw [knoZ, if_neg (by omega)]
    exact gw_ret ⟨_, [], [], [], .tmp .nil, ⟨by show Value.int _ _ = Value.int _ _; congr 1; omega, rfl, rfl⟩, rfl, rfl, by decide⟩
theorem l6Code_w {u bits n c : Nat} {a : Option Addr} {wide : Bool} (hb : bits ≤ 8) (hn : lzB bits ≤ n) (hn2 : n ≤ 90000) : Pu Try.prog 167 [.int .i64 (u : Int), .slice a n c, .int .i64 (bits : Int), .bool wide] (.agg #[.int .i64 (u : Int), .int .i64 (widZ bits wide (knoZ bits (n - lzB bits)) : Nat)]) := by
  have hB := lzB_le hb
  refine trip_of Try.func167 rfl (by simp [Try.ntmps167]) ?_
  refine gw_seq (gw_text rfl ?_)
  refine gs_alloc tyT_ok rfl fun b8 => ?_
  repeat (first | refine gs_n tyT_ok 0 ?_ | refine gs_gn tyT_ok 0 rfl ?_ | refine gs_no rfl ?_ | refine gs_end ?_ | refine gs_end' ?_ | refine gw_seq ?_ | refine gw_text rfl ?_ | refine gw_skip ?_ | refine gw_yes rfl ?_ | refine gw_no rfl ?_ | refine gw_exit ?_ | refine gw_block ?_ | refine gw_label ?_ | (refine gs_n tyT_ok 0 ?_ (hp := ?hp); case hp => exact ⟨by decide, by decide⟩))
  refine gs_pu ent209 (l6Known_w hb hn (by omega)) ?_
  repeat (first | refine gs_n tyT_ok 0 ?_ | refine gs_gn tyT_ok 0 rfl ?_ | refine gs_no rfl ?_ | refine gs_end ?_ | refine gs_end' ?_ | refine gw_seq ?_ | refine gw_text rfl ?_ | refine gw_skip ?_ | refine gw_yes rfl ?_ | refine gw_no rfl ?_ | refine gw_exit ?_ | refine gw_block ?_ | refine gw_label ?_ | (refine gs_n tyT_ok 0 ?_ (hp := ?hp); case hp => exact ⟨by decide, by decide⟩))
  refine gs_pu ent208 (l6Width_w hb (by unfold knoZ; split <;> omega)) ?_
  repeat (first | refine gs_n tyT_ok 0 ?_ | refine gs_gn tyT_ok 0 rfl ?_ | refine gs_no rfl ?_)
  refine gs_store tyT_ok 0 rfl rfl rfl rfl rfl rfl (Nat.le_of_ble_eq_true rfl) (Nat.le_of_ble_eq_true rfl) ?_
  repeat (first | refine gs_n tyT_ok 0 ?_ | refine gs_gn tyT_ok 0 rfl ?_ | refine gs_no rfl ?_ | refine gs_end ?_ | refine gs_end' ?_ | refine gw_seq ?_ | refine gw_text rfl ?_ | refine gw_skip ?_ | refine gw_yes rfl ?_ | refine gw_no rfl ?_ | refine gw_exit ?_ | refine gw_block ?_ | refine gw_label ?_ | (refine gs_n tyT_ok 0 ?_ (hp := ?hp); case hp => exact ⟨by decide, by decide⟩))
  exact gw_ret ⟨_, [], [], [], rv_cell tyT_ok 0 rfl rfl rfl rfl rfl (Nat.le_of_ble_eq_true rfl) .nil, ⟨rfl, rfl, rfl⟩, rfl, rfl, by decide⟩
/-- The place of a text, or -1. -/
def plcS (L : List ByteArray) (s : ByteArray) : Int := match dfind L s with
  | some i => (i : Int)
  | none => -1
theorem dfind_snocD {L : List ByteArray} {s : ByteArray} {k : Nat} (h : dfind (L.take k) s = none) (hk : k < L.length) : dfind (L.take (k + 1)) s = if L.getD k ⟨#[]⟩ = s then some k else none := by
  rw [take_succD L ⟨#[]⟩ hk, dfind_app, h]
  simp only [dfind]
  split
  · simp; omega
  · rfl
theorem dfind_take {L : List ByteArray} {s : ByteArray} {k i : Nat} (h : dfind (L.take k) s = some i) : dfind L s = some i := by
  have e := dfind_app (L.take k) (L.drop k) s
  rw [List.take_append_drop, h] at e
  exact e
set_option maxHeartbeats 1000000 in
theorem l6Find_w {a : Option Addr} {n c : Nat} {p : Nat × GO} {L : List ByteArray} {s : ByteArray} (hv : OT (.slice a n c) p L) (hl : L.length ≤ 1000000) : Rd Try.prog 207 [.slice a n c, .string s] [p] (.int .i64 (plcS L s)) := by
  have hn : n = L.length := by obtain ⟨a', c', h⟩ := hv.sl; cases h; rfl
  subst hn
  refine trip_of Try.func207 rfl (by simp [Try.ntmps207]) ?_
  repeat (first | refine gs_n tyT_ok 0 ?_ | refine gs_gn tyT_ok 0 rfl ?_ | refine gs_no rfl ?_ | refine gs_end ?_ | refine gs_end' ?_ | refine gw_seq ?_ | refine gw_text rfl ?_ | refine gw_skip ?_ | refine gw_yes rfl ?_ | refine gw_no rfl ?_ | refine gw_exit ?_ | refine gw_block ?_ | refine gw_label ?_ | (refine gs_n tyT_ok 0 ?_ (hp := ?hp); case hp => exact ⟨by decide, by decide⟩))
  refine gw_loopW (fun _ (i : Nat) => [(0, .slice a L.length c), (1, .string s), (5, .int .i64 (i : Int))]) (fun _ _ => [p]) (fun m i => i + m = L.length ∧ dfind (L.take i) s = none) L.length 0 ⟨by omega, rfl⟩ ⟨[0], by decide, rfl⟩ ⟨rfl, rfl, rfl, trivial⟩ fun m i e ⟨hi, hj⟩ => ?_
  repeat (first | refine gs_n tyT_ok 0 ?_ | refine gs_gn tyT_ok 0 rfl ?_ | refine gs_no rfl ?_ | refine gs_end ?_ | refine gs_end' ?_ | refine gw_seq ?_ | refine gw_text rfl ?_ | refine gw_skip ?_ | refine gw_yes rfl ?_ | refine gw_no rfl ?_ | refine gw_exit ?_ | refine gw_block ?_ | refine gw_label ?_ | (refine gs_n tyT_ok 0 ?_ (hp := ?hp); case hp => exact ⟨by decide, by decide⟩))
  by_cases hlt : i < L.length
  · (refine gs_t tyT_ok ?hb ?_; case hb => first | exact decide_eq_true (by omega) | exact congrArg Bool.not (decide_eq_false (by omega)) | (simp; done) | (simp; omega))
    obtain ⟨_, rfl, hc⟩ := hv.at hlt
    have hs := dfind_snocD hj hlt
    repeat (first | refine gs_n tyT_ok 0 ?_ | refine gs_gn tyT_ok 0 rfl ?_ | refine gs_no rfl ?_ | refine gs_end ?_ | refine gs_end' ?_ | refine gw_seq ?_ | refine gw_text rfl ?_ | refine gw_skip ?_ | refine gw_yes rfl ?_ | refine gw_no rfl ?_ | refine gw_exit ?_ | refine gw_block ?_ | refine gw_label ?_ | (refine gs_n tyT_ok 0 ?_ (hp := ?hp); case hp => exact ⟨by decide, by decide⟩))
    refine gs_atb 0 rfl rfl rfl rfl hc ?_
    repeat (first | refine gs_n tyT_ok 0 ?_ | refine gs_gn tyT_ok 0 rfl ?_ | refine gs_no rfl ?_ | refine gs_end ?_ | refine gs_end' ?_ | refine gw_seq ?_ | refine gw_text rfl ?_ | refine gw_skip ?_ | refine gw_yes rfl ?_ | refine gw_no rfl ?_ | refine gw_exit ?_ | refine gw_block ?_ | refine gw_label ?_ | (refine gs_n tyT_ok 0 ?_ (hp := ?hp); case hp => exact ⟨by decide, by decide⟩))
    by_cases heq : L.getD i ⟨#[]⟩ = s
    · rw [if_pos heq] at hs
      refine gs_t tyT_ok ?hb ?_
      case hb => exact decide_eq_true heq
      repeat (first | refine gs_n tyT_ok 0 ?_ | refine gs_gn tyT_ok 0 rfl ?_ | refine gs_no rfl ?_ | refine gs_end ?_ | refine gs_end' ?_ | refine gw_seq ?_ | refine gw_text rfl ?_ | refine gw_skip ?_ | refine gw_yes rfl ?_ | refine gw_no rfl ?_ | refine gw_exit ?_ | refine gw_block ?_ | refine gw_label ?_ | (refine gs_n tyT_ok 0 ?_ (hp := ?hp); case hp => exact ⟨by decide, by decide⟩))
      rw [show plcS L s = (i : Int) by rw [plcS, dfind_take hs]]
      exact gw_ret ⟨_, _, [], [0], .tmp .nil, ⟨rfl, rfl, rfl⟩, rfl, rfl, by decide⟩
    · rw [if_neg heq] at hs
      refine gs_f tyT_ok ?hb ?_
      case hb => exact decide_eq_false heq
      repeat (first | refine gs_n tyT_ok 0 ?_ | refine gs_gn tyT_ok 0 rfl ?_ | refine gs_no rfl ?_ | refine gs_end ?_ | refine gs_end' ?_ | refine gw_seq ?_ | refine gw_text rfl ?_ | refine gw_skip ?_ | refine gw_yes rfl ?_ | refine gw_no rfl ?_ | refine gw_exit ?_ | refine gw_block ?_ | refine gw_label ?_ | (refine gs_n tyT_ok 0 ?_ (hp := ?hp); case hp => exact ⟨by decide, by decide⟩))
      exact ⟨m - 1, by omega, i + 1, ⟨by omega, hs⟩, ⟨[0], by decide, rfl⟩, rfl, rfl, rfl, trivial⟩
  · obtain rfl : i = L.length := by omega
    rw [List.take_length] at hj
    (refine gs_f tyT_ok ?hb ?_; case hb => first | exact decide_eq_false (by omega) | exact congrArg Bool.not (decide_eq_true (by omega)) | (simp; done) | (simp; omega))
    repeat (first | refine gs_n tyT_ok 0 ?_ | refine gs_gn tyT_ok 0 rfl ?_ | refine gs_no rfl ?_ | refine gs_end ?_ | refine gs_end' ?_ | refine gw_seq ?_ | refine gw_text rfl ?_ | refine gw_skip ?_ | refine gw_yes rfl ?_ | refine gw_no rfl ?_ | refine gw_exit ?_ | refine gw_block ?_ | refine gw_label ?_ | (refine gs_n tyT_ok 0 ?_ (hp := ?hp); case hp => exact ⟨by decide, by decide⟩))
    rw [show plcS L s = -1 by rw [plcS, hj]]
    exact gw_ret ⟨_, _, [], [0], .tmp .nil, ⟨rfl, rfl, rfl⟩, rfl, rfl, by decide⟩
def numS (L : List ByteArray) (s : ByteArray) : Int := if s.size = 1 then byt s 0 else plcS L s
theorem l6Num_w {a : Option Addr} {n c : Nat} {p : Nat × GO} {L : List ByteArray} {s : ByteArray} (hv : OT (.slice a n c) p L) (hl : L.length ≤ 1000000) (hs : s.size ≤ 1000000) : Rd Try.prog 166 [.slice a n c, .string s] [p] (.int .i64 (numS L s)) := by
  refine trip_of Try.func166 rfl (by simp [Try.ntmps166]) ?_
  repeat (first | refine gs_n tyT_ok 0 ?_ | refine gs_gn tyT_ok 0 rfl ?_ | refine gs_no rfl ?_ | refine gs_end ?_ | refine gs_end' ?_ | refine gw_seq ?_ | refine gw_text rfl ?_ | refine gw_skip ?_ | refine gw_yes rfl ?_ | refine gw_no rfl ?_ | refine gw_exit ?_ | refine gw_block ?_ | refine gw_label ?_ | (refine gs_n tyT_ok 0 ?_ (hp := ?hp); case hp => exact ⟨by decide, by decide⟩))
  by_cases h1 : s.size = 1
  · rw [numS, if_pos h1]
    (refine gs_t tyT_ok ?hb ?_; case hb => first | exact decide_eq_true (by omega) | exact congrArg Bool.not (decide_eq_false (by omega)) | (simp; done) | (simp; omega))
    repeat (first | refine gs_n tyT_ok 0 ?_ | refine gs_gn tyT_ok 0 rfl ?_ | refine gs_no rfl ?_ | refine gs_end ?_ | refine gs_end' ?_ | refine gw_seq ?_ | refine gw_text rfl ?_ | refine gw_skip ?_ | refine gw_yes rfl ?_ | refine gw_no rfl ?_ | refine gw_exit ?_ | refine gw_block ?_ | refine gw_label ?_ | (refine gs_n tyT_ok 0 ?_ (hp := ?hp); case hp => exact ⟨by decide, by decide⟩))
    exact gw_ret ⟨_, _, [], [0], .tmp .nil, ⟨rfl, rfl, rfl⟩, rfl, rfl, by decide⟩
  · rw [numS, if_neg h1]
    (refine gs_f tyT_ok ?hb ?_; case hb => first | exact decide_eq_false (by omega) | exact congrArg Bool.not (decide_eq_true (by omega)) | (simp; done) | (simp; omega))
    repeat (first | refine gs_n tyT_ok 0 ?_ | refine gs_gn tyT_ok 0 rfl ?_ | refine gs_no rfl ?_ | refine gs_end ?_ | refine gs_end' ?_ | refine gw_seq ?_ | refine gw_text rfl ?_ | refine gw_skip ?_ | refine gw_yes rfl ?_ | refine gw_no rfl ?_ | refine gw_exit ?_ | refine gw_block ?_ | refine gw_label ?_ | (refine gs_n tyT_ok 0 ?_ (hp := ?hp); case hp => exact ⟨by decide, by decide⟩))
    refine gs_rd [0] ent207 rfl (by decide) (l6Find_w hv hl) ?_
    repeat (first | refine gs_n tyT_ok 0 ?_ | refine gs_gn tyT_ok 0 rfl ?_ | refine gs_no rfl ?_ | refine gs_end ?_ | refine gs_end' ?_ | refine gw_seq ?_ | refine gw_text rfl ?_ | refine gw_skip ?_ | refine gw_yes rfl ?_ | refine gw_no rfl ?_ | refine gw_exit ?_ | refine gw_block ?_ | refine gw_label ?_ | (refine gs_n tyT_ok 0 ?_ (hp := ?hp); case hp => exact ⟨by decide, by decide⟩))
    exact gw_ret ⟨_, _, [], [0], .tmp .nil, ⟨rfl, rfl, rfl⟩, rfl, rfl, by decide⟩
def startL (n : Nat) : List ByteArray := (List.range n).map fun (b : Nat) => txt [(b : Int)]
theorem startL_succ (n : Nat) : startL (n + 1) = startL n ++ [txt [(n : Int)]] := by simp [startL, List.range_succ]
theorem startL_len (n : Nat) : (startL n).length = n := by simp [startL]
/-- All that is known, as a list. -/
def allL (bits : Nat) (D : List ByteArray) : List ByteArray := startL (2 ^ bits) ++ [txt [], txt []] ++ D
theorem allL_len (bits : Nat) (D : List ByteArray) : (allL bits D).length = lzB bits + D.length := by simp [allL, startL_len, lzB]; omega
theorem allL_snoc (bits : Nat) (D : List ByteArray) (s : ByteArray) : allL bits D ++ [s] = allL bits (D ++ [s]) := by simp [allL]
theorem numS_all {bits : Nat} {D : List ByteArray} {s : ByteArray} (h0 : 1 ≤ s.size) : numS (allL bits D) s = if hasZ D s then (numZ bits D s : Int) else -1 := by
  unfold numS
  by_cases h1 : s.size = 1
  · rw [if_pos h1, if_pos (.inl h1), numZ, if_pos h1]
    have := byt_ge s 0
    omega
  · have hn : dfind (startL (2 ^ bits) ++ [txt [], txt []]) s = none := by
      refine dfind_none fun x hx => ?_
      intro e
      rcases List.mem_append.1 hx with hx | hx
      · obtain ⟨b, _, rfl⟩ := List.mem_map.1 hx
        exact h1 (by rw [← e]; exact txt_one_size _)
      · have hx2 : x = txt [] := by simpa using hx
        rw [← e, hx2, txt_size] at h0
        simp at h0
    have hd : dfind (allL bits D) s = (dfind D s).map (lzB bits + ·) := by
      rw [allL, dfind_app, hn]
      simp [startL_len, lzB]
    rw [if_neg h1, plcS, hd]
    cases hD : dfind D s with
    | none => rw [if_neg (by rintro (h | h); exact h1 h; rw [hD] at h; cases h)]; rfl
    | some i => rw [if_pos (.inr (by rw [hD]; rfl)), numZ, if_neg h1, hD]; rfl
set_option maxHeartbeats 1000000 in
theorem l6Start_w {bits : Nat} (hb : bits ≤ 8) : Trip Try.prog 165 [.int .i64 (bits : Int)] [] (fun v F' ns => ∃ p, F' = [] ∧ ns = [p] ∧ OT v p (allL bits [])) := by
  have h8 : 2 ^ bits ≤ 2 ^ 8 := Nat.pow_le_pow_right (by decide) hb
  have h81 : 1 ≤ 2 ^ bits := Nat.one_le_two_pow
  refine trip_of Try.func165 rfl (by simp [Try.ntmps165]) ?_
  repeat (first | refine gs_n tyT_ok 0 ?_ | refine gs_gn tyT_ok 0 rfl ?_ | refine gs_no rfl ?_ | refine gs_end ?_ | refine gs_end' ?_ | refine gw_seq ?_ | refine gw_text rfl ?_ | refine gw_skip ?_ | refine gw_yes rfl ?_ | refine gw_no rfl ?_ | refine gw_exit ?_ | refine gw_block ?_ | refine gw_label ?_ | (refine gs_n tyT_ok 0 ?_ (hp := ?hp); case hp => exact ⟨by decide, by decide⟩))
  refine gs_lit tyT_ok (cs := []) rfl rfl rfl (by decide) rfl fun b3 => ?_
  repeat (first | refine gs_n tyT_ok 0 ?_ | refine gs_gn tyT_ok 0 rfl ?_ | refine gs_no rfl ?_ | refine gs_end ?_ | refine gs_end' ?_ | refine gw_seq ?_ | refine gw_text rfl ?_ | refine gw_skip ?_ | refine gw_yes rfl ?_ | refine gw_no rfl ?_ | refine gw_exit ?_ | refine gw_block ?_ | refine gw_label ?_ | (refine gs_n tyT_ok 0 ?_ (hp := ?hp); case hp => exact ⟨by decide, by decide⟩))
  refine gw_loopW (fun _ (x : Nat × Value × (Nat × GO)) => [(0, .int .i64 (bits : Int)), (3, x.2.1), (4, .int .i64 (x.1 : Int))]) (fun _ x => [x.2.2]) (fun m x => x.1 + m = 2 ^ bits ∧ OT x.2.1 x.2.2 (startL x.1)) (2 ^ bits) (0, .slice (some ⟨b3, 0, none⟩) 0 0, (b3, .row 9 [] 0)) ⟨by simp, OT.empty⟩ ⟨[0], by decide, rfl⟩ ⟨rfl, rfl, rfl, trivial⟩ fun m ⟨k, v, p⟩ e ⟨hk, hv⟩ => ?_
  dsimp only at hk hv ⊢
  obtain ⟨va, vc, rfl⟩ := hv.sl
  repeat (first | refine gs_n tyT_ok 0 ?_ | refine gs_gn tyT_ok 0 rfl ?_ | refine gs_no rfl ?_ | refine gs_end ?_ | refine gs_end' ?_ | refine gw_seq ?_ | refine gw_text rfl ?_ | refine gw_skip ?_ | refine gw_yes rfl ?_ | refine gw_no rfl ?_ | refine gw_exit ?_ | refine gw_block ?_ | refine gw_label ?_ | (refine gs_n tyT_ok 0 ?_ (hp := ?hp); case hp => exact ⟨by decide, by decide⟩))
  refine gs_pu ent115 (pow_w (by omega)) ?_
  by_cases hlt : k < 2 ^ bits
  · refine gs_t tyT_ok ?hb ?_
    case hb => exact decide_eq_true (by omega)
    repeat (first | refine gs_n tyT_ok 0 ?_ | refine gs_gn tyT_ok 0 rfl ?_ | refine gs_no rfl ?_ | refine gs_end ?_ | refine gs_end' ?_ | refine gw_seq ?_ | refine gw_text rfl ?_ | refine gw_skip ?_ | refine gw_yes rfl ?_ | refine gw_no rfl ?_ | refine gw_exit ?_ | refine gw_block ?_ | refine gw_label ?_ | (refine gs_n tyT_ok 0 ?_ (hp := ?hp); case hp => exact ⟨by decide, by decide⟩))
    refine gs_lit tyT_ok (cs := bytesV [(k : Int)]) rfl rfl rfl (by decide) rfl fun b4 => ?_
    refine gs_txt 1 (xs := [(k : Int)]) rfl rfl rfl ?_
    refine gs_pusht 0 (s := txt [(k : Int)]) rfl rfl hv (fun _ => rfl) (by rw [startL_len]; omega) fun b5 a5 c5 p5 hv5 => ?_
    rw [← startL_succ] at hv5
    repeat (first | refine gs_n tyT_ok 0 ?_ | refine gs_gn tyT_ok 0 rfl ?_ | refine gs_no rfl ?_ | refine gs_end ?_ | refine gs_end' ?_ | refine gw_seq ?_ | refine gw_text rfl ?_ | refine gw_skip ?_ | refine gw_yes rfl ?_ | refine gw_no rfl ?_ | refine gw_exit ?_ | refine gw_block ?_ | refine gw_label ?_ | (refine gs_n tyT_ok 0 ?_ (hp := ?hp); case hp => exact ⟨by decide, by decide⟩))
    exact ⟨m - 1, by omega, (k + 1, _, p5), ⟨by show k + 1 + (m - 1) = _; omega, hv5⟩, ⟨[0], by decide, rfl⟩, rfl, rfl, rfl, trivial⟩
  · obtain rfl : k = 2 ^ bits := by omega
    refine gs_f tyT_ok ?hb ?_
    case hb => exact decide_eq_false (by omega)
    repeat (first | refine gs_n tyT_ok 0 ?_ | refine gs_gn tyT_ok 0 rfl ?_ | refine gs_no rfl ?_ | refine gs_end ?_ | refine gs_end' ?_ | refine gw_seq ?_ | refine gw_text rfl ?_ | refine gw_skip ?_ | refine gw_yes rfl ?_ | refine gw_no rfl ?_ | refine gw_exit ?_ | refine gw_block ?_ | refine gw_label ?_ | (refine gs_n tyT_ok 0 ?_ (hp := ?hp); case hp => exact ⟨by decide, by decide⟩))
    refine gs_pushx 0 2 (nw := [.string (txt []), .string (txt [])]) (el := 9) (cs := strs (startL (2 ^ bits))) rfl rfl rfl (by decide) rfl rfl rfl (by decide) (by decide) rfl hv (fun _ => rfl) ?_ (fun b v2 p2 hv2 => ?_)
    · simp only [strs, List.length_map, startL_len]
      show (2 ^ bits + 2) * 16 ≤ 140737488355328 * 1
      omega
    have hv3 : OT v2 p2 (allL bits []) := by
      have e3 : strs (startL (2 ^ bits)) ++ [.string (txt []), .string (txt [])] = strs (allL bits []) := by simp [strs, allL]
      rw [e3] at hv2
      exact hv2
    obtain ⟨wa, wc, rfl⟩ := hv3.sl
    repeat (first | refine gs_n tyT_ok 0 ?_ | refine gs_gn tyT_ok 0 rfl ?_ | refine gs_no rfl ?_ | refine gs_end ?_ | refine gs_end' ?_ | refine gw_seq ?_ | refine gw_text rfl ?_ | refine gw_skip ?_ | refine gw_yes rfl ?_ | refine gw_no rfl ?_ | refine gw_exit ?_ | refine gw_block ?_ | refine gw_label ?_ | (refine gs_n tyT_ok 0 ?_ (hp := ?hp); case hp => exact ⟨by decide, by decide⟩))
    exact gw_ret ⟨_, [], [p2], [0], .tmp .nil, ⟨p2, rfl, rfl, hv3⟩, rfl, rfl, by decide⟩
end Go.Proofs.Ytjefdcbljpkmlaa.G
end
