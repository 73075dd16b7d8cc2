/- BMP: bmpHolds, l11Rep, rowBytes, l1Many, l11Pad, rowOf. -/
import Derived.Test.YtjefdcbljpkmlaaWv
set_option linter.unusedVariables false
set_option maxRecDepth 10000
namespace Go.Proofs.Ytjefdcbljpkmlaa.G
open Go
/-- What a BMP can hold. -/
def bOk (k d : Int) (runs : Bool) : Prop := k = 2 ∧ runs = false ∨ k = 4 ∧ d = 8
instance (k d : Int) (runs : Bool) : Decidable (bOk k d runs) := by unfold bOk; infer_instance
theorem bOk_no {k d : Int} {runs : Bool} (h2 : k ≠ 2 ∨ runs = true) (h4 : k ≠ 4 ∨ d ≠ 8) : ¬ bOk k d runs := by
  rintro (⟨h, h'⟩ | ⟨h, h'⟩)
  · rcases h2 with h2 | h2
    · exact h2 h
    · rw [h2] at h'; cases h'
  · rcases h4 with h4 | h4
    · exact h4 h
    · exact h4 h'
set_option maxHeartbeats 1000000 in
theorem l11Rep_w {k d w h : Int} {a1 a2 : Option Addr} {n1 c1 n2 c2 : Nat} {runs : Bool} : Pu Try.prog 52 [img k d w h (.slice a1 n1 c1) (.slice a2 n2 c2), .bool runs] (.bool (decide (bOk k d runs))) := by
  refine trip_of Try.func52 rfl (by simp [Try.ntmps52]) ?_
  refine gw_seq (gw_text rfl ?_)
  refine gs_box fun b => ?_
  by_cases h2 : k = 2
  · subst h2
    cases runs
    · rw [decide_eq_true (show bOk 2 d false from .inl ⟨rfl, rfl⟩)]
      repeat (first | refine gs_n tyT_ok 0 ?_ | refine gs_gn tyT_ok 0 rfl ?_ | refine gs_no rfl ?_ | refine gs_l tyT_ok 0 ?_ | refine gs_gl tyT_ok 0 rfl ?_ | (refine gs_l tyT_ok 0 ?_ (hp := ?hp); case hp => exact ⟨rfl, Nat.le_of_ble_eq_true rfl⟩) | (refine gs_gl tyT_ok 0 rfl ?_ (hp := ?hp); case hp => exact ⟨rfl, Nat.le_of_ble_eq_true rfl⟩) | refine gs_end ?_ | refine gs_end' ?_ | refine gw_seq ?_ | refine gw_text rfl ?_ | refine gw_skip ?_ | refine gw_yes rfl ?_ | refine gw_no rfl ?_ | refine gw_exit ?_ | refine gw_block ?_ | refine gw_label ?_ | (refine gs_n tyT_ok 0 ?_ (hp := ?hp); case hp => exact ⟨by decide, by decide⟩) | (refine gs_tg tyT_ok rfl ?hb ?_; case hb => first | exact decide_eq_true (by omega) | exact congrArg Bool.not (decide_eq_false (by omega)) | (simp; done) | (simp; omega)) | (refine gs_fg tyT_ok rfl ?hb ?_; case hb => first | exact decide_eq_false (by omega) | exact congrArg Bool.not (decide_eq_true (by omega)) | (simp; done) | (simp; omega)) | (refine gs_t tyT_ok ?hb ?_; case hb => first | exact decide_eq_true (by omega) | exact congrArg Bool.not (decide_eq_false (by omega)) | (simp; done) | (simp; omega)) | (refine gs_f tyT_ok ?hb ?_; case hb => first | exact decide_eq_false (by omega) | exact congrArg Bool.not (decide_eq_true (by omega)) | (simp; done) | (simp; omega)))
      exact gw_ret ⟨_, [], [], [], (.tmp .nil), ⟨rfl, rfl, rfl⟩, rfl, rfl, List.nodup_nil⟩
    · rw [decide_eq_false (bOk_no (k := 2) (d := d) (runs := true) (.inr rfl) (.inl (by decide)))]
      repeat (first | refine gs_n tyT_ok 0 ?_ | refine gs_gn tyT_ok 0 rfl ?_ | refine gs_no rfl ?_ | refine gs_l tyT_ok 0 ?_ | refine gs_gl tyT_ok 0 rfl ?_ | (refine gs_l tyT_ok 0 ?_ (hp := ?hp); case hp => exact ⟨rfl, Nat.le_of_ble_eq_true rfl⟩) | (refine gs_gl tyT_ok 0 rfl ?_ (hp := ?hp); case hp => exact ⟨rfl, Nat.le_of_ble_eq_true rfl⟩) | refine gs_end ?_ | refine gs_end' ?_ | refine gw_seq ?_ | refine gw_text rfl ?_ | refine gw_skip ?_ | refine gw_yes rfl ?_ | refine gw_no rfl ?_ | refine gw_exit ?_ | refine gw_block ?_ | refine gw_label ?_ | (refine gs_n tyT_ok 0 ?_ (hp := ?hp); case hp => exact ⟨by decide, by decide⟩) | (refine gs_tg tyT_ok rfl ?hb ?_; case hb => first | exact decide_eq_true (by omega) | exact congrArg Bool.not (decide_eq_false (by omega)) | (simp; done) | (simp; omega)) | (refine gs_fg tyT_ok rfl ?hb ?_; case hb => first | exact decide_eq_false (by omega) | exact congrArg Bool.not (decide_eq_true (by omega)) | (simp; done) | (simp; omega)) | (refine gs_t tyT_ok ?hb ?_; case hb => first | exact decide_eq_true (by omega) | exact congrArg Bool.not (decide_eq_false (by omega)) | (simp; done) | (simp; omega)) | (refine gs_f tyT_ok ?hb ?_; case hb => first | exact decide_eq_false (by omega) | exact congrArg Bool.not (decide_eq_true (by omega)) | (simp; done) | (simp; omega)))
      exact gw_ret ⟨_, [], [], [], (.tmp .nil), ⟨rfl, rfl, rfl⟩, rfl, rfl, List.nodup_nil⟩
  by_cases h4 : k = 4
  · subst h4
    by_cases h8 : d = 8
    · rw [decide_eq_true (show bOk 4 d runs from .inr ⟨rfl, h8⟩)]
      repeat (first | refine gs_n tyT_ok 0 ?_ | refine gs_gn tyT_ok 0 rfl ?_ | refine gs_no rfl ?_ | refine gs_l tyT_ok 0 ?_ | refine gs_gl tyT_ok 0 rfl ?_ | (refine gs_l tyT_ok 0 ?_ (hp := ?hp); case hp => exact ⟨rfl, Nat.le_of_ble_eq_true rfl⟩) | (refine gs_gl tyT_ok 0 rfl ?_ (hp := ?hp); case hp => exact ⟨rfl, Nat.le_of_ble_eq_true rfl⟩) | refine gs_end ?_ | refine gs_end' ?_ | refine gw_seq ?_ | refine gw_text rfl ?_ | refine gw_skip ?_ | refine gw_yes rfl ?_ | refine gw_no rfl ?_ | refine gw_exit ?_ | refine gw_block ?_ | refine gw_label ?_ | (refine gs_n tyT_ok 0 ?_ (hp := ?hp); case hp => exact ⟨by decide, by decide⟩) | (refine gs_tg tyT_ok rfl ?hb ?_; case hb => first | exact decide_eq_true (by omega) | exact congrArg Bool.not (decide_eq_false (by omega)) | (simp; done) | (simp; omega)) | (refine gs_fg tyT_ok rfl ?hb ?_; case hb => first | exact decide_eq_false (by omega) | exact congrArg Bool.not (decide_eq_true (by omega)) | (simp; done) | (simp; omega)) | (refine gs_t tyT_ok ?hb ?_; case hb => first | exact decide_eq_true (by omega) | exact congrArg Bool.not (decide_eq_false (by omega)) | (simp; done) | (simp; omega)) | (refine gs_f tyT_ok ?hb ?_; case hb => first | exact decide_eq_false (by omega) | exact congrArg Bool.not (decide_eq_true (by omega)) | (simp; done) | (simp; omega)))
      exact gw_ret ⟨_, [], [], [], (.tmp .nil), ⟨rfl, rfl, rfl⟩, rfl, rfl, List.nodup_nil⟩
    · rw [decide_eq_false (bOk_no (k := 4) (d := d) (runs := runs) (.inl (by decide)) (.inr h8))]
      repeat (first | refine gs_n tyT_ok 0 ?_ | refine gs_gn tyT_ok 0 rfl ?_ | refine gs_no rfl ?_ | refine gs_l tyT_ok 0 ?_ | refine gs_gl tyT_ok 0 rfl ?_ | (refine gs_l tyT_ok 0 ?_ (hp := ?hp); case hp => exact ⟨rfl, Nat.le_of_ble_eq_true rfl⟩) | (refine gs_gl tyT_ok 0 rfl ?_ (hp := ?hp); case hp => exact ⟨rfl, Nat.le_of_ble_eq_true rfl⟩) | refine gs_end ?_ | refine gs_end' ?_ | refine gw_seq ?_ | refine gw_text rfl ?_ | refine gw_skip ?_ | refine gw_yes rfl ?_ | refine gw_no rfl ?_ | refine gw_exit ?_ | refine gw_block ?_ | refine gw_label ?_ | (refine gs_n tyT_ok 0 ?_ (hp := ?hp); case hp => exact ⟨by decide, by decide⟩) | (refine gs_tg tyT_ok rfl ?hb ?_; case hb => first | exact decide_eq_true (by omega) | exact congrArg Bool.not (decide_eq_false (by omega)) | (simp; done) | (simp; omega)) | (refine gs_fg tyT_ok rfl ?hb ?_; case hb => first | exact decide_eq_false (by omega) | exact congrArg Bool.not (decide_eq_true (by omega)) | (simp; done) | (simp; omega)) | (refine gs_t tyT_ok ?hb ?_; case hb => first | exact decide_eq_true (by omega) | exact congrArg Bool.not (decide_eq_false (by omega)) | (simp; done) | (simp; omega)) | (refine gs_f tyT_ok ?hb ?_; case hb => first | exact decide_eq_false (by omega) | exact congrArg Bool.not (decide_eq_true (by omega)) | (simp; done) | (simp; omega)))
      exact gw_ret ⟨_, [], [], [], (.tmp .nil), ⟨rfl, rfl, rfl⟩, rfl, rfl, List.nodup_nil⟩
  · rw [decide_eq_false (bOk_no (d := d) (runs := runs) (.inl h2) (.inl h4))]
    repeat (first | refine gs_n tyT_ok 0 ?_ | refine gs_gn tyT_ok 0 rfl ?_ | refine gs_no rfl ?_ | refine gs_l tyT_ok 0 ?_ | refine gs_gl tyT_ok 0 rfl ?_ | (refine gs_l tyT_ok 0 ?_ (hp := ?hp); case hp => exact ⟨rfl, Nat.le_of_ble_eq_true rfl⟩) | (refine gs_gl tyT_ok 0 rfl ?_ (hp := ?hp); case hp => exact ⟨rfl, Nat.le_of_ble_eq_true rfl⟩) | refine gs_end ?_ | refine gs_end' ?_ | refine gw_seq ?_ | refine gw_text rfl ?_ | refine gw_skip ?_ | refine gw_yes rfl ?_ | refine gw_no rfl ?_ | refine gw_exit ?_ | refine gw_block ?_ | refine gw_label ?_ | (refine gs_n tyT_ok 0 ?_ (hp := ?hp); case hp => exact ⟨by decide, by decide⟩) | (refine gs_tg tyT_ok rfl ?hb ?_; case hb => first | exact decide_eq_true (by omega) | exact congrArg Bool.not (decide_eq_false (by omega)) | (simp; done) | (simp; omega)) | (refine gs_fg tyT_ok rfl ?hb ?_; case hb => first | exact decide_eq_false (by omega) | exact congrArg Bool.not (decide_eq_true (by omega)) | (simp; done) | (simp; omega)) | (refine gs_t tyT_ok ?hb ?_; case hb => first | exact decide_eq_true (by omega) | exact congrArg Bool.not (decide_eq_false (by omega)) | (simp; done) | (simp; omega)) | (refine gs_f tyT_ok ?hb ?_; case hb => first | exact decide_eq_false (by omega) | exact congrArg Bool.not (decide_eq_true (by omega)) | (simp; done) | (simp; omega)))
    exact gw_ret ⟨_, [], [], [], (.tmp .nil), ⟨rfl, rfl, rfl⟩, rfl, rfl, List.nodup_nil⟩
set_option maxHeartbeats 1000000 in
theorem bmpHolds_w {k d w h : Int} {a1 a2 : Option Addr} {n1 c1 n2 c2 : Nat} {q1 q2 : Nat × GO} {cs ps : List Int} {runs : Bool} (h1 : LS a1 n1 c1 q1 cs) (h2 : LS a2 n2 c2 q2 ps) (z1 : cs.length ≤ 10000000) (z2 : ps.length ≤ 10000000) :
    Rd Try.prog 55 [img k d w h (.slice a1 n1 c1) (.slice a2 n2 c2), .bool runs] [q1, q2] (.bool (decide (imgOk k d w h cs ps ∧ bOk k d runs))) := by
  obtain rfl := h1.1
  obtain rfl := h2.1
  refine trip_of Try.func55 rfl (by simp [Try.ntmps55]) ?_
  refine gw_seq (gw_text rfl ?_)
  refine gs_box fun b => ?_
  repeat (first | refine gs_n tyT_ok 0 ?_ | refine gs_gn tyT_ok 0 rfl ?_ | refine gs_no rfl ?_ | refine gs_l tyT_ok 2 ?_ | refine gs_gl tyT_ok 2 rfl ?_ | (refine gs_l tyT_ok 2 ?_ (hp := ?hp); case hp => exact ⟨rfl, Nat.le_of_ble_eq_true rfl⟩) | (refine gs_gl tyT_ok 2 rfl ?_ (hp := ?hp); case hp => exact ⟨rfl, Nat.le_of_ble_eq_true rfl⟩) | refine gs_end ?_ | refine gs_end' ?_ | refine gw_seq ?_ | refine gw_text rfl ?_ | refine gw_skip ?_ | refine gw_yes rfl ?_ | refine gw_no rfl ?_ | refine gw_exit ?_ | refine gw_block ?_ | refine gw_label ?_ | (refine gs_n tyT_ok 0 ?_ (hp := ?hp); case hp => exact ⟨by decide, by decide⟩))
  refine gs_rd [0, 1] ent47 rfl (by decide) (imageOk_w h1 h2 (by omega) (by omega)) ?_
  by_cases hok : imgOk k d w h cs ps
  case neg =>
    rw [decide_eq_false hok, decide_eq_false fun h => hok h.1]
    repeat (first | refine gs_n tyT_ok 0 ?_ | refine gs_gn tyT_ok 0 rfl ?_ | refine gs_no rfl ?_ | refine gs_l tyT_ok 2 ?_ | refine gs_gl tyT_ok 2 rfl ?_ | (refine gs_l tyT_ok 2 ?_ (hp := ?hp); case hp => exact ⟨rfl, Nat.le_of_ble_eq_true rfl⟩) | (refine gs_gl tyT_ok 2 rfl ?_ (hp := ?hp); case hp => exact ⟨rfl, Nat.le_of_ble_eq_true rfl⟩) | refine gs_end ?_ | refine gs_end' ?_ | refine gw_seq ?_ | refine gw_text rfl ?_ | refine gw_skip ?_ | refine gw_yes rfl ?_ | refine gw_no rfl ?_ | refine gw_exit ?_ | refine gw_block ?_ | refine gw_label ?_ | (refine gs_n tyT_ok 0 ?_ (hp := ?hp); case hp => exact ⟨by decide, by decide⟩))
    exact gw_ret ⟨_, _, [], [0, 1], .tmp .nil, ⟨rfl, rfl, rfl⟩, rfl, rfl, by decide⟩
  rw [decide_eq_true hok]
  by_cases h2 : k = 2
  · subst h2
    cases runs
    · rw [decide_eq_true (show imgOk 2 d w h cs ps ∧ bOk 2 d false from ⟨hok, .inl ⟨rfl, rfl⟩⟩)]
      repeat (first | refine gs_n tyT_ok 0 ?_ | refine gs_gn tyT_ok 0 rfl ?_ | refine gs_no rfl ?_ | refine gs_l tyT_ok 2 ?_ | refine gs_gl tyT_ok 2 rfl ?_ | (refine gs_l tyT_ok 2 ?_ (hp := ?hp); case hp => exact ⟨rfl, Nat.le_of_ble_eq_true rfl⟩) | (refine gs_gl tyT_ok 2 rfl ?_ (hp := ?hp); case hp => exact ⟨rfl, Nat.le_of_ble_eq_true rfl⟩) | refine gs_end ?_ | refine gs_end' ?_ | refine gw_seq ?_ | refine gw_text rfl ?_ | refine gw_skip ?_ | refine gw_yes rfl ?_ | refine gw_no rfl ?_ | refine gw_exit ?_ | refine gw_block ?_ | refine gw_label ?_ | (refine gs_n tyT_ok 0 ?_ (hp := ?hp); case hp => exact ⟨by decide, by decide⟩) | (refine gs_tg tyT_ok rfl ?hb ?_; case hb => first | exact decide_eq_true (by omega) | exact congrArg Bool.not (decide_eq_false (by omega)) | (simp; done) | (simp; omega)) | (refine gs_fg tyT_ok rfl ?hb ?_; case hb => first | exact decide_eq_false (by omega) | exact congrArg Bool.not (decide_eq_true (by omega)) | (simp; done) | (simp; omega)) | (refine gs_t tyT_ok ?hb ?_; case hb => first | exact decide_eq_true (by omega) | exact congrArg Bool.not (decide_eq_false (by omega)) | (simp; done) | (simp; omega)) | (refine gs_f tyT_ok ?hb ?_; case hb => first | exact decide_eq_false (by omega) | exact congrArg Bool.not (decide_eq_true (by omega)) | (simp; done) | (simp; omega)))
      exact gw_ret ⟨_, _, [], [0, 1], .tmp .nil, ⟨rfl, rfl, rfl⟩, rfl, rfl, by decide⟩
    · rw [decide_eq_false (fun hh => bOk_no (k := 2) (d := d) (runs := true) (.inr rfl) (.inl (by decide)) hh.2)]
      repeat (first | refine gs_n tyT_ok 0 ?_ | refine gs_gn tyT_ok 0 rfl ?_ | refine gs_no rfl ?_ | refine gs_l tyT_ok 2 ?_ | refine gs_gl tyT_ok 2 rfl ?_ | (refine gs_l tyT_ok 2 ?_ (hp := ?hp); case hp => exact ⟨rfl, Nat.le_of_ble_eq_true rfl⟩) | (refine gs_gl tyT_ok 2 rfl ?_ (hp := ?hp); case hp => exact ⟨rfl, Nat.le_of_ble_eq_true rfl⟩) | refine gs_end ?_ | refine gs_end' ?_ | refine gw_seq ?_ | refine gw_text rfl ?_ | refine gw_skip ?_ | refine gw_yes rfl ?_ | refine gw_no rfl ?_ | refine gw_exit ?_ | refine gw_block ?_ | refine gw_label ?_ | (refine gs_n tyT_ok 0 ?_ (hp := ?hp); case hp => exact ⟨by decide, by decide⟩) | (refine gs_tg tyT_ok rfl ?hb ?_; case hb => first | exact decide_eq_true (by omega) | exact congrArg Bool.not (decide_eq_false (by omega)) | (simp; done) | (simp; omega)) | (refine gs_fg tyT_ok rfl ?hb ?_; case hb => first | exact decide_eq_false (by omega) | exact congrArg Bool.not (decide_eq_true (by omega)) | (simp; done) | (simp; omega)) | (refine gs_t tyT_ok ?hb ?_; case hb => first | exact decide_eq_true (by omega) | exact congrArg Bool.not (decide_eq_false (by omega)) | (simp; done) | (simp; omega)) | (refine gs_f tyT_ok ?hb ?_; case hb => first | exact decide_eq_false (by omega) | exact congrArg Bool.not (decide_eq_true (by omega)) | (simp; done) | (simp; omega)))
      exact gw_ret ⟨_, _, [], [0, 1], .tmp .nil, ⟨rfl, rfl, rfl⟩, rfl, rfl, by decide⟩
  by_cases h4 : k = 4
  · subst h4
    by_cases h8 : d = 8
    · rw [decide_eq_true (show imgOk 4 d w h cs ps ∧ bOk 4 d runs from ⟨hok, .inr ⟨rfl, h8⟩⟩)]
      repeat (first | refine gs_n tyT_ok 0 ?_ | refine gs_gn tyT_ok 0 rfl ?_ | refine gs_no rfl ?_ | refine gs_l tyT_ok 2 ?_ | refine gs_gl tyT_ok 2 rfl ?_ | (refine gs_l tyT_ok 2 ?_ (hp := ?hp); case hp => exact ⟨rfl, Nat.le_of_ble_eq_true rfl⟩) | (refine gs_gl tyT_ok 2 rfl ?_ (hp := ?hp); case hp => exact ⟨rfl, Nat.le_of_ble_eq_true rfl⟩) | refine gs_end ?_ | refine gs_end' ?_ | refine gw_seq ?_ | refine gw_text rfl ?_ | refine gw_skip ?_ | refine gw_yes rfl ?_ | refine gw_no rfl ?_ | refine gw_exit ?_ | refine gw_block ?_ | refine gw_label ?_ | (refine gs_n tyT_ok 0 ?_ (hp := ?hp); case hp => exact ⟨by decide, by decide⟩) | (refine gs_tg tyT_ok rfl ?hb ?_; case hb => first | exact decide_eq_true (by omega) | exact congrArg Bool.not (decide_eq_false (by omega)) | (simp; done) | (simp; omega)) | (refine gs_fg tyT_ok rfl ?hb ?_; case hb => first | exact decide_eq_false (by omega) | exact congrArg Bool.not (decide_eq_true (by omega)) | (simp; done) | (simp; omega)) | (refine gs_t tyT_ok ?hb ?_; case hb => first | exact decide_eq_true (by omega) | exact congrArg Bool.not (decide_eq_false (by omega)) | (simp; done) | (simp; omega)) | (refine gs_f tyT_ok ?hb ?_; case hb => first | exact decide_eq_false (by omega) | exact congrArg Bool.not (decide_eq_true (by omega)) | (simp; done) | (simp; omega)))
      exact gw_ret ⟨_, _, [], [0, 1], .tmp .nil, ⟨rfl, rfl, rfl⟩, rfl, rfl, by decide⟩
    · rw [decide_eq_false (fun hh => bOk_no (k := 4) (d := d) (runs := runs) (.inl (by decide)) (.inr h8) hh.2)]
      repeat (first | refine gs_n tyT_ok 0 ?_ | refine gs_gn tyT_ok 0 rfl ?_ | refine gs_no rfl ?_ | refine gs_l tyT_ok 2 ?_ | refine gs_gl tyT_ok 2 rfl ?_ | (refine gs_l tyT_ok 2 ?_ (hp := ?hp); case hp => exact ⟨rfl, Nat.le_of_ble_eq_true rfl⟩) | (refine gs_gl tyT_ok 2 rfl ?_ (hp := ?hp); case hp => exact ⟨rfl, Nat.le_of_ble_eq_true rfl⟩) | refine gs_end ?_ | refine gs_end' ?_ | refine gw_seq ?_ | refine gw_text rfl ?_ | refine gw_skip ?_ | refine gw_yes rfl ?_ | refine gw_no rfl ?_ | refine gw_exit ?_ | refine gw_block ?_ | refine gw_label ?_ | (refine gs_n tyT_ok 0 ?_ (hp := ?hp); case hp => exact ⟨by decide, by decide⟩) | (refine gs_tg tyT_ok rfl ?hb ?_; case hb => first | exact decide_eq_true (by omega) | exact congrArg Bool.not (decide_eq_false (by omega)) | (simp; done) | (simp; omega)) | (refine gs_fg tyT_ok rfl ?hb ?_; case hb => first | exact decide_eq_false (by omega) | exact congrArg Bool.not (decide_eq_true (by omega)) | (simp; done) | (simp; omega)) | (refine gs_t tyT_ok ?hb ?_; case hb => first | exact decide_eq_true (by omega) | exact congrArg Bool.not (decide_eq_false (by omega)) | (simp; done) | (simp; omega)) | (refine gs_f tyT_ok ?hb ?_; case hb => first | exact decide_eq_false (by omega) | exact congrArg Bool.not (decide_eq_true (by omega)) | (simp; done) | (simp; omega)))
      exact gw_ret ⟨_, _, [], [0, 1], .tmp .nil, ⟨rfl, rfl, rfl⟩, rfl, rfl, by decide⟩
  · rw [decide_eq_false (fun hh => bOk_no (d := d) (runs := runs) (.inl h2) (.inl h4) hh.2)]
    repeat (first | refine gs_n tyT_ok 0 ?_ | refine gs_gn tyT_ok 0 rfl ?_ | refine gs_no rfl ?_ | refine gs_l tyT_ok 2 ?_ | refine gs_gl tyT_ok 2 rfl ?_ | (refine gs_l tyT_ok 2 ?_ (hp := ?hp); case hp => exact ⟨rfl, Nat.le_of_ble_eq_true rfl⟩) | (refine gs_gl tyT_ok 2 rfl ?_ (hp := ?hp); case hp => exact ⟨rfl, Nat.le_of_ble_eq_true rfl⟩) | refine gs_end ?_ | refine gs_end' ?_ | refine gw_seq ?_ | refine gw_text rfl ?_ | refine gw_skip ?_ | refine gw_yes rfl ?_ | refine gw_no rfl ?_ | refine gw_exit ?_ | refine gw_block ?_ | refine gw_label ?_ | (refine gs_n tyT_ok 0 ?_ (hp := ?hp); case hp => exact ⟨by decide, by decide⟩) | (refine gs_tg tyT_ok rfl ?hb ?_; case hb => first | exact decide_eq_true (by omega) | exact congrArg Bool.not (decide_eq_false (by omega)) | (simp; done) | (simp; omega)) | (refine gs_fg tyT_ok rfl ?hb ?_; case hb => first | exact decide_eq_false (by omega) | exact congrArg Bool.not (decide_eq_true (by omega)) | (simp; done) | (simp; omega)) | (refine gs_t tyT_ok ?hb ?_; case hb => first | exact decide_eq_true (by omega) | exact congrArg Bool.not (decide_eq_false (by omega)) | (simp; done) | (simp; omega)) | (refine gs_f tyT_ok ?hb ?_; case hb => first | exact decide_eq_false (by omega) | exact congrArg Bool.not (decide_eq_true (by omega)) | (simp; done) | (simp; omega)))
    exact gw_ret ⟨_, _, [], [0, 1], .tmp .nil, ⟨rfl, rfl, rfl⟩, rfl, rfl, by decide⟩
/-- How many bytes a row of a BMP has. -/
def rowB (w d : Nat) : Nat := (w * d / 8 + 3) / 4 * 4
theorem rowBytes_w {w d : Nat} (hw : w ≤ 1000) (hd : d ≤ 64) : Pu Try.prog 59 [.int .i64 w, .int .i64 d] (.int .i64 (rowB w d : Nat)) := by
  have hm : w * d ≤ 1000 * 64 := Nat.mul_le_mul hw hd
  have hc : (w : Int) * (d : Int) = ((w * d : Nat) : Int) := by simp
  have hm0 : 0 ≤ (w : Int) * (d : Int) ∧ (w : Int) * (d : Int) ≤ 64000 := by rw [hc]; omega
  refine trip_of Try.func59 rfl (by simp [Try.ntmps59]) ?_
  repeat (first | refine gs_n tyT_ok 0 ?_ | refine gs_gn tyT_ok 0 rfl ?_ | refine gs_no rfl ?_ | refine gs_end ?_ | refine gs_end' ?_ | refine gw_seq ?_ | refine gw_text rfl ?_ | refine gw_skip ?_ | refine gw_yes rfl ?_ | refine gw_no rfl ?_ | refine gw_exit ?_ | refine gw_block ?_ | refine gw_label ?_ | (refine gs_n tyT_ok 0 ?_ (hp := ?hp); case hp => exact ⟨by decide, by decide⟩))
  refine gw_ret ⟨_, [], [], [], .tmp .nil, ⟨?_, rfl, rfl⟩, rfl, rfl, List.nodup_nil⟩
  show Value.int .i64 (((w : Int) * (d : Int) / 8 + 3) / 4 * 4) = _
  rw [hc, rowB]
  congr 1
set_option maxHeartbeats 1000000 in
theorem l1Many_w {n : Nat} (hn : n ≤ 1000000) : Pu Try.prog 211 [.string (txt [0]), .int .i64 n] (.string (txt (List.replicate n 0))) := by
  refine trip_of Try.func211 rfl (by simp [Try.ntmps211]) ?_
  repeat (first | refine gs_n tyT_ok 0 ?_ | refine gs_gn tyT_ok 0 rfl ?_ | refine gs_no rfl ?_ | refine gs_end ?_ | refine gs_end' ?_ | refine gw_seq ?_ | refine gw_text rfl ?_ | refine gw_skip ?_ | refine gw_yes rfl ?_ | refine gw_no rfl ?_ | refine gw_exit ?_ | refine gw_block ?_ | refine gw_label ?_ | (refine gs_n tyT_ok 0 ?_ (hp := ?hp); case hp => exact ⟨by decide, by decide⟩))
  refine gw_loopL (fun _ (i : Nat) => [(0, .string (txt [0])), (1, .int .i64 n), (5, .string (txt (List.replicate i 0))), (6, .int .i64 i)]) (fun _ _ => []) (fun m i => i + m = n) n 0 (by omega) rfl ⟨rfl, rfl, rfl, rfl, trivial⟩ fun m i e hm => ?_
  repeat (first | refine gs_n tyT_ok 0 ?_ | refine gs_gn tyT_ok 0 rfl ?_ | refine gs_no rfl ?_ | refine gs_end ?_ | refine gs_end' ?_ | refine gw_seq ?_ | refine gw_text rfl ?_ | refine gw_skip ?_ | refine gw_yes rfl ?_ | refine gw_no rfl ?_ | refine gw_exit ?_ | refine gw_block ?_ | refine gw_label ?_ | (refine gs_n tyT_ok 0 ?_ (hp := ?hp); case hp => exact ⟨by decide, by decide⟩))
  by_cases g : i < n
  · (refine gs_t tyT_ok ?hb ?_; case hb => first | exact decide_eq_true (by omega) | exact congrArg Bool.not (decide_eq_false (by omega)) | (simp; done) | (simp; omega))
    refine gs_end ?_
    refine gw_yes rfl ?_
    refine gw_skip ?_
    refine gw_seq (gw_block (gw_text rfl ?_))
    repeat (first | refine gs_n tyT_ok 0 ?_ | refine gs_gn tyT_ok 0 rfl ?_ | refine gs_no rfl ?_)
    refine gs_cat (a := List.replicate i 0) (b := [0]) rfl rfl (by simp; omega) ?_
    rw [← List.replicate_succ']
    repeat (first | refine gs_n tyT_ok 0 ?_ | refine gs_gn tyT_ok 0 rfl ?_ | refine gs_no rfl ?_ | refine gs_end ?_ | refine gs_end' ?_ | refine gw_seq ?_ | refine gw_text rfl ?_ | refine gw_skip ?_ | refine gw_yes rfl ?_ | refine gw_no rfl ?_ | refine gw_exit ?_ | refine gw_block ?_ | refine gw_label ?_ | (refine gs_n tyT_ok 0 ?_ (hp := ?hp); case hp => exact ⟨by decide, by decide⟩))
    exact ⟨m - 1, by omega, i + 1, by omega, rfl, rfl, rfl, rfl, rfl, trivial⟩
  · obtain rfl : i = n := by omega
    (refine gs_f tyT_ok ?hb ?_; case hb => first | exact decide_eq_false (by omega) | exact congrArg Bool.not (decide_eq_true (by omega)) | (simp; done) | (simp; omega))
    repeat (first | refine gs_n tyT_ok 0 ?_ | refine gs_gn tyT_ok 0 rfl ?_ | refine gs_no rfl ?_ | refine gs_end ?_ | refine gs_end' ?_ | refine gw_seq ?_ | refine gw_text rfl ?_ | refine gw_skip ?_ | refine gw_yes rfl ?_ | refine gw_no rfl ?_ | refine gw_exit ?_ | refine gw_block ?_ | refine gw_label ?_ | (refine gs_n tyT_ok 0 ?_ (hp := ?hp); case hp => exact ⟨by decide, by decide⟩))
    exact gw_ret ⟨_, [], [], [], (.tmp .nil), ⟨rfl, rfl, rfl⟩, rfl, rfl, List.nodup_nil⟩
theorem l11Pad_w {n : Nat} (hn : n ≤ 1000000) : Pu Try.prog 193 [.int .i64 n] (.string (txt (List.replicate ((4 - n % 4) % 4) 0))) := by
  refine trip_of Try.func193 rfl (by simp [Try.ntmps193]) ?_
  repeat (first | refine gs_n tyT_ok 0 ?_ | refine gs_gn tyT_ok 0 rfl ?_ | refine gs_no rfl ?_ | refine gs_end ?_ | refine gs_end' ?_ | refine gw_seq ?_ | refine gw_text rfl ?_ | refine gw_skip ?_ | refine gw_yes rfl ?_ | refine gw_no rfl ?_ | refine gw_exit ?_ | refine gw_block ?_ | refine gw_label ?_ | (refine gs_n tyT_ok 0 ?_ (hp := ?hp); case hp => exact ⟨by decide, by decide⟩))
  refine gs_lit tyT_ok (cs := bytesV [0]) rfl rfl rfl (by decide) rfl fun b => ?_
  refine gs_txt 0 (xs := [0]) rfl rfl rfl ?_
  repeat (first | refine gs_n tyT_ok 0 ?_ | refine gs_gn tyT_ok 0 rfl ?_ | refine gs_no rfl ?_ | refine gs_end ?_ | refine gs_end' ?_ | refine gw_seq ?_ | refine gw_text rfl ?_ | refine gw_skip ?_ | refine gw_yes rfl ?_ | refine gw_no rfl ?_ | refine gw_exit ?_ | refine gw_block ?_ | refine gw_label ?_ | (refine gs_n tyT_ok 0 ?_ (hp := ?hp); case hp => exact ⟨by decide, by decide⟩))
  rw [show (4 - (n : Int) % 4) % 4 = (((4 - n % 4) % 4 : Nat) : Int) by omega]
  refine gs_pu ent211 (l1Many_w (by omega)) ?_
  repeat (first | refine gs_n tyT_ok 0 ?_ | refine gs_gn tyT_ok 0 rfl ?_ | refine gs_no rfl ?_ | refine gs_end ?_ | refine gs_end' ?_ | refine gw_seq ?_ | refine gw_text rfl ?_ | refine gw_skip ?_ | refine gw_yes rfl ?_ | refine gw_no rfl ?_ | refine gw_exit ?_ | refine gw_block ?_ | refine gw_label ?_ | (refine gs_n tyT_ok 0 ?_ (hp := ?hp); case hp => exact ⟨by decide, by decide⟩))
  exact gw_ret ⟨_, [], [], [], .tmp .nil, ⟨rfl, rfl, rfl⟩, rfl, rfl, List.nodup_nil⟩
/-- One row of a picture's points: a view of them. -/
theorem rowOf_w {k d h : Int} {W y : Nat} {a1 : Option Addr} {n1 c1 b o c2 : Nat} {ps : List Int} {q : Nat × GO} (hc : ps.length ≤ c2) (hW : 1 ≤ W ∧ W ≤ 1000) (hy : (y + 1) * W ≤ ps.length) (hl : ps.length ≤ 10000000) :
    Pu Try.prog 56 [img k d W h (.slice a1 n1 c1) (.slice (some ⟨b, o, none⟩) ps.length c2), .int .i64 y] (.slice (some ⟨b, o + y * W * 1, none⟩) W (c2 - y * W)) := by
  have e1 : (y + 1) * W = y * W + W := Nat.succ_mul y W
  have hc1 : (y : Int) * (W : Int) = ((y * W : Nat) : Int) := by simp
  have hc2' : ((y : Int) + 1) * (W : Int) = ((y * W + W : Nat) : Int) := by rw [← e1]; simp
  have b1 : 0 ≤ (y : Int) * (W : Int) ∧ (y : Int) * (W : Int) ≤ 10000000 := by rw [hc1]; omega
  have b2 : 0 ≤ ((y : Int) + 1) * (W : Int) ∧ ((y : Int) + 1) * (W : Int) ≤ 10000000 := by rw [hc2']; omega
  have b3 : (y : Int) ≤ 10000000 := by
    have := Nat.mul_le_mul_left y hW.1
    omega
  refine trip_of Try.func56 rfl (by simp [Try.ntmps56]) ?_
  refine gw_seq (gw_text rfl ?_)
  refine gs_box fun b3 => ?_
  repeat (first | refine gs_n tyT_ok 0 ?_ | refine gs_gn tyT_ok 0 rfl ?_ | refine gs_no rfl ?_ | refine gs_l tyT_ok 0 ?_ | refine gs_gl tyT_ok 0 rfl ?_ | (refine gs_l tyT_ok 0 ?_ (hp := ?hp); case hp => exact ⟨rfl, Nat.le_of_ble_eq_true rfl⟩) | (refine gs_gl tyT_ok 0 rfl ?_ (hp := ?hp); case hp => exact ⟨rfl, Nat.le_of_ble_eq_true rfl⟩) | refine gs_end ?_ | refine gs_end' ?_ | refine gw_seq ?_ | refine gw_text rfl ?_ | refine gw_skip ?_ | refine gw_yes rfl ?_ | refine gw_no rfl ?_ | refine gw_exit ?_ | refine gw_block ?_ | refine gw_label ?_ | (refine gs_n tyT_ok 0 ?_ (hp := ?hp); case hp => exact ⟨by decide, by decide⟩))
  rw [hc1, hc2']
  repeat (first | refine gs_n tyT_ok 0 ?_ | refine gs_gn tyT_ok 0 rfl ?_ | refine gs_no rfl ?_ | refine gs_l tyT_ok 0 ?_ | refine gs_gl tyT_ok 0 rfl ?_ | (refine gs_l tyT_ok 0 ?_ (hp := ?hp); case hp => exact ⟨rfl, Nat.le_of_ble_eq_true rfl⟩) | (refine gs_gl tyT_ok 0 rfl ?_ (hp := ?hp); case hp => exact ⟨rfl, Nat.le_of_ble_eq_true rfl⟩) | refine gs_end ?_ | refine gs_end' ?_ | refine gw_seq ?_ | refine gw_text rfl ?_ | refine gw_skip ?_ | refine gw_yes rfl ?_ | refine gw_no rfl ?_ | refine gw_exit ?_ | refine gw_block ?_ | refine gw_label ?_ | (refine gs_n tyT_ok 0 ?_ (hp := ?hp); case hp => exact ⟨by decide, by decide⟩))
  refine gw_ret ⟨_, [], [], [], .tmp .nil, ⟨?_, rfl, rfl⟩, rfl, rfl, List.nodup_nil⟩
  show Value.slice (some ⟨b, o + y * W * 1, none⟩) (y * W + W - y * W) (c2 - y * W) = _
  rw [Nat.add_sub_cancel_left]
/-- Slices that are owned: their values. -/
def OV (v : Value) (p : Nat × GO) (vs : List Value) : Prop := OwnE 22 1 v p vs
theorem OV.nil {b : Nat} : OV (.slice none 0 0) (b, .none) [] := .inl ⟨rfl, rfl, rfl⟩
theorem OV.empty {b m : Nat} : OV (.slice (some ⟨b, 0, none⟩) 0 0) (b, .row 22 [] m) [] := .inr ⟨b, 0, 0, m, rfl, rfl, rfl, Nat.le_refl _, by omega⟩
theorem OV.sl {v : Value} {p : Nat × GO} {vs : List Value} (h : OV v p vs) : ∃ a c, v = .slice a vs.length c := by
  rcases h with ⟨rfl, hp, rfl⟩ | ⟨b, len, cap, n, rfl, rfl, hl, hlc, hcn⟩
  · exact ⟨_, _, rfl⟩
  · have : len = vs.length := by simpa using hl.symm
    subst this
    exact ⟨_, _, rfl⟩
theorem OV.at {a : Option Addr} {n c : Nat} {p : Nat × GO} {vs : List Value} (h : OV (.slice a n c) p vs) {k : Nat} (hk : k < vs.length) : n = vs.length ∧ ∃ u, vs[k]? = some u ∧ a = some ⟨p.1, 0, none⟩ ∧ (cellsG p.2)[0 + k * 1]? = some u := by
  rcases h with ⟨_, _, rfl⟩ | ⟨b, len, cap, n', h, rfl, hl, hlc, hcn⟩
  · simp at hk
  · cases h
    have : n = vs.length := by simpa using hl.symm
    refine ⟨this, vs[k], List.getElem?_eq_getElem hk, rfl, ?_⟩
    rw [Nat.zero_add, Nat.mul_one]
    exact List.getElem?_eq_getElem hk
section
variable {ops os : List Oper} {H : Option (List Hint)} {K : Env → GL → Prop} {e : Env} {l : GL} {d1 d2 : Nat} {T T2 : TypeId} {pos pos2 : String} {af af2 : Array Edge}
/-- append(y, x) of one slice. -/
theorem gs_pushv (j : Nat) {x y : Operand} {xa : Option Addr} {xn xc : Nat} {u : Value} {p : Nat × GO} {v : Value} {vs : List Value} (hu : u = .slice xa xn xc) (hx : gev e x = u) (hl : l[j]? = some p) (hv : OV v p vs) (hy : ∀ u, gev (upd e d1 u) y = v) (hz : vs.length ≤ 1000000)
    (k : ∀ b a c p2, OV (.slice a (vs.length + 1) c) p2 (vs ++ [u]) → gseq Try.prog ops os (tl? (tl? H)) K (upd (upd e d1 (.slice (some ⟨b, 0, none⟩) 1 1)) d2 (.slice a (vs.length + 1) c)) ((l ++ [(b, GO.row 22 [u] 1)]).set j p2)) (hh : hE [] H := by trivial) (hh2 : hE [j, l.length] (tl? H) := by trivial) :
    gseq Try.prog ops (⟨some d1, .buildSlice 61 1 #[(0, x)], T, pos, af, none⟩ :: ⟨some d2, .call { callee := .builtin .append, args := #[y, .tmp d1], argTypes := #[61, 61] }, T2, pos2, af2, none⟩ :: os) H K e l := by
  refine gs_lit tyT_ok (cs := [u]) rfl rfl rfl (by decide) ?_ (fun b => ?_) hh
  · show fillL _ _ [(0, gev e x)] = _
    rw [hx]
    subst hu
    rfl
  have hj := (List.getElem?_eq_some_iff.1 hl).1
  refine gs_append tyT_ok j l.length (p := p) (q := (b, GO.row 22 [u] 1)) (cs := vs) (nw := [u]) ?_ ?_ (by omega) rfl rfl rfl ?_ ?_ (by subst hu; rfl) ?_ (by decide) (by decide) (fun v2 p2 hv2 => ?_) hh2
  · rw [List.getElem?_append_left hj, hl]
  · simp
  · rw [hy]
    exact hv
  · refine .inr ⟨b, 0, 1, 1, ?_, rfl, Nat.le_of_ble_eq_true rfl, rfl⟩
    show upd e d1 _ d1 = _
    simp [upd]
  · show (vs.length + 1) * 24 ≤ 140737488355328 * 1
    omega
  · have hv3 : OV v2 p2 (vs ++ [u]) := hv2
    obtain ⟨a, c, he⟩ := hv3.sl
    subst he
    rw [List.length_append] at hv3 ⊢
    exact k b a c p2 hv3
end
end Go.Proofs.Ytjefdcbljpkmlaa.G
