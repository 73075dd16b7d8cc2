/- What the law FnRep needs, out of the texts Ba. -/
import Derived.Test.YtjefdcbljpkmlaaKFnRep24
import Derived.Test.YtjefdcbljpkmlaaKFnRep29
section
set_option linter.unusedVariables false
set_option maxRecDepth 10000
namespace Go.Proofs.Ytjefdcbljpkmlaa.G
open Go
/-- What a BMP can hold. -/
def bOk (k d : Int) (runs : Bool) : Prop := k = 2 ∧ runs = false ∨ k = 4 ∧ d = 8
instance (k d : Int) (runs : Bool) : Decidable (bOk k d runs) := by unfold bOk; infer_instance
theorem bOk_no {k d : Int} {runs : Bool} (h2 : k ≠ 2 ∨ runs = true) (h4 : k ≠ 4 ∨ d ≠ 8) : ¬ bOk k d runs := by
  rintro (⟨h, h'⟩ | ⟨h, h'⟩)
  · rcases h2 with h2 | h2
    · exact h2 h
    · rw [h2] at h'; cases h'
  · rcases h4 with h4 | h4
    · exact h4 h
    · exact h4 h'
set_option maxHeartbeats 1000000 in
theorem l11Rep_w {k d w h : Int} {a1 a2 : Option Addr} {n1 c1 n2 c2 : Nat} {runs : Bool} : Pu Try.prog 52 [img k d w h (.slice a1 n1 c1) (.slice a2 n2 c2), .bool runs] (.bool (decide (bOk k d runs))) := by
  refine trip_of Try.func52 rfl (by simp [Try.ntmps52]) ?_
  refine gw_seq (gw_text rfl ?_)
  refine gs_box fun b => ?_
  by_cases h2 : k = 2
  · subst h2
    cases runs
    · rw [decide_eq_true (show bOk 2 d false from .inl ⟨rfl, rfl⟩)]
      repeat (first | refine gs_n tyT_ok 0 ?_ | refine gs_gn tyT_ok 0 rfl ?_ | refine gs_no rfl ?_ | refine gs_l tyT_ok 0 ?_ | refine gs_gl tyT_ok 0 rfl ?_ | (refine gs_l tyT_ok 0 ?_ (hp := ?hp); case hp => exact ⟨rfl, Nat.le_of_ble_eq_true rfl⟩) | (refine gs_gl tyT_ok 0 rfl ?_ (hp := ?hp); case hp => exact ⟨rfl, Nat.le_of_ble_eq_true rfl⟩) | refine gs_end ?_ | refine gs_end' ?_ | refine gw_seq ?_ | refine gw_text rfl ?_ | refine gw_skip ?_ | refine gw_yes rfl ?_ | refine gw_no rfl ?_ | refine gw_exit ?_ | refine gw_block ?_ | refine gw_label ?_ | (refine gs_n tyT_ok 0 ?_ (hp := ?hp); case hp => exact ⟨by decide, by decide⟩) | (refine gs_tg tyT_ok rfl ?hb ?_; case hb => first | exact decide_eq_true (by omega) | exact congrArg Bool.not (decide_eq_false (by omega)) | (simp; done) | (simp; omega)) | (refine gs_fg tyT_ok rfl ?hb ?_; case hb => first | exact decide_eq_false (by omega) | exact congrArg Bool.not (decide_eq_true (by omega)) | (simp; done) | (simp; omega)) | (refine gs_t tyT_ok ?hb ?_; case hb => first | exact decide_eq_true (by omega) | exact congrArg Bool.not (decide_eq_false (by omega)) | (simp; done) | (simp; omega)) | (refine gs_f tyT_ok ?hb ?_; case hb => first | exact decide_eq_false (by omega) | exact congrArg Bool.not (decide_eq_true (by omega)) | (simp; done) | (simp; omega)))
      exact gw_ret ⟨_, [], [], [], (.tmp .nil), ⟨rfl, rfl, rfl⟩, rfl, rfl, List.nodup_nil⟩
    · rw [decide_eq_false (bOk_no (k := 2) (d := d) (runs := true) (.inr rfl) (.inl (by decide)))]
      repeat (first | refine gs_n tyT_ok 0 ?_ | refine gs_gn tyT_ok 0 rfl ?_ | refine gs_no rfl ?_ | refine gs_l tyT_ok 0 ?_ | refine gs_gl tyT_ok 0 rfl ?_ | (refine gs_l tyT_ok 0 ?_ (hp := ?hp); case hp => exact ⟨rfl, Nat.le_of_ble_eq_true rfl⟩) | (refine gs_gl tyT_ok 0 rfl ?_ (hp := ?hp); case hp => exact ⟨rfl, Nat.le_of_ble_eq_true rfl⟩) | refine gs_end ?_ | refine gs_end' ?_ | refine gw_seq ?_ | refine gw_text rfl ?_ | refine gw_skip ?_ | refine gw_yes rfl ?_ | refine gw_no rfl ?_ | refine gw_exit ?_ | refine gw_block ?_ | refine gw_label ?_ | (refine gs_n tyT_ok 0 ?_ (hp := ?hp); case hp => exact ⟨by decide, by decide⟩) | (refine gs_tg tyT_ok rfl ?hb ?_; case hb => first | exact decide_eq_true (by omega) | exact congrArg Bool.not (decide_eq_false (by omega)) | (simp; done) | (simp; omega)) | (refine gs_fg tyT_ok rfl ?hb ?_; case hb => first | exact decide_eq_false (by omega) | exact congrArg Bool.not (decide_eq_true (by omega)) | (simp; done) | (simp; omega)) | (refine gs_t tyT_ok ?hb ?_; case hb => first | exact decide_eq_true (by omega) | exact congrArg Bool.not (decide_eq_false (by omega)) | (simp; done) | (simp; omega)) | (refine gs_f tyT_ok ?hb ?_; case hb => first | exact decide_eq_false (by omega) | exact congrArg Bool.not (decide_eq_true (by omega)) | (simp; done) | (simp; omega)))
      exact gw_ret ⟨_, [], [], [], (.tmp .nil), ⟨rfl, rfl, rfl⟩, rfl, rfl, List.nodup_nil⟩
  by_cases h4 : k = 4
  · subst h4
    by_cases h8 : d = 8
    · rw [decide_eq_true (show bOk 4 d runs from .inr ⟨rfl, h8⟩)]
      repeat (first | refine gs_n tyT_ok 0 ?_ | refine gs_gn tyT_ok 0 rfl ?_ | refine gs_no rfl ?_ | refine gs_l tyT_ok 0 ?_ | refine gs_gl tyT_ok 0 rfl ?_ | (refine gs_l tyT_ok 0 ?_ (hp := ?hp); case hp => exact ⟨rfl, Nat.le_of_ble_eq_true rfl⟩) | (refine gs_gl tyT_ok 0 rfl ?_ (hp := ?hp); case hp => exact ⟨rfl, Nat.le_of_ble_eq_true rfl⟩) | refine gs_end ?_ | refine gs_end' ?_ | refine gw_seq ?_ | refine gw_text rfl ?_ | refine gw_skip ?_ | refine gw_yes rfl ?_ | refine gw_no rfl ?_ | refine gw_exit ?_ | refine gw_block ?_ | refine gw_label ?_ | (refine gs_n tyT_ok 0 ?_ (hp := ?hp); case hp => exact ⟨by decide, by decide⟩) | (refine gs_tg tyT_ok rfl ?hb ?_; case hb => first | exact decide_eq_true (by omega) | exact congrArg Bool.not (decide_eq_false (by omega)) | (simp; done) | (simp; omega)) | (refine gs_fg tyT_ok rfl ?hb ?_; case hb => first | exact decide_eq_false (by omega) | exact congrArg Bool.not (decide_eq_true (by omega)) | (simp; done) | (simp; omega)) | (refine gs_t tyT_ok ?hb ?_; case hb => first | exact decide_eq_true (by omega) | exact congrArg Bool.not (decide_eq_false (by omega)) | (simp; done) | (simp; omega)) | (refine gs_f tyT_ok ?hb ?_; case hb => first | exact decide_eq_false (by omega) | exact congrArg Bool.not (decide_eq_true (by omega)) | (simp; done) | (simp; omega)))
      exact gw_ret ⟨_, [], [], [], (.tmp .nil), ⟨rfl, rfl, rfl⟩, rfl, rfl, List.nodup_nil⟩
    · rw [decide_eq_false (bOk_no (k := 4) (d := d) (runs := runs) (.inl (by decide)) (.inr h8))]
      repeat (first | refine gs_n tyT_ok 0 ?_ | refine gs_gn tyT_ok 0 rfl ?_ | refine gs_no rfl ?_ | refine gs_l tyT_ok 0 ?_ | refine gs_gl tyT_ok 0 rfl ?_ | (refine gs_l tyT_ok 0 ?_ (hp := ?hp); case hp => exact ⟨rfl, Nat.le_of_ble_eq_true rfl⟩) | (refine gs_gl tyT_ok 0 rfl ?_ (hp := ?hp); case hp => exact ⟨rfl, Nat.le_of_ble_eq_true rfl⟩) | refine gs_end ?_ | refine gs_end' ?_ | refine gw_seq ?_ | refine gw_text rfl ?_ | refine gw_skip ?_ | refine gw_yes rfl ?_ | refine gw_no rfl ?_ | refine gw_exit ?_ | refine gw_block ?_ | refine gw_label ?_ | (refine gs_n tyT_ok 0 ?_ (hp := ?hp); case hp => exact ⟨by decide, by decide⟩) | (refine gs_tg tyT_ok rfl ?hb ?_; case hb => first | exact decide_eq_true (by omega) | exact congrArg Bool.not (decide_eq_false (by omega)) | (simp; done) | (simp; omega)) | (refine gs_fg tyT_ok rfl ?hb ?_; case hb => first | exact decide_eq_false (by omega) | exact congrArg Bool.not (decide_eq_true (by omega)) | (simp; done) | (simp; omega)) | (refine gs_t tyT_ok ?hb ?_; case hb => first | exact decide_eq_true (by omega) | exact congrArg Bool.not (decide_eq_false (by omega)) | (simp; done) | (simp; omega)) | (refine gs_f tyT_ok ?hb ?_; case hb => first | exact decide_eq_false (by omega) | exact congrArg Bool.not (decide_eq_true (by omega)) | (simp; done) | (simp; omega)))
      exact gw_ret ⟨_, [], [], [], (.tmp .nil), ⟨rfl, rfl, rfl⟩, rfl, rfl, List.nodup_nil⟩
  · rw [decide_eq_false (bOk_no (d := d) (runs := runs) (.inl h2) (.inl h4))]
    repeat (first | refine gs_n tyT_ok 0 ?_ | refine gs_gn tyT_ok 0 rfl ?_ | refine gs_no rfl ?_ | refine gs_l tyT_ok 0 ?_ | refine gs_gl tyT_ok 0 rfl ?_ | (refine gs_l tyT_ok 0 ?_ (hp := ?hp); case hp => exact ⟨rfl, Nat.le_of_ble_eq_true rfl⟩) | (refine gs_gl tyT_ok 0 rfl ?_ (hp := ?hp); case hp => exact ⟨rfl, Nat.le_of_ble_eq_true rfl⟩) | refine gs_end ?_ | refine gs_end' ?_ | refine gw_seq ?_ | refine gw_text rfl ?_ | refine gw_skip ?_ | refine gw_yes rfl ?_ | refine gw_no rfl ?_ | refine gw_exit ?_ | refine gw_block ?_ | refine gw_label ?_ | (refine gs_n tyT_ok 0 ?_ (hp := ?hp); case hp => exact ⟨by decide, by decide⟩) | (refine gs_tg tyT_ok rfl ?hb ?_; case hb => first | exact decide_eq_true (by omega) | exact congrArg Bool.not (decide_eq_false (by omega)) | (simp; done) | (simp; omega)) | (refine gs_fg tyT_ok rfl ?hb ?_; case hb => first | exact decide_eq_false (by omega) | exact congrArg Bool.not (decide_eq_true (by omega)) | (simp; done) | (simp; omega)) | (refine gs_t tyT_ok ?hb ?_; case hb => first | exact decide_eq_true (by omega) | exact congrArg Bool.not (decide_eq_false (by omega)) | (simp; done) | (simp; omega)) | (refine gs_f tyT_ok ?hb ?_; case hb => first | exact decide_eq_false (by omega) | exact congrArg Bool.not (decide_eq_true (by omega)) | (simp; done) | (simp; omega)))
    exact gw_ret ⟨_, [], [], [], (.tmp .nil), ⟨rfl, rfl, rfl⟩, rfl, rfl, List.nodup_nil⟩
set_option maxHeartbeats 1000000 in
theorem bmpHolds_w {k d w h : Int} {a1 a2 : Option Addr} {n1 c1 n2 c2 : Nat} {q1 q2 : Nat × GO} {cs ps : List Int} {runs : Bool} (h1 : LS a1 n1 c1 q1 cs) (h2 : LS a2 n2 c2 q2 ps) (z1 : cs.length ≤ 10000000) (z2 : ps.length ≤ 10000000) :
    Rd Try.prog 55 [img k d w h (.slice a1 n1 c1) (.slice a2 n2 c2), .bool runs] [q1, q2] (.bool (decide (imgOk k d w h cs ps ∧ bOk k d runs))) := by
  obtain rfl := h1.1
  obtain rfl := h2.1
  refine trip_of Try.func55 rfl (by simp [Try.ntmps55]) ?_
  refine gw_seq (gw_text rfl ?_)
  refine gs_box fun b => ?_
  repeat (first | refine gs_n tyT_ok 0 ?_ | refine gs_gn tyT_ok 0 rfl ?_ | refine gs_no rfl ?_ | refine gs_l tyT_ok 2 ?_ | refine gs_gl tyT_ok 2 rfl ?_ | (refine gs_l tyT_ok 2 ?_ (hp := ?hp); case hp => exact ⟨rfl, Nat.le_of_ble_eq_true rfl⟩) | (refine gs_gl tyT_ok 2 rfl ?_ (hp := ?hp); case hp => exact ⟨rfl, Nat.le_of_ble_eq_true rfl⟩) | refine gs_end ?_ | refine gs_end' ?_ | refine gw_seq ?_ | refine gw_text rfl ?_ | refine gw_skip ?_ | refine gw_yes rfl ?_ | refine gw_no rfl ?_ | refine gw_exit ?_ | refine gw_block ?_ | refine gw_label ?_ | (refine gs_n tyT_ok 0 ?_ (hp := ?hp); case hp => exact ⟨by decide, by decide⟩))
  refine gs_rd [0, 1] ent47 rfl (by decide) (imageOk_w h1 h2 (by omega) (by omega)) ?_
  by_cases hok : imgOk k d w h cs ps
  case neg =>
    rw [decide_eq_false hok, decide_eq_false fun h => hok h.1]
    repeat (first | refine gs_n tyT_ok 0 ?_ | refine gs_gn tyT_ok 0 rfl ?_ | refine gs_no rfl ?_ | refine gs_l tyT_ok 2 ?_ | refine gs_gl tyT_ok 2 rfl ?_ | (refine gs_l tyT_ok 2 ?_ (hp := ?hp); case hp => exact ⟨rfl, Nat.le_of_ble_eq_true rfl⟩) | (refine gs_gl tyT_ok 2 rfl ?_ (hp := ?hp); case hp => exact ⟨rfl, Nat.le_of_ble_eq_true rfl⟩) | refine gs_end ?_ | refine gs_end' ?_ | refine gw_seq ?_ | refine gw_text rfl ?_ | refine gw_skip ?_ | refine gw_yes rfl ?_ | refine gw_no rfl ?_ | refine gw_exit ?_ | refine gw_block ?_ | refine gw_label ?_ | (refine gs_n tyT_ok 0 ?_ (hp := ?hp); case hp => exact ⟨by decide, by decide⟩))
    exact gw_ret ⟨_, _, [], [0, 1], .tmp .nil, ⟨rfl, rfl, rfl⟩, rfl, rfl, by decide⟩
  rw [decide_eq_true hok]
  by_cases h2 : k = 2
  · subst h2
    cases runs
    · rw [decide_eq_true (show imgOk 2 d w h cs ps ∧ bOk 2 d false from ⟨hok, .inl ⟨rfl, rfl⟩⟩)]
      repeat (first | refine gs_n tyT_ok 0 ?_ | refine gs_gn tyT_ok 0 rfl ?_ | refine gs_no rfl ?_ | refine gs_l tyT_ok 2 ?_ | refine gs_gl tyT_ok 2 rfl ?_ | (refine gs_l tyT_ok 2 ?_ (hp := ?hp); case hp => exact ⟨rfl, Nat.le_of_ble_eq_true rfl⟩) | (refine gs_gl tyT_ok 2 rfl ?_ (hp := ?hp); case hp => exact ⟨rfl, Nat.le_of_ble_eq_true rfl⟩) | refine gs_end ?_ | refine gs_end' ?_ | refine gw_seq ?_ | refine gw_text rfl ?_ | refine gw_skip ?_ | refine gw_yes rfl ?_ | refine gw_no rfl ?_ | refine gw_exit ?_ | refine gw_block ?_ | refine gw_label ?_ | (refine gs_n tyT_ok 0 ?_ (hp := ?hp); case hp => exact ⟨by decide, by decide⟩) | (refine gs_tg tyT_ok rfl ?hb ?_; case hb => first | exact decide_eq_true (by omega) | exact congrArg Bool.not (decide_eq_false (by omega)) | (simp; done) | (simp; omega)) | (refine gs_fg tyT_ok rfl ?hb ?_; case hb => first | exact decide_eq_false (by omega) | exact congrArg Bool.not (decide_eq_true (by omega)) | (simp; done) | (simp; omega)) | (refine gs_t tyT_ok ?hb ?_; case hb => first | exact decide_eq_true (by omega) | exact congrArg Bool.not (decide_eq_false (by omega)) | (simp; done) | (simp; omega)) | (refine gs_f tyT_ok ?hb ?_; case hb => first | exact decide_eq_false (by omega) | exact congrArg Bool.not (decide_eq_true (by omega)) | (simp; done) | (simp; omega)))
      exact gw_ret ⟨_, _, [], [0, 1], .tmp .nil, ⟨rfl, rfl, rfl⟩, rfl, rfl, by decide⟩
    · rw [decide_eq_false (fun hh => bOk_no (k := 2) (d := d) (runs := true) (.inr rfl) (.inl (by decide)) hh.2)]
      repeat (first | refine gs_n tyT_ok 0 ?_ | refine gs_gn tyT_ok 0 rfl ?_ | refine gs_no rfl ?_ | refine gs_l tyT_ok 2 ?_ | refine gs_gl tyT_ok 2 rfl ?_ | (refine gs_l tyT_ok 2 ?_ (hp := ?hp); case hp => exact ⟨rfl, Nat.le_of_ble_eq_true rfl⟩) | (refine gs_gl tyT_ok 2 rfl ?_ (hp := ?hp); case hp => exact ⟨rfl, Nat.le_of_ble_eq_true rfl⟩) | refine gs_end ?_ | refine gs_end' ?_ | refine gw_seq ?_ | refine gw_text rfl ?_ | refine gw_skip ?_ | refine gw_yes rfl ?_ | refine gw_no rfl ?_ | refine gw_exit ?_ | refine gw_block ?_ | refine gw_label ?_ | (refine gs_n tyT_ok 0 ?_ (hp := ?hp); case hp => exact ⟨by decide, by decide⟩) | (refine gs_tg tyT_ok rfl ?hb ?_; case hb => first | exact decide_eq_true (by omega) | exact congrArg Bool.not (decide_eq_false (by omega)) | (simp; done) | (simp; omega)) | (refine gs_fg tyT_ok rfl ?hb ?_; case hb => first | exact decide_eq_false (by omega) | exact congrArg Bool.not (decide_eq_true (by omega)) | (simp; done) | (simp; omega)) | (refine gs_t tyT_ok ?hb ?_; case hb => first | exact decide_eq_true (by omega) | exact congrArg Bool.not (decide_eq_false (by omega)) | (simp; done) | (simp; omega)) | (refine gs_f tyT_ok ?hb ?_; case hb => first | exact decide_eq_false (by omega) | exact congrArg Bool.not (decide_eq_true (by omega)) | (simp; done) | (simp; omega)))
      exact gw_ret ⟨_, _, [], [0, 1], .tmp .nil, ⟨rfl, rfl, rfl⟩, rfl, rfl, by decide⟩
  by_cases h4 : k = 4
  · subst h4
    by_cases h8 : d = 8
    · rw [decide_eq_true (show imgOk 4 d w h cs ps ∧ bOk 4 d runs from ⟨hok, .inr ⟨rfl, h8⟩⟩)]
      repeat (first | refine gs_n tyT_ok 0 ?_ | refine gs_gn tyT_ok 0 rfl ?_ | refine gs_no rfl ?_ | refine gs_l tyT_ok 2 ?_ | refine gs_gl tyT_ok 2 rfl ?_ | (refine gs_l tyT_ok 2 ?_ (hp := ?hp); case hp => exact ⟨rfl, Nat.le_of_ble_eq_true rfl⟩) | (refine gs_gl tyT_ok 2 rfl ?_ (hp := ?hp); case hp => exact ⟨rfl, Nat.le_of_ble_eq_true rfl⟩) | refine gs_end ?_ | refine gs_end' ?_ | refine gw_seq ?_ | refine gw_text rfl ?_ | refine gw_skip ?_ | refine gw_yes rfl ?_ | refine gw_no rfl ?_ | refine gw_exit ?_ | refine gw_block ?_ | refine gw_label ?_ | (refine gs_n tyT_ok 0 ?_ (hp := ?hp); case hp => exact ⟨by decide, by decide⟩) | (refine gs_tg tyT_ok rfl ?hb ?_; case hb => first | exact decide_eq_true (by omega) | exact congrArg Bool.not (decide_eq_false (by omega)) | (simp; done) | (simp; omega)) | (refine gs_fg tyT_ok rfl ?hb ?_; case hb => first | exact decide_eq_false (by omega) | exact congrArg Bool.not (decide_eq_true (by omega)) | (simp; done) | (simp; omega)) | (refine gs_t tyT_ok ?hb ?_; case hb => first | exact decide_eq_true (by omega) | exact congrArg Bool.not (decide_eq_false (by omega)) | (simp; done) | (simp; omega)) | (refine gs_f tyT_ok ?hb ?_; case hb => first | exact decide_eq_false (by omega) | exact congrArg Bool.not (decide_eq_true (by omega)) | (simp; done) | (simp; omega)))
      exact gw_ret ⟨_, _, [], [0, 1], .tmp .nil, ⟨rfl, rfl, rfl⟩, rfl, rfl, by decide⟩
    · rw [decide_eq_false (fun hh => bOk_no (k := 4) (d := d) (runs := runs) (.inl (by decide)) (.inr h8) hh.2)]
      repeat (first | refine gs_n tyT_ok 0 ?_ | refine gs_gn tyT_ok 0 rfl ?_ | refine gs_no rfl ?_ | refine gs_l tyT_ok 2 ?_ | refine gs_gl tyT_ok 2 rfl ?_ | (refine gs_l tyT_ok 2 ?_ (hp := ?hp); case hp => exact ⟨rfl, Nat.le_of_ble_eq_true rfl⟩) | (refine gs_gl tyT_ok 2 rfl ?_ (hp := ?hp); case hp => exact ⟨rfl, Nat.le_of_ble_eq_true rfl⟩) | refine gs_end ?_ | refine gs_end' ?_ | refine gw_seq ?_ | refine gw_text rfl ?_ | refine gw_skip ?_ | refine gw_yes rfl ?_ | refine gw_no rfl ?_ | refine gw_exit ?_ | refine gw_block ?_ | refine gw_label ?_ | (refine gs_n tyT_ok 0 ?_ (hp := ?hp); case hp => exact ⟨by decide, by decide⟩) | (refine gs_tg tyT_ok rfl ?hb ?_; case hb => first | exact decide_eq_true (by omega) | exact congrArg Bool.not (decide_eq_false (by omega)) | (simp; done) | (simp; omega)) | (refine gs_fg tyT_ok rfl ?hb ?_; case hb => first | exact decide_eq_false (by omega) | exact congrArg Bool.not (decide_eq_true (by omega)) | (simp; done) | (simp; omega)) | (refine gs_t tyT_ok ?hb ?_; case hb => first | exact decide_eq_true (by omega) | exact congrArg Bool.not (decide_eq_false (by omega)) | (simp; done) | (simp; omega)) | (refine gs_f tyT_ok ?hb ?_; case hb => first | exact decide_eq_false (by omega) | exact congrArg Bool.not (decide_eq_true (by omega)) | (simp; done) | (simp; omega)))
      exact gw_ret ⟨_, _, [], [0, 1], .tmp .nil, ⟨rfl, rfl, rfl⟩, rfl, rfl, by decide⟩
  · rw [decide_eq_false (fun hh => bOk_no (d := d) (runs := runs) (.inl h2) (.inl h4) hh.2)]
    repeat (first | refine gs_n tyT_ok 0 ?_ | refine gs_gn tyT_ok 0 rfl ?_ | refine gs_no rfl ?_ | refine gs_l tyT_ok 2 ?_ | refine gs_gl tyT_ok 2 rfl ?_ | (refine gs_l tyT_ok 2 ?_ (hp := ?hp); case hp => exact ⟨rfl, Nat.le_of_ble_eq_true rfl⟩) | (refine gs_gl tyT_ok 2 rfl ?_ (hp := ?hp); case hp => exact ⟨rfl, Nat.le_of_ble_eq_true rfl⟩) | refine gs_end ?_ | refine gs_end' ?_ | refine gw_seq ?_ | refine gw_text rfl ?_ | refine gw_skip ?_ | refine gw_yes rfl ?_ | refine gw_no rfl ?_ | refine gw_exit ?_ | refine gw_block ?_ | refine gw_label ?_ | (refine gs_n tyT_ok 0 ?_ (hp := ?hp); case hp => exact ⟨by decide, by decide⟩) | (refine gs_tg tyT_ok rfl ?hb ?_; case hb => first | exact decide_eq_true (by omega) | exact congrArg Bool.not (decide_eq_false (by omega)) | (simp; done) | (simp; omega)) | (refine gs_fg tyT_ok rfl ?hb ?_; case hb => first | exact decide_eq_false (by omega) | exact congrArg Bool.not (decide_eq_true (by omega)) | (simp; done) | (simp; omega)) | (refine gs_t tyT_ok ?hb ?_; case hb => first | exact decide_eq_true (by omega) | exact congrArg Bool.not (decide_eq_false (by omega)) | (simp; done) | (simp; omega)) | (refine gs_f tyT_ok ?hb ?_; case hb => first | exact decide_eq_false (by omega) | exact congrArg Bool.not (decide_eq_true (by omega)) | (simp; done) | (simp; omega)))
    exact gw_ret ⟨_, _, [], [0, 1], .tmp .nil, ⟨rfl, rfl, rfl⟩, rfl, rfl, by decide⟩
/-- Slices that are owned: their values. -/
def OV (v : Value) (p : Nat × GO) (vs : List Value) : Prop := OwnE 22 1 v p vs
theorem OV.nil {b : Nat} : OV (.slice none 0 0) (b, .none) [] := .inl ⟨rfl, rfl, rfl⟩
theorem OV.empty {b m : Nat} : OV (.slice (some ⟨b, 0, none⟩) 0 0) (b, .row 22 [] m) [] := .inr ⟨b, 0, 0, m, rfl, rfl, rfl, Nat.le_refl _, by omega⟩
theorem OV.at {a : Option Addr} {n c : Nat} {p : Nat × GO} {vs : List Value} (h : OV (.slice a n c) p vs) {k : Nat} (hk : k < vs.length) : n = vs.length ∧ ∃ u, vs[k]? = some u ∧ a = some ⟨p.1, 0, none⟩ ∧ (cellsG p.2)[0 + k * 1]? = some u := by
  rcases h with ⟨_, _, rfl⟩ | ⟨b, len, cap, n', h, rfl, hl, hlc, hcn⟩
  · simp at hk
  · cases h
    have : n = vs.length := by simpa using hl.symm
    refine ⟨this, vs[k], List.getElem?_eq_getElem hk, rfl, ?_⟩
    rw [Nat.zero_add, Nat.mul_one]
    exact List.getElem?_eq_getElem hk
section
variable {ops os : List Oper} {H : Option (List Hint)} {K : Env → GL → Prop} {e : Env} {l : GL} {d1 d2 : Nat} {T T2 : TypeId} {pos pos2 : String} {af af2 : Array Edge}
end
end Go.Proofs.Ytjefdcbljpkmlaa.G
end
