/- A TGA's head: both ways of telling it say the same. -/
import Derived.Test.YtjefdcbljpkmlaaWp
set_option linter.unusedVariables false
namespace Go.Proofs.Ytjefdcbljpkmlaa.G
open Go
theorem Hd.num_eq (h : Hd) : (8 ≤ h.number ∧ h.num = h.number - 8) ∨ (h.number < 8 ∧ h.num = h.number) := by
  unfold Hd.num
  by_cases hr : h.runs
  · exact .inl ⟨hr, if_pos hr⟩
  · exact .inr ⟨by unfold Hd.runs at hr; omega, if_neg hr⟩
theorem Hd.lst_eq (h : Hd) : (h.kind = 3 ∧ h.lst = h.last - 8) ∨ (h.kind ≠ 3 ∧ h.lst = h.last) := by
  unfold Hd.lst
  by_cases hr : h.kind = 3
  · exact .inl ⟨hr, if_pos hr⟩
  · exact .inr ⟨hr, if_neg hr⟩
theorem Hd.colors_eq (h : Hd) : h.colors ↔ (h.kind = 4 ∧ h.has = 1 ∧ h.bits = 24 ∧ (1 ≤ h.many ∧ h.many ≤ 256)) ∨ (h.kind ≠ 4 ∧ h.has = 0 ∧ h.bits = 0 ∧ h.many = 0) := by
  unfold Hd.colors
  by_cases hr : h.kind = 4
  · rw [if_pos hr]; exact ⟨fun h => .inl ⟨hr, h⟩, fun h => h.elim (fun h => h.2) fun h => absurd hr h.1⟩
  · rw [if_neg hr]; exact ⟨fun h => .inr ⟨hr, h⟩, fun h => h.elim (fun h => absurd h.1 hr) fun h => h.2⟩
theorem tK_eq (n d : Int) : (n = 1 ∧ tK n d = 4) ∨ (n = 2 ∧ d = 24 ∧ tK n d = 2) ∨ (n = 2 ∧ d ≠ 24 ∧ tK n d = 3) ∨ (n = 3 ∧ tK n d = 1) ∨ ((n < 1 ∨ 3 < n) ∧ tK n d = 0) := by
  unfold tK
  by_cases h1 : n = 1
  · simp [h1]
  · by_cases h2 : n = 2
    · by_cases h3 : d = 24 <;> simp [h2, h3]
    · by_cases h3 : n = 3
      · simp [h3]
      · simp [h1, h2, h3]; omega
theorem tT_eq (k d : Int) : (k = 4 ∧ d = 8 ∧ tT k d = 1) ∨ ((k = 2 ∨ k = 3) ∧ tT k d = 2) ∨ (k = 1 ∧ d = 8 ∧ tT k d = 3) ∨ (¬ (k = 4 ∧ d = 8) ∧ k ≠ 2 ∧ k ≠ 3 ∧ ¬ (k = 1 ∧ d = 8) ∧ tT k d = 0) := by
  unfold tT
  by_cases h1 : k = 4 ∧ d = 8
  · exact .inl ⟨h1.1, h1.2, if_pos h1⟩
  · by_cases h2 : k = 2 ∨ k = 3
    · exact .inr (.inl ⟨h2, by rw [if_neg h1, if_pos h2]⟩)
    · by_cases h3 : k = 1 ∧ d = 8
      · exact .inr (.inr (.inl ⟨h3.1, h3.2, by rw [if_neg h1, if_neg h2, if_pos h3]⟩))
      · exact .inr (.inr (.inr ⟨h1, fun h => h2 (.inl h), fun h => h2 (.inr h), h3, by rw [if_neg h1, if_neg h2, if_neg h3]⟩))
theorem sKind_eq (s : ByteArray) : (byt s 2 % 8 = 1 ∧ sKind s = 4 ∧ sWant s = 0) ∨ (byt s 2 % 8 = 2 ∧ byt s 16 = 32 ∧ sKind s = 3 ∧ sWant s = 8) ∨ (byt s 2 % 8 = 2 ∧ byt s 16 ≠ 32 ∧ sKind s = 2 ∧ sWant s = 0) ∨ (byt s 2 % 8 ≠ 1 ∧ byt s 2 % 8 ≠ 2 ∧ sKind s = 1 ∧ sWant s = 0) := by
  unfold sKind sWant
  by_cases h1 : byt s 2 % 8 = 1
  · simp [h1]
  · by_cases h2 : byt s 2 % 8 = 2
    · by_cases h3 : byt s 16 = 32 <;> simp [h2, h3]
    · simp [h1, h2]
set_option maxHeartbeats 2000000 in
theorem sOk_iff (s : ByteArray) : sOk s ↔ (hdOf s).ok ∧ (hdOf s).size := by
  have g1 := byt_ge s 2
  have g2 := byt_le s 2
  have p1 := (hdOf s).num_eq
  have p2 := (hdOf s).lst_eq
  have p3 := tK_eq (hdOf s).num (hdOf s).depth
  have p4 := tT_eq (hdOf s).kind (hdOf s).depth
  have p5 := sKind_eq s
  have p6 : (hdOf s).kind = tK (hdOf s).num (hdOf s).depth := rfl
  rw [Hd.ok, Hd.colors_eq]
  unfold sOk sCols sRest Hd.size dOk
  rw [← p6] at p3
  clear p6
  generalize (hdOf s).num = num at *
  generalize (hdOf s).lst = lst at *
  generalize (hdOf s).kind = k at *
  simp only [hdOf] at *
  generalize tT k (byt s 16) = t at *
  generalize fld s 5 2 false 2 = n at *
  generalize fld s 3 2 false 2 = n3 at *
  generalize fld s 8 4 false 4 = n8 at *
  generalize fld s 12 2 false 2 = w at *
  generalize fld s 14 2 false 2 = h at *
  generalize byt s 2 = b at *
  generalize byt s 16 = d at *
  generalize byt s 17 = l at *
  generalize byt s 1 = x1 at *
  generalize byt s 7 = x7 at *
  generalize sKind s = sk at *
  generalize sWant s = sw at *
  constructor
  · rintro ⟨h1, ⟨h2, h3, h4, h5, h6⟩, h7, h8, h9, h10⟩
    refine ⟨⟨?_, h4, h5, ?_, ?_, ?_, ?_⟩, h9, h10⟩ <;> omega
  · rintro ⟨⟨h1, h2, h3, h4, h5, h6, h7⟩, h8, h9⟩
    rcases p3 with ⟨q1, q2⟩ | ⟨q1, q2, q3⟩ | ⟨q1, q2, q3⟩ | ⟨q1, q2⟩ | ⟨q1, q2⟩ <;> refine ⟨?_, ⟨?_, ?_, ?_, ?_, ?_⟩, ?_, ?_, ?_, ?_⟩ <;> first | assumption | omega
theorem sOk_kind {s : ByteArray} (h : sOk s) : sKind s = (hdOf s).kind ∧ (8 < byt s 2 ↔ (hdOf s).runs) ∧ (byt s 17 < 32 ↔ (hdOf s).lst = 0) := by
  have g1 := byt_ge s 2
  have g2 := byt_le s 2
  have p1 := (hdOf s).num_eq
  have p2 := (hdOf s).lst_eq
  have p3 := tK_eq (hdOf s).num (hdOf s).depth
  have p5 := sKind_eq s
  have p6 : (hdOf s).kind = tK (hdOf s).num (hdOf s).depth := rfl
  rw [← p6] at p3
  clear p6
  unfold sOk sRest dOk at h
  unfold Hd.runs
  generalize (hdOf s).num = num at *
  generalize (hdOf s).lst = lst at *
  generalize (hdOf s).kind = k at *
  simp only [hdOf] at *
  generalize byt s 2 = b at *
  generalize byt s 16 = d at *
  generalize byt s 17 = l at *
  generalize sKind s = sk at *
  generalize sWant s = sw at *
  obtain ⟨h1, ⟨h2, h3, h4, h5, h6⟩, h7, h8, h9, h10⟩ := h
  clear h1 h4 h5 h9 h10
  refine ⟨?_, ⟨?_, ?_⟩, ?_, ?_⟩ <;> omega
end Go.Proofs.Ytjefdcbljpkmlaa.G
