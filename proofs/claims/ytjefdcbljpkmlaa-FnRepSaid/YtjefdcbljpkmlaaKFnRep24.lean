/- What the law FnRep needs, out of the texts Lb. -/
import Derived.Test.YtjefdcbljpkmlaaKFnRep21
import Derived.Test.YtjefdcbljpkmlaaKFnRep23
section
set_option linter.unusedVariables false
namespace Go.Proofs.Ytjefdcbljpkmlaa.G
open Go
theorem imgOk_len {k d w h : Int} {cs ps : List Int} (hok : imgOk k d w h cs ps) : cs.length ≤ 256 ∧ ps.length ≤ 400 ∧ (ps.length : Int) = w * h := by
  obtain ⟨h1, h2, h3, h4, h5, _⟩ := imgOk_iff.1 hok
  refine ⟨?_, ?_, h4⟩
  · obtain ⟨_, c1, c2⟩ := h5
    by_cases hk : k = 4
    · have c3 := (c2 hk).2
      have hd : d = 1 ∨ d = 2 ∨ d = 4 ∨ d = 8 := by unfold dOk at h1; omega
      rcases hd with rfl | rfl | rfl | rfl <;> simp at c3 <;> omega
    · rw [c1 hk]; simp
  · obtain ⟨W, rfl⟩ := Int.eq_ofNat_of_zero_le (show 0 ≤ w by omega)
    obtain ⟨H, rfl⟩ := Int.eq_ofNat_of_zero_le (show 0 ≤ h by omega)
    have : W * H ≤ 20 * 20 := Nat.mul_le_mul (by omega) (by omega)
    rw [← Int.natCast_mul] at h4
    omega
theorem outs_mem {zs : List Int} {m : Int} : outs zs m = false ↔ ∀ x ∈ zs, 0 ≤ x ∧ x ≤ m := by
  simp only [outs, List.any_eq_false]
  constructor
  · intro h x hx
    have := h x hx
    simpa using this
  · intro h x hx
    have := h x hx
    simpa using this
theorem imgOk_rows {k d w h : Int} {cs ps : List Int} (hok : imgOk k d w h cs ps) : imgOk k d w h cs (rows w.toNat h.toNat ps h.toNat) := by
  obtain ⟨h1, h2, h3, h4, h5, h6⟩ := imgOk_iff.1 hok
  obtain ⟨W, rfl⟩ := Int.eq_ofNat_of_zero_le (show 0 ≤ w by omega)
  obtain ⟨H, rfl⟩ := Int.eq_ofNat_of_zero_le (show 0 ≤ h by omega)
  refine imgOk_iff.2 ⟨h1, h2, h3, ?_, h5, ?_⟩
  · rw [rows_len]
    simp [Int.mul_comm]
  · rw [outs_mem] at h6 ⊢
    intro x hx
    obtain ⟨y, hy, hx⟩ := List.mem_flatMap.1 hx
    obtain ⟨i, hi, rfl⟩ := List.mem_map.1 hx
    have hy := List.mem_range.1 hy
    have hi := List.mem_range.1 hi
    simp only [Int.toNat_natCast] at hy hi ⊢
    have hl : ps.length = W * H := by rw [← Int.natCast_mul] at h4; omega
    have hlt : (H - 1 - y) * W + i < ps.length := by
      rw [hl, Nat.mul_comm W H]
      have : (H - 1 - y + 1) * W ≤ H * W := Nat.mul_le_mul_right W (by omega)
      rw [Nat.succ_mul] at this
      omega
    rw [List.getD_eq_getElem?_getD, List.getElem?_eq_getElem hlt]
    exact h6 _ (List.getElem_mem hlt)
theorem OI.ls' {a : Option Addr} {n c : Nat} {p : Nat × GO} {zs : List Int} (h : OI (.slice a n c) p zs) : LS a n c p zs := by
  obtain ⟨a', c', he, hl⟩ := h.ls
  injection he with h1 h2 h3
  subst h1 h2 h3
  exact hl
/-- A law that hands back true, and leaves nothing. -/
theorem Trip.row {P : Program} {f : FuncId} {args : List Value} (h : Trip P f args [] (fun v F' ns => v = .bool true)) (w : World) : Calls P f args.toArray w fun e w' => e = .returned (.bool true) ∧ RowKit.Below w.heap.size w w' := by
  refine (h w (sim_nil _)).mono fun e w' ⟨v, F', ns, h1, h2, h3⟩ => ⟨by rw [h1, h2], ?_⟩
  have hf := h3.fr
  exact ⟨hf.os, hf.tape, hf.output, hf.size, fun b hb => hf.keep b hb fun ⟨x, hx, _⟩ => by cases hx⟩
end Go.Proofs.Ytjefdcbljpkmlaa.G
end
