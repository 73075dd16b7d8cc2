/- laws.FnExactBlocksGet: at every text and place the program's BlocksGet returns what the reference's returns. No condition. -/
import Derived.Test.YteikopjhekhchaaPFnExactBlocksGetx1
namespace Go.Proofs.Yteikopjhekhchaa.Pure
open Go.RowKit Go.Proofs.Yteikopjhekhchaa.PFnExactBlocksGet Go.Proofs.YteikopjhekhchaaW.PrintWords Go.Proofs.YteikopjhekhchaaW.PrintLast

theorem blocks_run (s : ByteArray) (hs : s.size ≤ 9000) (d : Nat) : ∀ (k : Nat) (i : Int) (o : ByteArray), 0 ≤ i → (s.size : Int) - i ≤ d → d < k → (o.size : Int) ≤ i →
    ∃ r, spec_l10Join.l0 k s i o = some r ∧ impl_BlocksGet.l0 k s i o = some r := by
  induction d with
  | zero =>
    intro k i o h0 hd hk ho
    obtain ⟨k, rfl⟩ : ∃ m, k = m + 1 := ⟨k - 1, by omega⟩
    have hge : ¬ i < (s.size : Int) := by omega
    simp only [spec_l10Join.l0, impl_BlocksGet.l0]
    rw [if_neg hge, if_neg hge]
    exact ⟨_, rfl, rfl⟩
  | succ d ih =>
    intro k i o h0 hd hk ho
    obtain ⟨k, rfl⟩ : ∃ m, k = m + 1 := ⟨k - 1, by omega⟩
    simp only [spec_l10Join.l0, impl_BlocksGet.l0]
    by_cases hlt : i < (s.size : Int)
    · have hb := bt_range s i
      have e1 : wrap64 (i + 1) = i + 1 := by unfold wrap64; omega
      have e2 : wrap64 (bt s i) = bt s i := by unfold wrap64; omega
      have e3 : wrap64 (i + 1 + bt s i) = i + 1 + bt s i := by unfold wrap64; omega
      have e4 : wrap64 ((s.size : Int) - (i + 1)) = (s.size : Int) - (i + 1) := by unfold wrap64; omega
      simp only [e1, e2, e3, e4]
      rw [if_pos hlt, if_pos hlt, if_pos h0, if_pos h0]
      by_cases hz : bt s i = 0
      · rw [if_pos hz, if_pos hz]
        exact ⟨_, rfl, rfl⟩
      · rw [if_neg hz, if_neg hz]
        by_cases hg : i + 1 + bt s i > (s.size : Int)
        · have hg' : bt s i > (s.size : Int) - (i + 1) := by omega
          rw [if_pos hg, if_pos hg']
          exact ⟨_, rfl, rfl⟩
        · have hg' : ¬ bt s i > (s.size : Int) - (i + 1) := by omega
          have c1 : 0 ≤ i + 1 := by omega
          have c2 : i + 1 ≤ i + 1 + bt s i := by omega
          have c3 : i + 1 + bt s i ≤ (s.size : Int) := by omega
          have hx : ((s.extract (i + 1).toNat (i + 1 + bt s i).toNat).size : Int) = bt s i := by
            rw [ByteArray.size_extract]; omega
          have c4 : o.size + (s.extract (i + 1).toNat (i + 1 + bt s i).toNat).size ≤ 9223372036854775807 := by omega
          rw [if_neg hg, if_neg hg', if_pos c1, if_pos c1, if_pos c2, if_pos c2, if_pos c3, if_pos c3, if_pos c4, if_pos c4]
          exact ih k _ _ (by omega) (by omega) (by omega) (by rw [ByteArray.size_append]; omega)
    · rw [if_neg hlt, if_neg hlt]
      exact ⟨_, rfl, rfl⟩

theorem FnExactBlocksGet : laws_FnExactBlocksGet.Pure := by
  intro s i hs hi
  unfold laws_FnExactBlocksGet.f spec_BlocksGet.f impl_BlocksGet.f spec_l1In.f
  by_cases hbig : (s.size : Int) > 1048576
  · exact ⟨0, by rw [if_pos hbig]⟩
  by_cases ht : (s.size : Int) > 9000
  · refine ⟨1, ?_⟩
    rw [if_neg hbig, if_pos ht, if_pos ht]
    simp [impl_BlocksGet.j0]
  by_cases h0 : i < 0
  · refine ⟨1, ?_⟩
    have g : ¬ i ≥ 0 := by omega
    rw [if_neg hbig, if_neg ht, if_neg ht, if_neg g, decide_eq_true h0]
    simp [impl_BlocksGet.j0]
  have g : i ≥ 0 := by omega
  by_cases hle : i ≤ (s.size : Int)
  · obtain ⟨r, h1, h2⟩ := blocks_run s (by omega) s.size (s.size + 1) i (⟨#[]⟩ : ByteArray) g (by omega) (by omega) g
    refine ⟨s.size + 2, ?_⟩
    have h1' : spec_l10Join.f (s.size + 2) s i = some r := spec_l10Join.mono _ _ _ _ h1
    rw [if_neg hbig, if_neg ht, if_neg ht, if_pos g, decide_eq_true hle, decide_eq_false h0]
    simp only [Option.bind_some, if_true, h1', impl_BlocksGet.j0, h2]
    simp
  · refine ⟨2, ?_⟩
    have hlt : ¬ i < (s.size : Int) := by omega
    rw [if_neg hbig, if_neg ht, if_neg ht, if_pos g, decide_eq_false hle, decide_eq_false h0]
    simp only [Option.bind_some, impl_BlocksGet.j0, impl_BlocksGet.l0]
    rw [if_neg hlt]
    simp

end Go.Proofs.Yteikopjhekhchaa.Pure
