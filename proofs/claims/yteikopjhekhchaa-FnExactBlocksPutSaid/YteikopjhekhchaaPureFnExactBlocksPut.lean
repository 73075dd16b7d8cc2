/- laws.FnExactBlocksPut: both put the text into blocks of at most 255 bytes and a zero behind them. -/
import Derived.Test.YteikopjhekhchaaF6
namespace Go.Proofs.Yteikopjhekhchaa.Pure
open Go.RowKit Go.Proofs.Yteikopjhekhchaa.P Go.Proofs.YteikopjhekhchaaW.PrintWords Go.Proofs.YteikopjhekhchaaW.PrintLast

theorem one_byte (n : Nat) (h : n < 256) : strOfNums [((n : Nat) : Int)] = ⟨#[UInt8.ofNat n]⟩ := by
  simp [strOfNums]
theorem empty_left (x : ByteArray) : (⟨#[]⟩ : ByteArray) ++ x = x := by
  apply ByteArray.ext
  simp only [ByteArray.data_append]
  simp
theorem size_one (b : UInt8) : (⟨#[b]⟩ : ByteArray).size = 1 := rfl
theorem blocks_run (s : ByteArray) (hs : s.size ≤ 5000) (d : Nat) : ∀ (k : Nat) (i : Nat) (o : ByteArray), s.size - i ≤ d → i ≤ s.size + 255 → d < k → o.size ≤ 2 * i →
    spec_l10Blocks.l0 k s o (i : Int) = some (o ++ ⟨(blks (s.size - i) (s.data.toList.drop i) ++ [0]).toArray⟩) := by
  induction d with
  | zero =>
    intro k i o h0 hi hk ho
    obtain ⟨k, rfl⟩ : ∃ m, k = m + 1 := ⟨k - 1, by omega⟩
    simp only [spec_l10Blocks.l0]
    rw [if_neg (by omega), show s.size - i = 0 by omega]
    simp only [Option.bind_some, blks, List.nil_append]
    rw [show strOfNums [0] = (⟨#[0]⟩ : ByteArray) from rfl, if_pos (by rw [size_one]; omega)]
  | succ d ih =>
    intro k i o h0 hi hk ho
    obtain ⟨k, rfl⟩ : ∃ m, k = m + 1 := ⟨k - 1, by omega⟩
    by_cases hlt : i < s.size
    · simp only [spec_l10Blocks.l0]
      have e1 : wrap64 ((i : Int) + 255) = ((i + 255 : Nat) : Int) := by unfold wrap64; omega
      rw [if_pos (by omega), e1]
      obtain ⟨e, he⟩ : ∃ e, e = min (i + 255) s.size := ⟨_, rfl⟩
      have el : spec_l5Least.f ((i + 255 : Nat) : Int) (s.size : Int) = some ((e : Nat) : Int) := by
        unfold spec_l5Least.f
        by_cases h : ((i + 255 : Nat) : Int) < (s.size : Int)
        · rw [if_pos h]; congr 1; omega
        · rw [if_neg h]; congr 1; omega
      rw [el]
      simp only [Option.bind_some]
      obtain ⟨n, hn⟩ : ∃ n, n = e - i := ⟨_, rfl⟩
      have e2 : wrap64 ((e : Int) - i) % 256 = ((n : Nat) : Int) := by unfold wrap64; omega
      rw [e2, one_byte n (by omega)]
      have sz : ((⟨#[UInt8.ofNat n]⟩ : ByteArray)).size = 1 := size_one _
      have hx : (s.extract (i : Int).toNat (e : Int).toNat).size = n := by rw [ByteArray.size_extract]; omega
      rw [if_pos (by rw [sz]; omega), if_pos (by omega), if_pos (by omega), if_pos (by omega), if_pos (by rw [hx, ByteArray.size_append, sz]; omega)]
      rw [ih k (i + 255) _ (by omega) (by omega) (by omega) (by rw [ByteArray.size_append, ByteArray.size_append, sz, hx]; omega)]
      congr 1
      have hl : (s.data.toList.drop i).length = s.size - i := by simp
      obtain ⟨m, hm⟩ : ∃ m, s.size - i = m + 1 := ⟨s.size - i - 1, by omega⟩
      rw [show blks (s.size - i) (s.data.toList.drop i) = blks (m + 1) (s.data.toList.drop i) by rw [hm]]
      simp only [blks]
      rw [if_neg (by omega), show min (s.data.toList.drop i).length 255 = n by omega]
      have ed : (s.data.toList.drop i).drop n = s.data.toList.drop (i + 255) := by
        rw [List.drop_drop]
        by_cases h : i + 255 ≤ s.size
        · congr 1; omega
        · rw [List.drop_eq_nil_of_le (by simp; omega), List.drop_eq_nil_of_le (by simp; omega)]
      have l2 : (s.data.toList.drop (i + 255)).length = s.size - (i + 255) := by rw [List.length_drop, Array.length_toList, ByteArray.size_data]
      rw [ed, blks_more m (s.size - (i + 255)) _ (by rw [l2]; omega) (by rw [l2]; exact Nat.le_refl _)]
      have ex : (s.extract (i : Int).toNat (e : Int).toNat).data.toList = (s.data.toList.drop i).take n := by
        rw [Lib.extract_data]; simp [hn]
      apply ByteArray.ext
      apply Array.toList_inj.mp
      simp only [ByteArray.data_append, Array.toList_append, ex]
      simp
    · simp only [spec_l10Blocks.l0]
      rw [if_neg (by omega), show s.size - i = 0 by omega]
      simp only [Option.bind_some, blks, List.nil_append]
      rw [show strOfNums [0] = (⟨#[0]⟩ : ByteArray) from rfl, if_pos (by rw [size_one]; omega)]

theorem FnExactBlocksPut : laws_FnExactBlocksPut.Pure := by
  intro s hs
  unfold laws_FnExactBlocksPut.f spec_BlocksPut.f impl_BlocksPut.f
  by_cases hbig : (s.size : Int) > 1048576
  · exact ⟨0, by rw [if_pos hbig]⟩
  by_cases h5 : (s.size : Int) > 5000
  · refine ⟨0, ?_⟩
    rw [if_neg hbig, if_pos h5, if_pos h5, Option.bind_some, Option.bind_some, if_pos rfl]
  · refine ⟨s.size + 1, ?_⟩
    rw [if_neg hbig, if_neg h5, if_neg h5]
    have h := blocks_run s (by omega) s.size (s.size + 1) 0 ⟨#[]⟩ (by omega) (by omega) (by omega) (Nat.le_refl 0)
    unfold spec_l10Blocks.f
    rw [show ((0 : Nat) : Int) = 0 from rfl] at h
    rw [h, empty_left, Option.bind_some, Option.bind_some, Option.bind_some, Nat.sub_zero, List.drop_zero, if_pos rfl]
end Go.Proofs.Yteikopjhekhchaa.Pure
