/- laws.FnExactSniff: the program's Sniff and the reference's ask the same prefixes in the same order. -/
import Derived.Test.YteikopjhekhchaaF4
namespace Go.Proofs.Yteikopjhekhchaa.Pure
open Go.RowKit Go.Proofs.Yteikopjhekhchaa.P Go.Proofs.YteikopjhekhchaaW.PrintWords Go.Proofs.YteikopjhekhchaaW.PrintLast

def pre (s p : ByteArray) : Bool := if (s.size : Int) ≥ (p.size : Int) then (s.extract 0 p.size).toList == p.toList else false
theorem starts_pre (s p : ByteArray) : spec_l13Starts.f s p = some (pre s p) := by
  unfold spec_l13Starts.f pre
  by_cases h : (s.size : Int) ≥ (p.size : Int)
  · rw [if_pos h, if_pos h, if_pos (by omega), if_pos (by omega)]; rfl
  · rw [if_neg h, if_neg h]
theorem prefix_pre (s p : ByteArray) : strings_HasPrefix.f s p = some (pre s p) := by
  unfold strings_HasPrefix.f stringslite_HasPrefix.f pre
  by_cases h : (s.size : Int) ≥ (p.size : Int)
  · rw [if_pos h, if_pos h, if_pos (by omega), if_pos (by omega)]; rfl
  · rw [if_neg h, if_neg h]; rfl
theorem sign_text : spec_l9Sign.f = some (⟨#[137, 80, 78, 71, 13, 10, 26, 10]⟩ : ByteArray) := by
  unfold spec_l9Sign.f; decide
theorem j0_true (k : Nat) (s : ByteArray) : spec_Sniff.j0 (k + 1) s true = some 2 := by simp only [spec_Sniff.j0, if_true]
theorem j0_false (k : Nat) (s : ByteArray) : spec_Sniff.j0 (k + 1) s false = if pre s (⟨#[66, 77]⟩ : ByteArray) = true then some 3 else some (impl_Sniff.tail s) := by
  simp only [spec_Sniff.j0, starts_pre, Option.bind_some]
  rw [if_neg (by simp)]
  by_cases h : pre s (⟨#[66, 77]⟩ : ByteArray) = true
  · rw [if_pos h, if_pos h]
  · rw [if_neg h, if_neg h]
    unfold impl_Sniff.tail
    by_cases h1 : (s.size : Int) > 1
    · have c0 : (0 : Int) < s.size := by omega
      have c1 : (1 : Int) < s.size := by omega
      rw [if_pos h1, if_pos h1, if_pos c0]
      by_cases h2 : bt s 0 = 80
      · rw [if_pos h2, if_pos h2, if_pos c1]
        by_cases h3 : bt s 1 ≥ 49
        · rw [if_pos h3]
          by_cases h4 : bt s 1 ≤ 54
          · rw [if_pos h4, if_pos ⟨h3, h4⟩]
          · rw [if_neg h4, if_neg (fun h => h4 h.2)]
        · rw [if_neg h3, if_neg (fun h => h3 h.1)]
      · rw [if_neg h2, if_neg h2, if_pos h1]
    · rw [if_neg h1, if_neg h1]
theorem FnExactSniff : laws_FnExactSniff.Pure := by
  intro s hs
  unfold laws_FnExactSniff.f
  by_cases hbig : (s.size : Int) > 1048576
  · exact ⟨0, by rw [if_pos hbig]⟩
  refine ⟨1, ?_⟩
  rw [if_neg hbig]
  unfold spec_Sniff.f impl_Sniff.f
  simp only [sign_text, starts_pre, prefix_pre, Option.bind_some]
  cases h1 : pre s (⟨#[137, 80, 78, 71, 13, 10, 26, 10]⟩ : ByteArray)
  · cases h2 : pre s (⟨#[71, 73, 70, 56, 55, 97]⟩ : ByteArray)
    · cases h3 : pre s (⟨#[71, 73, 70, 56, 57, 97]⟩ : ByteArray)
      · rw [j0_false]
        cases h4 : pre s (⟨#[66, 77]⟩ : ByteArray) <;> simp
      · rw [j0_true]; simp
    · rw [j0_true]; simp
  · simp
end Go.Proofs.Yteikopjhekhchaa.Pure
