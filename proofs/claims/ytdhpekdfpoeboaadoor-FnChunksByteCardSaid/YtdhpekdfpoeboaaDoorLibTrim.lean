/- strings.Trim at the letters: the shelf's contract, and what it says of a name. -/
import Derived.Test.YtdhpekdfpoeboaaDoorProg
import Derived.Test.YtdhpekdfpoeboaaDoorShelf
import Derived.Test.YtdhpekdfpoeboaaDoorWWords
import Derived.Shelf.Strings.SlTrimAscii
import Derived.KernelRfl
set_option linter.unusedVariables false
namespace Go.Proofs.YtdhpekdfpoeboaaDoor.P
open Go.RowKit
def letters : ByteArray := ⟨#[97, 98, 99, 100, 101, 102, 103, 104, 105, 106, 107, 108, 109, 110, 111, 112, 113, 114, 115, 116, 117, 118, 119, 120, 121, 122, 65, 66, 67, 68, 69, 70, 71, 72, 73, 74, 75, 76, 77, 78, 79, 80, 81, 82, 83, 84, 85, 86, 87, 88, 89, 90]⟩
theorem trim_letters (s : ByteArray) (w : World) (hs : s.size ≤ 9223372036854775807) :
    Calls Tryd.prog 39 #[.string s, .string ⟨#[97, 98, 99, 100, 101, 102, 103, 104, 105, 106, 107, 108, 109, 110, 111, 112, 113, 114, 115, 116, 117, 118, 119, 120, 121, 122, 65, 66, 67, 68, 69, 70, 71, 72, 73, 74, 75, 76, 77, 78, 79, 80, 81, 82, 83, 84, 85, 86, 87, 88, 89, 90]⟩] w fun e w' => e = .returned (.string ⟨(Lib.trimS s.data.toList letters.data.toList).toArray⟩) ∧ Below w.heap.size w w' :=
  Any.strings_Trim_laid Tryd.lays160 (by kernel_rfl) s letters w hs (by decide) (ascii_of_all (by decide))
theorem dropWhile_nil {α : Type} (p : α → Bool) : ∀ l : List α, l.dropWhile p = [] ↔ l.all p = true
  | [] => by simp
  | a :: l => by
    have h := dropWhile_nil p l
    cases hp : p a <;> simp [hp, h]
theorem trimS_nil (l cs : List UInt8) : Lib.trimS l cs = [] ↔ l.all (cs.contains ·) = true := by
  unfold Lib.trimS Lib.trimLeftS Lib.trimRightS
  rw [dropWhile_nil]
  constructor
  · intro h
    by_cases h2 : (l.reverse.dropWhile (cs.contains ·)) = []
    · rw [dropWhile_nil, List.all_reverse] at h2
      exact h2
    · exfalso
      obtain ⟨a, t, e⟩ : ∃ a t, l.reverse.dropWhile (cs.contains ·) = a :: t := by
        cases h3 : l.reverse.dropWhile (cs.contains ·) with
        | nil => exact absurd h3 h2
        | cons a t => exact ⟨a, t, rfl⟩
      have hn : (cs.contains a) = false := by
        have := List.head_dropWhile_not (cs.contains ·) h2
        simp only [e, List.head_cons] at this
        exact this
      rw [e, List.all_reverse, List.all_cons, hn, Bool.false_and] at h
      exact Bool.false_ne_true h
  · intro h
    have h2 : l.reverse.dropWhile (cs.contains ·) = [] := by rw [dropWhile_nil, List.all_reverse]; exact h
    rw [h2]
    rfl
end Go.Proofs.YtdhpekdfpoeboaaDoor.P
