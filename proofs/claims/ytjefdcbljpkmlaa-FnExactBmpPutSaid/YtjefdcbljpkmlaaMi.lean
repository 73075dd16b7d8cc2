/- Runs of numbers: how far one goes, how far there is none; packed. -/
import Derived.Test.YtjefdcbljpkmlaaWs
set_option linter.unusedVariables false
namespace Go.Proofs.Ytjefdcbljpkmlaa.G
open Go
/-- So many at a place are the same, at most so many; so many more rounds. -/
def eqF (l : List Int) (a most : Nat) : Nat → Nat → Nat
  | 0, n => n
  | f + 1, n => if n < most ∧ a + n < l.length ∧ l.getD (a + n) 0 = l.getD a 0 then eqF l a most f (n + 1) else n
theorem eqF_stop {l : List Int} {a most n : Nat} (h : ¬ (n < most ∧ a + n < l.length ∧ l.getD (a + n) 0 = l.getD a 0)) : ∀ f, eqF l a most f n = n
  | 0 => rfl
  | f + 1 => if_neg h
theorem eqF_min {l : List Int} {a most most' : Nat} (hm : most ≤ most') : ∀ (f n : Nat), n ≤ most → eqF l a most f n = min most (eqF l a most' f n)
  | 0, n, h => by simp only [eqF]; omega
  | f + 1, n, h => by
    simp only [eqF]
    by_cases g : a + n < l.length ∧ l.getD (a + n) 0 = l.getD a 0
    · by_cases g1 : n < most
      · rw [if_pos ⟨g1, g⟩, if_pos ⟨by omega, g⟩]
        exact eqF_min hm f (n + 1) (by omega)
      · have : n = most := by omega
        subst this
        rw [if_neg (fun h => g1 h.1)]
        have hle : ∀ f n', n' ≤ eqF l a most' f n' := by
          intro f
          induction f with
          | zero => intro n'; exact Nat.le_refl _
          | succ f ih => intro n'; simp only [eqF]; split
                         · exact Nat.le_trans (Nat.le_succ _) (ih _)
                         · exact Nat.le_refl _
        have : n ≤ (if n < most' ∧ a + n < l.length ∧ l.getD (a + n) 0 = l.getD a 0 then eqF l a most' f (n + 1) else n) := hle (f + 1) n
        omega
    · rw [if_neg fun h => g h.2, if_neg fun h => g h.2]
      omega
/-- How many from a place on are the same. -/
def sm (l : List Int) (a : Nat) : Nat := eqF l a (l.length + 1) l.length 1
def otF (l : List Int) (a : Nat) : Nat → Nat → Nat
  | 0, n => n
  | f + 1, n => if n < 128 ∧ a + n < l.length ∧ sm l (a + n) < 2 then otF l a f (n + 1) else n
theorem otF_stop {l : List Int} {a n : Nat} (h : ¬ (n < 128 ∧ a + n < l.length ∧ sm l (a + n) < 2)) : ∀ f, otF l a f n = n
  | 0 => rfl
  | f + 1 => if_neg h
/-- How many from a place on are no runs. -/
def ot (l : List Int) (a : Nat) : Nat := otF l a 128 1
def seg (l : List Int) (a n : Nat) : List Int := (l.drop a).take n
/-- Packed; so many more rounds. -/
def packF (l : List Int) (z : Nat) : Nat → Nat → List Int → List Int
  | 0, _, out => out
  | f + 1, a, out => if a < l.length then (if 2 ≤ sm l a then packF l z f (a + min 128 (sm l a)) (out ++ [((127 + min 128 (sm l a) : Nat) : Int)] ++ le (l.getD a 0).toNat z)
      else packF l z f (a + ot l a) (out ++ [((ot l a - 1 : Nat) : Int)] ++ les z (seg l a (ot l a)))) else out
def pack (l : List Int) (z : Nat) : List Int := packF l z l.length 0 []
theorem packF_stop {l : List Int} {z a : Nat} {out : List Int} (h : ¬ a < l.length) : ∀ f, packF l z f a out = out
  | 0 => rfl
  | f + 1 => if_neg h
theorem eqF_le {l : List Int} {a most : Nat} : ∀ (f n : Nat), a + n ≤ l.length → n ≤ most → n ≤ eqF l a most f n ∧ a + eqF l a most f n ≤ l.length ∧ eqF l a most f n ≤ most
  | 0, n, h, h2 => ⟨Nat.le_refl _, h, h2⟩
  | f + 1, n, h, h2 => by
    simp only [eqF]
    split
    · rename_i g
      obtain ⟨i1, i2, i3⟩ := eqF_le (l := l) (a := a) (most := most) f (n + 1) (by omega) (by omega)
      exact ⟨by omega, i2, i3⟩
    · exact ⟨Nat.le_refl _, h, h2⟩
theorem sm_le {l : List Int} {a : Nat} (h : a < l.length) : 1 ≤ sm l a ∧ a + sm l a ≤ l.length := by
  obtain ⟨h1, h2, _⟩ := eqF_le (l := l) (a := a) (most := l.length + 1) l.length 1 (by omega) (by omega)
  exact ⟨h1, h2⟩
theorem otF_le {l : List Int} {a : Nat} : ∀ (f n : Nat), a + n ≤ l.length → n ≤ 128 → n ≤ otF l a f n ∧ a + otF l a f n ≤ l.length ∧ otF l a f n ≤ 128
  | 0, n, h, h2 => ⟨Nat.le_refl _, h, h2⟩
  | f + 1, n, h, h2 => by
    simp only [otF]
    split
    · rename_i g
      obtain ⟨i1, i2, i3⟩ := otF_le (l := l) (a := a) f (n + 1) (by omega) (by omega)
      exact ⟨by omega, i2, i3⟩
    · exact ⟨Nat.le_refl _, h, h2⟩
theorem ot_le {l : List Int} {a : Nat} (h : a < l.length) : 1 ≤ ot l a ∧ a + ot l a ≤ l.length ∧ ot l a ≤ 128 := otF_le 128 1 (by omega) (by omega)
/-- Once there is an end, more rounds do nothing. -/
theorem eqF_more {l : List Int} {a most : Nat} : ∀ (f g n : Nat), l.length ≤ a + n + f → f ≤ g → eqF l a most g n = eqF l a most f n
  | 0, g, n, h, _ => by
    rw [eqF_stop (by omega) g]
    rfl
  | f + 1, g + 1, n, h, hg => by
    simp only [eqF]
    split
    · exact eqF_more f g (n + 1) (by omega) (by omega)
    · rfl
/-- One packet: how many it is of, what is told, which numbers stand there. -/
def pkN (l : List Int) (a : Nat) : Nat := if 2 ≤ sm l a then min 128 (sm l a) else ot l a
def pkH (l : List Int) (a : Nat) : Nat := if 2 ≤ sm l a then 127 + min 128 (sm l a) else ot l a - 1
def pkK (l : List Int) (a : Nat) : Nat := if 2 ≤ sm l a then 1 else ot l a
theorem seg_one {l : List Int} {a : Nat} (h : a < l.length) : seg l a 1 = [l.getD a 0] := by
  unfold seg
  rw [List.drop_eq_getElem_cons h, List.take_succ_cons, List.take_zero]
  simp [List.getD, h]
theorem packF_step {l : List Int} {z a f : Nat} {out : List Int} (h : a < l.length) : packF l z (f + 1) a out = packF l z f (a + pkN l a) (out ++ [((pkH l a : Nat) : Int)] ++ les z (seg l a (pkK l a))) := by
  simp only [packF, pkN, pkH, pkK, if_pos h]
  split
  · rw [seg_one h]
    simp [les]
  · rfl
theorem pk_le {l : List Int} {a : Nat} (h : a < l.length) : 1 ≤ pkN l a ∧ a + pkN l a ≤ l.length ∧ pkN l a ≤ 128 ∧ 1 ≤ pkK l a ∧ pkK l a ≤ pkN l a ∧ pkH l a ≤ 255 := by
  have h1 := sm_le h
  have h2 := ot_le h
  unfold pkN pkK pkH
  split <;> omega
theorem seg_len {l : List Int} {a n : Nat} (h : a + n ≤ l.length) : (seg l a n).length = n := by simp [seg]; omega
theorem seg_mem {l : List Int} {a n : Nat} {x : Int} (h : x ∈ seg l a n) : x ∈ l := List.mem_of_mem_drop (List.mem_of_mem_take h)
theorem packF_len {l : List Int} {z : Nat} (hz : z ≤ 4) : ∀ (f a : Nat) (out : List Int), a ≤ l.length → out.length ≤ 5 * a → (packF l z f a out).length ≤ 5 * l.length
  | 0, a, out, h1, h2 => by simp only [packF]; omega
  | f + 1, a, out, h1, h2 => by
    by_cases h : a < l.length
    · rw [packF_step h]
      have hk := pk_le h
      refine packF_len hz f _ _ (by omega) ?_
      rw [List.length_append, List.length_append, List.length_singleton, les_len, seg_len (by omega)]
      have := Nat.mul_le_mul_left (pkK l a) hz
      omega
    · rw [packF_stop h]
      omega
theorem pack_len {l : List Int} {z : Nat} (hz : z ≤ 4) : (pack l z).length ≤ 5 * l.length := packF_len hz _ _ _ (by omega) (by simp)
theorem LS.row {b n c m : Nat} {t : TypeId} {zs : List Int} (hn : n = zs.length) (hc : n ≤ c) : LS (some ⟨b, 0, none⟩) n c (b, .row t (ints zs) m) zs := by
  subst hn
  exact ⟨rfl, hc, .inr ⟨0, rfl, by simp [cellsG, ints], by simp [cellsG]; rw [List.take_of_length_le (by simp [ints])]⟩⟩
end Go.Proofs.Ytjefdcbljpkmlaa.G
