/- TGA, as both texts have it. -/
import Derived.Test.YtjefdcbljpkmlaaWg
import Derived.Test.YtjefdcbljpkmlaaWh
import Derived.Test.YtjefdcbljpkmlaaWi
set_option linter.unusedVariables false
namespace Go.Proofs.Ytjefdcbljpkmlaa.G
open Go
def nums (s : ByteArray) (z p n : Nat) : List Int := (List.range n).map fun i => fld s (p + i * z) z false z
theorem nums_succ (s : ByteArray) (z p n : Nat) : nums s z p (n + 1) = nums s z p n ++ [fld s (p + n * z) z false z] := by simp [nums, List.range_succ]
theorem nums_len (s : ByteArray) (z p n : Nat) : (nums s z p n).length = n := by simp [nums]
structure Pic where
  (kind depth wide high : Int)
  (colors pix : List Int)
def tgaAt (s : ByteArray) : Nat := 18 + (hdOf s).ahead.toNat + 3 * (hdOf s).many.toNat
def tgaPts (s : ByteArray) : Option (List Int) :=
  if (hdOf s).runs then (match runL s ((hdOf s).depth / 8).toNat ((hdOf s).wide * (hdOf s).high).toNat ((hdOf s).wide * (hdOf s).high).toNat [] (tgaAt s) with
    | some (l, a) => if a = s.size then some l else none
    | none => none)
  else if tgaAt s + ((hdOf s).wide * (hdOf s).high).toNat * ((hdOf s).depth / 8).toNat = s.size then some (nums s ((hdOf s).depth / 8).toNat (tgaAt s) ((hdOf s).wide * (hdOf s).high).toNat) else none
def tgaCols (s : ByteArray) : List Int := cols (s.extract (18 + (hdOf s).ahead.toNat) (tgaAt s)) 3 false (hdOf s).many.toNat
def tgaGet (s : ByteArray) : Option Pic :=
  if s.size ≤ 9000 ∧ 18 ≤ s.size ∧ (hdOf s).ok ∧ (hdOf s).size ∧ tgaAt s ≤ s.size then (match tgaPts s with
    | none => none
    | some l => if imgOk (hdOf s).kind (hdOf s).depth (hdOf s).wide (hdOf s).high (tgaCols s) (l.map (unr (hdOf s).kind)) then
        some ⟨(hdOf s).kind, (hdOf s).depth, (hdOf s).wide, (hdOf s).high, tgaCols s, if (hdOf s).lst = 0 then rows (hdOf s).wide.toNat (hdOf s).high.toNat (l.map (unr (hdOf s).kind)) (hdOf s).high.toNat else l.map (unr (hdOf s).kind)⟩
      else none)
  else none
def PicOut (R : Option Pic) : OutT := fun v F' ns => F' = [] ∧ match R with
  | none => v = .tuple #[img 0 0 0 0 (.slice none 0 0) (.slice none 0 0), .bool false] ∧ ns = []
  | some m => ∃ w1 w2 p1 p2, v = .tuple #[img m.kind m.depth m.wide m.high w1 w2, .bool true] ∧ ns = [p1, p2] ∧ OI w1 p1 m.colors ∧ OI w2 p2 m.pix
theorem runL_le {s : ByteArray} {z count : Nat} : ∀ (m : Nat) (out : List Int) (a : Nat) (l : List Int) (a2 : Nat), a ≤ s.size → runL s z count m out a = some (l, a2) → a2 ≤ s.size
  | 0, out, a, l, a2, h, e => by
    simp only [runL, Option.some.injEq, Prod.mk.injEq] at e
    omega
  | m + 1, out, a, l, a2, h, e => by
    simp only [runL] at e
    split at e
    · simp only [Option.some.injEq, Prod.mk.injEq] at e
      omega
    · split at e
      · cases e
      · split at e
        · split at e
          · cases e
          · exact runL_le m _ _ l a2 (by omega) e
        · split at e
          · cases e
          · exact runL_le m _ _ l a2 (by omega) e
def small (l : List Int) : Prop := ∀ x ∈ l, 0 ≤ x ∧ x ≤ 4294967295
theorem OI.empty {b m : Nat} : OI (.slice (some ⟨b, 0, none⟩) 0 0) (b, .row 3 [] m) [] := .inr ⟨b, 0, 0, m, rfl, rfl, rfl, Nat.le_refl _, by omega⟩
theorem small_nil : small [] := fun x hx => by cases hx
theorem small_app {a b : List Int} (ha : small a) (hb : small b) : small (a ++ b) := fun x hx => (List.mem_append.1 hx).elim (ha x) (hb x)
theorem small_fld {s : ByteArray} {p z : Nat} (hz : z ≤ 4) : 0 ≤ fld s p z false z ∧ fld s p z false z ≤ 4294967295 := ⟨fld_ge _ _ _ _ _, fld_four _ _ _ _ hz⟩
theorem small_nums {s : ByteArray} {p z n : Nat} (hz : z ≤ 4) : small (nums s z p n) := by
  intro x hx
  obtain ⟨i, _, rfl⟩ := List.mem_map.1 hx
  exact small_fld hz
theorem runL_small {s : ByteArray} {z count : Nat} (hz : z ≤ 4) : ∀ (m : Nat) (out : List Int) (a : Nat) (l : List Int) (a2 : Nat), small out → runL s z count m out a = some (l, a2) → small l
  | 0, out, a, l, a2, h, e => by
    simp only [runL, Option.some.injEq, Prod.mk.injEq] at e
    rw [← e.1]; exact h
  | m + 1, out, a, l, a2, h, e => by
    simp only [runL] at e
    split at e
    · simp only [Option.some.injEq, Prod.mk.injEq] at e
      rw [← e.1]; exact h
    · split at e
      · cases e
      · split at e
        · split at e
          · cases e
          · exact runL_small hz m _ _ l a2 (small_app h fun x hx => by rw [List.eq_of_mem_replicate hx]; exact small_fld hz) e
        · split at e
          · cases e
          · exact runL_small hz m _ _ l a2 (small_app h fun x hx => by obtain ⟨i, _, rfl⟩ := List.mem_map.1 hx; exact small_fld hz) e
theorem runL_len {s : ByteArray} {z count : Nat} : ∀ (m : Nat) (out : List Int) (a : Nat) (l : List Int) (a2 : Nat), out.length ≤ count → runL s z count m out a = some (l, a2) → l.length ≤ count
  | 0, out, a, l, a2, h, e => by
    simp only [runL, Option.some.injEq, Prod.mk.injEq] at e
    rw [← e.1]; exact h
  | m + 1, out, a, l, a2, h, e => by
    simp only [runL] at e
    split at e
    · simp only [Option.some.injEq, Prod.mk.injEq] at e
      rw [← e.1]; exact h
    · split at e
      · cases e
      · split at e
        · split at e
          · cases e
          · exact runL_len m _ _ l a2 (by rw [List.length_append, List.length_replicate]; omega) e
        · split at e
          · cases e
          · exact runL_len m _ _ l a2 (by rw [List.length_append, List.length_map, List.length_range]; omega) e
theorem put_ints {l : List Int} {i : Nat} {x : Int} (hi : i < l.length) : put (ints l) i [.int .i64 x] = ints (l.set i x) := by
  unfold put
  rw [List.set_eq_take_append_cons_drop, if_pos hi]
  simp [ints, List.map_take, List.map_drop]
/-- A number in a list that is owned is set anew. -/
theorem OI.set {a : Option Addr} {n c : Nat} {p : Nat × GO} {l : List Int} (h : OI (.slice a n c) p l) {i : Nat} (hi : i < l.length) : ∃ b m, a = some ⟨b, 0, none⟩ ∧ p = (b, .row 3 (ints l) m) ∧ l.length ≤ m ∧ ∀ x, OI (.slice a n c) (b, .row 3 (put (ints l) i [.int .i64 x]) m) (l.set i x) := by
  rcases h with ⟨h, _, hz⟩ | ⟨b, len, cap, m, h, rfl, hl, hlc, hcn⟩
  · have : l = [] := by simpa [ints] using hz
    subst this
    simp at hi
  · cases h
    have hl2 : l.length = n := by simpa [ints] using hl
    refine ⟨b, m, rfl, rfl, by omega, fun x => .inr ⟨b, n, c, m, rfl, ?_, ?_, hlc, hcn⟩⟩
    · rw [put_ints hi]
    · simpa [ints] using hl2
/-- So many points told anew. -/
def part (f : Int → Int) (l : List Int) (i : Nat) : List Int := (l.take i).map f ++ l.drop i
theorem part_len (f : Int → Int) (l : List Int) {i : Nat} (hi : i ≤ l.length) : (part f l i).length = l.length := by
  simp [part]
  omega
theorem part_at (f : Int → Int) (l : List Int) {i : Nat} (hi : i < l.length) : (part f l i).getD i 0 = l.getD i 0 := by
  unfold part
  rw [List.getD_eq_getElem?_getD, List.getD_eq_getElem?_getD, List.getElem?_append_right (by simp; omega)]
  simp [Nat.min_eq_left (Nat.le_of_lt hi)]
theorem part_set (f : Int → Int) (l : List Int) {i : Nat} (hi : i < l.length) : (part f l i).set i (f (l.getD i 0)) = part f l (i + 1) := by
  unfold part
  have hlen : ((l.take i).map f).length = i := by simp; omega
  rw [List.set_append_right _ _ (by omega), hlen, Nat.sub_self, List.drop_eq_getElem_cons hi, List.set_cons_zero, List.take_succ_eq_append_getElem hi, List.map_append, List.append_assoc]
  congr 1
  simp [List.getD, hi]
theorem part_all (f : Int → Int) (l : List Int) : part f l l.length = l.map f := by simp [part]
theorem ok_depth {h : Hd} (hok : h.ok) : h.depth = 8 ∨ h.depth = 24 ∨ h.depth = 32 := by
  obtain ⟨_, _, _, h4, h5, h6, _⟩ := hok
  rcases h6 with ⟨hk, hd⟩ | ⟨_, hd⟩ | ⟨_, hd⟩
  · by_cases hd8 : h.depth = 8
    · exact .inl hd8
    · exfalso
      have : tT h.kind h.depth = 0 := by
        unfold tT
        rw [if_neg (by omega), if_neg (by omega), if_neg (by omega)]
      omega
  · omega
  · omega
end Go.Proofs.Ytjefdcbljpkmlaa.G
