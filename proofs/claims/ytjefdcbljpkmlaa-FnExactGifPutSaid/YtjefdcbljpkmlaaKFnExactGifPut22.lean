/- What the law FnExactGifPut needs, out of the texts Ze. -/
import Derived.Test.YtjefdcbljpkmlaaKFnExactGifPut21
section
set_option linter.unusedVariables false
set_option linter.unusedSimpArgs false
namespace Go.Proofs.Ytjefdcbljpkmlaa.G
open Go
/-- The place of a text in a list. -/
def dfind : List ByteArray → ByteArray → Option Nat
  | [], _ => none
  | a :: r, k => if a = k then some 0 else (dfind r k).map (· + 1)
theorem dfind_app (a b : List ByteArray) (k : ByteArray) : dfind (a ++ b) k = match dfind a k with
    | some i => some i
    | none => (dfind b k).map (a.length + ·) := by
  induction a with
  | nil => simp [dfind]
  | cons x a ih =>
    simp only [List.cons_append, dfind]
    by_cases h : x = k
    · simp [h]
    · rw [if_neg h, if_neg h, ih]
      cases dfind a k with
      | some i => rfl
      | none =>
        cases dfind b k with
        | none => rfl
        | some j => simp; omega
theorem dfind_lt : ∀ {D : List ByteArray} {k : ByteArray} {i : Nat}, dfind D k = some i → i < D.length
  | a :: r, k, i, h => by
    simp only [dfind] at h
    split at h
    · cases h; simp
    · cases hr : dfind r k with
      | none => rw [hr] at h; cases h
      | some j =>
        rw [hr] at h
        cases h
        have := dfind_lt hr
        simp only [List.length_cons]
        omega
theorem dfind_none {D : List ByteArray} {k : ByteArray} (h : ∀ x ∈ D, x ≠ k) : dfind D k = none := by
  induction D with
  | nil => rfl
  | cons a r ih =>
    simp only [dfind]
    rw [if_neg (h a (by simp)), ih fun x hx => h x (by simp [hx])]
    rfl
theorem sfind_app (a b : List (ByteArray × Int)) (k : ByteArray) : sfind (a ++ b) k = match sfind a k with
    | some v => some v
    | none => sfind b k := by
  induction a with
  | nil => simp [sfind]
  | cons x a ih =>
    obtain ⟨s, v⟩ := x
    simp only [List.cons_append, sfind]
    by_cases h : k = s
    · simp [h]
    · rw [if_neg h, if_neg h, ih]
theorem sfind_none {m : List (ByteArray × Int)} {k : ByteArray} (h : ∀ x ∈ m, x.1 ≠ k) : sfind m k = none := by
  induction m with
  | nil => rfl
  | cons a r ih =>
    obtain ⟨s, v⟩ := a
    simp only [sfind]
    rw [if_neg fun e => h (s, v) (by simp) e.symm, ih fun x hx => h x (by simp [hx])]
/-- How many numbers are known at first. -/
def lzB (bits : Nat) : Nat := 2 ^ bits + 2
/-- Texts that came to be known, with their numbers. -/
def dmap (B : Nat) (D : List ByteArray) : List (ByteArray × Int) := D.zipIdx.map fun x => (x.1, ((B + x.2 : Nat) : Int))
theorem dmap_snoc (B : Nat) (D : List ByteArray) (s : ByteArray) : dmap B (D ++ [s]) = dmap B D ++ [(s, ((B + D.length : Nat) : Int))] := by
  simp [dmap, List.zipIdx_append]
theorem sfind_dz (B : Nat) (k : ByteArray) : ∀ (D : List ByteArray) (n : Nat), sfind ((D.zipIdx n).map fun x => (x.1, ((B + x.2 : Nat) : Int))) k = (dfind D k).map fun i => ((B + n + i : Nat) : Int)
  | [], n => rfl
  | a :: r, n => by
    simp only [List.zipIdx_cons, List.map_cons, sfind, dfind]
    by_cases h : k = a
    · subst h
      simp
    · rw [if_neg h, if_neg (fun e => h e.symm), sfind_dz B k r (n + 1)]
      cases dfind r k with
      | none => rfl
      | some i => simp; omega
theorem sfind_dmap (B : Nat) (D : List ByteArray) (k : ByteArray) : sfind (dmap B D) k = (dfind D k).map fun i => ((B + i : Nat) : Int) := by
  have := sfind_dz B k D 0
  simpa [dmap] using this
def firstM (n : Nat) : List (ByteArray × Int) := (List.range n).map fun (b : Nat) => (txt [(b : Int)], (b : Int))
theorem firstM_succ (n : Nat) : firstM (n + 1) = firstM n ++ [(txt [(n : Int)], (n : Int))] := by simp [firstM, List.range_succ]
theorem txt_one_size (x : Int) : (txt [x]).size = 1 := by rw [txt_size]; rfl
theorem byt_one {x : Nat} (h : x < 256) : byt (txt [(x : Int)]) 0 = (x : Int) := by
  unfold byt
  have : (txt [(x : Int)]).data.toList = [UInt8.ofNat x] := by
    simp [txt, strOfNums]
  rw [this]
  simp
  omega
theorem txt_one_inj {x y : Nat} (hx : x < 256) (hy : y < 256) (h : txt [(x : Int)] = txt [(y : Int)]) : x = y := by
  have h1 := byt_one hx
  rw [h, byt_one hy] at h1
  omega
theorem one_eq {s : ByteArray} (h : s.size = 1) : s = txt [byt s 0] := by
  apply ByteArray.ext
  apply Array.ext'
  have hl : s.data.toList.length = 1 := h
  have e : (txt [byt s 0]).data.toList = [UInt8.ofNat (byt s 0).toNat] := by simp [txt, strOfNums]
  rw [e]
  match hd : s.data.toList, hl with
  | [x], _ =>
    have : byt s 0 = (x.toNat : Int) := by unfold byt; rw [hd]; rfl
    rw [this]
    simp
theorem sfind_first_ne {n : Nat} {s : ByteArray} (h : s.size ≠ 1) : sfind (firstM n) s = none := by
  refine sfind_none fun x hx => ?_
  obtain ⟨b, _, rfl⟩ := List.mem_map.1 hx
  intro e
  exact h (by rw [← e]; exact txt_one_size _)
theorem sfind_first {n x : Nat} (hx : x < n) (hn : n ≤ 256) : sfind (firstM n) (txt [(x : Int)]) = some (x : Int) := by
  induction n with
  | zero => omega
  | succ n ih =>
    rw [firstM_succ, sfind_app]
    by_cases h : x < n
    · rw [ih h (by omega)]
    · obtain rfl : x = n := by omega
      have : sfind (firstM x) (txt [(x : Int)]) = none := sfind_none fun y hy => by
        obtain ⟨b, hb, rfl⟩ := List.mem_map.1 hy
        have := List.mem_range.1 hb
        intro e
        have := txt_one_inj (by omega) (by omega) e
        omega
      rw [this]
      simp [sfind]
/-- All that is known. -/
def mapZ (bits : Nat) (D : List ByteArray) : List (ByteArray × Int) := firstM (2 ^ bits) ++ dmap (lzB bits) D
theorem mapZ_nil (bits : Nat) : mapZ bits [] = firstM (2 ^ bits) := by simp [mapZ, dmap]
theorem mapZ_snoc (bits : Nat) (D : List ByteArray) (s : ByteArray) : mapZ bits (D ++ [s]) = mapZ bits D ++ [(s, ((lzB bits + D.length : Nat) : Int))] := by
  rw [mapZ, mapZ, dmap_snoc, List.append_assoc]
/-- The number of a text. -/
def numZ (bits : Nat) (D : List ByteArray) (s : ByteArray) : Nat := if s.size = 1 then (byt s 0).toNat else lzB bits + (dfind D s).getD 0
def hasZ (D : List ByteArray) (s : ByteArray) : Prop := s.size = 1 ∨ (dfind D s).isSome = true
instance (D : List ByteArray) (s : ByteArray) : Decidable (hasZ D s) := by unfold hasZ; infer_instance
/-- Bytes of so many bits. -/
def fitsZ (bits : Nat) (t : ByteArray) : Prop := ∀ i, i < t.size → byt t i < ((2 ^ bits : Nat) : Int)
theorem sfind_mapZ {bits : Nat} {D : List ByteArray} {s : ByteArray} (hb : bits ≤ 8) (hs : s.size = 1 → byt s 0 < ((2 ^ bits : Nat) : Int)) : sfind (mapZ bits D) s = if hasZ D s then some (numZ bits D s : Int) else none := by
  have h8 : 2 ^ bits ≤ 2 ^ 8 := Nat.pow_le_pow_right (by decide) hb
  rw [mapZ, sfind_app]
  by_cases h1 : s.size = 1
  · have hlt := hs h1
    have hge := byt_ge s 0
    obtain ⟨x, hx⟩ := Int.eq_ofNat_of_zero_le hge
    have e : s = txt [(x : Int)] := by rw [← hx]; exact one_eq h1
    have e2 : sfind (firstM (2 ^ bits)) s = some (x : Int) := by rw [e]; exact sfind_first (by omega) (by omega)
    rw [e2, if_pos (.inl h1), numZ, if_pos h1, hx]
    simp
  · rw [sfind_first_ne h1]
    dsimp only
    rw [sfind_dmap]
    cases hd : dfind D s with
    | none => rw [if_neg (by rintro (h | h); exact h1 h; rw [hd] at h; cases h)]; rfl
    | some i => rw [if_pos (.inr (by rw [hd]; rfl)), numZ, if_neg h1, hd]; rfl
/-- Of how many bits a number is, when so many are known. -/
def widF (n : Nat) : Nat → Nat → Nat
  | 0, w => w
  | f + 1, w => if w < 12 ∧ 2 ^ w ≤ n then widF n f (w + 1) else w
def widZ (bits : Nat) (wide : Bool) (n : Nat) : Nat := widF (n + if wide then 1 else 0) 12 (bits + 1)
theorem widF_stop {n w : Nat} (h : ¬ (w < 12 ∧ 2 ^ w ≤ n)) : ∀ f, widF n f w = w
  | 0 => rfl
  | f + 1 => if_neg h
theorem widF_le {n : Nat} : ∀ (f w : Nat), w ≤ 12 → w ≤ widF n f w ∧ widF n f w ≤ 12 ∧ (12 ≤ w + f → n < 2 ^ widF n f w ∨ widF n f w = 12)
  | 0, w, h => ⟨Nat.le_refl _, h, fun h2 => .inr (by simp only [widF]; omega)⟩
  | f + 1, w, h => by
    simp only [widF]
    split
    · rename_i hc
      obtain ⟨h1, h2, h3⟩ := widF_le (n := n) f (w + 1) (by omega)
      exact ⟨by omega, h2, fun h4 => h3 (by omega)⟩
    · rename_i hc
      refine ⟨Nat.le_refl _, h, fun h2 => ?_⟩
      by_cases h3 : w < 12
      · left
        have : ¬ 2 ^ w ≤ n := fun h4 => hc ⟨h3, h4⟩
        omega
      · right; omega
theorem widZ_ok {bits : Nat} {wide : Bool} {n : Nat} (hb : bits ≤ 8) (hn : n ≤ 4095) : bits + 1 ≤ widZ bits wide n ∧ widZ bits wide n ≤ 12 ∧ n < 2 ^ widZ bits wide n := by
  obtain ⟨h1, h2, h3⟩ := widF_le (n := n + if wide then 1 else 0) 12 (bits + 1) (by omega)
  refine ⟨h1, h2, ?_⟩
  rcases h3 (by omega) with h | h
  · have : n ≤ n + if wide then 1 else 0 := Nat.le_add_right _ _
    exact Nat.lt_of_le_of_lt this h
  · unfold widZ
    rw [h]
    omega
theorem widZ_first {bits : Nat} {wide : Bool} (h2 : 2 ≤ bits) (hb : bits ≤ 8) (hw : wide = true → bits = 8) : widZ bits wide (lzB bits) = bits + 1 := by
  unfold widZ
  refine widF_stop ?_ 12
  rintro ⟨_, h⟩
  have e : 2 ^ (bits + 1) = 2 * 2 ^ bits := by rw [Nat.pow_succ, Nat.mul_comm]
  have h4 : 2 ^ 2 ≤ 2 ^ bits := Nat.pow_le_pow_right (by decide) h2
  unfold lzB at h
  cases wide
  · simp only [Bool.false_eq_true, if_false, Nat.add_zero] at h
    omega
  · have := hw rfl
    subst this
    simp at h
/-- How many are known to whoever reads. -/
def knoZ (bits n : Nat) : Nat := if n = 0 then lzB bits else lzB bits + n - 1
def fullZ (wide : Bool) : Nat := if wide then 4094 else 4095
/-- Where packing stands: what came to be known, where the last text begins, and what was told. -/
structure Lz where
  D : List ByteArray
  a : Nat
  out : List (Nat × Nat)
def stepZ (t : ByteArray) (bits : Nat) (wide : Bool) (x : Lz) (i : Nat) : Lz :=
  if hasZ x.D (t.extract x.a (i + 1)) then x
  else if fullZ wide ≤ lzB bits + (x.D.length + 1) then
    ⟨[], i, x.out ++ [(numZ bits x.D (t.extract x.a i), widZ bits wide (knoZ bits x.D.length))] ++ [(2 ^ bits, widZ bits wide (knoZ bits (x.D.length + 1)))]⟩
  else ⟨x.D ++ [t.extract x.a (i + 1)], i, x.out ++ [(numZ bits x.D (t.extract x.a i), widZ bits wide (knoZ bits x.D.length))]⟩
def runZ (t : ByteArray) (bits : Nat) (wide : Bool) : Nat → Lz
  | 0 => ⟨[], 0, [(2 ^ bits, bits + 1)]⟩
  | n + 1 => stepZ t bits wide (runZ t bits wide n) n
/-- What is told ahead of the end, and how many are known then. -/
def endZ (t : ByteArray) (bits : Nat) (wide : Bool) : List (Nat × Nat) × Nat :=
  if t.size = 0 then ([(2 ^ bits, bits + 1)], lzB bits)
  else ((runZ t bits wide t.size).out ++ [(numZ bits (runZ t bits wide t.size).D (t.extract (runZ t bits wide t.size).a t.size), widZ bits wide (knoZ bits (runZ t bits wide t.size).D.length))], lzB bits + (runZ t bits wide t.size).D.length)
def lzL (t : ByteArray) (bits : Nat) (wide : Bool) : List (Nat × Nat) := (endZ t bits wide).1 ++ [(2 ^ bits + 1, widZ bits wide (endZ t bits wide).2)]
def lzOk (bits : Int) (wide : Bool) : Prop := (2 ≤ bits ∧ bits ≤ 8) ∧ (wide = true → bits = 8)
instance (bits : Int) (wide : Bool) : Decidable (lzOk bits wide) := by unfold lzOk; infer_instance
def lzPutOk (t : ByteArray) (bits : Int) (wide : Bool) : Prop := lzOk bits wide ∧ t.size ≤ 5000 ∧ fitsZ bits.toNat t
open Classical in
noncomputable def lzPut (t : ByteArray) (bits : Int) (wide : Bool) : ByteArray := if lzPutOk t bits wide then txt (packB wide (lbits wide (lzL t bits.toNat wide))) else txt []
/-- What holds of where packing stands. -/
structure LzInv (t : ByteArray) (bits : Nat) (wide : Bool) (x : Lz) (i : Nat) : Prop where
  at_ : (i = 0 ∧ x.a = 0 ∧ x.D = []) ∨ (x.a < i ∧ hasZ x.D (t.extract x.a i))
  big : ∀ s ∈ x.D, 2 ≤ s.size
  full : lzB bits + x.D.length < fullZ wide
  ok : ∀ y ∈ x.out, y.2 ≤ 12 ∧ y.1 < 2 ^ y.2
  len : ∃ c, 3836 * c + x.D.length ≤ i ∧ x.out.length ≤ 1 + i + c
theorem lzB_le {bits : Nat} (hb : bits ≤ 8) : lzB bits ≤ 258 := by
  have h8 : 2 ^ bits ≤ 2 ^ 8 := Nat.pow_le_pow_right (by decide) hb
  unfold lzB
  omega
theorem fullZ_le (wide : Bool) : 4094 ≤ fullZ wide ∧ fullZ wide ≤ 4095 := by cases wide <;> decide
theorem size_ex {t : ByteArray} {a b : Nat} (h1 : a ≤ b) (h2 : b ≤ t.size) : (t.extract a b).size = b - a := by
  rw [ByteArray.size_extract]
  omega
theorem byt_ex {t : ByteArray} {a b i : Nat} (h1 : a + i < b) (h2 : b ≤ t.size) : byt (t.extract a b) i = byt t (a + i) := by
  have h := byt_extract (s := t) (p := a) (n := b - a) (i := i) (by omega) (by omega)
  rw [show a + (b - a) = b by omega] at h
  exact h
theorem numZ_lt {bits : Nat} {wide : Bool} {D : List ByteArray} {s : ByteArray} (hb : bits ≤ 8) (hs : s.size = 1 → byt s 0 < ((2 ^ bits : Nat) : Int)) (hh : hasZ D s) (hf : lzB bits + D.length < fullZ wide) : numZ bits D s < 2 ^ widZ bits wide (knoZ bits D.length) := by
  have hB := lzB_le hb
  have hF := fullZ_le wide
  have hk : knoZ bits D.length ≤ 4095 := by unfold knoZ; split <;> omega
  obtain ⟨w1, w2, w3⟩ := widZ_ok (wide := wide) hb hk
  unfold numZ
  split
  · rename_i h1
    have h2 := hs h1
    have h3 := byt_ge s 0
    have h4 : 2 ^ bits ≤ 2 ^ widZ bits wide (knoZ bits D.length) := Nat.pow_le_pow_right (by decide) (by omega)
    omega
  · rename_i h1
    rcases hh with h | h
    · exact absurd h h1
    · obtain ⟨i, hi⟩ := Option.isSome_iff_exists.1 h
      have := dfind_lt hi
      rw [hi]
      simp only [Option.getD_some]
      unfold knoZ at w3 ⊢
      rw [if_neg (by omega)] at w3 ⊢
      omega
theorem inv_zero {t : ByteArray} {bits : Nat} {wide : Bool} (h2 : 2 ≤ bits) (hb : bits ≤ 8) : LzInv t bits wide (runZ t bits wide 0) 0 := by
  have hB := lzB_le hb
  have hF := fullZ_le wide
  refine ⟨.inl ⟨rfl, rfl, rfl⟩, fun s hs => (by cases hs), (by show lzB bits + 0 < _; omega), fun y hy => ?_, ⟨0, by simp [runZ], by simp [runZ]⟩⟩
  rw [List.mem_singleton.1 (show y ∈ [(2 ^ bits, bits + 1)] from hy)]
  exact ⟨by show bits + 1 ≤ 12; omega, Nat.pow_lt_pow_right (by decide) (by omega)⟩
theorem inv_step {t : ByteArray} {bits : Nat} {wide : Bool} {x : Lz} {i : Nat} (h2 : 2 ≤ bits) (hb : bits ≤ 8) (hf : fitsZ bits t) (hi : i < t.size) (h : LzInv t bits wide x i) : LzInv t bits wide (stepZ t bits wide x i) (i + 1) := by
  have hB := lzB_le hb
  have hF := fullZ_le wide
  have hf1 : hasZ [] (t.extract i (i + 1)) := .inl (by rw [size_ex (by omega) (by omega)]; omega)
  obtain ⟨c, c1, c2⟩ := h.len
  unfold stepZ
  by_cases hh : hasZ x.D (t.extract x.a (i + 1))
  · rw [if_pos hh]
    refine ⟨.inr ⟨?_, hh⟩, h.big, h.full, h.ok, ⟨c, by omega, by omega⟩⟩
    rcases h.at_ with ⟨h1, h3, _⟩ | ⟨h1, _⟩ <;> omega
  rw [if_neg hh]
  have hat : x.a < i ∧ hasZ x.D (t.extract x.a i) := by
    rcases h.at_ with ⟨h1, h3, h4⟩ | h1
    · exfalso
      subst h1
      refine hh (.inl ?_)
      rw [h3, size_ex (by omega) (by omega)]
    · exact h1
  have hcode : widZ bits wide (knoZ bits x.D.length) ≤ 12 ∧ numZ bits x.D (t.extract x.a i) < 2 ^ widZ bits wide (knoZ bits x.D.length) := by
    refine ⟨(widZ_ok hb (by have := h.full; unfold knoZ; split <;> omega)).2.1, numZ_lt hb (fun hs => ?_) hat.2 h.full⟩
    rw [size_ex (by omega) (by omega)] at hs
    rw [byt_ex (by omega) (by omega)]
    exact hf _ (by omega)
  have h1 : ∀ D : List ByteArray, hasZ D (t.extract i (i + 1)) := fun D => .inl (by rw [size_ex (by omega) (by omega)]; omega)
  split
  · rename_i hful
    refine ⟨.inr ⟨by show i < i + 1; omega, h1 _⟩, fun s hs => (by cases hs), (by show lzB bits + 0 < _; omega), fun y hy => ?_, ⟨c + 1, ?_, ?_⟩⟩
    · have hk : knoZ bits (x.D.length + 1) ≤ 4095 := by have := h.full; unfold knoZ; rw [if_neg (by omega)]; omega
      obtain ⟨w1, w2, w3⟩ := widZ_ok (wide := wide) hb hk
      rcases List.mem_append.1 hy with hy | hy
      · rcases List.mem_append.1 hy with hy | hy
        · exact h.ok y hy
        · rw [List.mem_singleton.1 hy]; exact hcode
      · rw [List.mem_singleton.1 hy]
        exact ⟨w2, Nat.pow_lt_pow_right (by decide) (by omega)⟩
    · dsimp only
      rw [List.length_nil]
      have := h.full
      omega
    · show (x.out ++ _ ++ _).length ≤ _
      simp only [List.length_append, List.length_singleton]
      omega
  · rename_i hful
    refine ⟨.inr ⟨by show i < i + 1; omega, h1 _⟩, fun s hs => ?_, ?_, fun y hy => ?_, ⟨c, ?_, ?_⟩⟩
    · rcases List.mem_append.1 hs with hs | hs
      · exact h.big s hs
      · rw [List.mem_singleton.1 hs, size_ex (by omega) (by omega)]
        omega
    · show lzB bits + (x.D ++ _).length < _
      simp only [List.length_append, List.length_singleton]
      omega
    · rcases List.mem_append.1 hy with hy | hy
      · exact h.ok y hy
      · rw [List.mem_singleton.1 hy]; exact hcode
    · show 3836 * c + (x.D ++ _).length ≤ _
      simp only [List.length_append, List.length_singleton]
      omega
    · show (x.out ++ _).length ≤ _
      simp only [List.length_append, List.length_singleton]
      omega
theorem inv_run {t : ByteArray} {bits : Nat} {wide : Bool} (h2 : 2 ≤ bits) (hb : bits ≤ 8) (hf : fitsZ bits t) : ∀ i, i ≤ t.size → LzInv t bits wide (runZ t bits wide i) i
  | 0, _ => inv_zero h2 hb
  | i + 1, h => inv_step h2 hb hf (by omega) (inv_run h2 hb hf i (by omega))
theorem sumZ_le : ∀ {l : List (Nat × Nat)}, (∀ y ∈ l, y.2 ≤ 12) → sumZ l ≤ 12 * l.length
  | [], _ => by simp [sumZ]
  | x :: l, h => by
    have ih := sumZ_le (l := l) fun y hy => h y (by simp [hy])
    have hx := h x (by simp)
    simp only [sumZ, List.map_cons, List.sum_cons, List.length_cons] at ih ⊢
    omega
theorem endZ_ok {t : ByteArray} {bits : Nat} {wide : Bool} (h2 : 2 ≤ bits) (hb : bits ≤ 8) (hf : fitsZ bits t) (hs : t.size ≤ 5000) : (∀ y ∈ (endZ t bits wide).1, y.2 ≤ 12 ∧ y.1 < 2 ^ y.2) ∧ (endZ t bits wide).1.length ≤ 5003 ∧ (endZ t bits wide).2 ≤ 4095 ∧ lzB bits ≤ (endZ t bits wide).2 := by
  have hB := lzB_le hb
  have hF := fullZ_le wide
  unfold endZ
  split
  · have h0 := inv_zero (t := t) (wide := wide) h2 hb
    exact ⟨h0.ok, by simp, by show lzB bits ≤ 4095; omega, Nat.le_refl _⟩
  · rename_i hne
    have h := inv_run (wide := wide) h2 hb hf t.size (Nat.le_refl _)
    obtain ⟨c, c1, c2⟩ := h.len
    have hfull := h.full
    rcases h.at_ with ⟨h1, _⟩ | ⟨h1, h3⟩
    · exact absurd h1 hne
    refine ⟨fun y hy => ?_, ?_, by show lzB bits + _ ≤ 4095; omega, by show lzB bits ≤ lzB bits + _; omega⟩
    · rcases List.mem_append.1 hy with hy | hy
      · exact h.ok y hy
      · rw [List.mem_singleton.1 hy]
        refine ⟨(widZ_ok hb (by unfold knoZ; split <;> omega)).2.1, numZ_lt hb (fun hs1 => ?_) h3 h.full⟩
        rw [size_ex (by omega) (by omega)] at hs1
        rw [byt_ex (by omega) (by omega)]
        exact hf _ (by omega)
    · show (_ ++ [_]).length ≤ 5003
      simp only [List.length_append, List.length_singleton]
      omega
theorem lzL_ok {t : ByteArray} {bits : Nat} {wide : Bool} (h2 : 2 ≤ bits) (hb : bits ≤ 8) (hf : fitsZ bits t) (hs : t.size ≤ 5000) : bitsOk (lzL t bits wide) ∧ (lzL t bits wide).length ≤ 5004 := by
  obtain ⟨h1, h3, h4, h5⟩ := endZ_ok (wide := wide) h2 hb hf hs
  obtain ⟨w1, w2, w3⟩ := widZ_ok (wide := wide) hb h4
  have hlen : (lzL t bits wide).length ≤ 5004 := by
    unfold lzL
    rw [List.length_append, List.length_singleton]
    omega
  have hall : ∀ y ∈ lzL t bits wide, y.2 ≤ 12 ∧ y.1 < 2 ^ y.2 := by
    intro y hy
    rcases List.mem_append.1 hy with hy | hy
    · exact h1 y hy
    · rw [List.mem_singleton.1 hy]
      refine ⟨w2, Nat.lt_of_le_of_lt ?_ w3⟩
      unfold lzB at h5
      show 2 ^ bits + 1 ≤ _
      omega
  refine ⟨⟨fun y hy => ⟨by have := (hall y hy).1; omega, (hall y hy).2⟩, ?_⟩, hlen⟩
  have := sumZ_le fun y hy => (hall y hy).1
  omega
end Go.Proofs.Ytjefdcbljpkmlaa.G
end
