/- The reference's RowPut tells what the program's RowPut tells. -/
import Derived.Test.YteikopjhekhchaaF36
import Derived.Test.YteikopjhekhchaaF38
import Derived.Test.YteikopjhekhchaaLibPack
namespace Go.Proofs.Yteikopjhekhchaa.Pure
open Go.RowKit Go.Proofs.Yteikopjhekhchaa.P Go.Proofs.Yteikopjhekhchaa.Lib Go.Proofs.YteikopjhekhchaaW.PrintWords Go.Proofs.YteikopjhekhchaaW.PrintLast

theorem pkPut_congr (v v' : Int) (s s' : Nat) (high : Bool) (d : Nat) : ∀ (k k' : Nat) (xs : List Int) (pos : Int), (∀ i, i < d → pkBit v s high (k + i) = pkBit v' s' high (k' + i)) → pkPut v s high k xs pos d = pkPut v' s' high k' xs pos d := by
  induction d with
  | zero => intro k k' xs pos _; rfl
  | succ d ih =>
    intro k k' xs pos h
    simp only [pkPut]
    have h0 := h 0 (by omega)
    rw [Nat.add_zero, Nat.add_zero] at h0
    rw [h0]
    refine ih (k + 1) (k' + 1) _ _ (fun i hi => ?_)
    have h1 := h (i + 1) (by omega)
    rw [show k + (i + 1) = k + 1 + i by omega, show k' + (i + 1) = k' + 1 + i by omega] at h1
    exact h1
theorem pkPut_add (v : Int) (s : Nat) (high : Bool) (b : Nat) (a : Nat) : ∀ (k : Nat) (xs : List Int) (pos : Int), pkPut v s high k xs pos (a + b) = pkPut v s high (k + a) (pkPut v s high k xs pos a) (pos + a) b := by
  induction a with
  | zero => intro k xs pos; simp [pkPut]
  | succ a ih =>
    intro k xs pos
    rw [show a + 1 + b = (a + b) + 1 by omega]
    simp only [pkPut]
    rw [ih]
    congr 1 <;> (push_cast; omega)
theorem two_halves (v : Int) (xs : List Int) (pos : Int) : pkPut v 32 true 0 xs pos 32 = pkPut (v % 65536) 16 true 0 (pkPut (v / 65536) 16 true 0 xs pos 16) (pos + 16) 16 := by
  rw [show (32 : Nat) = 16 + 16 from rfl, pkPut_add]
  rw [pkPut_congr v (v / 65536) (16 + 16) 16 true 16 0 0 xs pos, pkPut_congr v (v % 65536) (16 + 16) 16 true 16 (0 + 16) 0 _ _]
  · rfl
  · intro i hi
    unfold pkBit
    have h : i = 0 ∨ i = 1 ∨ i = 2 ∨ i = 3 ∨ i = 4 ∨ i = 5 ∨ i = 6 ∨ i = 7 ∨ i = 8 ∨ i = 9 ∨ i = 10 ∨ i = 11 ∨ i = 12 ∨ i = 13 ∨ i = 14 ∨ i = 15 := by omega
    rcases h with rfl | rfl | rfl | rfl | rfl | rfl | rfl | rfl | rfl | rfl | rfl | rfl | rfl | rfl | rfl | rfl <;> (simp only [if_true, Nat.reduceAdd, Nat.reduceSub, Int.reducePow]; omega)
  · intro i hi
    unfold pkBit
    have h : i = 0 ∨ i = 1 ∨ i = 2 ∨ i = 3 ∨ i = 4 ∨ i = 5 ∨ i = 6 ∨ i = 7 ∨ i = 8 ∨ i = 9 ∨ i = 10 ∨ i = 11 ∨ i = 12 ∨ i = 13 ∨ i = 14 ∨ i = 15 := by omega
    rcases h with rfl | rfl | rfl | rfl | rfl | rfl | rfl | rfl | rfl | rfl | rfl | rfl | rfl | rfl | rfl | rfl <;> (simp only [if_true, Nat.reduceAdd, Nat.reduceSub, Int.reducePow]; omega)
def rowBits (D : Nat) : List Int → List S59
  | [] => []
  | x :: l => if D > 24 then ⟨x / 65536, 16⟩ :: ⟨x % 65536, 16⟩ :: rowBits D l else ⟨x, (D : Int)⟩ :: rowBits D l
theorem row_bits (D : Nat) (hD : D ≤ 24 ∨ D = 32) : ∀ (l xs : List Int) (pos : Int), pkBits true (rowBits D l) xs pos = pkRow D l xs pos
  | [], xs, pos => rfl
  | x :: l, xs, pos => by
    rcases hD with h | rfl
    · simp only [rowBits]
      rw [if_neg (by omega)]
      simp only [pkBits, pkRow, Int.toNat_natCast]
      exact row_bits D (.inl h) l _ _
    · simp only [rowBits]
      rw [if_pos (by omega)]
      simp only [pkBits, pkRow]
      rw [row_bits 32 (.inr rfl) l _ _, two_halves]
      congr 1
      omega
theorem rowBits_len (D : Nat) : ∀ l : List Int, (rowBits D l).length ≤ 2 * l.length
  | [] => Nat.le_refl 0
  | x :: l => by
    have h := rowBits_len D l
    simp only [rowBits]
    split <;> (simp only [List.length_cons]; omega)
def rowGood (D : Nat) (x : Int) : Prop := 0 ≤ x ∧ x ≤ 2 ^ D - 1
theorem rowGood_le {D : Nat} {x : Int} (hD : D ≤ 24 ∨ D = 32) (h : rowGood D x) : 0 ≤ x ∧ x ≤ 4294967295 := by
  have h2 := pow2_32 (D := D) (by omega)
  unfold rowGood at h
  omega
theorem rowBits_ok (D : Nat) (hD : D ≤ 24 ∨ D = 32) : ∀ l : List Int, (∀ x ∈ l, rowGood D x) → (∀ b ∈ rowBits D l, sizeOk b) ∧ bitsSum (rowBits D l) ≤ 32 * l.length
  | [], _ => by simp [rowBits, bitsSum]
  | x :: l, h => by
    obtain ⟨h1, h2⟩ := rowBits_ok D hD l (fun y hy => h y (List.mem_cons_of_mem _ hy))
    have hx := rowGood_le hD (h x List.mem_cons_self)
    simp only [rowBits]
    by_cases hd : D > 24
    · rw [if_pos hd]
      refine ⟨?_, by simp only [bitsSum, List.length_cons]; push_cast; omega⟩
      intro b hb
      rcases List.mem_cons.mp hb with rfl | hb
      · exact ⟨by show 0 ≤ x / 65536; omega, by show x / 65536 ≤ 4294967296; omega, by show (0 : Int) ≤ 16; omega, by show (16 : Int) ≤ 32; omega⟩
      rcases List.mem_cons.mp hb with rfl | hb
      · exact ⟨by show 0 ≤ x % 65536; omega, by show x % 65536 ≤ 4294967296; omega, by show (0 : Int) ≤ 16; omega, by show (16 : Int) ≤ 32; omega⟩
      exact h1 b hb
    · rw [if_neg hd]
      refine ⟨?_, by simp only [bitsSum, List.length_cons]; push_cast; omega⟩
      intro b hb
      rcases List.mem_cons.mp hb with rfl | hb
      · exact ⟨hx.1, by show x ≤ 4294967296; omega, by show (0 : Int) ≤ (D : Int); omega, by show (D : Int) ≤ 32; omega⟩
      exact h1 b hb
theorem rd_drop {l : List Int} {i : Nat} (h : i < l.length) : l.drop i = rd l (i : Int) :: l.drop (i + 1) := by
  rw [List.drop_eq_getElem_cons h]
  unfold rd
  rw [Int.toNat_natCast, List.getD_eq_getElem?_getD, List.getElem?_eq_getElem h, Option.getD_some]
theorem l8_run (l : List Int) (D : Nat) (hD : D ≤ 24 ∨ D = 32) (hl : l.length ≤ 1000) (hg : ∀ x ∈ l, rowGood D x) (d : Nat) : ∀ (i : Nat) (acc : List S59), i + d = l.length → acc ++ rowBits D (l.drop i) = rowBits D l →
    Ok (fun n => spec_l8Row.l0 n l (D : Int) acc (i : Int)) (· = strOfNums (pkRow D l [] 0)) := by
  have hlen := rowBits_len D l
  induction d with
  | zero =>
    intro i acc hi ha
    rw [List.drop_eq_nil_of_le (by omega)] at ha
    simp only [rowBits, List.append_nil] at ha
    subst ha
    refine Ok.succ ?_
    simp only [spec_l8Row.l0]
    have c1 : ¬ (i : Int) < (l.length : Int) := by omega
    refine Ok.no c1 ?_
    obtain ⟨h1, h2⟩ := rowBits_ok D hD l hg
    have hp := l1Put_ok (rowBits D l) true (by omega) h1 (by omega)
    rw [row_bits D hD] at hp
    exact Ok.bind hp (fun a ha => Ok.now a ha)
  | succ d ih =>
    intro i acc hi ha
    have hlt : i < l.length := by omega
    have hal : acc.length ≤ 2000 := by
      have := congrArg List.length ha
      rw [List.length_append] at this
      omega
    rw [rd_drop hlt] at ha
    have hx : rowGood D (rd l (i : Int)) := hg _ (rd_mem (by omega) (by omega))
    obtain ⟨x, hxx⟩ : ∃ x, rd l (i : Int) = x := ⟨_, rfl⟩
    rw [hxx] at ha hx
    have hx2 := rowGood_le hD hx
    have e1 : wrap64 ((i : Int) + 1) = ((i + 1 : Nat) : Int) := by rw [w64 (by omega) (by omega)] <;> omega
    have c1 : (i : Int) < (l.length : Int) := by omega
    have c2 : (0 : Int) ≤ (i : Int) := by omega
    have e2 : wrap64 (Int.tdiv x 65536) = x / 65536 := by rw [tdiv_nn hx2.1, w64 (by omega) (by omega)]
    have e3 : Int.tmod x 65536 = x % 65536 := tmod_nn hx2.1
    simp only [rowBits] at ha
    refine Ok.succ ?_
    simp only [spec_l8Row.l0]
    refine Ok.yes c1 ?_
    rw [hxx, e1, e2, e3]
    by_cases hd : D > 24
    · rw [if_pos hd] at ha
      have c3 : (D : Int) > 24 := by omega
      have c4 : acc.length + [(⟨x / 65536, 16⟩ : S59), (⟨x % 65536, 16⟩ : S59)].length < 8796093022208 := by simp only [List.length_cons, List.length_nil]; omega
      refine Ok.yes c3 (Ok.yes c2 ?_)
      simp only [Option.bind_some]
      refine Ok.yes c4 ?_
      exact ih (i + 1) _ (by omega) (by rw [← ha]; simp)
    · rw [if_neg hd] at ha
      have c3 : ¬ (D : Int) > 24 := by omega
      have c4 : acc.length < 8796093022208 := by omega
      refine Ok.no c3 (Ok.yes c2 (Ok.yes c4 ?_))
      exact ih (i + 1) _ (by omega) (by rw [← ha]; simp)
theorem bad_good {D : Nat} {x : Int} : impl_outside.bad (2 ^ D - 1) x = false ↔ rowGood D x := by
  unfold impl_outside.bad rowGood
  simp
theorem bits_dec (a : Int) : spec_l8Bits.f a = some (decide (rowD a)) := by
  unfold spec_l8Bits.f rowD
  by_cases h1 : a = 1 <;> by_cases h2 : a = 2 <;> by_cases h3 : a = 4 <;> by_cases h4 : a = 8 <;> by_cases h5 : a = 24 <;> by_cases h6 : a = 32 <;> simp [h1, h2, h3, h4, h5, h6]
theorem scan_run (l : List Int) (D : Nat) (hD : D ≤ 24 ∨ D = 32) (hl : l.length ≤ 1000) (d : Nat) : ∀ (i : Nat), i + d = l.length → (l.any (impl_outside.bad (2 ^ D - 1)) = true → (l.drop i).any (impl_outside.bad (2 ^ D - 1)) = true) →
    Ok (fun n => spec_RowPut.l0 n l (D : Int) (i : Int)) (· = if l.any (impl_outside.bad (2 ^ D - 1)) = true then ⟨#[]⟩ else strOfNums (pkRow D l [] 0)) := by
  induction d with
  | zero =>
    intro i hi h
    rw [List.drop_eq_nil_of_le (by omega)] at h
    have hn : ¬ l.any (impl_outside.bad (2 ^ D - 1)) = true := fun q => by simpa using h q
    rw [if_neg hn]
    have hg : ∀ x ∈ l, rowGood D x := by
      intro x hx
      rw [← bad_good]
      cases hb : impl_outside.bad (2 ^ D - 1) x with
      | false => rfl
      | true => exact absurd (List.any_eq_true.2 ⟨x, hx, hb⟩) hn
    refine Ok.succ ?_
    simp only [spec_RowPut.l0]
    have c1 : ¬ (i : Int) < (l.length : Int) := by omega
    refine Ok.no c1 ?_
    have h8 := l8_run l D hD hl hg l.length 0 [] (by omega) (by simp)
    unfold spec_l8Row.f
    exact Ok.bind h8 (fun a ha => Ok.now a ha)
  | succ d ih =>
    intro i hi h
    have hlt : i < l.length := by omega
    rw [rd_drop hlt] at h
    have hm : rd l (i : Int) ∈ l := rd_mem (by omega) (by omega)
    obtain ⟨x, hxx⟩ : ∃ x, rd l (i : Int) = x := ⟨_, rfl⟩
    rw [hxx] at h hm
    have e1 : wrap64 ((i : Int) + 1) = ((i + 1 : Nat) : Int) := by rw [w64 (by omega) (by omega)] <;> omega
    have c1 : (i : Int) < (l.length : Int) := by omega
    have c2 : (0 : Int) ≤ (i : Int) := by omega
    have p1 := pow2_1 D
    have p2 := pow2_32 (D := D) (by omega)
    have e2 : wrap64 ((2 : Int) ^ D - 1) = 2 ^ D - 1 := w64 (by omega) (by omega)
    have e3 : spec_l1In.f x 0 ((2 : Int) ^ D - 1) = some (!impl_outside.bad (2 ^ D - 1) x) := by
      unfold spec_l1In.f impl_outside.bad
      by_cases hx : x ≥ 0
      · have hx' : 0 ≤ x := hx
        rw [if_pos hx]; simp [hx']
      · have hx' : ¬ 0 ≤ x := hx
        rw [if_neg hx]; simp [hx']
    refine Ok.succ ?_
    simp only [spec_RowPut.l0]
    refine Ok.yes c1 (Ok.yes c2 (Ok.bind (pow_ok D (by omega)) (fun a ha => ?_)))
    subst ha
    rw [hxx, e1, e2, e3]
    simp only [Option.bind_some]
    cases hb : impl_outside.bad (2 ^ D - 1) x with
    | true =>
      rw [if_pos (List.any_eq_true.2 ⟨x, hm, hb⟩)]
      refine Ok.no (by simp) ?_
      exact Ok.now _ rfl
    | false =>
      refine Ok.yes (by simp) ?_
      refine ih (i + 1) (by omega) (fun q => ?_)
      have := h q
      rw [List.any_cons, hb, Bool.false_or] at this
      exact this
/-- The reference's RowPut tells what the program's tells. -/
theorem rowPut_ok (l : List Int) (a : Int) : ∃ r, impl_RowPut.f l a = some r ∧ Ok (fun n => spec_RowPut.f n l a) (· = r) := by
  unfold impl_RowPut.f spec_RowPut.f
  simp only [bits_dec, Option.bind_some]
  by_cases hd : rowD a
  · rw [if_pos hd]
    have c1 : decide (rowD a) = true := decide_eq_true hd
    obtain ⟨D, rfl⟩ : ∃ D : Nat, a = (D : Int) := ⟨a.toNat, by unfold rowD at hd; omega⟩
    have hD : D ≤ 24 ∨ D = 32 := by unfold rowD at hd; omega
    rw [Int.toNat_natCast]
    by_cases hl : l.length ≤ 1000
    · rw [if_pos hl]
      have c2 : ¬ decide ((l.length : Int) > 1000) = true := by simp; omega
      refine ⟨if l.any (impl_outside.bad (2 ^ D - 1)) = true then ⟨#[]⟩ else strOfNums (pkRow D l [] 0), by split <;> rfl, Ok.yes c1 ?_⟩
      refine Ok.succ ?_
      simp only [spec_RowPut.j0]
      refine Ok.no c2 ?_
      exact scan_run l D hD hl l.length 0 (by omega) (fun q => by simpa using q)
    · rw [if_neg hl]
      refine ⟨_, rfl, Ok.yes c1 ?_⟩
      have c2 : decide ((l.length : Int) > 1000) = true := by simp; omega
      refine Ok.succ ?_
      simp only [spec_RowPut.j0]
      exact Ok.yes c2 (Ok.now _ rfl)
  · rw [if_neg hd]
    refine ⟨_, rfl, Ok.no (by simpa using hd) ?_⟩
    refine Ok.succ ?_
    simp only [spec_RowPut.j0]
    exact Ok.yes (by simp) (Ok.now _ rfl)
end Go.Proofs.Yteikopjhekhchaa.Pure
