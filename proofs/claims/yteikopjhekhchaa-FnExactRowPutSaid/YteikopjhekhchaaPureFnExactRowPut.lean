/- laws.FnExactRowPut: the program's RowPut tells what the reference's tells, and leaves its row as it was. -/
import Derived.Test.YteikopjhekhchaaF10
import Derived.Test.YteikopjhekhchaaLibRow
namespace Go.Proofs.Yteikopjhekhchaa.Pure
open Go.RowKit Go.Proofs.Yteikopjhekhchaa.P Go.Proofs.Yteikopjhekhchaa.Lib Go.Proofs.YteikopjhekhchaaW.PrintWords Go.Proofs.YteikopjhekhchaaW.PrintLast

theorem copy_run (l : List Int) (hl : l.length ≤ 1048576) (d : Nat) : ∀ (i : Nat), i + d = l.length → Ok (fun n => laws_toIntS.l0 n l (l.take i ++ List.replicate d 0) (i : Int)) (· = l) := by
  induction d with
  | zero =>
    intro i hi
    refine Ok.succ ?_
    simp only [laws_toIntS.l0]
    have c1 : ¬ (i : Int) < (l.length : Int) := by omega
    refine Ok.no c1 ?_
    rw [List.take_of_length_le (by omega)]
    exact Ok.now _ (by simp)
  | succ d ih =>
    intro i hi
    have hlt : i < l.length := by omega
    have c1 : (i : Int) < (l.length : Int) := by omega
    have c2 : (0 : Int) ≤ (i : Int) := by omega
    have hlen : (l.take i ++ List.replicate (d + 1) 0).length = l.length := by simp; omega
    have c3 : (i : Int) < ((l.take i ++ List.replicate (d + 1) (0 : Int)).length : Int) := by rw [hlen]; exact c1
    have e1 : wrap64 ((i : Int) + 1) = ((i + 1 : Nat) : Int) := by rw [w64 (by omega) (by omega)] <;> omega
    refine Ok.succ ?_
    simp only [laws_toIntS.l0]
    refine Ok.yes c1 (Ok.yes c2 (Ok.yes c3 ?_))
    rw [e1, Int.toNat_natCast]
    have e2 : (l.take i ++ List.replicate (d + 1) 0).set i (rd l (i : Int)) = l.take (i + 1) ++ List.replicate d 0 := by
      have hr : rd l (i : Int) = l[i] := by
        unfold rd
        rw [Int.toNat_natCast, List.getD_eq_getElem?_getD, List.getElem?_eq_getElem hlt, Option.getD_some]
      have ht : (l.take i).length = i := by rw [List.length_take]; omega
      rw [List.set_append, if_neg (by omega), ht, Nat.sub_self, List.replicate_succ, List.set_cons_zero, hr, List.take_add_one, List.getElem?_eq_getElem hlt, Option.toList_some, List.append_assoc]
      rfl
    rw [e2]
    exact ih (i + 1) (by omega)
theorem copy_ok (l : List Int) (hl : l.length ≤ 1048576) : Ok (fun n => laws_toIntS.f n l) (· = l) := by
  unfold laws_toIntS.f
  have c1 : (0 : Int) ≤ (l.length : Int) := by omega
  have c2 : ((l.length : Int)).toNat ≤ 35184372088832 := by omega
  refine Ok.yes c1 (Ok.yes c2 ?_)
  have h := copy_run l hl l.length 0 (by omega)
  rw [List.take_zero, List.nil_append] at h
  rw [Int.toNat_natCast]
  exact h
theorem same_run (l : List Int) (hl : l.length ≤ 1048576) (d : Nat) : ∀ (i : Nat), i + d = l.length → Ok (fun n => laws_eqIntS.l0 n l l (i : Int)) (· = true) := by
  induction d with
  | zero =>
    intro i hi
    refine Ok.succ ?_
    simp only [laws_eqIntS.l0]
    have c1 : ¬ (i : Int) < (l.length : Int) := by omega
    exact Ok.no c1 (Ok.now _ rfl)
  | succ d ih =>
    intro i hi
    have c1 : (i : Int) < (l.length : Int) := by omega
    have c2 : (0 : Int) ≤ (i : Int) := by omega
    have e1 : wrap64 ((i : Int) + 1) = ((i + 1 : Nat) : Int) := by rw [w64 (by omega) (by omega)] <;> omega
    refine Ok.succ ?_
    simp only [laws_eqIntS.l0]
    refine Ok.yes c1 (Ok.yes c2 (Ok.yes c1 (Ok.yes (by simp) ?_)))
    rw [e1]
    exact ih (i + 1) (by omega)
theorem same_ok (l : List Int) (hl : l.length ≤ 1048576) : Ok (fun n => laws_eqIntS.f n l l) (· = true) := by
  unfold laws_eqIntS.f
  exact Ok.yes rfl (same_run l hl l.length 0 (by omega))

theorem FnExactRowPut : laws_FnExactRowPut.Pure := by
  intro l a h1 h2 h3 h4
  unfold laws_FnExactRowPut.f
  by_cases hbig : (l.length : Int) > 1048576
  · exact ⟨0, by rw [if_pos hbig]⟩
  have hl : l.length ≤ 1048576 := by omega
  obtain ⟨r, hr, hs⟩ := rowPut_ok l a
  refine Ok.rounds ?_
  refine Ok.no hbig ?_
  refine Ok.bind (copy_ok l hl) (fun x hx => ?_)
  subst hx
  refine Ok.bind hs (fun y hy => ?_)
  subst hy
  refine Ok.bind (copy_ok _ hl) (fun z hz => ?_)
  subst hz
  refine Ok.binds hr ?_
  refine Ok.yes rfl ?_
  refine Ok.bind (copy_ok _ hl) (fun u hu => ?_)
  subst hu
  refine Ok.bind (same_ok _ hl) (fun v hv => ?_)
  subst hv
  exact Ok.yes rfl (Ok.now _ rfl)
end Go.Proofs.Yteikopjhekhchaa.Pure
