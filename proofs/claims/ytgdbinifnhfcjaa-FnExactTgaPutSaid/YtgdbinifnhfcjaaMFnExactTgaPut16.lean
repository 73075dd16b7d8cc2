/- Texts of one law put together (wip/merge2.py). -/
import Derived.Test.YtgdbinifnhfcjaaMFnExactTgaPut13
import Derived.Test.YtgdbinifnhfcjaaMFnExactTgaPut15
/- laws.FnExactTgaPut: at every picture the program's TgaPut writes what the reference's writes, and leaves the picture as it was. -/
set_option linter.unusedVariables false
set_option linter.unusedSimpArgs false
namespace Go.Proofs.Ytgdbinifnhfcjaa.Pic
open Go.RowKit Go.Proofs.Ytgdbinifnhfcjaa.P Go.Proofs.Ytgdbinifnhfcjaa.Lib Go.Proofs.YtgdbinifnhfcjaaW.PrintWords Go.Proofs.YtgdbinifnhfcjaaW.PrintLast Go.Proofs.YtgdbinifnhfcjaaW.PrintMore
theorem copy_run (l : List Int) (hl : l.length ≤ 1048576) (d : Nat) : ∀ (i : Nat), i + d = l.length → Ok (fun n => laws_toIntS.l0 n l (l.take i ++ List.replicate d 0) (i : Int)) (· = l) := by
  induction d with
  | zero =>
    intro i hi
    refine Ok.succ ?_
    simp only [laws_toIntS.l0]
    have c1 : ¬ (i : Int) < (l.length : Int) := by omega
    refine Ok.no c1 ?_
    rw [List.take_of_length_le (by omega)]
    exact Ok.now _ (by simp)
  | succ d ih =>
    intro i hi
    have hlt : i < l.length := by omega
    have c1 : (i : Int) < (l.length : Int) := by omega
    have c2 : (0 : Int) ≤ (i : Int) := by omega
    have hlen : (l.take i ++ List.replicate (d + 1) 0).length = l.length := by simp; omega
    have c3 : (i : Int) < ((l.take i ++ List.replicate (d + 1) (0 : Int)).length : Int) := by rw [hlen]; exact c1
    have e1 : wrap64 ((i : Int) + 1) = ((i + 1 : Nat) : Int) := by rw [w64 (by omega) (by omega)] <;> omega
    refine Ok.succ ?_
    simp only [laws_toIntS.l0]
    refine Ok.yes c1 (Ok.yes c2 (Ok.yes c3 ?_))
    rw [e1, Int.toNat_natCast]
    have e2 : (l.take i ++ List.replicate (d + 1) 0).set i (rd l (i : Int)) = l.take (i + 1) ++ List.replicate d 0 := by
      have hr : rd l (i : Int) = l[i] := by
        unfold rd
        rw [Int.toNat_natCast, List.getD_eq_getElem?_getD, List.getElem?_eq_getElem hlt, Option.getD_some]
      have ht : (l.take i).length = i := by rw [List.length_take]; omega
      rw [List.set_append, if_neg (by omega), ht, Nat.sub_self, List.replicate_succ, List.set_cons_zero, hr, List.take_add_one, List.getElem?_eq_getElem hlt, Option.toList_some, List.append_assoc]
      rfl
    rw [e2]
    exact ih (i + 1) (by omega)
theorem copy_ok (l : List Int) (hl : l.length ≤ 1048576) : Ok (fun n => laws_toIntS.f n l) (· = l) := by
  unfold laws_toIntS.f
  have c1 : (0 : Int) ≤ (l.length : Int) := by omega
  have c2 : ((l.length : Int)).toNat ≤ 35184372088832 := by omega
  refine Ok.yes c1 (Ok.yes c2 ?_)
  have h := copy_run l hl l.length 0 (by omega)
  rw [List.take_zero, List.nil_append] at h
  rw [Int.toNat_natCast]
  exact h
theorem same_run (l : List Int) (hl : l.length ≤ 1048576) (d : Nat) : ∀ (i : Nat), i + d = l.length → Ok (fun n => laws_eqIntS.l0 n l l (i : Int)) (· = true) := by
  induction d with
  | zero =>
    intro i hi
    refine Ok.succ ?_
    simp only [laws_eqIntS.l0]
    have c1 : ¬ (i : Int) < (l.length : Int) := by omega
    exact Ok.no c1 (Ok.now _ rfl)
  | succ d ih =>
    intro i hi
    have c1 : (i : Int) < (l.length : Int) := by omega
    have c2 : (0 : Int) ≤ (i : Int) := by omega
    have e1 : wrap64 ((i : Int) + 1) = ((i + 1 : Nat) : Int) := by rw [w64 (by omega) (by omega)] <;> omega
    refine Ok.succ ?_
    simp only [laws_eqIntS.l0]
    refine Ok.yes c1 (Ok.yes c2 (Ok.yes c1 (Ok.yes (by simp) ?_)))
    rw [e1]
    exact ih (i + 1) (by omega)
theorem same_ok (l : List Int) (hl : l.length ≤ 1048576) : Ok (fun n => laws_eqIntS.f n l l) (· = true) := by
  unfold laws_eqIntS.f
  exact Ok.yes rfl (same_run l hl l.length 0 (by omega))

theorem szInts_eq (l : List Int) (a : Int) (ha : 0 ≤ a ∧ a ≤ 1048576) (hl : l.length ≤ 9223372036854775807) : laws_szIntS.f l a = some (if a - (l.length : Int) < 0 then -1 else a - (l.length : Int)) := by
  have e1 : wrap64 (a - (l.length : Int)) = a - (l.length : Int) := w64 (by omega) (by omega)
  unfold laws_szIntS.f
  rw [e1]
  split <;> rfl
theorem toImage_ok (a b c d : Int) (cs ps : List Int) (hc : cs.length ≤ 1048576) (hp : ps.length ≤ 1048576) : Ok (fun k => laws_toImage.f k a b c d cs ps) (· = (a, b, c, d, cs, ps)) := by
  unfold laws_toImage.f
  refine (copy_ok cs hc).bind fun x hx => ?_
  subst hx
  refine (copy_ok ps hp).bind fun x hx => ?_
  subst hx
  exact Ok.now _ rfl
theorem szImage_eq (kind depth w h : Int) (cs ps : List Int) (hc : cs.length ≤ 9223372036854775807) (hp : ps.length ≤ 9223372036854775807) : laws_szImage.f kind depth w h cs ps 1048576 = some (if 1048576 - (cs.length : Int) < 0 then -1 else if 1048576 - (cs.length : Int) - (ps.length : Int) < 0 then -1 else 1048576 - (cs.length : Int) - (ps.length : Int)) := by
  unfold laws_szImage.f
  rw [szInts_eq cs 1048576 (by omega) hc]
  by_cases h1 : 1048576 - (cs.length : Int) < 0
  · rw [if_pos h1, if_pos h1]; rfl
  · rw [if_neg h1, if_neg h1, Option.bind_some, if_neg h1, szInts_eq ps _ ⟨by omega, by omega⟩ hp]
    by_cases h2 : 1048576 - (cs.length : Int) - (ps.length : Int) < 0
    · rw [if_pos h2]; rfl
    · rw [if_neg h2, Option.bind_some, if_neg h2]
theorem eqImage_self (kind depth w h : Int) (cs ps : List Int) (hc2 : cs.length ≤ 1048576) (hp2 : ps.length ≤ 1048576) : Ok (fun k => laws_eqImage.f k kind depth w h cs ps kind depth w h cs ps) (· = true) := by
  unfold laws_eqImage.f
  refine Ok.yes rfl (Ok.yes rfl (Ok.yes rfl (Ok.yes rfl ?_)))
  refine (same_ok cs hc2).bind fun x hx => ?_
  subst hx
  refine Ok.yes rfl ?_
  refine (same_ok ps hp2).bind fun x hx => ?_
  subst hx
  exact Ok.yes rfl (Ok.now _ rfl)

theorem FnExactTgaPut (kind depth w h : Int) (cs ps : List Int) (runs : Bool) (hc : cs.length ≤ 9223372036854775807) (hp : ps.length ≤ 9223372036854775807) : ∃ k, laws_FnExactTgaPut.f k kind depth w h cs ps runs = some true := by
  apply Ok.rounds
  unfold laws_FnExactTgaPut.f
  refine Ok.binds (szImage_eq kind depth w h cs ps hc hp) ?_
  by_cases h1 : 1048576 - (cs.length : Int) < 0
  · rw [if_pos h1]
    exact Ok.yes (by omega) (Ok.now _ rfl)
  rw [if_neg h1]
  by_cases h2 : 1048576 - (cs.length : Int) - (ps.length : Int) < 0
  · rw [if_pos h2]
    exact Ok.yes (by omega) (Ok.now _ rfl)
  rw [if_neg h2]
  have hc2 : cs.length ≤ 1048576 := by omega
  have hp2 : ps.length ≤ 1048576 := by omega
  refine Ok.no h2 ?_
  refine (toImage_ok kind depth w h cs ps hc2 hp2).bind fun x hx => ?_
  subst hx
  refine (stgaput_ok kind depth w h cs ps runs hc2 hp2).bind fun s hs => ?_
  refine (toImage_ok kind depth w h cs ps hc2 hp2).bind fun x hx => ?_
  subst hx
  refine (iput_ok kind depth w h cs ps runs hc2).bind fun t ht => ?_
  refine Ok.yes (by rw [hs, ht]) ?_
  refine (toImage_ok kind depth w h cs ps hc2 hp2).bind fun x hx => ?_
  subst hx
  refine (eqImage_self kind depth w h cs ps hc2 hp2).bind fun x hx => ?_
  subst hx
  exact Ok.yes rfl (Ok.now _ rfl)
end Go.Proofs.Ytgdbinifnhfcjaa.Pic
