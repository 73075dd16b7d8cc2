/- laws.FnExactRep: at every form and picture the program's Rep answers as the reference's, and leaves the picture as it was. -/
import Derived.Test.YtjcamejbdcaokaaF7
import Derived.Test.YtjcamejbdcaokaaLibOk
set_option linter.unusedVariables false
set_option linter.unusedSimpArgs false
namespace Go.Proofs.Ytjcamejbdcaokaa.Pure
open Go.RowKit Go.Proofs.Ytjcamejbdcaokaa.P Go.Proofs.Ytjcamejbdcaokaa.Lib Go.Proofs.YtjcamejbdcaokaaW.PrintWords Go.Proofs.YtjcamejbdcaokaaW.PrintLast Go.Proofs.YtjcamejbdcaokaaW.PrintMore
theorem pow_run (n : Nat) (hn : n ≤ 62) (d : Nat) : ∀ (i : Nat), n - i = d → i ≤ n → Ok (fun k => spec_l1Pow.l0 k (n : Int) ((2 : Int) ^ i) (i : Int)) (· = (2 : Int) ^ n) := by
  induction d with
  | zero =>
    intro i hd hi
    obtain rfl : i = n := by omega
    refine Ok.succ ?_
    simp only [spec_l1Pow.l0]
    exact Ok.no (by omega) (Ok.now _ rfl)
  | succ d ih =>
    intro i hd hi
    refine Ok.succ ?_
    simp only [spec_l1Pow.l0]
    refine Ok.yes (by omega) ?_
    have e1 : wrap64 ((2 : Int) ^ i * 2) = 2 ^ (i + 1) := by
      rw [← Int.pow_succ]
      have h1 := pow2_1 (i + 1)
      have h2 := pow2_le (show i + 1 ≤ 62 by omega)
      exact w64 (by omega) (by omega)
    have e2 : wrap64 ((i : Int) + 1) = ((i + 1 : Nat) : Int) := by unfold wrap64; omega
    rw [e1, e2]
    exact ih (i + 1) (by omega) (by omega)
theorem pow_ok (n : Nat) (hn : n ≤ 62) : Ok (fun k => spec_l1Pow.f k (n : Int)) (· = (2 : Int) ^ n) := by
  unfold spec_l1Pow.f
  exact pow_run n hn n 0 (by omega) (by omega)

theorem copy_run (l : List Int) (hl : l.length ≤ 1048576) (d : Nat) : ∀ (i : Nat), i + d = l.length → Ok (fun n => laws_toIntS.l0 n l (l.take i ++ List.replicate d 0) (i : Int)) (· = l) := by
  induction d with
  | zero =>
    intro i hi
    refine Ok.succ ?_
    simp only [laws_toIntS.l0]
    have c1 : ¬ (i : Int) < (l.length : Int) := by omega
    refine Ok.no c1 ?_
    rw [List.take_of_length_le (by omega)]
    exact Ok.now _ (by simp)
  | succ d ih =>
    intro i hi
    have hlt : i < l.length := by omega
    have c1 : (i : Int) < (l.length : Int) := by omega
    have c2 : (0 : Int) ≤ (i : Int) := by omega
    have hlen : (l.take i ++ List.replicate (d + 1) 0).length = l.length := by simp; omega
    have c3 : (i : Int) < ((l.take i ++ List.replicate (d + 1) (0 : Int)).length : Int) := by rw [hlen]; exact c1
    have e1 : wrap64 ((i : Int) + 1) = ((i + 1 : Nat) : Int) := by rw [w64 (by omega) (by omega)] <;> omega
    refine Ok.succ ?_
    simp only [laws_toIntS.l0]
    refine Ok.yes c1 (Ok.yes c2 (Ok.yes c3 ?_))
    rw [e1, Int.toNat_natCast]
    have e2 : (l.take i ++ List.replicate (d + 1) 0).set i (rd l (i : Int)) = l.take (i + 1) ++ List.replicate d 0 := by
      have hr : rd l (i : Int) = l[i] := by
        unfold rd
        rw [Int.toNat_natCast, List.getD_eq_getElem?_getD, List.getElem?_eq_getElem hlt, Option.getD_some]
      have ht : (l.take i).length = i := by rw [List.length_take]; omega
      rw [List.set_append, if_neg (by omega), ht, Nat.sub_self, List.replicate_succ, List.set_cons_zero, hr, List.take_add_one, List.getElem?_eq_getElem hlt, Option.toList_some, List.append_assoc]
      rfl
    rw [e2]
    exact ih (i + 1) (by omega)
theorem copy_ok (l : List Int) (hl : l.length ≤ 1048576) : Ok (fun n => laws_toIntS.f n l) (· = l) := by
  unfold laws_toIntS.f
  have c1 : (0 : Int) ≤ (l.length : Int) := by omega
  have c2 : ((l.length : Int)).toNat ≤ 35184372088832 := by omega
  refine Ok.yes c1 (Ok.yes c2 ?_)
  have h := copy_run l hl l.length 0 (by omega)
  rw [List.take_zero, List.nil_append] at h
  rw [Int.toNat_natCast]
  exact h
theorem same_run (l : List Int) (hl : l.length ≤ 1048576) (d : Nat) : ∀ (i : Nat), i + d = l.length → Ok (fun n => laws_eqIntS.l0 n l l (i : Int)) (· = true) := by
  induction d with
  | zero =>
    intro i hi
    refine Ok.succ ?_
    simp only [laws_eqIntS.l0]
    have c1 : ¬ (i : Int) < (l.length : Int) := by omega
    exact Ok.no c1 (Ok.now _ rfl)
  | succ d ih =>
    intro i hi
    have c1 : (i : Int) < (l.length : Int) := by omega
    have c2 : (0 : Int) ≤ (i : Int) := by omega
    have e1 : wrap64 ((i : Int) + 1) = ((i + 1 : Nat) : Int) := by rw [w64 (by omega) (by omega)] <;> omega
    refine Ok.succ ?_
    simp only [laws_eqIntS.l0]
    refine Ok.yes c1 (Ok.yes c2 (Ok.yes c1 (Ok.yes (by simp) ?_)))
    rw [e1]
    exact ih (i + 1) (by omega)
theorem same_ok (l : List Int) (hl : l.length ≤ 1048576) : Ok (fun n => laws_eqIntS.f n l l) (· = true) := by
  unfold laws_eqIntS.f
  exact Ok.yes rfl (same_run l hl l.length 0 (by omega))

/-! ### pictures that are ok -/
def small (a : Int) : Prop := a = 1 ∨ a = 2 ∨ a = 4 ∨ a = 8
instance (a : Int) : Decidable (small a) := by unfold small; infer_instance
def dok (kind depth : Int) : Prop := (kind = 1 ∨ kind = 4) ∧ small depth ∨ kind = 2 ∧ depth = 24 ∨ kind = 3 ∧ depth = 32
instance (a b : Int) : Decidable (dok a b) := by unfold dok; infer_instance
theorem small_ite (a : Int) : (if a = 1 then some true else (if a = 2 then some true else (if a = 4 then some true else some (a == 8)))) = some (decide (small a)) := by
  unfold small
  by_cases h1 : a = 1 <;> by_cases h2 : a = 2 <;> by_cases h4 : a = 4 <;> by_cases h8 : a = 8 <;> simp [h1, h2, h4, h8]
theorem small_eq (a : Int) : impl_smallDepth.f a = some (decide (small a)) := by
  unfold impl_smallDepth.f
  exact small_ite a
theorem dok_nat {kind depth : Int} (h : dok kind depth) : ∃ d : Nat, d ≤ 32 ∧ depth = (d : Int) := by
  unfold dok small at h
  exact ⟨depth.toNat, by omega, by omega⟩
theorem depthOk_ok (kind depth : Int) : Ok (fun k => impl_depthOk.f k kind depth) (· = decide (dok kind depth)) := by
  unfold impl_depthOk.f
  by_cases h1 : kind = 1
  · subst h1
    refine Ok.yes rfl (Ok.succ ?_)
    simp only [impl_depthOk.j0]
    refine Ok.yes (by simp) (Ok.binds (small_eq depth) (Ok.now _ ?_))
    simp [dok]
  · refine Ok.no h1 (Ok.succ ?_)
    simp only [impl_depthOk.j0]
    by_cases h4 : kind = 4
    · subst h4
      refine Ok.yes (by simp) (Ok.binds (small_eq depth) (Ok.now _ ?_))
      simp [dok]
    · refine Ok.no (by simpa using h4) ?_
      refine Ok.ite (fun h2 => Ok.now _ ?_) (fun h2 => Ok.ite (fun h3 => Ok.now _ ?_) (fun h3 => Ok.now _ ?_))
      · subst h2
        by_cases hd : depth = 24 <;> simp [dok, hd]
      · subst h3
        by_cases hd : depth = 32 <;> simp [dok, hd]
      · simp [dok, h1, h2, h3, h4]
theorem sdepth_ok (kind depth : Int) : Ok (fun k => spec_l8Depth.f k kind depth) (· = decide (dok kind depth)) := by
  unfold spec_l8Depth.f
  by_cases h1 : kind = 1
  · subst h1
    refine Ok.yes rfl (Ok.succ ?_)
    simp only [spec_l8Depth.j0]
    refine Ok.yes (by simp) (Ok.const (small_ite depth) ?_)
    simp [dok]
  · refine Ok.no h1 (Ok.succ ?_)
    simp only [spec_l8Depth.j0]
    by_cases h4 : kind = 4
    · subst h4
      refine Ok.yes (by simp) (Ok.const (small_ite depth) ?_)
      simp [dok]
    · refine Ok.no (by simpa using h4) ?_
      refine Ok.ite (fun h2 => Ok.now _ ?_) (fun h2 => Ok.ite (fun h3 => Ok.now _ ?_) (fun h3 => Ok.now _ ?_))
      · subst h2
        by_cases hd : depth = 24 <;> simp [dok, hd]
      · subst h3
        by_cases hd : depth = 32 <;> simp [dok, hd]
      · simp [dok, h1, h2, h3, h4]
theorem in0 (x a1 : Int) : spec_l1In.f x 0 a1 = some (!impl_outside.bad a1 x) := by
  unfold spec_l1In.f impl_outside.bad
  by_cases hx : x ≥ 0
  · have hx' : 0 ≤ x := hx
    rw [if_pos hx]; simp [hx']
  · have hx' : ¬ 0 ≤ x := hx
    rw [if_neg hx]; simp [hx']
theorem in1 (x a1 : Int) : spec_l1In.f x 1 a1 = some (decide (1 ≤ x ∧ x ≤ a1)) := by
  unfold spec_l1In.f
  by_cases hx : x ≥ 1
  · have hx' : 1 ≤ x := hx
    rw [if_pos hx]; simp [hx']
  · have hx' : ¬ 1 ≤ x := hx
    rw [if_neg hx]; simp [hx']
theorem iin1 (x a1 : Int) : impl_in.f x 1 a1 = some (decide (1 ≤ x ∧ x ≤ a1)) := by
  unfold impl_in.f
  by_cases hx : x ≥ 1
  · have hx' : 1 ≤ x := hx
    rw [if_pos hx]; simp [hx']
  · have hx' : ¬ 1 ≤ x := hx
    rw [if_neg hx]; simp [hx']
theorem shl_one (d : Nat) (hd : d ≤ 62) : shl .i64 1 (d : Int) = 2 ^ d := by
  unfold shl
  rw [Int.toNat_natCast]
  show IntKind.i64.wrap (1 * 2 ^ min d 64) = _
  rw [Nat.min_eq_left (show d ≤ 64 by omega), Int.one_mul, IntKind.wrap_i64]
  have h1 := pow2_1 d
  have h2 := pow2_le hd
  generalize (2 : Int) ^ d = z at h1 h2 ⊢
  omega
def colok (kind depth : Int) (cs : List Int) : Prop := if kind = 4 then (1 ≤ (cs.length : Int) ∧ (cs.length : Int) ≤ 2 ^ depth.toNat) ∧ ¬ cs.any (impl_outside.bad 16777215) = true else cs.length = 0
instance (a b : Int) (l : List Int) : Decidable (colok a b l) := by unfold colok; infer_instance
theorem colok4 {kind : Int} {D : Nat} {cs : List Int} (h : kind = 4) : colok kind (D : Int) cs ↔ ((1 ≤ (cs.length : Int) ∧ (cs.length : Int) ≤ 2 ^ D) ∧ ¬ cs.any (impl_outside.bad 16777215) = true) := by
  unfold colok
  rw [if_pos h, Int.toNat_natCast]
theorem colokn {kind depth : Int} {cs : List Int} (h : ¬ kind = 4) : colok kind depth cs ↔ cs.length = 0 := by
  unfold colok
  rw [if_neg h]
theorem drop_rd {l : List Int} {i : Nat} (h : i < l.length) : l.drop i = rd l (i : Int) :: l.drop (i + 1) := by
  rw [List.drop_eq_getElem_cons h]
  unfold rd
  rw [Int.toNat_natCast, List.getD_eq_getElem?_getD, List.getElem?_eq_getElem h, Option.getD_some]
theorem l8Colors_l (kind : Int) (D : Nat) (hD : D ≤ 32) (w h : Int) (cs ps : List Int) (hl : cs.length ≤ 1048576) (d : Nat) : ∀ (i : Nat), i + d = cs.length → (cs.any (impl_outside.bad 16777215) = (cs.drop i).any (impl_outside.bad 16777215)) →
    Ok (fun k => spec_l8Colors.l0 k (i : Int) kind (D : Int) w h cs ps) (· = decide (colok kind (D : Int) cs)) := by
  induction d with
  | zero =>
    intro i hi ha
    rw [List.drop_eq_nil_of_le (by omega), List.any_nil] at ha
    have c1 : ¬ (i : Int) < (cs.length : Int) := by omega
    refine Ok.succ ?_
    simp only [spec_l8Colors.l0]
    refine Ok.no c1 (Ok.ite (fun h4 => ?_) (fun h4 => Ok.now _ ?_))
    · refine (pow_ok D (by omega)).bind fun x hx => ?_
      subst hx
      refine Ok.binds (in1 _ _) (Ok.now _ ?_)
      rw [decide_eq_decide, colok4 h4, ha]
      simp
    · by_cases hz : cs.length = 0
      · rw [decide_eq_true ((colokn h4).2 hz), hz]; rfl
      · rw [decide_eq_false fun z => hz ((colokn h4).1 z)]
        exact beq_eq_false_iff_ne.2 (by omega)
  | succ d ih =>
    intro i hi ha
    have hlt : i < cs.length := by omega
    rw [drop_rd hlt, List.any_cons] at ha
    have c1 : (i : Int) < (cs.length : Int) := by omega
    have c2 : (0 : Int) ≤ (i : Int) := by omega
    have e1 : wrap64 ((i : Int) + 1) = ((i + 1 : Nat) : Int) := by rw [w64 (by omega) (by omega)] <;> omega
    refine Ok.succ ?_
    simp only [spec_l8Colors.l0]
    refine Ok.yes c1 (Ok.yes c2 ?_)
    rw [e1]
    refine Ok.binds (in0 _ _) ?_
    cases hb : impl_outside.bad 16777215 (rd cs (i : Int)) with
    | true =>
      rw [hb, Bool.true_or] at ha
      refine Ok.no (by simp) (Ok.now _ ?_)
      rw [decide_eq_false]
      intro z
      by_cases h4 : kind = 4
      · exact ((colok4 h4).1 z).2 ha
      · have := (colokn h4).1 z
        omega
    | false =>
      rw [hb, Bool.false_or] at ha
      exact Ok.yes (by simp) (ih (i + 1) (by omega) ha)
theorem l8Colors_ok (kind : Int) (D : Nat) (hD : D ≤ 32) (w h : Int) (cs ps : List Int) (hl : cs.length ≤ 1048576) : Ok (fun k => spec_l8Colors.f k kind (D : Int) w h cs ps) (· = decide (colok kind (D : Int) cs)) := by
  unfold spec_l8Colors.f
  exact l8Colors_l kind D hD w h cs ps hl cs.length 0 (by omega) (by rw [List.drop_zero])
def most (kind depth : Int) (cs : List Int) : Int := if kind = 4 then (cs.length : Int) - 1 else 2 ^ depth.toNat - 1
def imok (kind depth w h : Int) (cs ps : List Int) : Prop := dok kind depth ∧ (1 ≤ w ∧ w ≤ 20) ∧ (1 ≤ h ∧ h ≤ 20) ∧ (ps.length : Int) = wrap64 (w * h) ∧ colok kind depth cs ∧ ¬ ps.any (impl_outside.bad (most kind depth cs)) = true
instance (a b c d : Int) (l m : List Int) : Decidable (imok a b c d l m) := by unfold imok; infer_instance
theorem pix_l (b kind depth w h : Int) (cs ps : List Int) (hl : ps.length ≤ 1048576) (d : Nat) : ∀ (i : Nat), i + d = ps.length → (ps.any (impl_outside.bad b) = (ps.drop i).any (impl_outside.bad b)) →
    Ok (fun k => spec_ImageOk.l0 k b (i : Int) kind depth w h cs ps) (· = !(ps.any (impl_outside.bad b))) := by
  induction d with
  | zero =>
    intro i hi ha
    rw [List.drop_eq_nil_of_le (by omega), List.any_nil] at ha
    have c1 : ¬ (i : Int) < (ps.length : Int) := by omega
    refine Ok.succ ?_
    simp only [spec_ImageOk.l0]
    refine Ok.no c1 (Ok.now _ ?_)
    rw [ha]; rfl
  | succ d ih =>
    intro i hi ha
    have hlt : i < ps.length := by omega
    rw [drop_rd hlt, List.any_cons] at ha
    have c1 : (i : Int) < (ps.length : Int) := by omega
    have c2 : (0 : Int) ≤ (i : Int) := by omega
    have e1 : wrap64 ((i : Int) + 1) = ((i + 1 : Nat) : Int) := by rw [w64 (by omega) (by omega)] <;> omega
    refine Ok.succ ?_
    simp only [spec_ImageOk.l0]
    refine Ok.yes c1 (Ok.yes c2 ?_)
    rw [e1]
    refine Ok.binds (in0 _ _) ?_
    cases hb : impl_outside.bad b (rd ps (i : Int)) with
    | true =>
      rw [hb, Bool.true_or] at ha
      refine Ok.no (by simp) (Ok.now _ ?_)
      rw [ha]; rfl
    | false =>
      rw [hb, Bool.false_or] at ha
      exact Ok.yes (by simp) (ih (i + 1) (by omega) ha)
theorem sImageOk_ok (kind depth w h : Int) (cs ps : List Int) (hc : cs.length ≤ 1048576) (hp : ps.length ≤ 1048576) : Ok (fun k => spec_ImageOk.f k kind depth w h cs ps) (· = decide (imok kind depth w h cs ps)) := by
  have bad : ¬ imok kind depth w h cs ps → Ok (fun k => spec_ImageOk.j0 k true kind depth w h cs ps) (· = decide (imok kind depth w h cs ps)) := fun hn => by
    refine Ok.succ ?_
    simp only [spec_ImageOk.j0]
    exact Ok.yes (by simp) (Ok.now _ (by rw [decide_eq_false hn]))
  unfold spec_ImageOk.f
  refine (sdepth_ok kind depth).bind fun x hx => ?_
  subst hx
  by_cases h1 : dok kind depth
  · refine Ok.yes (decide_eq_true h1) (Ok.binds (in1 _ _) ?_)
    by_cases h2 : 1 ≤ w ∧ w ≤ 20
    · refine Ok.yes (decide_eq_true h2) (Ok.binds (in1 _ _) ?_)
      by_cases h3 : 1 ≤ h ∧ h ≤ 20
      · refine Ok.yes (decide_eq_true h3) ?_
        refine Ok.ite (fun h4 => ?_) (fun h4 => bad fun z => h4 z.2.2.2.1)
        obtain ⟨D, hD, rfl⟩ := dok_nat h1
        refine (l8Colors_ok kind D hD w h cs ps hc).bind fun x hx => ?_
        subst hx
        by_cases h5 : colok kind (D : Int) cs
        · rw [decide_eq_true h5]
          refine Ok.succ ?_
          simp only [spec_ImageOk.j0]
          refine Ok.no (by simp) ?_
          refine (pow_ok D (by omega)).bind fun x hx => ?_
          subst hx
          have p1 := pow2_1 D
          have p2 := pow2_32 (D := D) hD
          have e1 : wrap64 ((2 : Int) ^ D - 1) = 2 ^ D - 1 := w64 (by omega) (by omega)
          have e2 : wrap64 ((cs.length : Int) - 1) = (cs.length : Int) - 1 := w64 (by omega) (by omega)
          rw [e1, e2]
          have fin : ∀ b, most kind (D : Int) cs = b → Ok (fun k => spec_ImageOk.j1 k b kind (D : Int) w h cs ps) (· = decide (imok kind (D : Int) w h cs ps)) := fun b hb => by
            refine Ok.succ ?_
            simp only [spec_ImageOk.j1]
            refine (pix_l b kind (D : Int) w h cs ps hp ps.length 0 (by omega) (by rw [List.drop_zero])).mono fun r hr => ?_
            rw [hr]
            cases ha : ps.any (impl_outside.bad b) with
            | true =>
              rw [decide_eq_false]
              · rfl
              · intro z
                exact z.2.2.2.2.2 (by rw [hb]; exact ha)
            | false =>
              rw [decide_eq_true]
              · rfl
              · exact ⟨h1, h2, h3, h4, h5, by rw [hb, ha]; exact Bool.false_ne_true⟩
          refine Ok.ite (fun h6 => fin _ ?_) (fun h6 => fin _ ?_)
          · unfold most; rw [if_pos h6]
          · unfold most; rw [if_neg h6, Int.toNat_natCast]
        · rw [decide_eq_false h5]
          exact bad fun z => h5 z.2.2.2.2.1
      · exact Ok.no (by simpa using h3) (bad fun z => h3 z.2.2.1)
    · exact Ok.no (by simpa using h2) (bad fun z => h2 z.2.1)
  · exact Ok.no (by simpa using h1) (bad fun z => h1 z.1)
theorem iImageOk_ok (kind depth w h : Int) (cs ps : List Int) (hc : cs.length ≤ 1048576) : Ok (fun k => impl_ImageOk.f k kind depth w h cs ps) (· = decide (imok kind depth w h cs ps)) := by
  have bad : ¬ imok kind depth w h cs ps → Ok (fun k => impl_ImageOk.j0 k true kind depth w h cs ps) (· = decide (imok kind depth w h cs ps)) := fun hn => by
    refine Ok.succ ?_
    simp only [impl_ImageOk.j0]
    exact Ok.yes (by simp) (Ok.now _ (by rw [decide_eq_false hn]))
  unfold impl_ImageOk.f
  refine (depthOk_ok kind depth).bind fun x hx => ?_
  subst hx
  by_cases h1 : dok kind depth
  · refine Ok.yes (decide_eq_true h1) (Ok.binds (iin1 _ _) ?_)
    by_cases h2 : 1 ≤ w ∧ w ≤ 20
    · refine Ok.yes (decide_eq_true h2) (Ok.binds (iin1 _ _) ?_)
      by_cases h3 : 1 ≤ h ∧ h ≤ 20
      · refine Ok.yes (decide_eq_true h3) ?_
        by_cases h4 : (ps.length : Int) = wrap64 (w * h)
        · have e0 : ((ps.length : Int) != wrap64 (w * h)) = false := by simpa using h4
          rw [e0]
          obtain ⟨D, hD, rfl⟩ := dok_nat h1
          have c0 : (0 : Int) ≤ (D : Int) := by omega
          have p1 := pow2_1 D
          have p2 := pow2_32 (D := D) hD
          have e1 : wrap64 ((2 : Int) ^ D - 1) = 2 ^ D - 1 := w64 (by omega) (by omega)
          have e2 : wrap64 ((cs.length : Int) - 1) = (cs.length : Int) - 1 := w64 (by omega) (by omega)
          have fin : ∀ b, most kind (D : Int) cs = b → colok kind (D : Int) cs → (!(ps.any (impl_outside.bad b))) = decide (imok kind (D : Int) w h cs ps) := fun b hb h5 => by
            cases ha : ps.any (impl_outside.bad b) with
            | true =>
              rw [decide_eq_false]
              · rfl
              · intro z
                exact z.2.2.2.2.2 (by rw [hb]; exact ha)
            | false =>
              rw [decide_eq_true]
              · rfl
              · exact ⟨h1, h2, h3, h4, h5, by rw [hb, ha]; exact Bool.false_ne_true⟩
          refine Ok.succ ?_
          simp only [impl_ImageOk.j0]
          refine Ok.no (by simp) ?_
          rw [shl_one D (by omega), e1, e2]
          refine Ok.ite (fun h6 => ?_) (fun h6 => ?_)
          · refine Ok.yes c0 (Ok.binds (iin1 _ _) ?_)
            by_cases h7 : 1 ≤ (cs.length : Int) ∧ (cs.length : Int) ≤ 2 ^ D
            · refine Ok.yes (decide_eq_true h7) ?_
              unfold impl_outside.f
              refine Ok.binds rfl ?_
              refine Ok.ite (fun h8 => Ok.now _ ?_) (fun h8 => ?_)
              · rw [decide_eq_false]
                intro z
                exact ((colok4 h6).1 z.2.2.2.2.1).2 h8
              · refine Ok.binds rfl (Ok.now _ (fin _ ?_ ?_))
                · unfold most; rw [if_pos h6]
                · exact (colok4 h6).2 ⟨h7, h8⟩
            · refine Ok.no (by simpa using h7) (Ok.now _ ?_)
              rw [decide_eq_false]
              intro z
              exact h7 ((colok4 h6).1 z.2.2.2.2.1).1
          · refine Ok.ite (fun h7 => ?_) (fun h7 => Ok.now _ ?_)
            · refine Ok.yes c0 ?_
              unfold impl_outside.f
              refine Ok.binds rfl (Ok.now _ (fin _ ?_ ?_))
              · unfold most; rw [if_neg h6, Int.toNat_natCast]
              · exact (colokn h6).2 (by omega)
            · rw [decide_eq_false]
              intro z
              have z5 := (colokn h6).1 z.2.2.2.2.1
              exact h7 (by omega)
        · have e0 : ((ps.length : Int) != wrap64 (w * h)) = true := by simpa using h4
          rw [e0]
          exact bad fun z => h4 z.2.2.2.1
      · exact Ok.no (by simpa using h3) (bad fun z => h3 z.2.2.1)
    · exact Ok.no (by simpa using h2) (bad fun z => h2 z.2.1)
  · exact Ok.no (by simpa using h1) (bad fun z => h1 z.1)

def tga (kind depth : Int) : Int := if kind = 4 ∧ depth = 8 then 1 else if kind = 2 ∨ kind = 3 then 2 else if kind = 1 ∧ depth = 8 then 3 else 0
theorem itga_ok (kind depth w h : Int) (cs ps : List Int) : Ok (fun k => impl_tgaType.f k kind depth w h cs ps) (· = tga kind depth) := by
  have j1 : ∀ b : Bool, b = decide (kind = 2 ∨ kind = 3) → ¬ (kind = 4 ∧ depth = 8) → Ok (fun k => impl_tgaType.j1 k b kind depth w h cs ps) (· = tga kind depth) := fun b hb hn => by
    refine Ok.succ ?_
    simp only [impl_tgaType.j1]
    unfold tga
    rw [if_neg hn]
    by_cases h23 : kind = 2 ∨ kind = 3
    · rw [hb, decide_eq_true h23, if_pos h23]
      exact Ok.yes rfl (Ok.now _ rfl)
    · rw [hb, decide_eq_false h23, if_neg h23]
      refine Ok.no (by simp) (Ok.ite (fun h1 => Ok.ite (fun h8 => Ok.now _ ?_) (fun h8 => Ok.now _ ?_)) (fun h1 => Ok.now _ ?_))
      · rw [if_pos ⟨h1, h8⟩]
      · rw [if_neg fun z => h8 z.2]
      · rw [if_neg fun z => h1 z.1]
  have j0 : ∀ b : Bool, b = decide (kind = 4 ∧ depth = 8) → Ok (fun k => impl_tgaType.j0 k b kind depth w h cs ps) (· = tga kind depth) := fun b hb => by
    refine Ok.succ ?_
    simp only [impl_tgaType.j0]
    by_cases h48 : kind = 4 ∧ depth = 8
    · rw [hb, decide_eq_true h48]
      refine Ok.yes rfl (Ok.now _ ?_)
      unfold tga
      rw [if_pos h48]
    · rw [hb, decide_eq_false h48]
      refine Ok.no (by simp) (Ok.ite (fun h2 => j1 _ ?_ h48) (fun h2 => j1 _ ?_ h48))
      · simp [h2]
      · by_cases h3 : kind = 3 <;> simp [h2, h3]
  unfold impl_tgaType.f
  refine Ok.ite (fun h4 => j0 _ ?_) (fun h4 => j0 _ ?_)
  · by_cases h8 : depth = 8 <;> simp [h4, h8]
  · simp [h4]
theorem stga_ok (kind depth w h : Int) (cs ps : List Int) : Ok (fun k => spec_l11Tga.f k kind depth w h cs ps) (· = tga kind depth) := by
  have j1 : ∀ b : Bool, b = decide (kind = 2 ∨ kind = 3) → ¬ (kind = 4 ∧ depth = 8) → Ok (fun k => spec_l11Tga.j1 k b kind depth w h cs ps) (· = tga kind depth) := fun b hb hn => by
    refine Ok.succ ?_
    simp only [spec_l11Tga.j1]
    unfold tga
    rw [if_neg hn]
    by_cases h23 : kind = 2 ∨ kind = 3
    · rw [hb, decide_eq_true h23, if_pos h23]
      exact Ok.yes rfl (Ok.now _ rfl)
    · rw [hb, decide_eq_false h23, if_neg h23]
      refine Ok.no (by simp) (Ok.ite (fun h1 => Ok.ite (fun h8 => Ok.now _ ?_) (fun h8 => Ok.now _ ?_)) (fun h1 => Ok.now _ ?_))
      · rw [if_pos ⟨h1, h8⟩]
      · rw [if_neg fun z => h8 z.2]
      · rw [if_neg fun z => h1 z.1]
  have j0 : ∀ b : Bool, b = decide (kind = 4 ∧ depth = 8) → Ok (fun k => spec_l11Tga.j0 k b kind depth w h cs ps) (· = tga kind depth) := fun b hb => by
    refine Ok.succ ?_
    simp only [spec_l11Tga.j0]
    by_cases h48 : kind = 4 ∧ depth = 8
    · rw [hb, decide_eq_true h48]
      refine Ok.yes rfl (Ok.now _ ?_)
      unfold tga
      rw [if_pos h48]
    · rw [hb, decide_eq_false h48]
      refine Ok.no (by simp) (Ok.ite (fun h2 => j1 _ ?_ h48) (fun h2 => j1 _ ?_ h48))
      · simp [h2]
      · by_cases h3 : kind = 3 <;> simp [h2, h3]
  unfold spec_l11Tga.f
  refine Ok.ite (fun h4 => j0 _ ?_) (fun h4 => j0 _ ?_)
  · by_cases h8 : depth = 8 <;> simp [h4, h8]
  · simp [h4]
/-- Which forms can hold a picture that is ok. -/
def holds (form kind depth : Int) (cs : List Int) : Bool :=
  if form = 1 then true else if form = 2 then (if kind = 4 then ((cs.length : Int) == 2 ^ depth.toNat) else false) else if form = 3 then (if kind = 2 then true else if kind = 4 then depth == 8 else false) else if form = 4 then decide (tga kind depth > 0) else if form = 5 then (if kind = 1 then true else kind == 2) else false
def repv (form kind depth w h : Int) (cs ps : List Int) : Bool := if imok kind depth w h cs ps then holds form kind depth cs else false
theorem srep_ok (form kind depth w h : Int) (cs ps : List Int) (hc : cs.length ≤ 1048576) (hp : ps.length ≤ 1048576) : Ok (fun k => spec_Rep.f k form kind depth w h cs ps) (· = repv form kind depth w h cs ps) := by
  unfold spec_Rep.f repv
  refine (sImageOk_ok kind depth w h cs ps hc hp).bind fun x hx => ?_
  subst hx
  by_cases hok : imok kind depth w h cs ps
  · rw [if_pos hok]
    refine Ok.yes (decide_eq_true hok) ?_
    obtain ⟨D, hD, rfl⟩ := dok_nat hok.1
    unfold holds
    refine Ok.ite (fun h1 => Ok.now _ (by rw [if_pos h1])) (fun h1 => ?_)
    rw [if_neg h1]
    refine Ok.ite (fun h2 => ?_) (fun h2 => ?_)
    · rw [if_pos h2]
      unfold spec_l10Rep.f
      by_cases h4 : kind = 4
      · simp only [if_pos h4]
        refine Ok.bind (P := (· = ((cs.length : Int) == 2 ^ D))) ?_ fun x hx => Ok.now _ (by rw [hx, Int.toNat_natCast])
        refine (pow_ok D (by omega)).bind fun x hx => ?_
        subst hx
        exact Ok.now _ rfl
      · simp only [if_neg h4]
        exact Ok.binds rfl (Ok.now _ rfl)
    rw [if_neg h2]
    refine Ok.ite (fun h3 => ?_) (fun h3 => ?_)
    · rw [if_pos h3]
      unfold spec_l11Rep.f
      by_cases k2 : kind = 2
      · simp only [if_pos k2]
        refine Ok.binds (a := true) ?_ (Ok.now _ rfl)
        simp
      · simp only [if_neg k2]
        by_cases k4 : kind = 4
        · simp only [if_pos k4]
          exact Ok.binds rfl (Ok.now _ rfl)
        · simp only [if_neg k4]
          exact Ok.binds rfl (Ok.now _ rfl)
    rw [if_neg h3]
    refine Ok.ite (fun h4 => ?_) (fun h4 => ?_)
    · rw [if_pos h4]
      refine (stga_ok kind (D : Int) w h cs ps).bind fun x hx => ?_
      subst hx
      exact Ok.now _ rfl
    rw [if_neg h4]
    refine Ok.ite (fun h5 => ?_) (fun h5 => Ok.now _ (by rw [if_neg h5]))
    rw [if_pos h5]
    unfold spec_l12Rep.f
    by_cases k1 : kind = 1
    · simp only [if_pos k1]
      exact Ok.binds rfl (Ok.now _ rfl)
    · simp only [if_neg k1]
      exact Ok.binds rfl (Ok.now _ rfl)
  · rw [if_neg hok]
    exact Ok.no (by simpa using hok) (Ok.now _ rfl)
theorem irep_ok (form kind depth w h : Int) (cs ps : List Int) (hc : cs.length ≤ 1048576) : Ok (fun k => impl_Rep.f k form kind depth w h cs ps) (· = repv form kind depth w h cs ps) := by
  unfold impl_Rep.f repv
  refine (iImageOk_ok kind depth w h cs ps hc).bind fun x hx => ?_
  subst hx
  by_cases hok : imok kind depth w h cs ps
  · rw [if_pos hok]
    refine Ok.yes (decide_eq_true hok) ?_
    obtain ⟨D, hD, rfl⟩ := dok_nat hok.1
    have c0 : (0 : Int) ≤ (D : Int) := by omega
    have hok2 : decide (imok kind (D : Int) w h cs ps) = true := decide_eq_true hok
    unfold holds
    refine Ok.ite (fun h1 => Ok.now _ (by rw [if_pos h1])) (fun h1 => ?_)
    rw [if_neg h1]
    refine Ok.ite (fun h2 => ?_) (fun h2 => ?_)
    · rw [if_pos h2]
      refine Ok.bind (P := (· = if kind = 4 then ((cs.length : Int) == 2 ^ D) else false)) ?_ fun x hx => Ok.now _ (by rw [hx, Int.toNat_natCast])
      unfold impl_gifHolds.f
      refine (iImageOk_ok kind (D : Int) w h cs ps hc).bind fun x hx => ?_
      subst hx
      refine Ok.yes hok2 (Ok.ite (fun h4 => ?_) (fun h4 => Ok.now _ (by rw [if_neg h4])))
      rw [if_pos h4]
      refine Ok.yes c0 (Ok.now _ ?_)
      rw [shl_one D (by omega)]
    rw [if_neg h2]
    refine Ok.ite (fun h3 => ?_) (fun h3 => ?_)
    · rw [if_pos h3]
      refine Ok.bind (P := (· = if kind = 2 then true else if kind = 4 then (D : Int) == 8 else false)) ?_ fun x hx => Ok.now _ hx
      unfold impl_bmpHolds.f
      refine (iImageOk_ok kind (D : Int) w h cs ps hc).bind fun x hx => ?_
      subst hx
      refine Ok.yes hok2 (Ok.ite (fun k2 => ?_) (fun k2 => ?_))
      · rw [if_pos k2]
        exact Ok.no (by simp) (Ok.now _ rfl)
      · rw [if_neg k2]
        exact Ok.ite (fun k4 => Ok.now _ (by rw [if_pos k4])) (fun k4 => Ok.now _ (by rw [if_neg k4]))
    rw [if_neg h3]
    refine Ok.ite (fun h4 => ?_) (fun h4 => ?_)
    · rw [if_pos h4]
      refine (itga_ok kind (D : Int) w h cs ps).bind fun x hx => ?_
      subst hx
      exact Ok.now _ rfl
    rw [if_neg h4]
    refine Ok.ite (fun h5 => ?_) (fun h5 => Ok.now _ (by rw [if_neg h5]))
    rw [if_pos h5]
    refine Ok.bind (P := (· = if kind = 1 then true else kind == 2)) ?_ fun x hx => Ok.now _ hx
    unfold impl_pnmHolds.f
    refine (iImageOk_ok kind (D : Int) w h cs ps hc).bind fun x hx => ?_
    subst hx
    exact Ok.yes hok2 (Ok.ite (fun k1 => Ok.now _ (by rw [if_pos k1])) (fun k1 => Ok.now _ (by rw [if_neg k1])))
  · rw [if_neg hok]
    exact Ok.no (by simpa using hok) (Ok.now _ rfl)
theorem szInts_eq (l : List Int) (a : Int) (ha : 0 ≤ a ∧ a ≤ 1048576) (hl : l.length ≤ 9223372036854775807) : laws_szIntS.f l a = some (if a - (l.length : Int) < 0 then -1 else a - (l.length : Int)) := by
  have e1 : wrap64 (a - (l.length : Int)) = a - (l.length : Int) := w64 (by omega) (by omega)
  unfold laws_szIntS.f
  rw [e1]
  split <;> rfl
theorem toImage_ok (a b c d : Int) (cs ps : List Int) (hc : cs.length ≤ 1048576) (hp : ps.length ≤ 1048576) : Ok (fun k => laws_toImage.f k a b c d cs ps) (· = (a, b, c, d, cs, ps)) := by
  unfold laws_toImage.f
  refine (copy_ok cs hc).bind fun x hx => ?_
  subst hx
  refine (copy_ok ps hp).bind fun x hx => ?_
  subst hx
  exact Ok.now _ rfl
/-- No condition but that the lists are such as a machine can hold. -/
theorem FnExactRep (form kind depth w h : Int) (cs ps : List Int) (hc : cs.length ≤ 9223372036854775807) (hp : ps.length ≤ 9223372036854775807) : ∃ k, laws_FnExactRep.f k form kind depth w h cs ps = some true := by
  apply Ok.rounds
  unfold laws_FnExactRep.f
  have hsz : laws_szImage.f kind depth w h cs ps 1048576 = some (if 1048576 - (cs.length : Int) < 0 then -1 else if 1048576 - (cs.length : Int) - (ps.length : Int) < 0 then -1 else 1048576 - (cs.length : Int) - (ps.length : Int)) := by
    unfold laws_szImage.f
    rw [szInts_eq cs 1048576 (by omega) hc]
    by_cases h1 : 1048576 - (cs.length : Int) < 0
    · rw [if_pos h1, if_pos h1]; rfl
    · rw [if_neg h1, if_neg h1, Option.bind_some, if_neg h1, szInts_eq ps _ ⟨by omega, by omega⟩ hp]
      by_cases h2 : 1048576 - (cs.length : Int) - (ps.length : Int) < 0
      · rw [if_pos h2]; rfl
      · rw [if_neg h2, Option.bind_some, if_neg h2]
  refine Ok.binds hsz ?_
  by_cases h1 : 1048576 - (cs.length : Int) < 0
  · rw [if_pos h1]
    exact Ok.yes (by omega) (Ok.now _ rfl)
  rw [if_neg h1]
  by_cases h2 : 1048576 - (cs.length : Int) - (ps.length : Int) < 0
  · rw [if_pos h2]
    exact Ok.yes (by omega) (Ok.now _ rfl)
  rw [if_neg h2]
  have hc2 : cs.length ≤ 1048576 := by omega
  have hp2 : ps.length ≤ 1048576 := by omega
  refine Ok.no h2 ?_
  refine (toImage_ok kind depth w h cs ps hc2 hp2).bind fun x hx => ?_
  subst hx
  refine (srep_ok form kind depth w h cs ps hc2 hp2).bind fun x hx => ?_
  subst hx
  refine (toImage_ok kind depth w h cs ps hc2 hp2).bind fun x hx => ?_
  subst hx
  refine (irep_ok form kind depth w h cs ps hc2).bind fun x hx => ?_
  subst hx
  refine Ok.no (by simp) ?_
  refine (toImage_ok kind depth w h cs ps hc2 hp2).bind fun x hx => ?_
  subst hx
  refine Ok.bind (P := (· = true)) ?_ fun x hx => ?_
  · unfold laws_eqImage.f
    refine Ok.yes rfl (Ok.yes rfl (Ok.yes rfl (Ok.yes rfl ?_)))
    refine (same_ok cs hc2).bind fun x hx => ?_
    subst hx
    refine Ok.yes rfl ?_
    refine (same_ok ps hp2).bind fun x hx => ?_
    subst hx
    exact Ok.yes rfl (Ok.now _ rfl)
  · subst hx
    exact Ok.yes rfl (Ok.now _ rfl)
end Go.Proofs.Ytjcamejbdcaokaa.Pure
