/- Runs that were packed are read as they were. -/
import Derived.Test.YtdkhjcmhjlbpaaaMk
set_option linter.unusedVariables false
namespace Go.Proofs.Ytdkhjcmhjlbpaaa.G
open Go
theorem byts_packF {l : List Int} {z : Nat} : ∀ (f a : Nat) (out : List Int), byts out → byts (packF l z f a out)
  | 0, a, out, h => h
  | f + 1, a, out, h => by
    by_cases g : a < l.length
    · rw [packF_step g]
      have hk := pk_le g
      refine byts_packF f _ _ (byts_app (byts_app h fun x hx => ?_) (byts_les _ _))
      rw [List.mem_singleton.1 hx]
      omega
    · rw [packF_stop g]
      exact h
theorem byts_nil : byts [] := fun x hx => by cases hx
theorem byts_pack {l : List Int} {z : Nat} : byts (pack l z) := byts_packF _ _ _ byts_nil
theorem runL_pack {l A B : List Int} {z : Nat} (hA : byts A) (hB : byts B) (hz : 1 ≤ z ∧ z ≤ 4) (hf : fits z l) : ∀ (f a : Nat) (out : List Int), a ≤ l.length → l.length ≤ a + f → packF l z f a out = pack l z → runL (txt (A ++ pack l z ++ B)) z l.length f (l.take a) (A.length + out.length) = some (l, A.length + (pack l z).length)
  | 0, a, out, h1, h2, h3 => by
    have : a = l.length := by omega
    subst this
    simp only [packF] at h3
    rw [runL, List.take_length, h3]
  | f + 1, a, out, h1, h2, h3 => by
    by_cases g : a < l.length
    case neg =>
      rw [packF_stop g] at h3
      have : a = l.length := by omega
      subst this
      rw [runL, List.take_length, if_pos (Nat.le_refl _), h3]
    rw [packF_step g] at h3
    have hk := pk_le g
    obtain ⟨r, hr⟩ := packF_pre (l := l) (z := z) f (a + pkN l a) (out ++ [((pkH l a : Nat) : Int)] ++ les z (seg l a (pkK l a)))
    have hp : pack l z = out ++ [((pkH l a : Nat) : Int)] ++ les z (seg l a (pkK l a)) ++ r := by rw [← h3, hr]
    have hsl : (seg l a (pkK l a)).length = pkK l a := seg_len (by omega)
    have hsf : fits z (seg l a (pkK l a)) := fun x hx => hf x (seg_mem hx)
    have hbp : byts (pack l z) := byts_pack
    have ih := runL_pack hA hB hz hf f (a + pkN l a) (out ++ [((pkH l a : Nat) : Int)] ++ les z (seg l a (pkK l a))) (by omega) (by omega) h3
    have hsz : (txt (A ++ pack l z ++ B)).size = A.length + (pack l z).length + B.length := by rw [txt_size]; simp; omega
    have hpl : (pack l z).length = out.length + 1 + pkK l a * z + r.length := by rw [hp]; simp [les_len, hsl]; omega
    have hbo : byts out := fun x hx => hbp x (by rw [hp]; simp [hx])
    have hbr : byts r := fun x hx => hbp x (by rw [hp]; simp [hx])
    have hb1 : byts [((pkH l a : Nat) : Int)] := fun x hx => by rw [List.mem_singleton.1 hx]; omega
    have hby : byt (txt (A ++ pack l z ++ B)) (A.length + out.length) = ((pkH l a : Nat) : Int) := by
      rw [byt_txt (byts_app (byts_app hA hbp) hB), hp]
      have e : A ++ (out ++ [((pkH l a : Nat) : Int)] ++ les z (seg l a (pkK l a)) ++ r) ++ B = (A ++ out) ++ ([((pkH l a : Nat) : Int)] ++ (les z (seg l a (pkK l a)) ++ r ++ B)) := by simp
      rw [e, show A.length + out.length = (A ++ out).length + 0 by simp, getD_app_right]
      rfl
    have hnum := nums_at hz (seg l a (pkK l a)) (A ++ out ++ [((pkH l a : Nat) : Int)]) (r ++ B) (byts_app (byts_app hA hbo) hb1) (byts_app hbr hB) hsf
    have e3 : A ++ out ++ [((pkH l a : Nat) : Int)] ++ les z (seg l a (pkK l a)) ++ (r ++ B) = A ++ pack l z ++ B := by rw [hp]; simp
    rw [e3, hsl, show (A ++ out ++ [((pkH l a : Nat) : Int)]).length = A.length + out.length + 1 by simp; omega] at hnum
    have hlt : (l.take a).length = a := by simp; omega
    rw [List.length_append, List.length_append, List.length_singleton, les_len, hsl] at ih
    rw [runL, if_neg (by rw [hlt]; omega), if_neg (by rw [hsz]; omega), hby, hlt]
    by_cases k2 : 2 ≤ sm l a
    · have eN : pkN l a = min 128 (sm l a) := if_pos k2
      have eH : pkH l a = 127 + min 128 (sm l a) := if_pos k2
      have eK : pkK l a = 1 := if_pos k2
      rw [eK, Nat.one_mul] at ih hpl
      rw [eK, nums_one, seg_one g] at hnum
      have hx : fld (txt (A ++ pack l z ++ B)) (A.length + out.length + 1) z false z = l.getD a 0 := by injection hnum
      have hsame := seg_same (l := l) (a := a) (n := pkN l a) (by omega) fun j hj => sm_same (by omega)
      rw [if_pos (by omega), if_neg (by rw [hsz]; omega), hx, show (((pkH l a : Nat) : Int)).toNat - 127 = pkN l a by omega, ← hsame, take_seg (by omega), show A.length + out.length + 1 + z = A.length + (out.length + 1 + z) by omega]
      exact ih
    · have eN : pkN l a = ot l a := if_neg k2
      have eH : pkH l a = ot l a - 1 := if_neg k2
      have eK : pkK l a = ot l a := if_neg k2
      have ho := ot_le g
      have e4 : (((pkH l a : Nat) : Int)).toNat + 1 = pkN l a := by omega
      rw [eK, ← eN] at ih hpl hnum
      rw [if_neg (by omega), e4, if_neg (by rw [hsz]; omega)]
      show runL _ z l.length f (l.take a ++ nums (txt (A ++ pack l z ++ B)) z (A.length + out.length + 1) (pkN l a)) _ = _
      rw [hnum, take_seg (by omega), show A.length + out.length + 1 + pkN l a * z = A.length + (out.length + 1 + pkN l a * z) by omega]
      exact ih
/-- A text with more behind it is read alike, as far as it was read. -/
theorem runL_more {s t : ByteArray} {z count : Nat} (hst : s.size ≤ t.size) (hb : ∀ i, i < s.size → byt t i = byt s i) : ∀ (m : Nat) (out : List Int) (a : Nat) (l : List Int) (a2 : Nat), runL s z count m out a = some (l, a2) → runL t z count m out a = some (l, a2)
  | 0, out, a, l, a2, e => e
  | m + 1, out, a, l, a2, e => by
    have hfl : ∀ p, p + z ≤ s.size → fld t p z false z = fld s p z false z := fun p hp => fld_congr (fun i hi => hb _ (by omega)) z (Nat.le_refl _)
    simp only [runL] at e ⊢
    split at e
    · rw [if_pos (by assumption)]
      exact e
    · rename_i h1
      rw [if_neg h1]
      split at e
      · cases e
      · rename_i h2
        rw [if_neg (by omega), hb a (by omega)]
        split at e
        · rename_i h3
          rw [if_pos h3]
          split at e
          · cases e
          · rename_i h4
            rw [if_neg (by omega), hfl _ (by omega)]
            exact runL_more hst hb m _ _ l a2 e
        · rename_i h3
          rw [if_neg h3]
          split at e
          · cases e
          · rename_i h4
            rw [if_neg (by omega)]
            have : ((List.range ((byt s a).toNat + 1)).map fun i => fld t (a + 1 + i * z) z false z) = (List.range ((byt s a).toNat + 1)).map fun i => fld s (a + 1 + i * z) z false z := by
              refine List.map_congr_left fun i hi => hfl _ ?_
              have hi := List.mem_range.1 hi
              have := Nat.mul_le_mul_right z (show i + 1 ≤ (byt s a).toNat + 1 by omega)
              rw [Nat.succ_mul] at this
              omega
            rw [this]
            exact runL_more hst hb m _ _ l a2 e
end Go.Proofs.Ytdkhjcmhjlbpaaa.G
