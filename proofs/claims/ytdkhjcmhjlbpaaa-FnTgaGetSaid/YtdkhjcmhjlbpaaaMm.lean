/- A TGA that was written is read as it was. -/
import Derived.Test.YtdkhjcmhjlbpaaaMl
import Derived.Test.YtdkhjcmhjlbpaaaWv
import Derived.Test.YtdkhjcmhjlbpaaaWq
set_option linter.unusedVariables false
namespace Go.Proofs.Ytdkhjcmhjlbpaaa.G
open Go
/-- The same with any last byte of the head. -/
def tgaG (k d w h : Int) (cs ps : List Int) (runs : Bool) (xl : Int) : List Int := [0, tHas cs, tT k d + (if runs then 8 else 0)] ++ les 2 [0, cs.length] ++ [tBits cs, 0, 0, 0, 0] ++ les 2 [w, h] ++ [d, xl] ++ les 3 cs ++ tData k d ps runs
theorem tgaL_eq (k d w h : Int) (cs ps : List Int) (runs : Bool) : tgaL k d w h cs ps runs = tgaG k d w h cs ps runs (tLast k) := rfl
theorem unr_rol {k p : Int} (h : 0 ≤ p ∧ p ≤ 4294967295) : unr k (rol k p) = p := by
  unfold unr rol
  split <;> omega
theorem map_unr_rol {k : Int} {ps : List Int} (h : small ps) : (ps.map (rol k)).map (unr k) = ps := by
  rw [List.map_map]
  refine Eq.trans (List.map_congr_left fun x hx => ?_) (List.map_id ps)
  exact unr_rol (h x hx)
theorem le_two (n : Nat) : le n 2 = [((n % 256 : Nat) : Int), ((n / 256 % 256 : Nat) : Int)] := by
  show [((n / 1 % 256 : Nat) : Int), ((n / 256 ^ 1 % 256 : Nat) : Int)] = _
  rw [Nat.div_one, Nat.pow_one]
theorem fld_two (s : ByteArray) (p : Nat) : fld s p 2 false 2 = byt s (p + 1) * 256 + byt s p := by
  show (0 * 256 + byt s (p + 1)) * 256 + byt s p = _
  omega
theorem fld_four' (s : ByteArray) (p : Nat) : fld s p 4 false 4 = ((byt s (p + 3) * 256 + byt s (p + 2)) * 256 + byt s (p + 1)) * 256 + byt s p := by
  show (((0 * 256 + byt s (p + 3)) * 256 + byt s (p + 2)) * 256 + byt s (p + 1)) * 256 + byt s p = _
  omega
theorem tData_byts (k d : Int) (ps : List Int) (runs : Bool) : byts (tData k d ps runs) := by
  unfold tData
  split
  · exact byts_pack
  · exact byts_les _ _
set_option maxHeartbeats 1000000 in
theorem hd_put {s : ByteArray} {k d W H : Int} {cs ps : List Int} {runs : Bool} {xl T : Int} (hok : imgOk k d W H cs ps) (ht : tT k d ≠ 0) (hx : xl = tLast k ∨ xl = tLast k - 32) (hT3 : (runs = true ∧ T = tT k d + 8) ∨ (runs = false ∧ T = tT k d)) (hhd : hdOf s = ⟨0, tHas cs, T, 0, cs.length, tBits cs, 0, W, H, d, xl⟩) :
    (hdOf s).kind = k ∧ ((hdOf s).runs ↔ runs = true) ∧ (hdOf s).lst = (if xl = tLast k then 32 else 0) ∧ (hdOf s).ok ∧ (hdOf s).size := by
  obtain ⟨l1, l2, l3⟩ := imgOk_len hok
  obtain ⟨z, hd, hz0, hz1, hz4, hsm, hfit, hT2, hcf, hcs⟩ := rol_fits hok ht
  obtain ⟨h1, h2, h3, h4, h5, h6⟩ := imgOk_iff.1 hok
  have hcc := h5.2
  clear hsm hfit hcf hcs h4 h5 h6 l3 hz0
  have hH : (cs = [] ∧ tHas cs = 0 ∧ tBits cs = 0) ∨ (cs ≠ [] ∧ tHas cs = 1 ∧ tBits cs = 24) := by
    unfold tHas tBits
    by_cases c : cs = []
    · exact .inl ⟨c, if_pos c, if_pos c⟩
    · exact .inr ⟨c, if_neg c, if_neg c⟩
  have hL : (k = 3 ∧ tLast k = 40) ∨ (k ≠ 3 ∧ tLast k = 32) := by
    unfold tLast
    by_cases c : k = 3
    · exact .inl ⟨c, if_pos c⟩
    · exact .inr ⟨c, if_neg c⟩
  have hc0 : cs.length = 0 ↔ cs = [] := List.length_eq_zero_iff
  have hK := tT_eq k d
  have p1 := (hdOf s).num_eq
  have p2 := (hdOf s).lst_eq
  have p3 := tK_eq (hdOf s).num (hdOf s).depth
  have p6 : (hdOf s).kind = tK (hdOf s).num (hdOf s).depth := rfl
  have p7 := (hdOf s).colors_eq
  rw [← p6] at p3
  have q1 : (hdOf s).number = T := by rw [hhd]
  have q2 : (hdOf s).depth = d := by rw [hhd]
  have q3 : (hdOf s).last = xl := by rw [hhd]
  rw [q1] at p1
  rw [q2] at p3
  rw [q3] at p2
  have hz4' : (k = 4 ∧ d = 8) ∨ (k = 1 ∧ d = 8) ∨ (k = 2 ∧ d = 24) ∨ (k = 3 ∧ d = 32) := by
    clear p1 p2 p3 p7 hH hL hT3 hx hcc
    unfold dOk at h1
    generalize tT k d = t at *
    omega
  have hnum : (hdOf s).num = tT k d := by
    clear p2 p3 p7 hH hL hx hcc hK h1 hz4'
    generalize (hdOf s).num = m at *
    generalize tT k d = t at *
    omega
  have hkind : (hdOf s).kind = k := by
    rw [hnum] at p3
    clear p1 p2 p7 hH hL hx hcc hT3 h1
    generalize (hdOf s).kind = kk at *
    generalize tT k d = t at *
    omega
  have hlst : (hdOf s).lst = if xl = tLast k then 32 else 0 := by
    rw [hkind] at p2
    clear p1 p3 p7 hH hcc hT3 h1 hK hz4'
    generalize (hdOf s).lst = m at *
    generalize tLast k = t at *
    split <;> omega
  have hruns : (hdOf s).runs ↔ runs = true := by
    unfold Hd.runs
    rw [q1]
    clear p1 p2 p3 p7 hH hcc h1 hK hz4' hL hx
    generalize tT k d = t at *
    rcases hT3 with ⟨r1, r2⟩ | ⟨r1, r2⟩ <;> rw [r1]
    · exact ⟨fun _ => rfl, fun _ => by omega⟩
    · exact ⟨fun h => by omega, fun h => by cases h⟩
  have hcolors : (hdOf s).colors := by
    rw [p7, hkind, hhd]
    dsimp only
    rcases hH with ⟨c1, c2, c3⟩ | ⟨c1, c2, c3⟩
    · right
      refine ⟨fun hk => ?_, c2, c3, by rw [c1]; rfl⟩
      have := (hcc.2 hk).1
      rw [c1] at this
      simp at this
    · left
      have hk : k = 4 := Classical.byContradiction fun hk => c1 (hcc.1 hk)
      exact ⟨hk, c2, c3, by have : cs.length ≠ 0 := fun h => c1 (hc0.1 h); omega, by omega⟩
  have hokH : (hdOf s).ok := by
    refine ⟨hcolors, ?_, ?_, ?_, ?_, ?_, ?_⟩
    · rw [hhd]
    · rw [hhd]
    · rw [hkind, hnum, show (hdOf s).depth = d by rw [hhd]]
    · rw [hnum]; exact ht
    · rw [hkind, show (hdOf s).depth = d by rw [hhd]]; exact h1
    · rw [hlst]; split <;> omega
  have hszH : (hdOf s).size := by
    unfold Hd.size
    rw [hhd]
    exact ⟨h2, h3⟩
  exact ⟨hkind, hruns, hlst, hokH, hszH⟩
set_option maxHeartbeats 1000000 in
theorem tgaGet_put {k d w h : Int} {cs ps : List Int} {runs : Bool} {xl : Int} (hok : imgOk k d w h cs ps) (ht : tT k d ≠ 0) (hx : xl = tLast k ∨ xl = tLast k - 32) :
    tgaGet (txt (tgaG k d w h cs ps runs xl)) = some ⟨k, d, w, h, cs, if xl = tLast k then ps else rows w.toNat h.toNat ps h.toNat⟩ := by
  obtain ⟨l1, l2, l3⟩ := imgOk_len hok
  obtain ⟨z, hd, hz0, hz1, hz4, hsm, hfit, hT2, hcf, hcs⟩ := rol_fits hok ht
  obtain ⟨h1, h2, h3, h4, h5, h6⟩ := imgOk_iff.1 hok
  have hcc := h5.2
  obtain ⟨W, rfl⟩ := Int.eq_ofNat_of_zero_le (show 0 ≤ w by omega)
  obtain ⟨H, rfl⟩ := Int.eq_ofNat_of_zero_le (show 0 ≤ h by omega)
  have hl : ps.length = W * H := by rw [← Int.natCast_mul] at l3; omega
  obtain ⟨T, hT⟩ : ∃ T, T = tT k d + (if runs then (8 : Int) else 0) := ⟨_, rfl⟩
  have hT3 : (runs = true ∧ T = tT k d + 8) ∨ (runs = false ∧ T = tT k d) := by rw [hT]; cases runs <;> simp
  have hH : (cs = [] ∧ tHas cs = 0 ∧ tBits cs = 0) ∨ (cs ≠ [] ∧ tHas cs = 1 ∧ tBits cs = 24) := by
    unfold tHas tBits
    by_cases c : cs = []
    · exact .inl ⟨c, if_pos c, if_pos c⟩
    · exact .inr ⟨c, if_neg c, if_neg c⟩
  have hL : (k = 3 ∧ tLast k = 40) ∨ (k ≠ 3 ∧ tLast k = 32) := by
    unfold tLast
    by_cases c : k = 3
    · exact .inl ⟨c, if_pos c⟩
    · exact .inr ⟨c, if_neg c⟩
  have hc0 : cs.length = 0 ↔ cs = [] := List.length_eq_zero_iff
  have hK := tT_eq k d
  -- the eighteen bytes
  have e18 : tgaG k d W H cs ps runs xl = [0, tHas cs, T, ((0 % 256 : Nat) : Int), ((0 / 256 % 256 : Nat) : Int), ((cs.length % 256 : Nat) : Int), ((cs.length / 256 % 256 : Nat) : Int), tBits cs, 0, 0, 0, 0, ((W % 256 : Nat) : Int), ((W / 256 % 256 : Nat) : Int), ((H % 256 : Nat) : Int), ((H / 256 % 256 : Nat) : Int), d, xl] ++ (les 3 cs ++ tData k d ps runs) := by
    rw [tgaG, ← hT]
    simp only [les, List.flatMap_cons, List.flatMap_nil, List.append_nil, Int.toNat_zero, Int.toNat_natCast, le_two]
    simp
  have hb18 : byts (tgaG k d W H cs ps runs xl) := by
    rw [e18]
    refine byts_app (fun x hx2 => ?_) (byts_app (byts_les _ _) (tData_byts _ _ _ _))
    simp only [List.mem_cons, List.not_mem_nil, or_false] at hx2
    omega
  generalize hs : txt (tgaG k d W H cs ps runs xl) = s
  have hsz : s.size = 18 + 3 * cs.length + (tData k d ps runs).length := by
    rw [← hs, txt_size, e18]
    simp [les_len]
    omega
  have hby : ∀ i, i < 18 → byt s i = ([0, tHas cs, T, ((0 % 256 : Nat) : Int), ((0 / 256 % 256 : Nat) : Int), ((cs.length % 256 : Nat) : Int), ((cs.length / 256 % 256 : Nat) : Int), tBits cs, 0, 0, 0, 0, ((W % 256 : Nat) : Int), ((W / 256 % 256 : Nat) : Int), ((H % 256 : Nat) : Int), ((H / 256 % 256 : Nat) : Int), d, xl] : List Int).getD i 0 := by
    intro i hi
    rw [← hs, byt_txt hb18, e18, getD_app_left (by simpa using hi)]
  have b0 : byt s 0 = 0 := hby 0 (by omega)
  have b1 : byt s 1 = tHas cs := hby 1 (by omega)
  have b2 : byt s 2 = T := hby 2 (by omega)
  have b3 : byt s 3 = 0 := hby 3 (by omega)
  have b4 : byt s 4 = 0 := hby 4 (by omega)
  have b5 : byt s 5 = ((cs.length % 256 : Nat) : Int) := hby 5 (by omega)
  have b6 : byt s 6 = ((cs.length / 256 % 256 : Nat) : Int) := hby 6 (by omega)
  have b7 : byt s 7 = tBits cs := hby 7 (by omega)
  have b8 : byt s 8 = 0 := hby 8 (by omega)
  have b9 : byt s 9 = 0 := hby 9 (by omega)
  have b10 : byt s 10 = 0 := hby 10 (by omega)
  have b11 : byt s 11 = 0 := hby 11 (by omega)
  have b12 : byt s 12 = ((W % 256 : Nat) : Int) := hby 12 (by omega)
  have b13 : byt s 13 = ((W / 256 % 256 : Nat) : Int) := hby 13 (by omega)
  have b14 : byt s 14 = ((H % 256 : Nat) : Int) := hby 14 (by omega)
  have b15 : byt s 15 = ((H / 256 % 256 : Nat) : Int) := hby 15 (by omega)
  have b16 : byt s 16 = d := hby 16 (by omega)
  have b17 : byt s 17 = xl := hby 17 (by omega)
  have f3 : fld s 3 2 false 2 = 0 := by rw [fld_two, b3, b4]; rfl
  have f5 : fld s 5 2 false 2 = (cs.length : Int) := by rw [fld_two, b5, b6]; omega
  have f8 : fld s 8 4 false 4 = 0 := by rw [fld_four', b8, b9, b10, b11]; rfl
  have f12 : fld s 12 2 false 2 = (W : Int) := by rw [fld_two, b12, b13]; omega
  have f14 : fld s 14 2 false 2 = (H : Int) := by rw [fld_two, b14, b15]; omega
  have hhd : hdOf s = ⟨0, tHas cs, T, 0, cs.length, tBits cs, 0, W, H, d, xl⟩ := by
    unfold hdOf
    rw [b0, b1, b2, f3, f5, b7, f8, f12, f14, b16, b17]
  obtain ⟨hkind, hruns, hlst, hokH, hszH⟩ := hd_put (runs := runs) (T := T) hok ht hx hT3 hhd
  clear b0 b1 b2 b3 b4 b5 b6 b7 b8 b9 b10 b11 b12 b13 b14 b15 b16 b17 f3 f5 f8 f12 f14 hby
  have hat : tgaAt s = 18 + 3 * cs.length := by
    unfold tgaAt
    rw [hhd]
    simp
  have hDl : (tData k d ps runs).length ≤ 2000 := by
    unfold tData
    rw [hz0]
    split
    · have := pack_len (l := ps.map (rol k)) hz4
      rw [List.length_map] at this
      omega
    · rw [les_len, List.length_map]
      have := Nat.mul_le_mul l2 hz4
      omega
  have hA : byts (tgaG k d W H cs ps runs xl) := hb18
  obtain ⟨P, hP⟩ : ∃ P : List Int, P = [0, tHas cs, T, ((0 % 256 : Nat) : Int), ((0 / 256 % 256 : Nat) : Int), ((cs.length % 256 : Nat) : Int), ((cs.length / 256 % 256 : Nat) : Int), tBits cs, 0, 0, 0, 0, ((W % 256 : Nat) : Int), ((W / 256 % 256 : Nat) : Int), ((H % 256 : Nat) : Int), ((H / 256 % 256 : Nat) : Int), d, xl] := ⟨_, rfl⟩
  have hPl : P.length = 18 := by rw [hP]; rfl
  rw [← hP] at e18
  have hPb : byts P := fun x hx2 => hb18 x (by rw [e18]; simp [hx2])
  have hcols : tgaCols s = cs := by
    rw [tgaCols_eq s (by rw [hat, hsz]; omega), hhd]
    dsimp only
    have := nums_at (z := 3) (by omega) cs P (tData k d ps runs) hPb (tData_byts _ _ _ _) hcf
    rw [List.append_assoc, ← e18, hs, hPl] at this
    simpa using this
  have hpts : tgaPts s = some (ps.map (rol k)) := by
    have e1 := tgaPts_eq s (z := z) (W := W) (H := H) (by rw [hhd]; show d / 8 = _; omega) (by rw [hhd]) (by rw [hhd])
    rw [e1]
    unfold ptsAt
    have hbl : (P ++ les 3 cs).length = tgaAt s := by rw [List.length_append, hPl, les_len, hat]; omega
    have hbb : byts (P ++ les 3 cs) := byts_app hPb (byts_les _ _)
    have hlen : (ps.map (rol k)).length = W * H := by rw [List.length_map, hl]
    cases hr : runs with
    | true =>
      rw [if_pos (decide_eq_true (hruns.2 hr))]
      have e2 : tData k d ps runs = pack (ps.map (rol k)) z := by rw [hr, ← hz0]; rfl
      have := runL_pack (l := ps.map (rol k)) (A := P ++ les 3 cs) (B := []) (z := z) hbb byts_nil ⟨hz1, hz4⟩ hfit (W * H) 0 [] (by omega) (by omega) (by show packF _ z (W * H) 0 [] = packF _ z (ps.map (rol k)).length 0 []; rw [hlen])
      rw [List.append_nil, ← e2, List.append_assoc, ← e18, hs, hlen, hbl] at this
      simp only [List.take_zero, List.length_nil, Nat.add_zero] at this
      rw [this]
      dsimp only
      rw [if_pos (by rw [hsz, hat])]
    | false =>
      rw [if_neg (by rw [decide_eq_false fun h => by rw [hruns.1 h] at hr; cases hr]; simp)]
      have e2 : tData k d ps runs = les z (ps.map (rol k)) := by rw [hr, ← hz0]; rfl
      have := nums_at (z := z) ⟨hz1, hz4⟩ (ps.map (rol k)) (P ++ les 3 cs) [] hbb byts_nil hfit
      rw [List.append_nil, ← e2, List.append_assoc, ← e18, hs, hlen, hbl] at this
      rw [this, if_pos (by rw [hsz, hat, e2, les_len, hlen])]
  have hpos : s.size ≤ 9000 ∧ 18 ≤ s.size ∧ (hdOf s).ok ∧ (hdOf s).size ∧ tgaAt s ≤ s.size := ⟨by omega, by omega, hokH, hszH, by rw [hat, hsz]; omega⟩
  rw [tgaGet, if_pos hpos, hpts]
  dsimp only
  rw [hkind, map_unr_rol hsm, hcols, hlst, hhd]
  dsimp only
  rw [if_pos hok]
  by_cases hx2 : xl = tLast k
  · rw [if_pos hx2, if_pos hx2, if_neg (by decide)]
  · rw [if_neg hx2, if_neg hx2, if_pos rfl]
end Go.Proofs.Ytdkhjcmhjlbpaaa.G
