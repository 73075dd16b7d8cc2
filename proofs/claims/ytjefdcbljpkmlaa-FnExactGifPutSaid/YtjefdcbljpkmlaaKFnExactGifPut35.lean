/- What the law FnExactGifPut needs, out of the texts Ye. -/
import Derived.Test.YtjefdcbljpkmlaaKFnExactGifPut30
import Derived.Test.YtjefdcbljpkmlaaKFnExactGifPut32
import Derived.Test.YtjefdcbljpkmlaaKFnExactGifPut33
import Derived.Test.YtjefdcbljpkmlaaKFnExactGifPut34
section
set_option linter.unusedVariables false
set_option linter.unusedSimpArgs false
set_option maxRecDepth 10000
namespace Go.Proofs.Ytjefdcbljpkmlaa.G
open Go
/-- The points of a picture, row by row in an order. -/
def gPts (W : Nat) (ps : List Int) (ro : List Int) : List Int := ro.flatMap fun y => seg ps (y.toNat * W) W
theorem gPts_snoc (W : Nat) (ps ro : List Int) (y : Int) : gPts W ps (ro ++ [y]) = gPts W ps ro ++ seg ps (y.toNat * W) W := by simp [gPts]
theorem gPts_mem {W : Nat} {ps ro : List Int} {x : Int} (h : x ∈ gPts W ps ro) : x ∈ ps := by
  obtain ⟨y, _, hy⟩ := List.mem_flatMap.1 h
  exact seg_mem hy
theorem gPts_len (W : Nat) (ps : List Int) : ∀ ro : List Int, (gPts W ps ro).length ≤ ro.length * W
  | [] => by simp [gPts]
  | y :: ro => by
    have := gPts_len W ps ro
    simp only [gPts, List.flatMap_cons, List.length_append, List.length_cons, seg, List.length_take] at this ⊢
    rw [Nat.succ_mul]
    omega
theorem rowsO_mem {h : Nat} {woven : Bool} {y : Int} (hy : y ∈ rowsO h woven) : ∃ Y : Nat, y = (Y : Int) ∧ Y < h := by
  unfold rowsO at hy
  cases woven
  · obtain ⟨i, hi, rfl⟩ := List.mem_map.1 hy
    exact ⟨i, rfl, List.mem_range.1 hi⟩
  · obtain ⟨p, hp, hy⟩ := List.mem_flatMap.1 hy
    obtain ⟨i, hi, rfl⟩ := List.mem_map.1 hy
    refine ⟨_, rfl, ?_⟩
    have hi := List.mem_range.1 hi
    have hc : (p.1 = 0 ∧ p.2 = 8) ∨ (p.1 = 4 ∧ p.2 = 8) ∨ (p.1 = 2 ∧ p.2 = 4) ∨ (p.1 = 1 ∧ p.2 = 2) := by
      have hp : p ∈ wvL := List.mem_of_mem_take hp
      simp only [wvL, List.mem_cons, List.not_mem_nil, or_false] at hp
      rcases hp with rfl | rfl | rfl | rfl <;> decide
    exact (cnt_iff hc).2 hi
theorem rowsO_len (h : Nat) (woven : Bool) : (rowsO h woven).length ≤ h * 4 := by
  unfold rowsO
  cases woven
  · simp; omega
  · exact wovP_len h 4 (by omega)
def gBits (d : Nat) : Nat := max d 2
noncomputable def gData (W H D : Nat) (ps : List Int) (woven : Bool) : List Int := blks (byl (lzPut (txt (gPts W ps (rowsO H woven))) (gBits D : Int) false))
def gHead (W H D : Nat) (cs : List Int) : List Int := [71, 73, 70, 56, 57, 97] ++ (le W 2 ++ le H 2) ++ [((128 + 17 * (D - 1) : Nat) : Int), 0, 0] ++ bes 3 cs
def gDesc (W H D : Nat) (woven : Bool) : List Int := [44, 0, 0, 0, 0] ++ (le W 2 ++ le H 2) ++ [((if woven then 64 else 0 : Nat) : Int), ((gBits D : Nat) : Int)]
noncomputable def gifL (W H D : Nat) (cs ps : List Int) (woven : Bool) : List Int := gHead W H D cs ++ gDesc W H D woven ++ gData W H D ps woven ++ [59]
open Classical in
noncomputable def gifPut (k d w h : Int) (cs ps : List Int) (woven : Bool) : List Int := if imgOk k d w h cs ps ∧ gOk k d cs then gifL w.toNat h.toNat d.toNat cs ps woven else []
theorem gif_facts {k d w h : Int} {cs ps : List Int} (hok : imgOk k d w h cs ps) (hg : gOk k d cs) : ∃ W H D : Nat, w = W ∧ h = H ∧ d = D ∧ (D = 1 ∨ D = 2 ∨ D = 4 ∨ D = 8) ∧ (1 ≤ W ∧ W ≤ 20) ∧ (1 ≤ H ∧ H ≤ 20) ∧ ps.length = W * H ∧ small cs ∧ fits 3 cs ∧ cs.length ≤ 256 ∧ (∀ x ∈ ps, 0 ≤ x ∧ x < ((2 ^ D : Nat) : Int)) ∧ k = 4 := by
  obtain ⟨l1, l2, l3⟩ := imgOk_len hok
  obtain ⟨h1, h2, h3, h4, h5, h6⟩ := imgOk_iff.1 hok
  obtain ⟨rfl, hc⟩ := hg
  obtain ⟨W, rfl⟩ := Int.eq_ofNat_of_zero_le (show 0 ≤ w by omega)
  obtain ⟨H, rfl⟩ := Int.eq_ofNat_of_zero_le (show 0 ≤ h by omega)
  have hd : d = 1 ∨ d = 2 ∨ d = 4 ∨ d = 8 := by
    rcases h1 with ⟨_, h⟩ | ⟨h, _⟩ | ⟨h, _⟩
    · exact h
    · omega
    · omega
  obtain ⟨D, rfl⟩ := Int.eq_ofNat_of_zero_le (show 0 ≤ d by omega)
  have hcc := outs_mem.1 h5.1
  rw [if_pos rfl, hc] at h6
  have hpp := outs_mem.1 h6
  refine ⟨W, H, D, rfl, rfl, rfl, by omega, by omega, by omega, by rw [← Int.natCast_mul] at l3; omega, fun x hx => by have := hcc x hx; omega, fun x hx => by have := hcc x hx; rw [show ((256 ^ 3 : Nat) : Int) = 16777216 by decide]; omega, l1, fun x hx => ?_, rfl⟩
  have := hpp x hx
  have e : (1 : Int) * 2 ^ Int.toNat (D : Int) = ((2 ^ D : Nat) : Int) := shl1 D
  rw [e] at this
  omega
theorem pts_fit {W H D : Nat} {ps : List Int} {woven : Bool} (hD : D = 1 ∨ D = 2 ∨ D = 4 ∨ D = 8) (hW : 1 ≤ W ∧ W ≤ 20) (hH : 1 ≤ H ∧ H ≤ 20) (hp : ∀ x ∈ ps, 0 ≤ x ∧ x < ((2 ^ D : Nat) : Int)) :
    byts (gPts W ps (rowsO H woven)) ∧ (txt (gPts W ps (rowsO H woven))).size ≤ 1600 ∧ fitsZ (gBits D) (txt (gPts W ps (rowsO H woven))) ∧ lzOk (gBits D : Int) false := by
  have h8 : 2 ^ D ≤ 2 ^ 8 := Nat.pow_le_pow_right (by decide) (by omega)
  have hb : byts (gPts W ps (rowsO H woven)) := fun x hx => by have := hp x (gPts_mem hx); omega
  have hle : 2 ^ D ≤ 2 ^ gBits D := Nat.pow_le_pow_right (by decide) (by unfold gBits; omega)
  refine ⟨hb, ?_, fun i hi => ?_, ⟨by unfold gBits; omega, fun h => by cases h⟩⟩
  · rw [txt_size]
    have h1 := gPts_len W ps (rowsO H woven)
    have h2 := rowsO_len H woven
    have h3 := Nat.mul_le_mul (show (rowsO H woven).length ≤ 80 by omega) hW.2
    omega
  · rw [txt_size] at hi
    rw [byt_txt hb, List.getD_eq_getElem?_getD, List.getElem?_eq_getElem hi]
    have := hp _ (gPts_mem (List.getElem_mem hi))
    show _ < _
    simp only [Option.getD_some]
    omega
/-- A short text packed is short. -/
theorem small_put {t : ByteArray} {bits : Nat} {wide : Bool} (h2 : 2 ≤ bits) (hb : bits ≤ 8) (hf : fitsZ bits t) (hs : t.size ≤ 1600) : (lzPut t (bits : Int) wide).size ≤ 2500 := by
  unfold lzPut
  split
  · rename_i hok
    rw [Int.toNat_natCast, txt_size, packB_len, lbits_len]
    have h := inv_run (wide := wide) h2 hb hf t.size (Nat.le_refl _)
    obtain ⟨c, c1, c2⟩ := h.len
    obtain ⟨⟨hk, _⟩, _⟩ := lzL_ok (wide := wide) h2 hb hf (by omega)
    have hsum : sumZ (lzL t bits wide) ≤ 12 * (lzL t bits wide).length := sumZ_le fun y hy => by
      rcases List.mem_append.1 hy with hy | hy
      · exact ((endZ_ok (wide := wide) h2 hb hf (by omega)).1 y hy).1
      · rw [List.mem_singleton.1 hy]
        exact (widZ_ok hb (endZ_ok (wide := wide) h2 hb hf (by omega)).2.2.1).2.1
    have hlen : (lzL t bits wide).length ≤ 1603 := by
      unfold lzL endZ
      split
      · simp
      · simp only [List.length_append, List.length_singleton]
        omega
    unfold packN
    omega
  · rw [txt_size]
    simp
theorem data_len {W H D : Nat} {ps : List Int} {woven : Bool} (h5 : (txt (gPts W ps (rowsO H woven))).size ≤ 1600) (hlok : lzOk (gBits D : Int) false) (hfit : fitsZ (gBits D) (txt (gPts W ps (rowsO H woven)))) :
    (lzPut (txt (gPts W ps (rowsO H woven))) (gBits D : Int) false).size ≤ 5000 ∧ (blks (byl (lzPut (txt (gPts W ps (rowsO H woven))) (gBits D : Int) false))).length ≤ 1000000 := by
  obtain ⟨⟨hb2, hb8⟩, _⟩ := hlok
  have hb2 : 2 ≤ gBits D := by omega
  have hb8 : gBits D ≤ 8 := by omega
  have key := small_put (wide := false) hb2 hb8 hfit h5
  refine ⟨by omega, ?_⟩
  have h2 := bk_len (byl (lzPut (txt (gPts W ps (rowsO H woven))) (gBits D : Int) false)) (bkN (byl (lzPut (txt (gPts W ps (rowsO H woven))) (gBits D : Int) false)).length)
  unfold blks
  rw [List.length_append, List.length_singleton]
  have h3 := byl_len (lzPut (txt (gPts W ps (rowsO H woven))) (gBits D : Int) false)
  unfold bkN at h2 ⊢
  omega
section
variable {ops os : List Oper} {H : Option (List Hint)} {K : Env → GL → Prop} {e : Env} {l : GL} {d : Nat} {T : TypeId} {pos : String} {af : Array Edge}
/-- append(b, x...) of bytes that are owned. -/
theorem gs_appb (j m : Nat) {x y : Operand} {p q : Nat × GO} {v u : Value} {zs ws : List Int} (hv : OB v p zs) (hu : OB u q ws) (hx : gev e x = v) (hy : gev e y = u) (hj : l[j]? = some p) (hm : l[m]? = some q) (hjm : j ≠ m) (hz : zs.length + ws.length ≤ 1000000000000)
    (k : ∀ v2 p2, OB v2 p2 (zs ++ ws) → gseq Try.prog ops os (tl? H) K (upd e d v2) (l.set j p2)) (hh : hE [j, m] H := by trivial) :
    gseq Try.prog ops (⟨some d, .call { callee := .builtin .append, args := #[x, y], argTypes := #[35, 35] }, T, pos, af, none⟩ :: os) H K e l := by
  refine gs_append tyT_ok j m (el := 5) (p := p) (q := q) (cs := bytesV zs) (nw := bytesV ws) hj hm hjm rfl rfl rfl (by rw [hx]; exact hv) ?_ ?_ ?_ (by decide) (by decide) (fun v2 p2 h => ?_) hh
  · rw [hy]
    rcases hu with ⟨h1, _, h2⟩ | ⟨b, len, cap, n, h1, h2, h3, h4, h5⟩
    · have h2 : ws = [] := by simpa [bytesV] using h2
      subst h2
      exact .inl ⟨h1, rfl⟩
    · refine .inr ⟨b, 0, len, cap, h1, by rw [h2], by rw [h2]; show 0 + len * 1 ≤ (bytesV ws).length; omega, ?_⟩
      rw [h2]
      show ((bytesV ws).drop 0).take (len * 1) = bytesV ws
      rw [List.drop_zero, List.take_of_length_le (by omega)]
  · simp [bytesV, Value.oneCell']
  · simp only [bytesV, List.length_map]
    show (zs.length + ws.length) * 1 ≤ 140737488355328 * 1
    omega
  · have e1 : bytesV zs ++ bytesV ws = bytesV (zs ++ ws) := by simp [bytesV]
    rw [e1] at h
    exact k v2 p2 h
end
set_option maxHeartbeats 4000000 in
theorem gifPut_w {k d w h : Int} {a1 a2 : Option Addr} {n1 c1 n2 c2 : Nat} {q1 q2 : Nat × GO} {cs ps : List Int} {woven : Bool} (h1 : LS a1 n1 c1 q1 cs) (h2 : LS a2 n2 c2 q2 ps) (z1 : cs.length ≤ 10000000) (z2 : ps.length ≤ 10000000) :
    Rd Try.prog 43 [img k d w h (.slice a1 n1 c1) (.slice a2 n2 c2), .bool woven] [q1, q2] (.string (txt (gifPut k d w h cs ps woven))) := by
  obtain rfl := h1.1
  obtain rfl := h2.1
  refine trip_of Try.func43 rfl (by simp [Try.ntmps43]) ?_
  refine gw_seq (gw_text rfl ?_)
  refine gs_box fun b => ?_
  repeat (first | refine gs_n tyT_ok 0 ?_ | refine gs_gn tyT_ok 0 rfl ?_ | refine gs_no rfl ?_ | refine gs_l tyT_ok 2 ?_ | refine gs_gl tyT_ok 2 rfl ?_ | (refine gs_l tyT_ok 2 ?_ (hp := ?hp); case hp => exact ⟨rfl, Nat.le_of_ble_eq_true rfl⟩) | (refine gs_gl tyT_ok 2 rfl ?_ (hp := ?hp); case hp => exact ⟨rfl, Nat.le_of_ble_eq_true rfl⟩) | refine gs_end ?_ | refine gs_end' ?_ | refine gw_seq ?_ | refine gw_text rfl ?_ | refine gw_skip ?_ | refine gw_yes rfl ?_ | refine gw_no rfl ?_ | refine gw_exit ?_ | refine gw_block ?_ | refine gw_label ?_ | (refine gs_n tyT_ok 0 ?_ (hp := ?hp); case hp => exact ⟨by decide, by decide⟩))
  refine gs_rd [0, 1] ent88 rfl (by decide) (gifHolds_w h1 h2 z1 z2) ?_
  by_cases hP : imgOk k d w h cs ps ∧ gOk k d cs
  case neg =>
    rw [decide_eq_false hP, gifPut, if_neg hP]
    repeat (first | refine gs_n tyT_ok 0 ?_ | refine gs_gn tyT_ok 0 rfl ?_ | refine gs_no rfl ?_ | refine gs_end ?_ | refine gs_end' ?_ | refine gw_seq ?_ | refine gw_text rfl ?_ | refine gw_skip ?_ | refine gw_yes rfl ?_ | refine gw_no rfl ?_ | refine gw_exit ?_ | refine gw_block ?_ | refine gw_label ?_ | (refine gs_n tyT_ok 0 ?_ (hp := ?hp); case hp => exact ⟨by decide, by decide⟩))
    exact gw_ret ⟨_, _, [], [0, 1], .tmp .nil, ⟨rfl, rfl, rfl⟩, rfl, rfl, by decide⟩
  rw [decide_eq_true hP, gifPut, if_pos hP]
  obtain ⟨W, H, D, rfl, rfl, rfl, hD, hW, hH, hl, hcs, hcf, hcl, hpp, rfl⟩ := gif_facts hP.1 hP.2
  obtain ⟨hbt, h5, hfit, hlok⟩ := pts_fit (woven := woven) hD hW hH hpp
  simp only [Int.toNat_natCast]
  have hWH : W * H ≤ 20 * 20 := Nat.mul_le_mul hW.2 hH.2
  have hfW : (W : Int) < ((256 ^ 2 : Nat) : Int) ∧ (H : Int) < ((256 ^ 2 : Nat) : Int) := by rw [show ((256 ^ 2 : Nat) : Int) = 65536 by decide]; omega
  repeat (first | refine gs_n tyT_ok 0 ?_ | refine gs_gn tyT_ok 0 rfl ?_ | refine gs_no rfl ?_ | refine gs_end ?_ | refine gs_end' ?_ | refine gw_seq ?_ | refine gw_text rfl ?_ | refine gw_skip ?_ | refine gw_yes rfl ?_ | refine gw_no rfl ?_ | refine gw_exit ?_ | refine gw_block ?_ | refine gw_label ?_ | (refine gs_n tyT_ok 0 ?_ (hp := ?hp); case hp => exact ⟨by decide, by decide⟩))
  refine gw_any [.N, .L 2, .E [], .N, .L 2, .E [], .N, .N] rfl rfl rfl ?_
  repeat (first | refine gs_n tyT_ok 0 ?_ | refine gs_gn tyT_ok 0 rfl ?_ | refine gs_no rfl ?_ | refine gs_l tyT_ok 2 ?_ | refine gs_gl tyT_ok 2 rfl ?_ | (refine gs_l tyT_ok 2 ?_ (hp := ?hp); case hp => exact ⟨rfl, Nat.le_of_ble_eq_true rfl⟩) | (refine gs_gl tyT_ok 2 rfl ?_ (hp := ?hp); case hp => exact ⟨rfl, Nat.le_of_ble_eq_true rfl⟩))
  refine gs_pu ent120 (numPut_w (z := 2) (by omega) ⟨by omega, hfW.1⟩) ?_
  repeat (first | refine gs_n tyT_ok 0 ?_ | refine gs_gn tyT_ok 0 rfl ?_ | refine gs_no rfl ?_ | refine gs_l tyT_ok 2 ?_ | refine gs_gl tyT_ok 2 rfl ?_ | (refine gs_l tyT_ok 2 ?_ (hp := ?hp); case hp => exact ⟨rfl, Nat.le_of_ble_eq_true rfl⟩) | (refine gs_gl tyT_ok 2 rfl ?_ (hp := ?hp); case hp => exact ⟨rfl, Nat.le_of_ble_eq_true rfl⟩))
  refine gs_pu ent120 (numPut_w (z := 2) (by omega) ⟨by omega, hfW.2⟩) ?_
  simp only [Int.toNat_natCast]
  refine gs_cat (a := le W 2) (b := le H 2) rfl rfl (by simp [le_len]) ?_
  repeat (first | refine gs_n tyT_ok 0 ?_ | refine gs_gn tyT_ok 0 rfl ?_ | refine gs_no rfl ?_ | refine gs_end ?_ | refine gs_end' ?_ | refine gw_seq ?_ | refine gw_text rfl ?_ | refine gw_skip ?_ | refine gw_yes rfl ?_ | refine gw_no rfl ?_ | refine gw_exit ?_ | refine gw_block ?_ | refine gw_label ?_ | (refine gs_n tyT_ok 0 ?_ (hp := ?hp); case hp => exact ⟨by decide, by decide⟩))
  refine gw_any [.N, .L 2, .N, .N, .N] rfl rfl rfl ?_
  repeat (first | refine gs_n tyT_ok 0 ?_ | refine gs_gn tyT_ok 0 rfl ?_ | refine gs_no rfl ?_ | refine gs_l tyT_ok 2 ?_ | refine gs_gl tyT_ok 2 rfl ?_ | (refine gs_l tyT_ok 2 ?_ (hp := ?hp); case hp => exact ⟨rfl, Nat.le_of_ble_eq_true rfl⟩) | (refine gs_gl tyT_ok 2 rfl ?_ (hp := ?hp); case hp => exact ⟨rfl, Nat.le_of_ble_eq_true rfl⟩))
  have hmx : (if (2 : Int) > (D : Int) then (2 : Int) else (D : Int)) = ((gBits D : Nat) : Int) := by unfold gBits; split <;> omega
  rw [hmx]
  have hSZ : (le W 2 ++ le H 2).length = 4 := by simp [le_len]
  have hgb : gBits D ≤ 8 := by unfold gBits; omega
  refine gs_end' ?_
  refine gw_joinW (α := Unit) (fun _ => [(1, .bool woven), (2, ptr b), (5, .string (txt (le W 2 ++ le H 2))), (6, .int .i64 ((if woven then 64 else 0 : Nat) : Int)), (7, .int .i64 ((gBits D : Nat) : Int))]) (fun _ => [q1, q2, (b, imc 4 D W H (.slice a1 cs.length c1) (.slice a2 ps.length c2))]) (fun _ => True) ?_ fun _ e _ => ?_
  · cases woven
    · repeat (first | refine gs_n tyT_ok 0 ?_ | refine gs_gn tyT_ok 0 rfl ?_ | refine gs_no rfl ?_ | refine gs_end ?_ | refine gs_end' ?_ | refine gw_seq ?_ | refine gw_text rfl ?_ | refine gw_skip ?_ | refine gw_yes rfl ?_ | refine gw_no rfl ?_ | refine gw_exit ?_ | refine gw_block ?_ | refine gw_label ?_ | (refine gs_n tyT_ok 0 ?_ (hp := ?hp); case hp => exact ⟨by decide, by decide⟩))
      exact ⟨(), trivial, ⟨[0, 1, 2], by decide, rfl⟩, rfl, rfl, rfl, rfl, rfl, trivial⟩
    · repeat (first | refine gs_n tyT_ok 0 ?_ | refine gs_gn tyT_ok 0 rfl ?_ | refine gs_no rfl ?_ | refine gs_end ?_ | refine gs_end' ?_ | refine gw_seq ?_ | refine gw_text rfl ?_ | refine gw_skip ?_ | refine gw_yes rfl ?_ | refine gw_no rfl ?_ | refine gw_exit ?_ | refine gw_block ?_ | refine gw_label ?_ | (refine gs_n tyT_ok 0 ?_ (hp := ?hp); case hp => exact ⟨by decide, by decide⟩))
      exact ⟨(), trivial, ⟨[0, 1, 2], by decide, rfl⟩, rfl, rfl, rfl, rfl, rfl, trivial⟩
  obtain ⟨o2, rfl, _⟩ := h2.at (k := 0) (by rw [hl]; exact Nat.mul_pos (by omega) (by omega))
  have hbt' : ∀ x ∈ ps, 0 ≤ x ∧ x ≤ 255 := fun x hx => by
    have := hpp x hx
    have h8 : 2 ^ D ≤ 2 ^ 8 := Nat.pow_le_pow_right (by decide) (by omega)
    omega
  obtain ⟨hdl, hbN⟩ := data_len (W := W) (ps := ps) (H := H) (woven := woven) h5 hlok hfit
  have hro := fun y hy => rowsO_mem (h := H) (woven := woven) (y := y) hy
  have hrl := rowsO_len H woven
  repeat (first | refine gs_n tyT_ok 0 ?_ | refine gs_gn tyT_ok 0 rfl ?_ | refine gs_no rfl ?_ | refine gs_l tyT_ok 2 ?_ | refine gs_gl tyT_ok 2 rfl ?_ | (refine gs_l tyT_ok 2 ?_ (hp := ?hp); case hp => exact ⟨rfl, Nat.le_of_ble_eq_true rfl⟩) | (refine gs_gl tyT_ok 2 rfl ?_ (hp := ?hp); case hp => exact ⟨rfl, Nat.le_of_ble_eq_true rfl⟩) | refine gs_end ?_ | refine gs_end' ?_ | refine gw_seq ?_ | refine gw_text rfl ?_ | refine gw_skip ?_ | refine gw_yes rfl ?_ | refine gw_no rfl ?_ | refine gw_exit ?_ | refine gw_block ?_ | refine gw_label ?_ | (refine gs_n tyT_ok 0 ?_ (hp := ?hp); case hp => exact ⟨by decide, by decide⟩))
  refine gs_call [] ent121 rfl (by decide) (rowOrder_w hH) fun v F' ns ho _ _ => ?_
  obtain ⟨pr, rfl, rfl, hvr⟩ := ho
  have hgl := fun i => gPts_len W ps ((rowsO H woven).take i)
  unfold gifL gData
  generalize rowsO H woven = RO at *
  obtain ⟨ra, rc, rfl, hrL⟩ := hvr.ls
  repeat (first | refine gs_n tyT_ok 0 ?_ | refine gs_gn tyT_ok 0 rfl ?_ | refine gs_no rfl ?_ | refine gs_end ?_ | refine gs_end' ?_ | refine gw_seq ?_ | refine gw_text rfl ?_ | refine gw_skip ?_ | refine gw_yes rfl ?_ | refine gw_no rfl ?_ | refine gw_exit ?_ | refine gw_block ?_ | refine gw_label ?_ | (refine gs_n tyT_ok 0 ?_ (hp := ?hp); case hp => exact ⟨by decide, by decide⟩))
  refine gw_nil ?_
  refine gw_loopW (fun _ (x : Nat × Value × (Nat × GO)) => [(1, .bool woven), (2, ptr b), (5, .string (txt (le W 2 ++ le H 2))), (6, .int .i64 ((if woven then 64 else 0 : Nat) : Int)), (7, .int .i64 ((gBits D : Nat) : Int)), (8, x.2.1), (29, .slice ra RO.length rc), (30, .int .i64 (RO.length : Int)), (31, .int .i64 (x.1 : Int))]) (fun _ x => [q1, q2, (b, imc 4 D W H (.slice a1 cs.length c1) (.slice (some ⟨q2.1, o2, none⟩) ps.length c2)), pr, x.2.2]) (fun m x => x.1 + m = RO.length ∧ OB x.2.1 x.2.2 (gPts W ps (RO.take x.1))) RO.length (0, .slice none 0 0, (0, .none)) ⟨by simp, OB.nil⟩ ⟨[0, 1, 2, 3, 4], by decide, rfl⟩ ⟨rfl, rfl, rfl, rfl, rfl, rfl, rfl, rfl, rfl, trivial⟩ fun m ⟨i, v, p⟩ e ⟨hi, hv⟩ => ?_
  dsimp only at hi hv ⊢
  obtain ⟨va, vc, rfl⟩ := hv.sl
  have hgi : (gPts W ps (RO.take i)).length ≤ 1600 := by
    have h3 := hgl i
    have h4 := Nat.mul_le_mul (show (RO.take i).length ≤ 80 by rw [List.length_take]; omega) hW.2
    omega
  repeat (first | refine gs_n tyT_ok 0 ?_ | refine gs_gn tyT_ok 0 rfl ?_ | refine gs_no rfl ?_ | refine gs_end ?_ | refine gs_end' ?_ | refine gw_seq ?_ | refine gw_text rfl ?_ | refine gw_skip ?_ | refine gw_yes rfl ?_ | refine gw_no rfl ?_ | refine gw_exit ?_ | refine gw_block ?_ | refine gw_label ?_ | (refine gs_n tyT_ok 0 ?_ (hp := ?hp); case hp => exact ⟨by decide, by decide⟩))
  by_cases hlt : i < RO.length
  case pos =>
    (refine gs_t tyT_ok ?hb ?_; case hb => first | exact decide_eq_true (by omega) | exact congrArg Bool.not (decide_eq_false (by omega)) | (simp; done) | (simp; omega))
    obtain ⟨oo, rfl, hoo⟩ := hrL.at hlt
    obtain ⟨Y, hY, hYH⟩ := hro (RO.getD i 0) (by rw [List.getD_eq_getElem?_getD, List.getElem?_eq_getElem hlt]; exact List.getElem_mem hlt)
    have htk := take_succD RO 0 hlt
    rw [hY] at hoo htk
    have e1 : (Y + 1) * W = Y * W + W := Nat.succ_mul Y W
    have hYW : Y * W + W ≤ ps.length := by
      rw [hl, Nat.mul_comm W H, ← e1]
      exact Nat.mul_le_mul_right W (by omega)
    have hc1 : (Y : Int) * (W : Int) = ((Y * W : Nat) : Int) := by simp
    have hc2' : ((Y : Int) + 1) * (W : Int) = ((Y * W + W : Nat) : Int) := by rw [← e1]; simp
    have x1 : 0 ≤ (Y : Int) * (W : Int) ∧ (Y : Int) * (W : Int) ≤ 1000000 := by rw [hc1]; omega
    have x2 : 0 ≤ ((Y : Int) + 1) * (W : Int) ∧ ((Y : Int) + 1) * (W : Int) ≤ 1000000 := by rw [hc2']; omega
    obtain ⟨o', he, hsub⟩ := h2.part (a := Y * W) (n := W) hYW hW.1
    cases he
    have hcap := h2.cap.2.1
    repeat (first | refine gs_n tyT_ok 0 ?_ | refine gs_gn tyT_ok 0 rfl ?_ | refine gs_no rfl ?_ | refine gs_end ?_ | refine gs_end' ?_ | refine gw_seq ?_ | refine gw_text rfl ?_ | refine gw_skip ?_ | refine gw_yes rfl ?_ | refine gw_no rfl ?_ | refine gw_exit ?_ | refine gw_block ?_ | refine gw_label ?_ | (refine gs_n tyT_ok 0 ?_ (hp := ?hp); case hp => exact ⟨by decide, by decide⟩))
    refine gs_at 3 tyT_ok rfl rfl rfl rfl hoo ?_
    repeat (first | refine gs_n tyT_ok 0 ?_ | refine gs_gn tyT_ok 0 rfl ?_ | refine gs_no rfl ?_ | refine gs_l tyT_ok 2 ?_ | refine gs_gl tyT_ok 2 rfl ?_ | (refine gs_l tyT_ok 2 ?_ (hp := ?hp); case hp => exact ⟨rfl, Nat.le_of_ble_eq_true rfl⟩) | (refine gs_gl tyT_ok 2 rfl ?_ (hp := ?hp); case hp => exact ⟨rfl, Nat.le_of_ble_eq_true rfl⟩) | refine gs_end ?_ | refine gs_end' ?_ | refine gw_seq ?_ | refine gw_text rfl ?_ | refine gw_skip ?_ | refine gw_yes rfl ?_ | refine gw_no rfl ?_ | refine gw_exit ?_ | refine gw_block ?_ | refine gw_label ?_ | (refine gs_n tyT_ok 0 ?_ (hp := ?hp); case hp => exact ⟨by decide, by decide⟩))
    rw [hc1, hc2']
    repeat (first | refine gs_n tyT_ok 0 ?_ | refine gs_gn tyT_ok 0 rfl ?_ | refine gs_no rfl ?_ | refine gs_l tyT_ok 2 ?_ | refine gs_gl tyT_ok 2 rfl ?_ | (refine gs_l tyT_ok 2 ?_ (hp := ?hp); case hp => exact ⟨rfl, Nat.le_of_ble_eq_true rfl⟩) | (refine gs_gl tyT_ok 2 rfl ?_ (hp := ?hp); case hp => exact ⟨rfl, Nat.le_of_ble_eq_true rfl⟩) | refine gs_end ?_ | refine gs_end' ?_ | refine gw_seq ?_ | refine gw_text rfl ?_ | refine gw_skip ?_ | refine gw_yes rfl ?_ | refine gw_no rfl ?_ | refine gw_exit ?_ | refine gw_block ?_ | refine gw_label ?_ | (refine gs_n tyT_ok 0 ?_ (hp := ?hp); case hp => exact ⟨by decide, by decide⟩))
    have hB := bytesOf_w hsub (fun x hx => by have := hbt' x (seg_mem hx); omega) (by simp [seg]; omega)
    have hB2 : Trip Try.prog 122 [.slice (some ⟨q2.1, o2 + Y * W * 1, none⟩) (Y * W + W - Y * W) (c2 - Y * W)] [q2] (fun v F' ns => ∃ p, F' = [q2] ∧ ns = [p] ∧ OB v p (seg ps (Y * W) W)) := by
      rw [Nat.add_sub_cancel_left]
      exact hB
    refine gs_call [1] ent122 rfl (by decide) hB2 fun v' F' ns ho _ _ => ?_
    obtain ⟨p6, rfl, rfl, hv6⟩ := ho
    refine gs_appb 4 5 hv hv6 rfl rfl rfl rfl (by decide) (by simp [seg]; omega) fun v7 p7 hv7 => ?_
    have hst : gPts W ps (RO.take i) ++ seg ps (Y * W) W = gPts W ps (RO.take (i + 1)) := by rw [htk, gPts_snoc]; rfl
    rw [hst] at hv7
    obtain ⟨wa, wc, rfl⟩ := hv7.sl
    repeat (first | refine gs_n tyT_ok 0 ?_ | refine gs_gn tyT_ok 0 rfl ?_ | refine gs_no rfl ?_ | refine gs_end ?_ | refine gs_end' ?_ | refine gw_seq ?_ | refine gw_text rfl ?_ | refine gw_skip ?_ | refine gw_yes rfl ?_ | refine gw_no rfl ?_ | refine gw_exit ?_ | refine gw_block ?_ | refine gw_label ?_ | (refine gs_n tyT_ok 0 ?_ (hp := ?hp); case hp => exact ⟨by decide, by decide⟩))
    exact ⟨m - 1, by omega, (i + 1, _, p7), ⟨by show i + 1 + (m - 1) = _; omega, hv7⟩, ⟨[0, 1, 2, 3, 4], by decide, rfl⟩, rfl, rfl, rfl, rfl, rfl, rfl, rfl, rfl, rfl, trivial⟩
  obtain rfl : i = RO.length := by omega
  rw [List.take_length] at hv hgi ⊢
  have hlz := lzwPut_w (txt (gPts W ps RO)) (gBits D : Int) false (by omega)
  have hbl := blocksPut_w (s := lzPut (txt (gPts W ps RO)) (gBits D : Int) false) hdl
  have hbN : (blks (byl (lzPut (txt (gPts W ps RO)) (gBits D : Int) false))).length ≤ 1000000 := hbN
  generalize blks (byl (lzPut (txt (gPts W ps RO)) (gBits D : Int) false)) = BD at *
  generalize gPts W ps RO = PT at *
  (refine gs_f tyT_ok ?hb ?_; case hb => first | exact decide_eq_false (by omega) | exact congrArg Bool.not (decide_eq_true (by omega)) | (simp; done) | (simp; omega))
  refine gs_end ?_
  refine gw_seq (gw_no rfl ?_)
  refine gw_exit ?_
  refine gw_weak [0, 1, 2, 4] (by decide) rfl ?_
  refine gw_nil ?_
  have hcol : (128 : Int) + 17 * ((D : Int) - 1) = ((128 + 17 * (D - 1) : Nat) : Int) := by omega
  have hD1 : 1 ≤ D ∧ D ≤ 8 := by omega
  refine gw_seq (gw_anyP [0, 1, 2, 3, 4, 5, 6, 7, 11, 12, 13, 8, 9, 10, 14, 15] [.N, .N, .N, .L 2, .N, .N, .N, .N, .A 4 (.row 5 (bytesV [((128 + 17 * (D - 1) : Nat) : Int), 0, 0]) 3) (some 3), .L 4, .N, .N, .L 2, .E [0], .N, .N] rfl rfl rfl ?_)
  repeat (first | refine gs_n tyT_ok 0 ?_ | refine gs_gn tyT_ok 0 rfl ?_ | refine gs_no rfl ?_)
  refine gs_cat (a := [71, 73, 70, 56, 57, 97]) (b := le W 2 ++ le H 2) rfl rfl (by rw [hSZ]; decide) ?_
  repeat (first | refine gs_n tyT_ok 0 ?_ | refine gs_gn tyT_ok 0 rfl ?_ | refine gs_no rfl ?_ | refine gs_l tyT_ok 2 ?_ | refine gs_gl tyT_ok 2 rfl ?_ | (refine gs_l tyT_ok 2 ?_ (hp := ?hp); case hp => exact ⟨rfl, Nat.le_of_ble_eq_true rfl⟩) | (refine gs_gl tyT_ok 2 rfl ?_ (hp := ?hp); case hp => exact ⟨rfl, Nat.le_of_ble_eq_true rfl⟩))
  rw [hcol]
  repeat (first | refine gs_n tyT_ok 0 ?_ | refine gs_gn tyT_ok 0 rfl ?_ | refine gs_no rfl ?_ | refine gs_l tyT_ok 2 ?_ | refine gs_gl tyT_ok 2 rfl ?_ | (refine gs_l tyT_ok 2 ?_ (hp := ?hp); case hp => exact ⟨rfl, Nat.le_of_ble_eq_true rfl⟩) | (refine gs_gl tyT_ok 2 rfl ?_ (hp := ?hp); case hp => exact ⟨rfl, Nat.le_of_ble_eq_true rfl⟩))
  refine gs_rd [0] ent60 rfl (by decide) (colorsPutB_w (z := 3) h1 hcf (by omega) (by omega)) ?_
  refine gs_litA tyT_ok 4 (cs := bytesV [((128 + 17 * (D - 1) : Nat) : Int), 0, 0]) rfl rfl rfl (by decide) rfl rfl rfl (fun bA => ?_) ⟨rfl, rfl, rfl⟩
  refine gs_txt 4 (xs := [((128 + 17 * (D - 1) : Nat) : Int), 0, 0]) rfl rfl rfl ?_
  refine gs_cat (a := [71, 73, 70, 56, 57, 97] ++ (le W 2 ++ le H 2)) (b := [((128 + 17 * (D - 1) : Nat) : Int), 0, 0]) rfl rfl (by rw [List.length_append, hSZ]; simp) ?_
  refine gs_cat (a := [71, 73, 70, 56, 57, 97] ++ (le W 2 ++ le H 2) ++ [((128 + 17 * (D - 1) : Nat) : Int), 0, 0]) (b := bes 3 cs) rfl rfl (by rw [List.length_append, List.length_append, hSZ, bes_len]; simp; omega) ?_
  have hHl : (gHead W H D cs).length ≤ 10000 := by
    unfold gHead
    rw [List.length_append, List.length_append, List.length_append, hSZ, bes_len]
    simp
    omega
  rw [show [71, 73, 70, 56, 57, 97] ++ (le W 2 ++ le H 2) ++ [((128 + 17 * (D - 1) : Nat) : Int), 0, 0] ++ bes 3 cs = gHead W H D cs from rfl]
  have hDl : (gDesc W H D woven).length ≤ 100 := by
    unfold gDesc
    rw [List.length_append, List.length_append, hSZ]
    simp
  generalize gHead W H D cs = HD at *
  repeat (first | refine gs_n tyT_ok 0 ?_ | refine gs_gn tyT_ok 0 rfl ?_ | refine gs_no rfl ?_ | refine gs_end ?_ | refine gs_end' ?_ | refine gw_seq ?_ | refine gw_text rfl ?_ | refine gw_skip ?_ | refine gw_yes rfl ?_ | refine gw_no rfl ?_ | refine gw_exit ?_ | refine gw_block ?_ | refine gw_label ?_ | (refine gs_n tyT_ok 0 ?_ (hp := ?hp); case hp => exact ⟨by decide, by decide⟩))
  refine gs_cat (a := [44, 0, 0, 0, 0]) (b := le W 2 ++ le H 2) rfl rfl (by rw [hSZ]; decide) ?_
  have hfl : (if woven then 64 else 0 : Nat) ≤ 64 := by cases woven <;> decide
  have hdesc : gDesc W H D woven = [44, 0, 0, 0, 0] ++ (le W 2 ++ le H 2) ++ [((if woven then 64 else 0 : Nat) : Int), ((gBits D : Nat) : Int)] := rfl
  generalize (if woven then 64 else 0 : Nat) = FL at *
  repeat (first | refine gs_n tyT_ok 0 ?_ | refine gs_gn tyT_ok 0 rfl ?_ | refine gs_no rfl ?_ | refine gs_end ?_ | refine gs_end' ?_ | refine gw_seq ?_ | refine gw_text rfl ?_ | refine gw_skip ?_ | refine gw_yes rfl ?_ | refine gw_no rfl ?_ | refine gw_exit ?_ | refine gw_block ?_ | refine gw_label ?_ | (refine gs_n tyT_ok 0 ?_ (hp := ?hp); case hp => exact ⟨by decide, by decide⟩))
  refine gs_lit tyT_ok (cs := bytesV [(FL : Int), ((gBits D : Nat) : Int)]) rfl rfl rfl (by decide) rfl fun bB => ?_
  refine gs_txt 5 (xs := [(FL : Int), ((gBits D : Nat) : Int)]) rfl rfl rfl ?_
  refine gs_cat (a := [44, 0, 0, 0, 0] ++ (le W 2 ++ le H 2)) (b := [(FL : Int), ((gBits D : Nat) : Int)]) rfl rfl (by rw [List.length_append, hSZ]; simp) ?_
  rw [← hdesc]
  generalize gDesc W H D woven = DS at *
  refine gs_cat (a := HD) (b := DS) rfl rfl (by omega) ?_
  repeat (first | refine gs_n tyT_ok 0 ?_ | refine gs_gn tyT_ok 0 rfl ?_ | refine gs_no rfl ?_ | refine gs_end ?_ | refine gs_end' ?_ | refine gw_seq ?_ | refine gw_text rfl ?_ | refine gw_skip ?_ | refine gw_yes rfl ?_ | refine gw_no rfl ?_ | refine gw_exit ?_ | refine gw_block ?_ | refine gw_label ?_ | (refine gs_n tyT_ok 0 ?_ (hp := ?hp); case hp => exact ⟨by decide, by decide⟩))
  refine gs_ofB 3 hv rfl rfl ?_
  repeat (first | refine gs_n tyT_ok 0 ?_ | refine gs_gn tyT_ok 0 rfl ?_ | refine gs_no rfl ?_ | refine gs_end ?_ | refine gs_end' ?_ | refine gw_seq ?_ | refine gw_text rfl ?_ | refine gw_skip ?_ | refine gw_yes rfl ?_ | refine gw_no rfl ?_ | refine gw_exit ?_ | refine gw_block ?_ | refine gw_label ?_ | (refine gs_n tyT_ok 0 ?_ (hp := ?hp); case hp => exact ⟨by decide, by decide⟩))
  refine gs_pu ent33 hlz ?_
  refine gs_pu ent123 hbl ?_
  refine gs_cat (a := HD ++ DS) (b := BD) rfl rfl (by rw [List.length_append]; omega) ?_
  refine gs_cat (a := HD ++ DS ++ BD) (b := [59]) rfl rfl (by simp; omega) ?_
  repeat (first | refine gs_n tyT_ok 0 ?_ | refine gs_gn tyT_ok 0 rfl ?_ | refine gs_no rfl ?_ | refine gs_end ?_ | refine gs_end' ?_ | refine gw_seq ?_ | refine gw_text rfl ?_ | refine gw_skip ?_ | refine gw_yes rfl ?_ | refine gw_no rfl ?_ | refine gw_exit ?_ | refine gw_block ?_ | refine gw_label ?_ | (refine gs_n tyT_ok 0 ?_ (hp := ?hp); case hp => exact ⟨by decide, by decide⟩))
  exact gw_ret ⟨_, _, [], [0, 1], .tmp .nil, ⟨rfl, rfl, rfl⟩, rfl, rfl, by decide⟩
end Go.Proofs.Ytjefdcbljpkmlaa.G
end
