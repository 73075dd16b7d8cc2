/- The law FnTgaBelow: a TGA that is told to stand on its head is turned. -/
import Derived.Test.YtdkhjcmhjlbpaaaLd
import Derived.Test.YtdkhjcmhjlbpaaaMm
import Derived.Test.YtdkhjcmhjlbpaaaWj
set_option linter.unusedVariables false
set_option maxRecDepth 10000
namespace Go.Proofs.Ytdkhjcmhjlbpaaa.G
open Go
theorem wf_u8 {n : Int} (h : (Lit.int .u8 n).wf = true) : 0 ≤ n ∧ n ≤ 255 := by
  simp [Lit.wf, IntKind.min, IntKind.max, IntKind.signed, IntKind.bits] at h
  omega
theorem sim_sing {q : Nat × GO} {w : World} (h : q.2.holds w.heap[q.1]?) : Sim [q] w := by
  refine ⟨fun i j p p' hi hj _ _ _ => ?_, fun p hp => by rw [List.mem_singleton.1 hp]; exact h⟩
  have h1 := (List.getElem?_eq_some_iff.1 hi).1
  have h2 := (List.getElem?_eq_some_iff.1 hj).1
  simp at h1 h2
  omega
theorem Trip.rowB {P : Program} {f : FuncId} {a : Option Addr} {len cap : Nat} {z : List Int} {w : World} (w0 : (a = none ∧ len = 0 ∧ cap = 0 ∧ z = []) ∨ ∃ x, a = some x ∧ len ≤ cap ∧ cap ≤ maxLen ∧ z.length = cap ∧ (∀ i, i < z.length → w.cell? (x.add i) = some (.int .u8 (z.getD i 0))) ∧ ∀ n ∈ z, (Lit.int .u8 n).wf = true)
    (h : ∀ q zs, LB a len cap q zs → q.2.own = false → Trip P f [.slice a len cap] [q] (fun v F' ns => v = .bool true)) : Calls P f #[.slice a len cap] w fun e w' => e = .returned (.bool true) ∧ RowKit.Below w.heap.size w w' := by
  have key : ∃ q zs, LB a len cap q zs ∧ q.2.own = false ∧ q.2.holds w.heap[q.1]? := by
    by_cases hl : len = 0
    · refine ⟨(0, .none), [], ⟨hl, ?_, .inl rfl, fun x hx => by cases hx⟩, rfl, trivial⟩
      rcases w0 with ⟨_, h1, h2, _⟩ | ⟨_, _, h1, _⟩ <;> omega
    · rcases w0 with ⟨_, h1, _⟩ | ⟨x, rfl, h1, h2, h3, h4, h5⟩
      · exact absurd h1 hl
      · have c0 := h4 0 (by omega)
        have hx0 : x.add 0 = x := by simp [Addr.add]
        rw [hx0] at c0
        unfold World.cell? at c0
        split at c0
        case h_2 => cases c0
        case h_1 c t fr hc =>
        obtain ⟨b, o, sp⟩ := x
        have hsp : sp = none := by
          cases sp with
          | none => rfl
          | some s => simp at c0
        subst hsp
        dsimp only at hc
        have hcell : ∀ i, i < z.length → c.toList[o + i]? = some (.int .u8 (z.getD i 0)) := by
          intro i hi
          have := h4 i hi
          unfold World.cell? at this
          have e1 : ((⟨b, o, none⟩ : Addr).add i) = ⟨b, o + i, none⟩ := Addr.add_mid b o i
          rw [e1] at this
          dsimp only at this
          rw [hc] at this
          simpa using this
        refine ⟨(b, .ro c.toList), z.take len, ⟨by simp; omega, h1, .inr ⟨o, rfl, ?_, ?_⟩, ?_⟩, rfl, c, t, fr, hc, List.prefix_refl _⟩
        · have := (List.getElem?_eq_some_iff.1 (hcell (len - 1) (by omega))).1
          simp only [List.length_take, cellsG]
          omega
        · have e : (z.take len).length = len := by simp; omega
          rw [e]
          apply List.ext_getElem?
          intro i
          by_cases hi : i < len
          · rw [List.getElem?_take_of_lt hi, List.getElem?_drop]
            show c.toList[o + i]? = _
            rw [hcell i (by omega), bytesV, List.getElem?_map, List.getElem?_take_of_lt hi, List.getElem?_eq_getElem (by omega)]
            simp [List.getD, show i < z.length by omega]
          · rw [List.getElem?_eq_none (by simp; omega), List.getElem?_eq_none (by simp [bytesV]; omega)]
        · intro y hy
          exact wf_u8 (h5 y (List.mem_of_mem_take hy))
  obtain ⟨q, zs, hb, ho, hq⟩ := key
  refine (h q zs hb ho w (sim_sing hq)).mono fun e w' ⟨v, F', ns, h1, h2, h3⟩ => ⟨by rw [h1, h2], ?_⟩
  have hf := h3.fr
  refine ⟨hf.os, hf.tape, hf.output, hf.size, fun b hb2 => hf.keep b hb2 fun ⟨x, hx, hox⟩ => ?_⟩
  have := List.mem_singleton.1 hx
  rw [← this] at ho
  rw [ho] at hox
  cases hox
theorem txt_ne {l : List Int} (h : 1 ≤ l.length) : txt l ≠ ⟨#[]⟩ := fun e => by
  have := congrArg ByteArray.size e
  rw [txt_size] at this
  have h0 : (⟨#[]⟩ : ByteArray).size = 0 := rfl
  omega
theorem tgaL_len (k d w h : Int) (cs ps : List Int) (runs : Bool) : 1 ≤ (tgaL k d w h cs ps runs).length := by
  unfold tgaL
  simp only [List.length_append, List.length_cons]
  omega
/-- The head's last byte stands at place 17. -/
def tgaA (k d w h : Int) (cs : List Int) (runs : Bool) : List Int := [0, tHas cs, tT k d + (if runs then 8 else 0)] ++ les 2 [0, cs.length] ++ [tBits cs, 0, 0, 0, 0] ++ les 2 [w, h] ++ [d]
theorem tgaA_len (k d w h : Int) (cs : List Int) (runs : Bool) : (tgaA k d w h cs runs).length = 17 := by simp [tgaA, les_len]
theorem tgaG_split (k d w h : Int) (cs ps : List Int) (runs : Bool) (xl : Int) : tgaG k d w h cs ps runs xl = tgaA k d w h cs runs ++ xl :: (les 3 cs ++ tData k d ps runs) := by simp [tgaG, tgaA]
theorem tgaG_set (k d w h : Int) (cs ps : List Int) (runs : Bool) (xl y : Int) : (tgaG k d w h cs ps runs xl).set 17 y = tgaG k d w h cs ps runs y := by
  rw [tgaG_split, tgaG_split, List.set_append_right _ _ (by rw [tgaA_len]; exact Nat.le_refl _), tgaA_len]
  rfl
theorem tgaG_at (k d w h : Int) (cs ps : List Int) (runs : Bool) (xl : Int) : (tgaG k d w h cs ps runs xl)[17]? = some xl := by
  rw [tgaG_split, List.getElem?_append_right (by rw [tgaA_len]; exact Nat.le_refl _), tgaA_len]
  rfl
theorem tgaG_len (k d w h : Int) (cs ps : List Int) (runs : Bool) (xl : Int) : 18 ≤ (tgaG k d w h cs ps runs xl).length := by
  rw [tgaG_split, List.length_append, tgaA_len, List.length_cons]
  omega
theorem bytesV_txt {l : List Int} (h : byts l) : ((txt l).data.toList.map fun b => Value.int .u8 (b.toNat : Int)) = bytesV l := by
  rw [strOfNums_data, bytesV, List.map_map]
  refine List.map_congr_left fun x hx => ?_
  have := h x hx
  show Value.int .u8 (((UInt8.ofNat x.toNat).toNat : Nat) : Int) = _
  simp only [UInt8.toNat_ofNat']
  congr 1
  omega
theorem put_bytes {l : List Int} {i : Nat} {x : Int} (hi : i < l.length) : put (bytesV l) i [.int .u8 x] = bytesV (l.set i x) := by
  unfold put
  rw [List.set_eq_take_append_cons_drop, if_pos hi]
  simp [bytesV, List.map_take, List.map_drop]
theorem tgaL_byts {k d w h : Int} {cs ps : List Int} {runs : Bool} (hok : imgOk k d w h cs ps) (ht : tT k d ≠ 0) : byts (tgaL k d w h cs ps runs) := by
  obtain ⟨z, hd, hz0, hz1, hz4, hsm, hfit, hT2, hcf, hcs⟩ := rol_fits hok ht
  refine byts_app (byts_app (byts_app (byts_app (byts_app (byts_app ?_ (byts_les _ _)) ?_) (byts_les _ _)) ?_) (byts_les _ _)) (tData_byts _ _ _ _)
  · intro x hx
    simp only [List.mem_cons, List.not_mem_nil, or_false] at hx
    have : 0 ≤ tHas cs ∧ tHas cs ≤ 1 := by unfold tHas; split <;> omega
    have : 0 ≤ (if runs = true then (8 : Int) else 0) ∧ (if runs = true then (8 : Int) else 0) ≤ 8 := by split <;> omega
    omega
  · intro x hx
    simp only [List.mem_cons, List.not_mem_nil, or_false] at hx
    have : 0 ≤ tBits cs ∧ tBits cs ≤ 24 := by unfold tBits; split <;> omega
    omega
  · intro x hx
    simp only [List.mem_cons, List.not_mem_nil, or_false] at hx
    have : 0 ≤ tLast k ∧ tLast k ≤ 40 := by unfold tLast; split <;> omega
    omega
set_option maxHeartbeats 1000000 in
theorem FnTgaBelow_w {a : Option Addr} {n c : Nat} {q : Nat × GO} {zs : List Int} (hb : LB a n c q zs) (hn : n ≤ 1000000000000000) : Trip Try.prog 8 [.slice a n c] [q] (fun v F' ns => v = .bool true) := by
  refine trip_of Try.func8 rfl (by simp [Try.ntmps8]) ?_
  repeat (first | refine gs_n tyT_ok 0 ?_ | refine gs_gn tyT_ok 0 rfl ?_ | refine gs_no rfl ?_ | refine gs_end ?_ | refine gs_end' ?_ | refine gw_seq ?_ | refine gw_text rfl ?_ | refine gw_skip ?_ | refine gw_yes rfl ?_ | refine gw_no rfl ?_ | refine gw_exit ?_ | refine gw_block ?_ | refine gw_label ?_ | (refine gs_n tyT_ok 0 ?_ (hp := ?hp); case hp => exact ⟨by decide, by decide⟩))
  by_cases g1 : n ≤ 1048576
  case neg =>
    (refine gs_t tyT_ok ?hb ?_; case hb => first | exact decide_eq_true (by omega) | exact congrArg Bool.not (decide_eq_false (by omega)) | (simp; done) | (simp; omega))
    repeat (first | refine gs_n tyT_ok 0 ?_ | refine gs_gn tyT_ok 0 rfl ?_ | refine gs_no rfl ?_ | refine gs_end ?_ | refine gs_end' ?_ | refine gw_seq ?_ | refine gw_text rfl ?_ | refine gw_skip ?_ | refine gw_yes rfl ?_ | refine gw_no rfl ?_ | refine gw_exit ?_ | refine gw_block ?_ | refine gw_label ?_ | (refine gs_n tyT_ok 0 ?_ (hp := ?hp); case hp => exact ⟨by decide, by decide⟩))
    exact gw_ret ⟨_, [q], [], [0], .tmp .nil, rfl, rfl, rfl, by decide⟩
  (refine gs_f tyT_ok ?hb ?_; case hb => first | exact decide_eq_false (by omega) | exact congrArg Bool.not (decide_eq_true (by omega)) | (simp; done) | (simp; omega))
  repeat (first | refine gs_n tyT_ok 0 ?_ | refine gs_gn tyT_ok 0 rfl ?_ | refine gs_no rfl ?_ | refine gs_end ?_ | refine gs_end' ?_ | refine gw_seq ?_ | refine gw_text rfl ?_ | refine gw_skip ?_ | refine gw_yes rfl ?_ | refine gw_no rfl ?_ | refine gw_exit ?_ | refine gw_block ?_ | refine gw_label ?_ | (refine gs_n tyT_ok 0 ?_ (hp := ?hp); case hp => exact ⟨by decide, by decide⟩))
  refine gs_call [0] ent30 rfl (by decide) (drawTgaPut_w hb (by omega)) fun v F' ns ho _ _ => ?_
  obtain ⟨k, d, w, h, a1, n1, c1, a2, n2, c2, e1, e2, cs, ps, runs, rfl, rfl, rfl, h1, h2, i1, i2⟩ := ho
  repeat (first | refine gs_n tyT_ok 0 ?_ | refine gs_gn tyT_ok 0 rfl ?_ | refine gs_no rfl ?_ | refine gs_end ?_ | refine gs_end' ?_ | refine gw_seq ?_ | refine gw_text rfl ?_ | refine gw_skip ?_ | refine gw_yes rfl ?_ | refine gw_no rfl ?_ | refine gw_exit ?_ | refine gw_block ?_ | refine gw_label ?_ | (refine gs_n tyT_ok 0 ?_ (hp := ?hp); case hp => exact ⟨by decide, by decide⟩))
  refine gs_alloc tyT_ok rfl fun b3 => ?_
  refine gs_store tyT_ok 3 rfl rfl rfl rfl rfl rfl (Nat.le_of_ble_eq_true rfl) (Nat.le_of_ble_eq_true rfl) ?_
  repeat (first | refine gs_n tyT_ok 0 ?_ | refine gs_gn tyT_ok 0 rfl ?_ | refine gs_no rfl ?_ | refine gs_l tyT_ok 3 ?_ | refine gs_gl tyT_ok 3 rfl ?_ | (refine gs_l tyT_ok 3 ?_ (hp := ?hp); case hp => exact ⟨rfl, Nat.le_of_ble_eq_true rfl⟩) | (refine gs_gl tyT_ok 3 rfl ?_ (hp := ?hp); case hp => exact ⟨rfl, Nat.le_of_ble_eq_true rfl⟩) | refine gs_end ?_ | refine gs_end' ?_ | refine gw_seq ?_ | refine gw_text rfl ?_ | refine gw_skip ?_ | refine gw_yes rfl ?_ | refine gw_no rfl ?_ | refine gw_exit ?_ | refine gw_block ?_ | refine gw_label ?_ | (refine gs_n tyT_ok 0 ?_ (hp := ?hp); case hp => exact ⟨by decide, by decide⟩))
  refine gs_rd [1, 2] ent31 rfl (by decide) (tgaPut_w h1 h2 (by omega) (by omega)) ?_
  repeat (first | refine gs_n tyT_ok 0 ?_ | refine gs_gn tyT_ok 0 rfl ?_ | refine gs_no rfl ?_ | refine gs_l tyT_ok 3 ?_ | refine gs_gl tyT_ok 3 rfl ?_ | (refine gs_l tyT_ok 3 ?_ (hp := ?hp); case hp => exact ⟨rfl, Nat.le_of_ble_eq_true rfl⟩) | (refine gs_gl tyT_ok 3 rfl ?_ (hp := ?hp); case hp => exact ⟨rfl, Nat.le_of_ble_eq_true rfl⟩) | refine gs_end ?_ | refine gs_end' ?_ | refine gw_seq ?_ | refine gw_text rfl ?_ | refine gw_skip ?_ | refine gw_yes rfl ?_ | refine gw_no rfl ?_ | refine gw_exit ?_ | refine gw_block ?_ | refine gw_label ?_ | (refine gs_n tyT_ok 0 ?_ (hp := ?hp); case hp => exact ⟨by decide, by decide⟩))
  refine gs_rd [1, 2] ent32 rfl (by decide) (sTgaPut_w h1 h2 (by omega) (by omega)) ?_
  refine gs_f tyT_ok (congrArg Bool.not (decide_eq_true rfl)) ?_
  by_cases hP : imgOk k d w h cs ps ∧ tT k d ≠ 0
  case neg =>
    rw [show tgaPut k d w h cs ps runs = [] from if_neg hP]
    refine gs_n tyT_ok 0 ?_
    refine gs_gn tyT_ok 0 rfl ?_
    refine gs_tg tyT_ok rfl (decide_eq_true rfl) ?_
    repeat (first | refine gs_n tyT_ok 0 ?_ | refine gs_gn tyT_ok 0 rfl ?_ | refine gs_no rfl ?_ | refine gs_l tyT_ok 3 ?_ | refine gs_gl tyT_ok 3 rfl ?_ | (refine gs_l tyT_ok 3 ?_ (hp := ?hp); case hp => exact ⟨rfl, Nat.le_of_ble_eq_true rfl⟩) | (refine gs_gl tyT_ok 3 rfl ?_ (hp := ?hp); case hp => exact ⟨rfl, Nat.le_of_ble_eq_true rfl⟩) | refine gs_end ?_ | refine gs_end' ?_ | refine gw_seq ?_ | refine gw_text rfl ?_ | refine gw_skip ?_ | refine gw_yes rfl ?_ | refine gw_no rfl ?_ | refine gw_exit ?_ | refine gw_block ?_ | refine gw_label ?_ | (refine gs_n tyT_ok 0 ?_ (hp := ?hp); case hp => exact ⟨by decide, by decide⟩))
    refine gs_rd [1, 2] ent32 rfl (by decide) (sTgaPut_w h1 h2 (by omega) (by omega)) ?_
    rw [show tgaPut k d w h cs ps runs = [] from if_neg hP]
    refine gs_t tyT_ok (decide_eq_true rfl) ?_
    repeat (first | refine gs_n tyT_ok 0 ?_ | refine gs_gn tyT_ok 0 rfl ?_ | refine gs_no rfl ?_ | refine gs_end ?_ | refine gs_end' ?_ | refine gw_seq ?_ | refine gw_text rfl ?_ | refine gw_skip ?_ | refine gw_yes rfl ?_ | refine gw_no rfl ?_ | refine gw_exit ?_ | refine gw_block ?_ | refine gw_label ?_ | (refine gs_n tyT_ok 0 ?_ (hp := ?hp); case hp => exact ⟨by decide, by decide⟩))
    exact gw_ret ⟨_, [q], [], [0], .tmp .nil, rfl, rfl, rfl, by decide⟩
  rw [show tgaPut k d w h cs ps runs = tgaL k d w h cs ps runs from if_pos hP]
  refine gs_n tyT_ok 0 ?_
  refine gs_gn tyT_ok 0 rfl ?_
  refine gs_fg tyT_ok rfl (decide_eq_false (txt_ne (tgaL_len _ _ _ _ _ _ _))) ?_
  have hbL := tgaL_byts (runs := runs) hP.1 hP.2
  have hlen := tgaG_len k d w h cs ps runs (tLast k)
  rw [← tgaL_eq] at hlen
  have hat : (tgaL k d w h cs ps runs)[17]? = some (tLast k) := by rw [tgaL_eq]; exact tgaG_at _ _ _ _ _ _ _ _
  have hset : (tgaL k d w h cs ps runs).set 17 (tLast k - 32) = tgaG k d w h cs ps runs (tLast k - 32) := by rw [tgaL_eq]; exact tgaG_set _ _ _ _ _ _ _ _ _
  have hL : tLast k = 40 ∨ tLast k = 32 := by unfold tLast; split <;> omega
  have hI := tgaGet_w (txt (tgaG k d w h cs ps runs (tLast k - 32)))
  rw [tgaGet_put hP.1 hP.2 (.inr rfl), if_neg (by omega)] at hI
  obtain ⟨m1, m2, _⟩ := imgOk_len hP.1
  repeat (first | refine gs_n tyT_ok 0 ?_ | refine gs_gn tyT_ok 0 rfl ?_ | refine gs_no rfl ?_ | refine gs_end ?_ | refine gs_end' ?_ | refine gw_seq ?_ | refine gw_text rfl ?_ | refine gw_skip ?_ | refine gw_yes rfl ?_ | refine gw_no rfl ?_ | refine gw_exit ?_ | refine gw_block ?_ | refine gw_label ?_ | (refine gs_n tyT_ok 0 ?_ (hp := ?hp); case hp => exact ⟨by decide, by decide⟩))
  refine gs_bytes tyT_ok rfl rfl rfl rfl fun v p hv => ?_
  rw [bytesV_txt hbL] at hv
  generalize tgaL k d w h cs ps runs = L at *
  generalize tLast k = xl at *
  obtain ⟨b4, len4, cap4, m4, rfl, rfl, hl4, hlc4, hcm4⟩ : ∃ b len cap m, v = .slice (some ⟨b, 0, none⟩) len cap ∧ p = (b, .row 5 (bytesV L) m) ∧ L.length = len ∧ len ≤ cap ∧ cap ≤ m := by
    rcases hv with ⟨_, _, h3⟩ | ⟨b, len, cap, m, h3, h4, h5, h6, h7⟩
    · simp [bytesV] at h3
      rw [h3] at hlen
      simp at hlen
    · exact ⟨b, len, cap, m, h3, h4, by simpa [bytesV] using h5, h6, by omega⟩
  have hcell : (cellsG (.row 5 (bytesV L) m4))[0 + 17 * 1]? = some (.int .u8 xl) := by
    show (bytesV L)[17]? = _
    rw [bytesV, List.getElem?_map, hat]
    rfl
  repeat (first | refine gs_n tyT_ok 0 ?_ | refine gs_gn tyT_ok 0 rfl ?_ | refine gs_no rfl ?_ | refine gs_end ?_ | refine gs_end' ?_ | refine gw_seq ?_ | refine gw_text rfl ?_ | refine gw_skip ?_ | refine gw_yes rfl ?_ | refine gw_no rfl ?_ | refine gw_exit ?_ | refine gw_block ?_ | refine gw_label ?_ | (refine gs_n tyT_ok 0 ?_ (hp := ?hp); case hp => exact ⟨by decide, by decide⟩))
  refine gs_atb 4 rfl rfl rfl rfl hcell ?_
  repeat (first | refine gs_n tyT_ok 0 ?_ | refine gs_gn tyT_ok 0 rfl ?_ | refine gs_no rfl ?_ | refine gs_end ?_ | refine gs_end' ?_ | refine gw_seq ?_ | refine gw_text rfl ?_ | refine gw_skip ?_ | refine gw_yes rfl ?_ | refine gw_no rfl ?_ | refine gw_exit ?_ | refine gw_block ?_ | refine gw_label ?_ | (refine gs_n tyT_ok 0 ?_ (hp := ?hp); case hp => exact ⟨by decide, by decide⟩))
  refine gs_store tyT_ok 4 (b := b4) (off := 17) rfl rfl rfl rfl rfl rfl (by simp [bytesV]; omega) (by show 17 + 1 ≤ m4; omega) ?_
  repeat (first | refine gs_n tyT_ok 0 ?_ | refine gs_gn tyT_ok 0 rfl ?_ | refine gs_no rfl ?_ | refine gs_end ?_ | refine gs_end' ?_ | refine gw_seq ?_ | refine gw_text rfl ?_ | refine gw_skip ?_ | refine gw_yes rfl ?_ | refine gw_no rfl ?_ | refine gw_exit ?_ | refine gw_block ?_ | refine gw_label ?_ | (refine gs_n tyT_ok 0 ?_ (hp := ?hp); case hp => exact ⟨by decide, by decide⟩))
  refine gs_txt 4 (b := b4) (xs := L.set 17 (xl - 32)) (m := m4) rfl (by show some (b4, GO.row 5 (put (bytesV L) 17 [.int .u8 (xl - 32)]) m4) = _; rw [put_bytes (by omega)]) (by rw [List.length_set, hl4]) ?_
  rw [hset]
  refine gs_call [] ent29 rfl (by decide) hI fun v F' ns ho _ _ => ?_
  obtain ⟨rfl, w5, w6, p5, p6, rfl, rfl, hv5, hv6⟩ := ho
  dsimp only at hv5 hv6 ⊢
  obtain ⟨a5, c5, rfl, l5⟩ := hv5.ls
  obtain ⟨a6, c6, rfl, l6⟩ := hv6.ls
  repeat (first | refine gs_n tyT_ok 0 ?_ | refine gs_gn tyT_ok 0 rfl ?_ | refine gs_no rfl ?_ | refine gs_end ?_ | refine gs_end' ?_ | refine gw_seq ?_ | refine gw_text rfl ?_ | refine gw_skip ?_ | refine gw_yes rfl ?_ | refine gw_no rfl ?_ | refine gw_exit ?_ | refine gw_block ?_ | refine gw_label ?_ | (refine gs_n tyT_ok 0 ?_ (hp := ?hp); case hp => exact ⟨by decide, by decide⟩))
  refine gs_alloc tyT_ok rfl fun b7 => ?_
  refine gs_store tyT_ok 7 rfl rfl rfl rfl rfl rfl (Nat.le_of_ble_eq_true rfl) (Nat.le_of_ble_eq_true rfl) ?_
  repeat (first | refine gs_n tyT_ok 0 ?_ | refine gs_gn tyT_ok 0 rfl ?_ | refine gs_no rfl ?_ | refine gs_end ?_ | refine gs_end' ?_ | refine gw_seq ?_ | refine gw_text rfl ?_ | refine gw_skip ?_ | refine gw_yes rfl ?_ | refine gw_no rfl ?_ | refine gw_exit ?_ | refine gw_block ?_ | refine gw_label ?_ | (refine gs_n tyT_ok 0 ?_ (hp := ?hp); case hp => exact ⟨by decide, by decide⟩))
  refine gw_any [.N, .N, .L 7, .L 3, .E [1, 2], .E [5, 6, 8, 9], .N, .N] rfl rfl rfl ?_
  repeat (first | refine gs_n tyT_ok 0 ?_ | refine gs_gn tyT_ok 0 rfl ?_ | refine gs_no rfl ?_ | refine gs_l tyT_ok 3 ?_ | refine gs_gl tyT_ok 3 rfl ?_ | (refine gs_l tyT_ok 3 ?_ (hp := ?hp); case hp => exact ⟨rfl, Nat.le_of_ble_eq_true rfl⟩) | (refine gs_gl tyT_ok 3 rfl ?_ (hp := ?hp); case hp => exact ⟨rfl, Nat.le_of_ble_eq_true rfl⟩) | refine gs_l tyT_ok 7 ?_ | refine gs_gl tyT_ok 7 rfl ?_ | (refine gs_l tyT_ok 7 ?_ (hp := ?hp); case hp => exact ⟨rfl, Nat.le_of_ble_eq_true rfl⟩) | (refine gs_gl tyT_ok 7 rfl ?_ (hp := ?hp); case hp => exact ⟨rfl, Nat.le_of_ble_eq_true rfl⟩))
  refine gs_callg [1, 2] ent33 rfl rfl (by decide) (imageFlip_w h1 h2 (by omega) (by omega) hP.1) fun v F' ns ho _ _ => ?_
  obtain ⟨rfl, w8, w9, p8, p9, rfl, rfl, hv8, hv9⟩ := ho
  obtain ⟨a8, c8, rfl, l8⟩ := hv8.ls
  obtain ⟨a9, c9, rfl, l9⟩ := hv9.ls
  have hok2 := imgOk_len (imgOk_rows hP.1)
  refine gs_rdg [5, 6, 8, 9] ent24 rfl rfl (by decide) (wiImage_w l5 l6 l8 l9 (by omega) (by omega)) ?_
  repeat (first | refine gs_n tyT_ok 0 ?_ | refine gs_gn tyT_ok 0 rfl ?_ | refine gs_no rfl ?_ | refine gs_end ?_ | refine gs_end' ?_ | refine gw_seq ?_ | refine gw_text rfl ?_ | refine gw_skip ?_ | refine gw_yes rfl ?_ | refine gw_no rfl ?_ | refine gw_exit ?_ | refine gw_block ?_ | refine gw_label ?_ | (refine gs_n tyT_ok 0 ?_ (hp := ?hp); case hp => exact ⟨by decide, by decide⟩))
  exact gw_ret ⟨_, [q], [], [0], .tmp .nil, rfl, rfl, rfl, by decide⟩
end Go.Proofs.Ytdkhjcmhjlbpaaa.G
namespace Go.Proofs.Ytdkhjcmhjlbpaaa.P
open Go
theorem law_FnTgaBelow (a : Option Addr) (len cap : Nat) (z : List Int) (w : World) (w0 : (a = none ∧ len = 0 ∧ cap = 0 ∧ z = []) ∨ ∃ x, a = some x ∧ len ≤ cap ∧ cap ≤ maxLen ∧ z.length = cap ∧ (∀ i, i < z.length → w.cell? (x.add i) = some (.int .u8 (z.getD i 0))) ∧ ∀ n ∈ z, (Lit.int .u8 n).wf = true) (y0 : len * 1 ≤ 140737488351232) :
    Calls Try.prog 8 #[.slice a len cap] w fun e w' => e = .returned (.bool true) ∧ RowKit.Below w.heap.size w w' := G.Trip.rowB w0 fun q zs hb _ => G.FnTgaBelow_w hb (by omega)
end Go.Proofs.Ytdkhjcmhjlbpaaa.P
