/- The law FnTgaGet: what is read of a TGA is a picture that a TGA can hold. -/
import Derived.Test.YtdkhjcmhjlbpaaaLd
import Derived.Test.YtdkhjcmhjlbpaaaMm
import Derived.Test.YtdkhjcmhjlbpaaaWj
set_option linter.unusedVariables false
set_option maxRecDepth 10000
namespace Go.Proofs.Ytdkhjcmhjlbpaaa.G
open Go
theorem wf_u8 {n : Int} (h : (Lit.int .u8 n).wf = true) : 0 ≤ n ∧ n ≤ 255 := by
  simp [Lit.wf, IntKind.min, IntKind.max, IntKind.signed, IntKind.bits] at h
  omega
theorem sim_sing {q : Nat × GO} {w : World} (h : q.2.holds w.heap[q.1]?) : Sim [q] w := by
  refine ⟨fun i j p p' hi hj _ _ _ => ?_, fun p hp => by rw [List.mem_singleton.1 hp]; exact h⟩
  have h1 := (List.getElem?_eq_some_iff.1 hi).1
  have h2 := (List.getElem?_eq_some_iff.1 hj).1
  simp at h1 h2
  omega
theorem Trip.rowB {P : Program} {f : FuncId} {a : Option Addr} {len cap : Nat} {z : List Int} {w : World} (w0 : (a = none ∧ len = 0 ∧ cap = 0 ∧ z = []) ∨ ∃ x, a = some x ∧ len ≤ cap ∧ cap ≤ maxLen ∧ z.length = cap ∧ (∀ i, i < z.length → w.cell? (x.add i) = some (.int .u8 (z.getD i 0))) ∧ ∀ n ∈ z, (Lit.int .u8 n).wf = true)
    (h : ∀ q zs, LB a len cap q zs → q.2.own = false → Trip P f [.slice a len cap] [q] (fun v F' ns => v = .bool true)) : Calls P f #[.slice a len cap] w fun e w' => e = .returned (.bool true) ∧ RowKit.Below w.heap.size w w' := by
  have key : ∃ q zs, LB a len cap q zs ∧ q.2.own = false ∧ q.2.holds w.heap[q.1]? := by
    by_cases hl : len = 0
    · refine ⟨(0, .none), [], ⟨hl, ?_, .inl rfl, fun x hx => by cases hx⟩, rfl, trivial⟩
      rcases w0 with ⟨_, h1, h2, _⟩ | ⟨_, _, h1, _⟩ <;> omega
    · rcases w0 with ⟨_, h1, _⟩ | ⟨x, rfl, h1, h2, h3, h4, h5⟩
      · exact absurd h1 hl
      · have c0 := h4 0 (by omega)
        have hx0 : x.add 0 = x := by simp [Addr.add]
        rw [hx0] at c0
        unfold World.cell? at c0
        split at c0
        case h_2 => cases c0
        case h_1 c t fr hc =>
        obtain ⟨b, o, sp⟩ := x
        have hsp : sp = none := by
          cases sp with
          | none => rfl
          | some s => simp at c0
        subst hsp
        dsimp only at hc
        have hcell : ∀ i, i < z.length → c.toList[o + i]? = some (.int .u8 (z.getD i 0)) := by
          intro i hi
          have := h4 i hi
          unfold World.cell? at this
          have e1 : ((⟨b, o, none⟩ : Addr).add i) = ⟨b, o + i, none⟩ := Addr.add_mid b o i
          rw [e1] at this
          dsimp only at this
          rw [hc] at this
          simpa using this
        refine ⟨(b, .ro c.toList), z.take len, ⟨by simp; omega, h1, .inr ⟨o, rfl, ?_, ?_⟩, ?_⟩, rfl, c, t, fr, hc, List.prefix_refl _⟩
        · have := (List.getElem?_eq_some_iff.1 (hcell (len - 1) (by omega))).1
          simp only [List.length_take, cellsG]
          omega
        · have e : (z.take len).length = len := by simp; omega
          rw [e]
          apply List.ext_getElem?
          intro i
          by_cases hi : i < len
          · rw [List.getElem?_take_of_lt hi, List.getElem?_drop]
            show c.toList[o + i]? = _
            rw [hcell i (by omega), bytesV, List.getElem?_map, List.getElem?_take_of_lt hi, List.getElem?_eq_getElem (by omega)]
            simp [List.getD, show i < z.length by omega]
          · rw [List.getElem?_eq_none (by simp; omega), List.getElem?_eq_none (by simp [bytesV]; omega)]
        · intro y hy
          exact wf_u8 (h5 y (List.mem_of_mem_take hy))
  obtain ⟨q, zs, hb, ho, hq⟩ := key
  refine (h q zs hb ho w (sim_sing hq)).mono fun e w' ⟨v, F', ns, h1, h2, h3⟩ => ⟨by rw [h1, h2], ?_⟩
  have hf := h3.fr
  refine ⟨hf.os, hf.tape, hf.output, hf.size, fun b hb2 => hf.keep b hb2 fun ⟨x, hx, hox⟩ => ?_⟩
  have := List.mem_singleton.1 hx
  rw [← this] at ho
  rw [ho] at hox
  cases hox
theorem txt_ne {l : List Int} (h : 1 ≤ l.length) : txt l ≠ ⟨#[]⟩ := fun e => by
  have := congrArg ByteArray.size e
  rw [txt_size] at this
  have h0 : (⟨#[]⟩ : ByteArray).size = 0 := rfl
  omega
theorem tgaL_len (k d w h : Int) (cs ps : List Int) (runs : Bool) : 1 ≤ (tgaL k d w h cs ps runs).length := by
  unfold tgaL
  simp only [List.length_append, List.length_cons]
  omega
theorem put_bytes {l : List Int} {i : Nat} {x : Int} (hi : i < l.length) : put (bytesV l) i [.int .u8 x] = bytesV (l.set i x) := by
  unfold put
  rw [List.set_eq_take_append_cons_drop, if_pos hi]
  simp [bytesV, List.map_take, List.map_drop]
theorem tgaPut_len (k d w h : Int) (cs ps : List Int) (runs : Bool) : (tgaPut k d w h cs ps runs).length ≤ 5000 := by
  unfold tgaPut
  split
  · rename_i hP
    obtain ⟨l1, l2, _⟩ := imgOk_len hP.1
    obtain ⟨z, hd, hz0, hz1, hz4, _⟩ := rol_fits hP.1 hP.2
    have hDl : (tData k d ps runs).length ≤ 2000 := by
      unfold tData
      rw [hz0]
      split
      · have := pack_len (l := ps.map (rol k)) hz4
        rw [List.length_map] at this
        omega
      · rw [les_len, List.length_map]
        have := Nat.mul_le_mul l2 hz4
        omega
    unfold tgaL
    simp only [List.length_append, les_len, List.length_cons, List.length_nil]
    omega
  · simp
section
variable {ops os : List Oper} {H : Option (List Hint)} {K : Env → GL → Prop} {e : Env} {l : GL} {d : Nat} {T : TypeId} {pos : String} {af : Array Edge}
/-- Two texts, one behind the other: any texts. -/
theorem gs_cats {x y : Operand} {a b : ByteArray} {t u : TypeId} (hx : gev e x = .string a) (hy : gev e y = .string b) (hs : a.size + b.size ≤ 1000000000000) (k : gseq Try.prog ops os (tl? H) K (upd e d (.string (a ++ b))) l) (hh : hN H := by trivial) :
    gseq Try.prog ops (⟨some d, .binOp .add t x y u, T, pos, af, none⟩ :: os) H K e l := by
  refine gs_n tyT_ok 0 (p := a.size + b.size ≤ 9223372036854775807) (v := .string (a ++ b)) k ?_ (by omega) hh
  simp only [dval, hx, hy, binV]
end
/-- The bytes of a text. -/
def bts (s : ByteArray) : List Int := s.data.toList.map fun b => (b.toNat : Int)
theorem bts_len (s : ByteArray) : (bts s).length = s.size := by
  rw [bts, List.length_map, Array.length_toList]
  rfl
theorem bts_V (s : ByteArray) : (s.data.toList.map fun b => Value.int .u8 (b.toNat : Int)) = bytesV (bts s) := by simp [bts, bytesV]
theorem ownB {v : Value} {p : Nat × GO} {L : List Int} (hv : OwnE 5 1 v p (bytesV L)) (h1 : 1 ≤ L.length) : ∃ b cap m, v = .slice (some ⟨b, 0, none⟩) L.length cap ∧ p = (b, .row 5 (bytesV L) m) ∧ L.length ≤ m := by
  rcases hv with ⟨_, _, h3⟩ | ⟨b, len, cap, m, h3, h4, h5, h6, h7⟩
  · simp [bytesV] at h3
    rw [h3] at h1
    simp at h1
  · have : L.length = len := by simpa [bytesV] using h5
    subst this
    exact ⟨b, cap, m, h3, h4, by omega⟩
theorem bcell {L : List Int} {b m r : Nat} (h : r < L.length) : (cellsG (.row 5 (bytesV L) m))[0 + r * 1]? = some (.int .u8 (L.getD r 0)) := by
  rw [Nat.zero_add, Nat.mul_one]
  show (bytesV L)[r]? = _
  rw [bytesV, List.getElem?_map, List.getElem?_eq_getElem h]
  simp [List.getD, h]
/-- A byte stored in a row that is owned. -/
theorem gs_setb (j : Nat) {ops os : List Oper} {H : Option (List Hint)} {K : Env → GL → Prop} {e : Env} {l : GL} {T : TypeId} {pos : String} {af : Array Edge} {x y : Operand} {b m i : Nat} {n : Int} {zs : List Int} (hx : gev e x = .pointer (some ⟨b, 0 + i * 1, none⟩)) (hy : gev e y = .int .u8 n) (hl : l[j]? = some (b, .row 5 (bytesV zs) m)) (hi : i < zs.length) (hm : zs.length ≤ m)
    (k : gseq Try.prog ops os (tl? H) K e (l.set j (b, .row 5 (bytesV (zs.set i n)) m))) (hh : hE [j] H := by trivial) : gseq Try.prog ops (⟨none, .store 5 x y, T, pos, af, none⟩ :: os) H K e l := by
  rw [Nat.zero_add, Nat.mul_one] at hx
  refine gs_store tyT_ok j (b := b) (off := i) hx hl rfl (vs := [.int .u8 n]) (by rw [hy]; rfl) rfl rfl (by simp only [bytesV, List.length_map]; omega) (by show i + 1 ≤ m; omega) ?_ hh
  rw [put_bytes hi]
  exact k
set_option maxHeartbeats 1000000 in
theorem bend_w {g : Nat} {p q : Nat × GO} {B : Nat} {s : ByteArray} (hr : RS g q B p) (hB : B ≤ 100000000) (hs : s.size ≤ 5000) : Trip Try.prog 76 [ptr g, .string s] [p, q] (fun v F' ns => ∃ t p', v = .string t ∧ F' = [p', q] ∧ ns = [] ∧ t.size ≤ 5000) := by
  refine trip_of Try.func76 rfl (by simp [Try.ntmps76]) ?_
  repeat (first | refine gs_n tyT_ok 0 ?_ | refine gs_gn tyT_ok 0 rfl ?_ | refine gs_no rfl ?_ | refine gs_end ?_ | refine gs_end' ?_ | refine gw_seq ?_ | refine gw_text rfl ?_ | refine gw_skip ?_ | refine gw_yes rfl ?_ | refine gw_no rfl ?_ | refine gw_exit ?_ | refine gw_block ?_ | refine gw_label ?_ | (refine gs_n tyT_ok 0 ?_ (hp := ?hp); case hp => exact ⟨by decide, by decide⟩))
  by_cases k0 : s = ⟨#[]⟩
  · refine gs_t tyT_ok (decide_eq_true k0) ?_
    repeat (first | refine gs_n tyT_ok 0 ?_ | refine gs_gn tyT_ok 0 rfl ?_ | refine gs_no rfl ?_ | refine gs_end ?_ | refine gs_end' ?_ | refine gw_seq ?_ | refine gw_text rfl ?_ | refine gw_skip ?_ | refine gw_yes rfl ?_ | refine gw_no rfl ?_ | refine gw_exit ?_ | refine gw_block ?_ | refine gw_label ?_ | (refine gs_n tyT_ok 0 ?_ (hp := ?hp); case hp => exact ⟨by decide, by decide⟩))
    exact gw_ret ⟨_, [p, q], [], [0, 1], .tmp .nil, ⟨s, p, rfl, rfl, rfl, hs⟩, rfl, rfl, by decide⟩
  refine gs_f tyT_ok (decide_eq_false k0) ?_
  have h1 : 1 ≤ (bts s).length := by
    rw [bts_len]
    refine Nat.pos_of_ne_zero fun h => k0 ?_
    apply ByteArray.ext
    exact Array.eq_empty_of_size_eq_zero h
  have h2 : (bts s).length ≤ 5000 := by rw [bts_len]; exact hs
  repeat (first | refine gs_n tyT_ok 0 ?_ | refine gs_gn tyT_ok 0 rfl ?_ | refine gs_no rfl ?_ | refine gs_end ?_ | refine gs_end' ?_ | refine gw_seq ?_ | refine gw_text rfl ?_ | refine gw_skip ?_ | refine gw_yes rfl ?_ | refine gw_no rfl ?_ | refine gw_exit ?_ | refine gw_block ?_ | refine gw_label ?_ | (refine gs_n tyT_ok 0 ?_ (hp := ?hp); case hp => exact ⟨by decide, by decide⟩))
  refine gs_bytes tyT_ok rfl rfl rfl rfl fun v p2 hv => ?_
  rw [bts_V] at hv
  generalize bts s = L at *
  obtain ⟨b, cap, m, rfl, rfl, hm⟩ := ownB hv h1
  repeat (first | refine gs_n tyT_ok 0 ?_ | refine gs_gn tyT_ok 0 rfl ?_ | refine gs_no rfl ?_ | refine gs_end ?_ | refine gs_end' ?_ | refine gw_seq ?_ | refine gw_text rfl ?_ | refine gw_skip ?_ | refine gw_yes rfl ?_ | refine gw_no rfl ?_ | refine gw_exit ?_ | refine gw_block ?_ | refine gw_label ?_ | (refine gs_n tyT_ok 0 ?_ (hp := ?hp); case hp => exact ⟨by decide, by decide⟩))
  refine gs_pick 0 1 hr rfl rfl rfl rfl (by decide) (by omega) (by omega) fun r p3 hr3 ra rb => ?_
  obtain ⟨R, rfl⟩ := Int.eq_ofNat_of_zero_le ra
  have hR : R < L.length := by omega
  repeat (first | refine gs_n tyT_ok 0 ?_ | refine gs_gn tyT_ok 0 rfl ?_ | refine gs_no rfl ?_ | refine gs_end ?_ | refine gs_end' ?_ | refine gw_seq ?_ | refine gw_text rfl ?_ | refine gw_skip ?_ | refine gw_yes rfl ?_ | refine gw_no rfl ?_ | refine gw_exit ?_ | refine gw_block ?_ | refine gw_label ?_ | (refine gs_n tyT_ok 0 ?_ (hp := ?hp); case hp => exact ⟨by decide, by decide⟩))
  refine gw_any [.N, .N, .N, .N, .N, .L 2, .N, .E [0, 1], .N, .N, .N, .N, .E [2]] rfl rfl rfl ?_
  repeat (first | refine gs_n tyT_ok 0 ?_ | refine gs_gn tyT_ok 0 rfl ?_ | refine gs_no rfl ?_)
  refine gs_atb 2 rfl rfl rfl rfl (bcell (b := b) hR) ?_
  repeat (first | refine gs_n tyT_ok 0 ?_ | refine gs_gn tyT_ok 0 rfl ?_ | refine gs_no rfl ?_)
  refine gs_pick 0 1 hr3 rfl rfl rfl rfl (by decide) (by omega) (by omega) fun r4 p4 hr4 r4a r4b => ?_
  repeat (first | refine gs_n tyT_ok 0 ?_ | refine gs_gn tyT_ok 0 rfl ?_ | refine gs_no rfl ?_)
  refine gs_setb 2 rfl rfl rfl hR hm ?_
  refine gs_end' ?_
  repeat (first | refine gs_n tyT_ok 0 ?_ | refine gs_gn tyT_ok 0 rfl ?_ | refine gs_no rfl ?_ | refine gs_end ?_ | refine gs_end' ?_ | refine gw_seq ?_ | refine gw_text rfl ?_ | refine gw_skip ?_ | refine gw_yes rfl ?_ | refine gw_no rfl ?_ | refine gw_exit ?_ | refine gw_block ?_ | refine gw_label ?_ | (refine gs_n tyT_ok 0 ?_ (hp := ?hp); case hp => exact ⟨by decide, by decide⟩))
  refine gs_txt 2 rfl rfl (List.length_set ..) ?_
  repeat (first | refine gs_n tyT_ok 0 ?_ | refine gs_gn tyT_ok 0 rfl ?_ | refine gs_no rfl ?_ | refine gs_end ?_ | refine gs_end' ?_ | refine gw_seq ?_ | refine gw_text rfl ?_ | refine gw_skip ?_ | refine gw_yes rfl ?_ | refine gw_no rfl ?_ | refine gw_exit ?_ | refine gw_block ?_ | refine gw_label ?_ | (refine gs_n tyT_ok 0 ?_ (hp := ?hp); case hp => exact ⟨by decide, by decide⟩))
  exact gw_ret ⟨_, [p4, q], [], [0, 1], .tmp .nil, ⟨_, p4, rfl, rfl, rfl, by rw [txt_size, List.length_set]; exact h2⟩, rfl, rfl, by decide⟩
set_option maxHeartbeats 1000000 in
theorem drawTgaGet_w {a : Option Addr} {n c : Nat} {q : Nat × GO} {zs : List Int} (hb : LB a n c q zs) (hn : n ≤ 1000000000000) : Trip Try.prog 34 [.slice a n c] [q] (fun v F' ns => ∃ s, v = .string s ∧ F' = [q] ∧ ns = [] ∧ s.size ≤ 100000) := by
  refine trip_of Try.func34 rfl (by simp [Try.ntmps34]) ?_
  repeat (first | refine gs_n tyT_ok 0 ?_ | refine gs_gn tyT_ok 0 rfl ?_ | refine gs_no rfl ?_ | refine gs_end ?_ | refine gs_end' ?_ | refine gw_seq ?_ | refine gw_text rfl ?_ | refine gw_skip ?_ | refine gw_yes rfl ?_ | refine gw_no rfl ?_ | refine gw_exit ?_ | refine gw_block ?_ | refine gw_label ?_ | (refine gs_n tyT_ok 0 ?_ (hp := ?hp); case hp => exact ⟨by decide, by decide⟩))
  refine gs_call [0] ent66 rfl (by decide) (open_w hb hn) fun v F' ns ho _ _ => ?_
  obtain ⟨g, p, rfl, rfl, rfl, hr⟩ := ho
  repeat (first | refine gs_n tyT_ok 0 ?_ | refine gs_gn tyT_ok 0 rfl ?_ | refine gs_no rfl ?_ | refine gs_end ?_ | refine gs_end' ?_ | refine gw_seq ?_ | refine gw_text rfl ?_ | refine gw_skip ?_ | refine gw_yes rfl ?_ | refine gw_no rfl ?_ | refine gw_exit ?_ | refine gw_block ?_ | refine gw_label ?_ | (refine gs_n tyT_ok 0 ?_ (hp := ?hp); case hp => exact ⟨by decide, by decide⟩))
  refine gs_call [1, 0] ent69 rfl (by decide) (eight_w hr (by omega)) fun v F' ns ho _ _ => ?_
  obtain ⟨k, d, w, h, a1, n1, c1, a2, n2, c2, e1, e2, cs, ps, p2, rfl, rfl, rfl, i1, i2, i3, i4, hr2⟩ := ho
  repeat (first | refine gs_n tyT_ok 0 ?_ | refine gs_gn tyT_ok 0 rfl ?_ | refine gs_no rfl ?_ | refine gs_end ?_ | refine gs_end' ?_ | refine gw_seq ?_ | refine gw_text rfl ?_ | refine gw_skip ?_ | refine gw_yes rfl ?_ | refine gw_no rfl ?_ | refine gw_exit ?_ | refine gw_block ?_ | refine gw_label ?_ | (refine gs_n tyT_ok 0 ?_ (hp := ?hp); case hp => exact ⟨by decide, by decide⟩))
  refine gs_pick 1 0 hr2 rfl rfl rfl rfl (by decide) (by omega) (by omega) fun y p3 hr3 ya yb => ?_
  refine gs_n tyT_ok 1 ?_
  refine gs_rd [2, 3] ent32 rfl (by decide) (sTgaPut_w i1 i2 (by omega) (by omega)) ?_
  obtain ⟨S, hS, hSz⟩ : ∃ S, S = txt (tgaPut k d w h cs ps (decide (y = 0))) ∧ S.size ≤ 5000 := ⟨_, rfl, by rw [txt_size]; exact tgaPut_len _ _ _ _ _ _ _⟩
  rw [← hS]
  clear hS
  refine gs_n tyT_ok 0 ?_
  refine gs_end ?_
  refine gw_weak [0, 1] (by decide) rfl ?_
  repeat (first | refine gs_n tyT_ok 0 ?_ | refine gs_gn tyT_ok 0 rfl ?_ | refine gs_no rfl ?_ | refine gs_end ?_ | refine gs_end' ?_ | refine gw_seq ?_ | refine gw_text rfl ?_ | refine gw_skip ?_ | refine gw_yes rfl ?_ | refine gw_no rfl ?_ | refine gw_exit ?_ | refine gw_block ?_ | refine gw_label ?_ | (refine gs_n tyT_ok 0 ?_ (hp := ?hp); case hp => exact ⟨by decide, by decide⟩))
  refine gs_pick 1 0 hr3 rfl rfl rfl rfl (by decide) (by omega) (by omega) fun x p4 hr4 xa xb => ?_
  by_cases k0 : x = 0
  · repeat (first | refine gs_n tyT_ok 0 ?_ | refine gs_gn tyT_ok 0 rfl ?_ | refine gs_no rfl ?_ | refine gs_end ?_ | refine gs_end' ?_ | refine gw_seq ?_ | refine gw_text rfl ?_ | refine gw_skip ?_ | refine gw_yes rfl ?_ | refine gw_no rfl ?_ | refine gw_exit ?_ | refine gw_block ?_ | refine gw_label ?_ | (refine gs_n tyT_ok 0 ?_ (hp := ?hp); case hp => exact ⟨by decide, by decide⟩) | (refine gs_tg tyT_ok rfl ?hb ?_; case hb => first | exact decide_eq_true (by omega) | exact congrArg Bool.not (decide_eq_false (by omega)) | (simp; done) | (simp; omega)) | (refine gs_fg tyT_ok rfl ?hb ?_; case hb => first | exact decide_eq_false (by omega) | exact congrArg Bool.not (decide_eq_true (by omega)) | (simp; done) | (simp; omega)) | (refine gs_t tyT_ok ?hb ?_; case hb => first | exact decide_eq_true (by omega) | exact congrArg Bool.not (decide_eq_false (by omega)) | (simp; done) | (simp; omega)) | (refine gs_f tyT_ok ?hb ?_; case hb => first | exact decide_eq_false (by omega) | exact congrArg Bool.not (decide_eq_true (by omega)) | (simp; done) | (simp; omega)))
    refine gs_call [1, 0] ent76 rfl (by decide) (bend_w hr4 (by omega) hSz) fun v F' ns ho _ _ => ?_
    obtain ⟨t, p5, rfl, rfl, rfl, ht⟩ := ho
    repeat (first | refine gs_n tyT_ok 0 ?_ | refine gs_gn tyT_ok 0 rfl ?_ | refine gs_no rfl ?_ | refine gs_end ?_ | refine gs_end' ?_ | refine gw_seq ?_ | refine gw_text rfl ?_ | refine gw_skip ?_ | refine gw_yes rfl ?_ | refine gw_no rfl ?_ | refine gw_exit ?_ | refine gw_block ?_ | refine gw_label ?_ | (refine gs_n tyT_ok 0 ?_ (hp := ?hp); case hp => exact ⟨by decide, by decide⟩))
    exact gw_ret ⟨_, [q], [], [0], .tmp .nil, ⟨t, rfl, rfl, rfl, by omega⟩, rfl, rfl, by decide⟩
  by_cases k1 : x = 1
  · repeat (first | refine gs_n tyT_ok 0 ?_ | refine gs_gn tyT_ok 0 rfl ?_ | refine gs_no rfl ?_ | refine gs_end ?_ | refine gs_end' ?_ | refine gw_seq ?_ | refine gw_text rfl ?_ | refine gw_skip ?_ | refine gw_yes rfl ?_ | refine gw_no rfl ?_ | refine gw_exit ?_ | refine gw_block ?_ | refine gw_label ?_ | (refine gs_n tyT_ok 0 ?_ (hp := ?hp); case hp => exact ⟨by decide, by decide⟩) | (refine gs_tg tyT_ok rfl ?hb ?_; case hb => first | exact decide_eq_true (by omega) | exact congrArg Bool.not (decide_eq_false (by omega)) | (simp; done) | (simp; omega)) | (refine gs_fg tyT_ok rfl ?hb ?_; case hb => first | exact decide_eq_false (by omega) | exact congrArg Bool.not (decide_eq_true (by omega)) | (simp; done) | (simp; omega)) | (refine gs_t tyT_ok ?hb ?_; case hb => first | exact decide_eq_true (by omega) | exact congrArg Bool.not (decide_eq_false (by omega)) | (simp; done) | (simp; omega)) | (refine gs_f tyT_ok ?hb ?_; case hb => first | exact decide_eq_false (by omega) | exact congrArg Bool.not (decide_eq_true (by omega)) | (simp; done) | (simp; omega)))
    refine gs_pick 1 0 hr4 rfl rfl rfl rfl (by decide) (by omega) (by omega) fun r p5 hr5 ra rb => ?_
    repeat (first | refine gs_n tyT_ok 0 ?_ | refine gs_gn tyT_ok 0 rfl ?_ | refine gs_no rfl ?_ | refine gs_end ?_ | refine gs_end' ?_ | refine gw_seq ?_ | refine gw_text rfl ?_ | refine gw_skip ?_ | refine gw_yes rfl ?_ | refine gw_no rfl ?_ | refine gw_exit ?_ | refine gw_block ?_ | refine gw_label ?_ | (refine gs_n tyT_ok 0 ?_ (hp := ?hp); case hp => exact ⟨by decide, by decide⟩))
    exact gw_ret ⟨_, [q], [], [0], .tmp .nil, ⟨_, rfl, rfl, rfl, by rw [ByteArray.size_extract]; omega⟩, rfl, rfl, by decide⟩
  by_cases k2 : x = 2
  · by_cases k9 : 18 < S.size
    · refine gs_end ?_
      refine gw_nil (gw_nil ?_)
      repeat (first | refine gs_n tyT_ok 0 ?_ | refine gs_gn tyT_ok 0 rfl ?_ | refine gs_no rfl ?_ | refine gs_end ?_ | refine gs_end' ?_ | refine gw_seq ?_ | refine gw_text rfl ?_ | refine gw_skip ?_ | refine gw_yes rfl ?_ | refine gw_no rfl ?_ | refine gw_exit ?_ | refine gw_block ?_ | refine gw_label ?_ | (refine gs_n tyT_ok 0 ?_ (hp := ?hp); case hp => exact ⟨by decide, by decide⟩) | (refine gs_tg tyT_ok rfl ?hb ?_; case hb => first | exact decide_eq_true (by omega) | exact congrArg Bool.not (decide_eq_false (by omega)) | (simp; done) | (simp; omega)) | (refine gs_fg tyT_ok rfl ?hb ?_; case hb => first | exact decide_eq_false (by omega) | exact congrArg Bool.not (decide_eq_true (by omega)) | (simp; done) | (simp; omega)) | (refine gs_t tyT_ok ?hb ?_; case hb => first | exact decide_eq_true (by omega) | exact congrArg Bool.not (decide_eq_false (by omega)) | (simp; done) | (simp; omega)) | (refine gs_f tyT_ok ?hb ?_; case hb => first | exact decide_eq_false (by omega) | exact congrArg Bool.not (decide_eq_true (by omega)) | (simp; done) | (simp; omega)))
      refine gw_any [.A 2 (.row 5 (bytesV [3]) 1) (some 1), .L 2, .N, .N, .N, .N, .N, .N, .A 3 (.row 5 (bytesV [((S.data.toList.getD (Int.toNat 17) 0).toNat : Int) % 32]) 1) (some 1), .L 3, .N, .N, .N, .N, .N, .N] rfl rfl rfl ?_
      refine gs_litA tyT_ok 2 (cs := bytesV [3]) rfl rfl rfl (by decide) rfl rfl rfl (fun bA => ?_) ⟨rfl, rfl, rfl⟩
      refine gs_txt 2 (xs := [3]) rfl rfl rfl ?_
      repeat (first | refine gs_n tyT_ok 0 ?_ | refine gs_gn tyT_ok 0 rfl ?_ | refine gs_no rfl ?_)
      refine gs_cats (a := txt [3]) (b := S.extract (Int.toNat 1) (Int.toNat 17)) rfl rfl (by rw [txt_size, ByteArray.size_extract]; simp; omega) ?_
      repeat (first | refine gs_n tyT_ok 0 ?_ | refine gs_gn tyT_ok 0 rfl ?_ | refine gs_no rfl ?_)
      refine gs_litA tyT_ok 3 (cs := bytesV [((S.data.toList.getD (Int.toNat 17) 0).toNat : Int) % 32]) rfl rfl rfl (by decide) rfl rfl rfl (fun bB => ?_) ⟨rfl, rfl, rfl⟩
      refine gs_txt 3 (xs := [((S.data.toList.getD (Int.toNat 17) 0).toNat : Int) % 32]) rfl rfl rfl ?_
      obtain ⟨X, hX, hXs⟩ : ∃ X, X = txt [3] ++ S.extract (Int.toNat 1) (Int.toNat 17) ∧ X.size ≤ 5001 := ⟨_, rfl, by rw [ByteArray.size_append, txt_size, ByteArray.size_extract]; simp; omega⟩
      rw [← hX]
      refine gs_cats (a := X) (b := txt [((S.data.toList.getD (Int.toNat 17) 0).toNat : Int) % 32]) rfl rfl (by rw [txt_size]; simp; omega) ?_
      obtain ⟨Y, hY, hYs⟩ : ∃ Y, Y = X ++ txt [((S.data.toList.getD (Int.toNat 17) 0).toNat : Int) % 32] ∧ Y.size ≤ 5002 := ⟨_, rfl, by rw [ByteArray.size_append, txt_size]; simp; omega⟩
      rw [← hY]
      refine gs_cats (a := Y) (b := ⟨#[97, 98, 99]⟩) rfl rfl (by show Y.size + 3 ≤ _; omega) ?_
      obtain ⟨Z, hZ, hZs⟩ : ∃ Z, Z = Y ++ ⟨#[97, 98, 99]⟩ ∧ Z.size ≤ 5005 := ⟨_, rfl, by rw [ByteArray.size_append]; show Y.size + 3 ≤ _; omega⟩
      rw [← hZ]
      repeat (first | refine gs_n tyT_ok 0 ?_ | refine gs_gn tyT_ok 0 rfl ?_ | refine gs_no rfl ?_)
      refine gs_cats (a := Z) (b := S.extract (Int.toNat 18) (Int.toNat (S.size : Int))) rfl rfl (by rw [ByteArray.size_extract]; omega) ?_
      repeat (first | refine gs_n tyT_ok 0 ?_ | refine gs_gn tyT_ok 0 rfl ?_ | refine gs_no rfl ?_ | refine gs_end ?_ | refine gs_end' ?_ | refine gw_seq ?_ | refine gw_text rfl ?_ | refine gw_skip ?_ | refine gw_yes rfl ?_ | refine gw_no rfl ?_ | refine gw_exit ?_ | refine gw_block ?_ | refine gw_label ?_ | (refine gs_n tyT_ok 0 ?_ (hp := ?hp); case hp => exact ⟨by decide, by decide⟩))
      exact gw_ret ⟨_, [q], [], [0], .tmp .nil, ⟨_, rfl, rfl, rfl, by rw [ByteArray.size_append, ByteArray.size_extract]; omega⟩, rfl, rfl, by decide⟩
    · repeat (first | refine gs_n tyT_ok 0 ?_ | refine gs_gn tyT_ok 0 rfl ?_ | refine gs_no rfl ?_ | refine gs_end ?_ | refine gs_end' ?_ | refine gw_seq ?_ | refine gw_text rfl ?_ | refine gw_skip ?_ | refine gw_yes rfl ?_ | refine gw_no rfl ?_ | refine gw_exit ?_ | refine gw_block ?_ | refine gw_label ?_ | (refine gs_n tyT_ok 0 ?_ (hp := ?hp); case hp => exact ⟨by decide, by decide⟩) | (refine gs_tg tyT_ok rfl ?hb ?_; case hb => first | exact decide_eq_true (by omega) | exact congrArg Bool.not (decide_eq_false (by omega)) | (simp; done) | (simp; omega)) | (refine gs_fg tyT_ok rfl ?hb ?_; case hb => first | exact decide_eq_false (by omega) | exact congrArg Bool.not (decide_eq_true (by omega)) | (simp; done) | (simp; omega)) | (refine gs_t tyT_ok ?hb ?_; case hb => first | exact decide_eq_true (by omega) | exact congrArg Bool.not (decide_eq_false (by omega)) | (simp; done) | (simp; omega)) | (refine gs_f tyT_ok ?hb ?_; case hb => first | exact decide_eq_false (by omega) | exact congrArg Bool.not (decide_eq_true (by omega)) | (simp; done) | (simp; omega)))
      exact gw_ret ⟨_, [q], [], [0], .tmp .nil, ⟨S, rfl, rfl, rfl, by omega⟩, rfl, rfl, by decide⟩
  by_cases k3 : x = 3
  · by_cases k9 : 18 < S.size
    · repeat (first | refine gs_n tyT_ok 0 ?_ | refine gs_gn tyT_ok 0 rfl ?_ | refine gs_no rfl ?_ | refine gs_end ?_ | refine gs_end' ?_ | refine gw_seq ?_ | refine gw_text rfl ?_ | refine gw_skip ?_ | refine gw_yes rfl ?_ | refine gw_no rfl ?_ | refine gw_exit ?_ | refine gw_block ?_ | refine gw_label ?_ | (refine gs_n tyT_ok 0 ?_ (hp := ?hp); case hp => exact ⟨by decide, by decide⟩) | (refine gs_tg tyT_ok rfl ?hb ?_; case hb => first | exact decide_eq_true (by omega) | exact congrArg Bool.not (decide_eq_false (by omega)) | (simp; done) | (simp; omega)) | (refine gs_fg tyT_ok rfl ?hb ?_; case hb => first | exact decide_eq_false (by omega) | exact congrArg Bool.not (decide_eq_true (by omega)) | (simp; done) | (simp; omega)) | (refine gs_t tyT_ok ?hb ?_; case hb => first | exact decide_eq_true (by omega) | exact congrArg Bool.not (decide_eq_false (by omega)) | (simp; done) | (simp; omega)) | (refine gs_f tyT_ok ?hb ?_; case hb => first | exact decide_eq_false (by omega) | exact congrArg Bool.not (decide_eq_true (by omega)) | (simp; done) | (simp; omega)))
      refine gs_bytes tyT_ok rfl rfl rfl rfl fun v p2 hv => ?_
      rw [bts_V] at hv
      have h2 := bts_len S
      generalize bts S = L at *
      obtain ⟨b, cap, m, rfl, rfl, hm⟩ := ownB hv (by omega)
      repeat (first | refine gs_n tyT_ok 0 ?_ | refine gs_gn tyT_ok 0 rfl ?_ | refine gs_no rfl ?_ | refine gs_end ?_ | refine gs_end' ?_ | refine gw_seq ?_ | refine gw_text rfl ?_ | refine gw_skip ?_ | refine gw_yes rfl ?_ | refine gw_no rfl ?_ | refine gw_exit ?_ | refine gw_block ?_ | refine gw_label ?_ | (refine gs_n tyT_ok 0 ?_ (hp := ?hp); case hp => exact ⟨by decide, by decide⟩))
      refine gs_pick 1 0 hr4 rfl rfl rfl rfl (by decide) (by omega) (by omega) fun r p5 hr5 ra rb => ?_
      obtain ⟨R, rfl⟩ := Int.eq_ofNat_of_zero_le ra
      have hR : R < L.length := by omega
      repeat (first | refine gs_n tyT_ok 0 ?_ | refine gs_gn tyT_ok 0 rfl ?_ | refine gs_no rfl ?_ | refine gs_end ?_ | refine gs_end' ?_ | refine gw_seq ?_ | refine gw_text rfl ?_ | refine gw_skip ?_ | refine gw_yes rfl ?_ | refine gw_no rfl ?_ | refine gw_exit ?_ | refine gw_block ?_ | refine gw_label ?_ | (refine gs_n tyT_ok 0 ?_ (hp := ?hp); case hp => exact ⟨by decide, by decide⟩))
      refine gs_pick 1 0 hr5 rfl rfl rfl rfl (by decide) (by omega) (by omega) fun r6 p6 hr6 r6a r6b => ?_
      repeat (first | refine gs_n tyT_ok 0 ?_ | refine gs_gn tyT_ok 0 rfl ?_ | refine gs_no rfl ?_ | refine gs_end ?_ | refine gs_end' ?_ | refine gw_seq ?_ | refine gw_text rfl ?_ | refine gw_skip ?_ | refine gw_yes rfl ?_ | refine gw_no rfl ?_ | refine gw_exit ?_ | refine gw_block ?_ | refine gw_label ?_ | (refine gs_n tyT_ok 0 ?_ (hp := ?hp); case hp => exact ⟨by decide, by decide⟩))
      refine gs_setb 2 rfl rfl rfl hR hm ?_
      repeat (first | refine gs_n tyT_ok 0 ?_ | refine gs_gn tyT_ok 0 rfl ?_ | refine gs_no rfl ?_ | refine gs_end ?_ | refine gs_end' ?_ | refine gw_seq ?_ | refine gw_text rfl ?_ | refine gw_skip ?_ | refine gw_yes rfl ?_ | refine gw_no rfl ?_ | refine gw_exit ?_ | refine gw_block ?_ | refine gw_label ?_ | (refine gs_n tyT_ok 0 ?_ (hp := ?hp); case hp => exact ⟨by decide, by decide⟩))
      refine gs_txt 2 rfl rfl (List.length_set ..) ?_
      repeat (first | refine gs_n tyT_ok 0 ?_ | refine gs_gn tyT_ok 0 rfl ?_ | refine gs_no rfl ?_ | refine gs_end ?_ | refine gs_end' ?_ | refine gw_seq ?_ | refine gw_text rfl ?_ | refine gw_skip ?_ | refine gw_yes rfl ?_ | refine gw_no rfl ?_ | refine gw_exit ?_ | refine gw_block ?_ | refine gw_label ?_ | (refine gs_n tyT_ok 0 ?_ (hp := ?hp); case hp => exact ⟨by decide, by decide⟩))
      exact gw_ret ⟨_, [q], [], [0], .tmp .nil, ⟨_, rfl, rfl, rfl, by rw [txt_size, List.length_set]; omega⟩, rfl, rfl, by decide⟩
    · repeat (first | refine gs_n tyT_ok 0 ?_ | refine gs_gn tyT_ok 0 rfl ?_ | refine gs_no rfl ?_ | refine gs_end ?_ | refine gs_end' ?_ | refine gw_seq ?_ | refine gw_text rfl ?_ | refine gw_skip ?_ | refine gw_yes rfl ?_ | refine gw_no rfl ?_ | refine gw_exit ?_ | refine gw_block ?_ | refine gw_label ?_ | (refine gs_n tyT_ok 0 ?_ (hp := ?hp); case hp => exact ⟨by decide, by decide⟩) | (refine gs_tg tyT_ok rfl ?hb ?_; case hb => first | exact decide_eq_true (by omega) | exact congrArg Bool.not (decide_eq_false (by omega)) | (simp; done) | (simp; omega)) | (refine gs_fg tyT_ok rfl ?hb ?_; case hb => first | exact decide_eq_false (by omega) | exact congrArg Bool.not (decide_eq_true (by omega)) | (simp; done) | (simp; omega)) | (refine gs_t tyT_ok ?hb ?_; case hb => first | exact decide_eq_true (by omega) | exact congrArg Bool.not (decide_eq_false (by omega)) | (simp; done) | (simp; omega)) | (refine gs_f tyT_ok ?hb ?_; case hb => first | exact decide_eq_false (by omega) | exact congrArg Bool.not (decide_eq_true (by omega)) | (simp; done) | (simp; omega)))
      exact gw_ret ⟨_, [q], [], [0], .tmp .nil, ⟨S, rfl, rfl, rfl, by omega⟩, rfl, rfl, by decide⟩
  repeat (first | refine gs_n tyT_ok 0 ?_ | refine gs_gn tyT_ok 0 rfl ?_ | refine gs_no rfl ?_ | refine gs_end ?_ | refine gs_end' ?_ | refine gw_seq ?_ | refine gw_text rfl ?_ | refine gw_skip ?_ | refine gw_yes rfl ?_ | refine gw_no rfl ?_ | refine gw_exit ?_ | refine gw_block ?_ | refine gw_label ?_ | (refine gs_n tyT_ok 0 ?_ (hp := ?hp); case hp => exact ⟨by decide, by decide⟩) | (refine gs_tg tyT_ok rfl ?hb ?_; case hb => first | exact decide_eq_true (by omega) | exact congrArg Bool.not (decide_eq_false (by omega)) | (simp; done) | (simp; omega)) | (refine gs_fg tyT_ok rfl ?hb ?_; case hb => first | exact decide_eq_false (by omega) | exact congrArg Bool.not (decide_eq_true (by omega)) | (simp; done) | (simp; omega)) | (refine gs_t tyT_ok ?hb ?_; case hb => first | exact decide_eq_true (by omega) | exact congrArg Bool.not (decide_eq_false (by omega)) | (simp; done) | (simp; omega)) | (refine gs_f tyT_ok ?hb ?_; case hb => first | exact decide_eq_false (by omega) | exact congrArg Bool.not (decide_eq_true (by omega)) | (simp; done) | (simp; omega)))
  exact gw_ret ⟨_, [q], [], [0], .tmp .nil, ⟨S, rfl, rfl, rfl, by omega⟩, rfl, rfl, by decide⟩
theorem tgaGet_tT {s : ByteArray} {m : Pic} (h : tgaGet s = some m) : tT m.kind m.depth ≠ 0 := by
  unfold tgaGet at h
  split at h
  · rename_i hc
    split at h
    · cases h
    · split at h
      · cases h
        dsimp only
        obtain ⟨_, _, ⟨_, _, _, h4, h5, _⟩, _⟩ := hc
        rw [h4]
        exact h5
      · cases h
  · cases h
theorem byt_more {s x : ByteArray} {i : Nat} (h : i < s.size) : byt (s ++ x) i = byt s i := by
  unfold byt
  have h1 : i < s.data.toList.length := by rw [Array.length_toList]; exact h
  have : (s ++ x).data.toList = s.data.toList ++ x.data.toList := by rw [ByteArray.data_append, Array.toList_append]
  rw [this, List.getD_eq_getElem?_getD, List.getElem?_append_left h1, List.getD_eq_getElem?_getD]
theorem tgaGet_more {s x : ByteArray} {m : Pic} (hx : x.size = 1) (h : tgaGet s = some m) : tgaGet (s ++ x) = none := by
  have hsz : (s ++ x).size = s.size + 1 := by rw [ByteArray.size_append, hx]
  unfold tgaGet at h
  split at h
  case isFalse => cases h
  rename_i hc
  have hfl : ∀ p z, p + z ≤ s.size → fld (s ++ x) p z false z = fld s p z false z := fun p z hp => fld_congr (fun i hi => byt_more (by omega)) z (Nat.le_refl _)
  have h18 := hc.2.1
  have hhd : hdOf (s ++ x) = hdOf s := by
    unfold hdOf
    rw [byt_more (by omega), byt_more (by omega), byt_more (by omega), byt_more (by omega), byt_more (by omega), byt_more (by omega), hfl 3 2 (by omega), hfl 5 2 (by omega), hfl 8 4 (by omega), hfl 12 2 (by omega), hfl 14 2 (by omega)]
  have hat : tgaAt (s ++ x) = tgaAt s := by unfold tgaAt; rw [hhd]
  cases hp : tgaPts s with
  | none => rw [hp] at h; cases h
  | some l =>
    have hp2 : tgaPts (s ++ x) = none := by
      unfold tgaPts at hp ⊢
      rw [hhd, hat]
      split at hp
      · rename_i hr
        rw [if_pos hr]
        split at hp
        · rename_i l' a' he
          split at hp
          · rename_i ha
            rw [runL_more (by omega) (fun i hi => byt_more hi) _ _ _ _ _ he]
            dsimp only
            rw [if_neg (by omega)]
          · cases hp
        · cases hp
      · rename_i hr
        rw [if_neg hr]
        split at hp
        · rename_i ha
          rw [if_neg (by omega)]
        · cases hp
    unfold tgaGet
    rw [hp2]
    split <;> rfl
set_option maxHeartbeats 4000000 in
theorem FnTgaGet_w {a : Option Addr} {n c : Nat} {q : Nat × GO} {zs : List Int} (hb : LB a n c q zs) (hn : n ≤ 1000000000000000) : Trip Try.prog 10 [.slice a n c] [q] (fun v F' ns => v = .bool true) := by
  refine trip_of Try.func10 rfl (by simp [Try.ntmps10]) ?_
  repeat (first | refine gs_n tyT_ok 0 ?_ | refine gs_gn tyT_ok 0 rfl ?_ | refine gs_no rfl ?_ | refine gs_end ?_ | refine gs_end' ?_ | refine gw_seq ?_ | refine gw_text rfl ?_ | refine gw_skip ?_ | refine gw_yes rfl ?_ | refine gw_no rfl ?_ | refine gw_exit ?_ | refine gw_block ?_ | refine gw_label ?_ | (refine gs_n tyT_ok 0 ?_ (hp := ?hp); case hp => exact ⟨by decide, by decide⟩))
  by_cases g1 : n ≤ 1048576
  case neg =>
    (refine gs_t tyT_ok ?hb ?_; case hb => first | exact decide_eq_true (by omega) | exact congrArg Bool.not (decide_eq_false (by omega)) | (simp; done) | (simp; omega))
    repeat (first | refine gs_n tyT_ok 0 ?_ | refine gs_gn tyT_ok 0 rfl ?_ | refine gs_no rfl ?_ | refine gs_end ?_ | refine gs_end' ?_ | refine gw_seq ?_ | refine gw_text rfl ?_ | refine gw_skip ?_ | refine gw_yes rfl ?_ | refine gw_no rfl ?_ | refine gw_exit ?_ | refine gw_block ?_ | refine gw_label ?_ | (refine gs_n tyT_ok 0 ?_ (hp := ?hp); case hp => exact ⟨by decide, by decide⟩))
    exact gw_ret ⟨_, [q], [], [0], .tmp .nil, rfl, rfl, rfl, by decide⟩
  (refine gs_f tyT_ok ?hb ?_; case hb => first | exact decide_eq_false (by omega) | exact congrArg Bool.not (decide_eq_true (by omega)) | (simp; done) | (simp; omega))
  repeat (first | refine gs_n tyT_ok 0 ?_ | refine gs_gn tyT_ok 0 rfl ?_ | refine gs_no rfl ?_ | refine gs_end ?_ | refine gs_end' ?_ | refine gw_seq ?_ | refine gw_text rfl ?_ | refine gw_skip ?_ | refine gw_yes rfl ?_ | refine gw_no rfl ?_ | refine gw_exit ?_ | refine gw_block ?_ | refine gw_label ?_ | (refine gs_n tyT_ok 0 ?_ (hp := ?hp); case hp => exact ⟨by decide, by decide⟩))
  refine gs_call [0] ent34 rfl (by decide) (drawTgaGet_w hb (by omega)) fun v F' ns ho _ _ => ?_
  obtain ⟨s, rfl, rfl, rfl, hs⟩ := ho
  have hI := tgaGet_w s
  have hS := sTgaGet_w s
  refine gs_n tyT_ok 0 ?_
  refine gs_end ?_
  rcases hR : tgaGet s with _ | m
  · rw [hR] at hI hS
    refine gw_nil (gw_nil (gw_nil (gw_nil ?_)))
    repeat (first | refine gs_n tyT_ok 0 ?_ | refine gs_gn tyT_ok 0 rfl ?_ | refine gs_no rfl ?_ | refine gs_end ?_ | refine gs_end' ?_ | refine gw_seq ?_ | refine gw_text rfl ?_ | refine gw_skip ?_ | refine gw_yes rfl ?_ | refine gw_no rfl ?_ | refine gw_exit ?_ | refine gw_block ?_ | refine gw_label ?_ | (refine gs_n tyT_ok 0 ?_ (hp := ?hp); case hp => exact ⟨by decide, by decide⟩))
    refine gs_call [] ent29 rfl (by decide) hI fun v F' ns ho _ _ => ?_
    obtain ⟨rfl, rfl, rfl⟩ := ho
    repeat (first | refine gs_n tyT_ok 0 ?_ | refine gs_gn tyT_ok 0 rfl ?_ | refine gs_no rfl ?_ | refine gs_end ?_ | refine gs_end' ?_ | refine gw_seq ?_ | refine gw_text rfl ?_ | refine gw_skip ?_ | refine gw_yes rfl ?_ | refine gw_no rfl ?_ | refine gw_exit ?_ | refine gw_block ?_ | refine gw_label ?_ | (refine gs_n tyT_ok 0 ?_ (hp := ?hp); case hp => exact ⟨by decide, by decide⟩))
    refine gs_alloc tyT_ok rfl fun b4 => ?_
    refine gs_store tyT_ok 5 rfl rfl rfl rfl rfl rfl (Nat.le_of_ble_eq_true rfl) (Nat.le_of_ble_eq_true rfl) ?_
    repeat (first | refine gs_n tyT_ok 0 ?_ | refine gs_gn tyT_ok 0 rfl ?_ | refine gs_no rfl ?_ | refine gs_end ?_ | refine gs_end' ?_ | refine gw_seq ?_ | refine gw_text rfl ?_ | refine gw_skip ?_ | refine gw_yes rfl ?_ | refine gw_no rfl ?_ | refine gw_exit ?_ | refine gw_block ?_ | refine gw_label ?_ | (refine gs_n tyT_ok 0 ?_ (hp := ?hp); case hp => exact ⟨by decide, by decide⟩))
    refine gs_call [] ent28 rfl (by decide) hS fun v F' ns ho _ _ => ?_
    obtain ⟨rfl, rfl, rfl⟩ := ho
    repeat (first | refine gs_n tyT_ok 0 ?_ | refine gs_gn tyT_ok 0 rfl ?_ | refine gs_no rfl ?_ | refine gs_end ?_ | refine gs_end' ?_ | refine gw_seq ?_ | refine gw_text rfl ?_ | refine gw_skip ?_ | refine gw_yes rfl ?_ | refine gw_no rfl ?_ | refine gw_exit ?_ | refine gw_block ?_ | refine gw_label ?_ | (refine gs_n tyT_ok 0 ?_ (hp := ?hp); case hp => exact ⟨by decide, by decide⟩))
    refine gs_alloc tyT_ok rfl fun b6 => ?_
    refine gs_store tyT_ok 6 rfl rfl rfl rfl rfl rfl (Nat.le_of_ble_eq_true rfl) (Nat.le_of_ble_eq_true rfl) ?_
    repeat (first | refine gs_n tyT_ok 0 ?_ | refine gs_gn tyT_ok 0 rfl ?_ | refine gs_no rfl ?_ | refine gs_l tyT_ok 5 ?_ | refine gs_gl tyT_ok 5 rfl ?_ | (refine gs_l tyT_ok 5 ?_ (hp := ?hp); case hp => exact ⟨rfl, Nat.le_of_ble_eq_true rfl⟩) | (refine gs_gl tyT_ok 5 rfl ?_ (hp := ?hp); case hp => exact ⟨rfl, Nat.le_of_ble_eq_true rfl⟩) | refine gs_l tyT_ok 6 ?_ | refine gs_gl tyT_ok 6 rfl ?_ | (refine gs_l tyT_ok 6 ?_ (hp := ?hp); case hp => exact ⟨rfl, Nat.le_of_ble_eq_true rfl⟩) | (refine gs_gl tyT_ok 6 rfl ?_ (hp := ?hp); case hp => exact ⟨rfl, Nat.le_of_ble_eq_true rfl⟩) | refine gs_end ?_ | refine gs_end' ?_ | refine gw_seq ?_ | refine gw_text rfl ?_ | refine gw_skip ?_ | refine gw_yes rfl ?_ | refine gw_no rfl ?_ | refine gw_exit ?_ | refine gw_block ?_ | refine gw_label ?_ | (refine gs_n tyT_ok 0 ?_ (hp := ?hp); case hp => exact ⟨by decide, by decide⟩) | (refine gs_tg tyT_ok rfl ?hb ?_; case hb => first | exact decide_eq_true (by omega) | exact congrArg Bool.not (decide_eq_false (by omega)) | (simp; done) | (simp; omega)) | (refine gs_fg tyT_ok rfl ?hb ?_; case hb => first | exact decide_eq_false (by omega) | exact congrArg Bool.not (decide_eq_true (by omega)) | (simp; done) | (simp; omega)) | (refine gs_t tyT_ok ?hb ?_; case hb => first | exact decide_eq_true (by omega) | exact congrArg Bool.not (decide_eq_false (by omega)) | (simp; done) | (simp; omega)) | (refine gs_f tyT_ok ?hb ?_; case hb => first | exact decide_eq_false (by omega) | exact congrArg Bool.not (decide_eq_true (by omega)) | (simp; done) | (simp; omega)))
    refine gs_rdg [1, 2, 3, 4] ent24 rfl rfl (by decide) (wiImage_w LS.nil LS.nil LS.nil LS.nil (by simp) (by simp)) ?_
    repeat (first | refine gs_n tyT_ok 0 ?_ | refine gs_gn tyT_ok 0 rfl ?_ | refine gs_no rfl ?_ | refine gs_l tyT_ok 5 ?_ | refine gs_gl tyT_ok 5 rfl ?_ | (refine gs_l tyT_ok 5 ?_ (hp := ?hp); case hp => exact ⟨rfl, Nat.le_of_ble_eq_true rfl⟩) | (refine gs_gl tyT_ok 5 rfl ?_ (hp := ?hp); case hp => exact ⟨rfl, Nat.le_of_ble_eq_true rfl⟩) | refine gs_end ?_ | refine gs_end' ?_ | refine gw_seq ?_ | refine gw_text rfl ?_ | refine gw_skip ?_ | refine gw_yes rfl ?_ | refine gw_no rfl ?_ | refine gw_exit ?_ | refine gw_block ?_ | refine gw_label ?_ | (refine gs_n tyT_ok 0 ?_ (hp := ?hp); case hp => exact ⟨by decide, by decide⟩) | (refine gs_tg tyT_ok rfl ?hb ?_; case hb => first | exact decide_eq_true (by omega) | exact congrArg Bool.not (decide_eq_false (by omega)) | (simp; done) | (simp; omega)) | (refine gs_fg tyT_ok rfl ?hb ?_; case hb => first | exact decide_eq_false (by omega) | exact congrArg Bool.not (decide_eq_true (by omega)) | (simp; done) | (simp; omega)) | (refine gs_t tyT_ok ?hb ?_; case hb => first | exact decide_eq_true (by omega) | exact congrArg Bool.not (decide_eq_false (by omega)) | (simp; done) | (simp; omega)) | (refine gs_f tyT_ok ?hb ?_; case hb => first | exact decide_eq_false (by omega) | exact congrArg Bool.not (decide_eq_true (by omega)) | (simp; done) | (simp; omega)))
    exact gw_ret ⟨_, [q], [], [0], .tmp .nil, rfl, rfl, rfl, by decide⟩
  · have hok := tgaGet_ok hR
    have hT := tgaGet_tT hR
    obtain ⟨n1, n2, _⟩ := imgOk_len hok
    have hmore := tgaGet_more (x := ⟨#[120]⟩) rfl hR
    rw [hR] at hI hS
    obtain ⟨k, d, w, h, cs, ps⟩ := m
    dsimp only at n1 n2 hok hT
    have hI2 := tgaGet_w (txt (tgaL k d w h cs ps true))
    rw [tgaL_eq, tgaGet_put hok hT (.inl rfl), if_pos rfl] at hI2
    have hI3 := tgaGet_w (s ++ ⟨#[120]⟩)
    rw [hmore] at hI3
    repeat (first | refine gs_n tyT_ok 0 ?_ | refine gs_gn tyT_ok 0 rfl ?_ | refine gs_no rfl ?_ | refine gs_end ?_ | refine gs_end' ?_ | refine gw_seq ?_ | refine gw_text rfl ?_ | refine gw_skip ?_ | refine gw_yes rfl ?_ | refine gw_no rfl ?_ | refine gw_exit ?_ | refine gw_block ?_ | refine gw_label ?_ | (refine gs_n tyT_ok 0 ?_ (hp := ?hp); case hp => exact ⟨by decide, by decide⟩))
    refine gs_call [] ent29 rfl (by decide) hI fun v F' ns ho _ _ => ?_
    obtain ⟨rfl, w3, w4, p3, p4, rfl, rfl, hv3, hv4⟩ := ho
    dsimp only at hv3 hv4 ⊢
    obtain ⟨a3, c3, rfl, l3⟩ := hv3.ls
    obtain ⟨a4, c4, rfl, l4⟩ := hv4.ls
    repeat (first | refine gs_n tyT_ok 0 ?_ | refine gs_gn tyT_ok 0 rfl ?_ | refine gs_no rfl ?_ | refine gs_end ?_ | refine gs_end' ?_ | refine gw_seq ?_ | refine gw_text rfl ?_ | refine gw_skip ?_ | refine gw_yes rfl ?_ | refine gw_no rfl ?_ | refine gw_exit ?_ | refine gw_block ?_ | refine gw_label ?_ | (refine gs_n tyT_ok 0 ?_ (hp := ?hp); case hp => exact ⟨by decide, by decide⟩))
    refine gs_alloc tyT_ok rfl fun b4 => ?_
    refine gs_store tyT_ok 3 rfl rfl rfl rfl rfl rfl (Nat.le_of_ble_eq_true rfl) (Nat.le_of_ble_eq_true rfl) ?_
    repeat (first | refine gs_n tyT_ok 0 ?_ | refine gs_gn tyT_ok 0 rfl ?_ | refine gs_no rfl ?_ | refine gs_end ?_ | refine gs_end' ?_ | refine gw_seq ?_ | refine gw_text rfl ?_ | refine gw_skip ?_ | refine gw_yes rfl ?_ | refine gw_no rfl ?_ | refine gw_exit ?_ | refine gw_block ?_ | refine gw_label ?_ | (refine gs_n tyT_ok 0 ?_ (hp := ?hp); case hp => exact ⟨by decide, by decide⟩))
    refine gs_call [] ent28 rfl (by decide) hS fun v F' ns ho _ _ => ?_
    obtain ⟨rfl, w5, w6, p5, p6, rfl, rfl, hv5, hv6⟩ := ho
    dsimp only at hv5 hv6 ⊢
    obtain ⟨a5, c5, rfl, l5⟩ := hv5.ls
    obtain ⟨a6, c6, rfl, l6⟩ := hv6.ls
    repeat (first | refine gs_n tyT_ok 0 ?_ | refine gs_gn tyT_ok 0 rfl ?_ | refine gs_no rfl ?_ | refine gs_end ?_ | refine gs_end' ?_ | refine gw_seq ?_ | refine gw_text rfl ?_ | refine gw_skip ?_ | refine gw_yes rfl ?_ | refine gw_no rfl ?_ | refine gw_exit ?_ | refine gw_block ?_ | refine gw_label ?_ | (refine gs_n tyT_ok 0 ?_ (hp := ?hp); case hp => exact ⟨by decide, by decide⟩))
    refine gs_alloc tyT_ok rfl fun b6 => ?_
    refine gs_store tyT_ok 6 rfl rfl rfl rfl rfl rfl (Nat.le_of_ble_eq_true rfl) (Nat.le_of_ble_eq_true rfl) ?_
    repeat (first | refine gs_n tyT_ok 0 ?_ | refine gs_gn tyT_ok 0 rfl ?_ | refine gs_no rfl ?_ | refine gs_l tyT_ok 3 ?_ | refine gs_gl tyT_ok 3 rfl ?_ | (refine gs_l tyT_ok 3 ?_ (hp := ?hp); case hp => exact ⟨rfl, Nat.le_of_ble_eq_true rfl⟩) | (refine gs_gl tyT_ok 3 rfl ?_ (hp := ?hp); case hp => exact ⟨rfl, Nat.le_of_ble_eq_true rfl⟩) | refine gs_l tyT_ok 6 ?_ | refine gs_gl tyT_ok 6 rfl ?_ | (refine gs_l tyT_ok 6 ?_ (hp := ?hp); case hp => exact ⟨rfl, Nat.le_of_ble_eq_true rfl⟩) | (refine gs_gl tyT_ok 6 rfl ?_ (hp := ?hp); case hp => exact ⟨rfl, Nat.le_of_ble_eq_true rfl⟩) | refine gs_end ?_ | refine gs_end' ?_ | refine gw_seq ?_ | refine gw_text rfl ?_ | refine gw_skip ?_ | refine gw_yes rfl ?_ | refine gw_no rfl ?_ | refine gw_exit ?_ | refine gw_block ?_ | refine gw_label ?_ | (refine gs_n tyT_ok 0 ?_ (hp := ?hp); case hp => exact ⟨by decide, by decide⟩) | (refine gs_tg tyT_ok rfl ?hb ?_; case hb => first | exact decide_eq_true (by omega) | exact congrArg Bool.not (decide_eq_false (by omega)) | (simp; done) | (simp; omega)) | (refine gs_fg tyT_ok rfl ?hb ?_; case hb => first | exact decide_eq_false (by omega) | exact congrArg Bool.not (decide_eq_true (by omega)) | (simp; done) | (simp; omega)) | (refine gs_t tyT_ok ?hb ?_; case hb => first | exact decide_eq_true (by omega) | exact congrArg Bool.not (decide_eq_false (by omega)) | (simp; done) | (simp; omega)) | (refine gs_f tyT_ok ?hb ?_; case hb => first | exact decide_eq_false (by omega) | exact congrArg Bool.not (decide_eq_true (by omega)) | (simp; done) | (simp; omega)))
    refine gs_rdg [1, 2, 4, 5] ent24 rfl rfl (by decide) (wiImage_w l3 l4 l5 l6 (by omega) (by omega)) ?_
    repeat (first | refine gs_n tyT_ok 0 ?_ | refine gs_gn tyT_ok 0 rfl ?_ | refine gs_no rfl ?_ | refine gs_l tyT_ok 3 ?_ | refine gs_gl tyT_ok 3 rfl ?_ | (refine gs_l tyT_ok 3 ?_ (hp := ?hp); case hp => exact ⟨rfl, Nat.le_of_ble_eq_true rfl⟩) | (refine gs_gl tyT_ok 3 rfl ?_ (hp := ?hp); case hp => exact ⟨rfl, Nat.le_of_ble_eq_true rfl⟩) | refine gs_end ?_ | refine gs_end' ?_ | refine gw_seq ?_ | refine gw_text rfl ?_ | refine gw_skip ?_ | refine gw_yes rfl ?_ | refine gw_no rfl ?_ | refine gw_exit ?_ | refine gw_block ?_ | refine gw_label ?_ | (refine gs_n tyT_ok 0 ?_ (hp := ?hp); case hp => exact ⟨by decide, by decide⟩) | (refine gs_tg tyT_ok rfl ?hb ?_; case hb => first | exact decide_eq_true (by omega) | exact congrArg Bool.not (decide_eq_false (by omega)) | (simp; done) | (simp; omega)) | (refine gs_fg tyT_ok rfl ?hb ?_; case hb => first | exact decide_eq_false (by omega) | exact congrArg Bool.not (decide_eq_true (by omega)) | (simp; done) | (simp; omega)) | (refine gs_t tyT_ok ?hb ?_; case hb => first | exact decide_eq_true (by omega) | exact congrArg Bool.not (decide_eq_false (by omega)) | (simp; done) | (simp; omega)) | (refine gs_f tyT_ok ?hb ?_; case hb => first | exact decide_eq_false (by omega) | exact congrArg Bool.not (decide_eq_true (by omega)) | (simp; done) | (simp; omega)))
    refine gs_rd [1, 2] ent31 rfl (by decide) (tgaPut_w l3 l4 (by omega) (by omega)) ?_
    rw [show tgaPut k d w h cs ps true = tgaL k d w h cs ps true from if_pos ⟨hok, hT⟩]
    refine gs_call [] ent29 rfl (by decide) hI2 fun v F' ns ho _ _ => ?_
    obtain ⟨rfl, w7, w8, p7, p8, rfl, rfl, hv7, hv8⟩ := ho
    dsimp only at hv7 hv8 ⊢
    obtain ⟨a7, c7, rfl, l7⟩ := hv7.ls
    obtain ⟨a8, c8, rfl, l8⟩ := hv8.ls
    repeat (first | refine gs_n tyT_ok 0 ?_ | refine gs_gn tyT_ok 0 rfl ?_ | refine gs_no rfl ?_ | refine gs_end ?_ | refine gs_end' ?_ | refine gw_seq ?_ | refine gw_text rfl ?_ | refine gw_skip ?_ | refine gw_yes rfl ?_ | refine gw_no rfl ?_ | refine gw_exit ?_ | refine gw_block ?_ | refine gw_label ?_ | (refine gs_n tyT_ok 0 ?_ (hp := ?hp); case hp => exact ⟨by decide, by decide⟩))
    refine gs_alloc tyT_ok rfl fun b8 => ?_
    refine gs_store tyT_ok 9 rfl rfl rfl rfl rfl rfl (Nat.le_of_ble_eq_true rfl) (Nat.le_of_ble_eq_true rfl) ?_
    repeat (first | refine gs_n tyT_ok 0 ?_ | refine gs_gn tyT_ok 0 rfl ?_ | refine gs_no rfl ?_ | refine gs_end ?_ | refine gs_end' ?_ | refine gw_seq ?_ | refine gw_text rfl ?_ | refine gw_skip ?_ | refine gw_yes rfl ?_ | refine gw_no rfl ?_ | refine gw_exit ?_ | refine gw_block ?_ | refine gw_label ?_ | (refine gs_n tyT_ok 0 ?_ (hp := ?hp); case hp => exact ⟨by decide, by decide⟩))
    refine gs_cats (a := s) (b := ⟨#[120]⟩) rfl rfl (by show s.size + 1 ≤ _; omega) ?_
    refine gs_call [] ent29 rfl (by decide) hI3 fun v F' ns ho _ _ => ?_
    obtain ⟨rfl, rfl, rfl⟩ := ho
    repeat (first | refine gs_n tyT_ok 0 ?_ | refine gs_gn tyT_ok 0 rfl ?_ | refine gs_no rfl ?_ | refine gs_end ?_ | refine gs_end' ?_ | refine gw_seq ?_ | refine gw_text rfl ?_ | refine gw_skip ?_ | refine gw_yes rfl ?_ | refine gw_no rfl ?_ | refine gw_exit ?_ | refine gw_block ?_ | refine gw_label ?_ | (refine gs_n tyT_ok 0 ?_ (hp := ?hp); case hp => exact ⟨by decide, by decide⟩))
    refine gs_alloc tyT_ok rfl fun b10 => ?_
    refine gs_store tyT_ok 10 rfl rfl rfl rfl rfl rfl (Nat.le_of_ble_eq_true rfl) (Nat.le_of_ble_eq_true rfl) ?_
    repeat (first | refine gs_n tyT_ok 0 ?_ | refine gs_gn tyT_ok 0 rfl ?_ | refine gs_no rfl ?_ | refine gs_l tyT_ok 3 ?_ | refine gs_gl tyT_ok 3 rfl ?_ | (refine gs_l tyT_ok 3 ?_ (hp := ?hp); case hp => exact ⟨rfl, Nat.le_of_ble_eq_true rfl⟩) | (refine gs_gl tyT_ok 3 rfl ?_ (hp := ?hp); case hp => exact ⟨rfl, Nat.le_of_ble_eq_true rfl⟩) | refine gs_end ?_ | refine gs_end' ?_ | refine gw_seq ?_ | refine gw_text rfl ?_ | refine gw_skip ?_ | refine gw_yes rfl ?_ | refine gw_no rfl ?_ | refine gw_exit ?_ | refine gw_block ?_ | refine gw_label ?_ | (refine gs_n tyT_ok 0 ?_ (hp := ?hp); case hp => exact ⟨by decide, by decide⟩))
    refine gs_rd [1, 2] ent27 rfl (by decide) (repTga_w l3 l4 (by omega) (by omega)) ?_
    rw [decide_eq_true (show imgOk k d w h cs ps ∧ tT k d ≠ 0 from ⟨hok, hT⟩)]
    repeat (first | refine gs_n tyT_ok 0 ?_ | refine gs_gn tyT_ok 0 rfl ?_ | refine gs_no rfl ?_ | refine gs_l tyT_ok 3 ?_ | refine gs_gl tyT_ok 3 rfl ?_ | (refine gs_l tyT_ok 3 ?_ (hp := ?hp); case hp => exact ⟨rfl, Nat.le_of_ble_eq_true rfl⟩) | (refine gs_gl tyT_ok 3 rfl ?_ (hp := ?hp); case hp => exact ⟨rfl, Nat.le_of_ble_eq_true rfl⟩) | refine gs_l tyT_ok 9 ?_ | refine gs_gl tyT_ok 9 rfl ?_ | (refine gs_l tyT_ok 9 ?_ (hp := ?hp); case hp => exact ⟨rfl, Nat.le_of_ble_eq_true rfl⟩) | (refine gs_gl tyT_ok 9 rfl ?_ (hp := ?hp); case hp => exact ⟨rfl, Nat.le_of_ble_eq_true rfl⟩) | refine gs_end ?_ | refine gs_end' ?_ | refine gw_seq ?_ | refine gw_text rfl ?_ | refine gw_skip ?_ | refine gw_yes rfl ?_ | refine gw_no rfl ?_ | refine gw_exit ?_ | refine gw_block ?_ | refine gw_label ?_ | (refine gs_n tyT_ok 0 ?_ (hp := ?hp); case hp => exact ⟨by decide, by decide⟩))
    refine gs_rdg [7, 8, 1, 2] ent24 rfl rfl (by decide) (wiImage_w l7 l8 l3 l4 (by omega) (by omega)) ?_
    repeat (first | refine gs_n tyT_ok 0 ?_ | refine gs_gn tyT_ok 0 rfl ?_ | refine gs_no rfl ?_ | refine gs_end ?_ | refine gs_end' ?_ | refine gw_seq ?_ | refine gw_text rfl ?_ | refine gw_skip ?_ | refine gw_yes rfl ?_ | refine gw_no rfl ?_ | refine gw_exit ?_ | refine gw_block ?_ | refine gw_label ?_ | (refine gs_n tyT_ok 0 ?_ (hp := ?hp); case hp => exact ⟨by decide, by decide⟩))
    exact gw_ret ⟨_, [q], [], [0], .tmp .nil, rfl, rfl, rfl, by decide⟩
end Go.Proofs.Ytdkhjcmhjlbpaaa.G
namespace Go.Proofs.Ytdkhjcmhjlbpaaa.P
open Go
theorem law_FnTgaGet (a : Option Addr) (len cap : Nat) (z : List Int) (w : World) (w0 : (a = none ∧ len = 0 ∧ cap = 0 ∧ z = []) ∨ ∃ x, a = some x ∧ len ≤ cap ∧ cap ≤ maxLen ∧ z.length = cap ∧ (∀ i, i < z.length → w.cell? (x.add i) = some (.int .u8 (z.getD i 0))) ∧ ∀ n ∈ z, (Lit.int .u8 n).wf = true) (y0 : len * 1 ≤ 140737488351232) :
    Calls Try.prog 10 #[.slice a len cap] w fun e w' => e = .returned (.bool true) ∧ RowKit.Below w.heap.size w w' := G.Trip.rowB w0 fun q zs hb _ => G.FnTgaGet_w hb (by omega)
end Go.Proofs.Ytdkhjcmhjlbpaaa.P
