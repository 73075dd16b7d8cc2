/- What the law FnExactGifPut needs, out of the texts Yb. -/
import Derived.Test.YtjefdcbljpkmlaaKFnExactGifPut25
import Derived.Test.YtjefdcbljpkmlaaKFnExactGifPut28
import Derived.Test.YtjefdcbljpkmlaaKFnExactGifPut29
section
set_option linter.unusedVariables false
set_option linter.unusedSimpArgs false
set_option maxRecDepth 10000
namespace Go.Proofs.Ytjefdcbljpkmlaa.G
open Go
theorem txt_byl (s : ByteArray) : txt (byl s) = s := by
  apply ByteArray.ext
  apply Array.ext'
  show ((byl s).map fun n => UInt8.ofNat n.toNat) = _
  rw [byl, List.map_map]
  refine Eq.trans (List.map_congr_left fun x _ => ?_) (List.map_id _)
  simp
theorem byl_ex (s : ByteArray) (a b : Nat) : byl (s.extract a b) = ((byl s).take b).drop a := by
  rw [byl, toList_extract, byl, List.map_drop, List.map_take]
theorem byl_seg (s : ByteArray) {a b : Nat} (h : a ≤ b) : byl (s.extract a b) = seg (byl s) a (b - a) := by
  rw [byl_ex, seg, List.drop_take]
theorem byl_byts (s : ByteArray) : byts (byl s) := by
  intro x hx
  obtain ⟨b, _, rfl⟩ := List.mem_map.1 hx
  have := b.toNat_lt
  omega
theorem ex_ex (s : ByteArray) {a b c : Nat} (h : a + b ≤ a + c) : (s.extract a (a + c)).extract 0 b = s.extract a (a + b) := by
  apply ByteArray.ext
  apply Array.ext'
  rw [toList_extract, toList_extract, toList_extract, List.drop_zero, List.take_drop]
  rw [List.take_take, Nat.min_eq_left h]
theorem ex_tail (s : ByteArray) (a b c : Nat) : (s.extract a c).extract b (c - a) = s.extract (a + b) c := by
  apply ByteArray.ext
  apply Array.ext'
  rw [toList_extract, toList_extract, toList_extract]
  rw [List.take_of_length_le (by simp; omega), List.drop_drop]
/-- Blocks, so many of them. -/
def bk (L : List Int) : Nat → List Int
  | 0 => []
  | k + 1 => bk L k ++ ([((min 255 (L.length - 255 * k) : Nat) : Int)] ++ seg L (255 * k) (min 255 (L.length - 255 * k)))
def bkN (n : Nat) : Nat := (n + 254) / 255
def blks (L : List Int) : List Int := bk L (bkN L.length) ++ [0]
theorem bk_len (L : List Int) : ∀ k, (bk L k).length ≤ 256 * k
  | 0 => by simp [bk]
  | k + 1 => by
    have := bk_len L k
    simp only [bk, List.length_append, List.length_singleton, seg, List.length_take]
    omega
theorem bk_byts {L : List Int} (hL : byts L) : ∀ k, byts (bk L k)
  | 0 => fun x hx => by cases hx
  | k + 1 => by
    refine byts_app (bk_byts hL k) (byts_app (fun x hx => ?_) fun x hx => hL x (seg_mem hx))
    rw [List.mem_singleton.1 hx]
    omega
set_option maxHeartbeats 1000000 in
theorem blocksPut_w {s : ByteArray} (hs : s.size ≤ 5000) : Pu Try.prog 123 [.string s] (.string (txt (blks (byl s)))) := by
  have hbl := byl_len s
  refine trip_of Try.func123 rfl (by simp [Try.ntmps123]) ?_
  repeat (first | refine gs_n tyT_ok 0 ?_ | refine gs_gn tyT_ok 0 rfl ?_ | refine gs_no rfl ?_ | refine gs_end ?_ | refine gs_end' ?_ | refine gw_seq ?_ | refine gw_text rfl ?_ | refine gw_skip ?_ | refine gw_yes rfl ?_ | refine gw_no rfl ?_ | refine gw_exit ?_ | refine gw_block ?_ | refine gw_label ?_ | (refine gs_n tyT_ok 0 ?_ (hp := ?hp); case hp => exact ⟨by decide, by decide⟩))
  (refine gs_f tyT_ok ?hb ?_; case hb => first | exact decide_eq_false (by omega) | exact congrArg Bool.not (decide_eq_true (by omega)) | (simp; done) | (simp; omega))
  repeat (first | refine gs_n tyT_ok 0 ?_ | refine gs_gn tyT_ok 0 rfl ?_ | refine gs_no rfl ?_ | refine gs_end ?_ | refine gs_end' ?_ | refine gw_seq ?_ | refine gw_text rfl ?_ | refine gw_skip ?_ | refine gw_yes rfl ?_ | refine gw_no rfl ?_ | refine gw_exit ?_ | refine gw_block ?_ | refine gw_label ?_ | (refine gs_n tyT_ok 0 ?_ (hp := ?hp); case hp => exact ⟨by decide, by decide⟩))
  refine gs_alloc tyT_ok rfl fun b3 => ?_
  repeat (first | refine gs_n tyT_ok 0 ?_ | refine gs_gn tyT_ok 0 rfl ?_ | refine gs_no rfl ?_ | refine gs_end ?_ | refine gs_end' ?_ | refine gw_seq ?_ | refine gw_text rfl ?_ | refine gw_skip ?_ | refine gw_yes rfl ?_ | refine gw_no rfl ?_ | refine gw_exit ?_ | refine gw_block ?_ | refine gw_label ?_ | (refine gs_n tyT_ok 0 ?_ (hp := ?hp); case hp => exact ⟨by decide, by decide⟩))
  refine gw_nil ?_
  refine gw_loopW (fun _ (x : Nat × (Nat × GO) × (Nat × GO)) => [(0, .string (s.extract (255 * x.1) s.size)), (3, ptr b3)]) (fun _ x => [x.2.1, x.2.2]) (fun m x => x.1 + m = bkN s.size ∧ Bld b3 x.2.1 x.2.2 (bk (byl s) x.1)) (bkN s.size) (0, (b3, bldG (.pointer none) (.slice none 0 0)), (0, .none)) ⟨by simp, bld_new⟩ ⟨[0, 1], by decide, rfl⟩ ⟨by show Value.string s = Value.string (s.extract 0 s.size); rw [ByteArray.extract_zero_size], rfl, trivial⟩ fun m ⟨k, q, p⟩ e ⟨hk, hb⟩ => ?_
  dsimp only at hk hb ⊢
  have hbk := bk_len (byl s) k
  repeat (first | refine gs_n tyT_ok 0 ?_ | refine gs_gn tyT_ok 0 rfl ?_ | refine gs_no rfl ?_ | refine gs_end ?_ | refine gs_end' ?_ | refine gw_seq ?_ | refine gw_text rfl ?_ | refine gw_skip ?_ | refine gw_yes rfl ?_ | refine gw_no rfl ?_ | refine gw_exit ?_ | refine gw_block ?_ | refine gw_label ?_ | (refine gs_n tyT_ok 0 ?_ (hp := ?hp); case hp => exact ⟨by decide, by decide⟩))
  by_cases hlt : 255 * k < s.size
  · have hsz : (s.extract (255 * k) s.size).size = s.size - 255 * k := size_ex (by omega) (Nat.le_refl _)
    refine gs_t tyT_ok ?hb ?_
    case hb =>
      have : s.extract (255 * k) s.size ≠ ⟨#[]⟩ := fun e => by
        have h := congrArg ByteArray.size e
        rw [hsz] at h
        have h0' : (⟨#[]⟩ : ByteArray).size = 0 := rfl
        omega
      simp [this]
    obtain ⟨M, hM⟩ : ∃ M, M = min 255 (s.size - 255 * k) := ⟨_, rfl⟩
    have hM2 : 1 ≤ M ∧ M ≤ 255 ∧ 255 * k + M ≤ s.size := by omega
    have hkb : k < bkN s.size := by unfold bkN; omega
    repeat (first | refine gs_n tyT_ok 0 ?_ | refine gs_gn tyT_ok 0 rfl ?_ | refine gs_no rfl ?_ | refine gs_end ?_ | refine gs_end' ?_ | refine gw_seq ?_ | refine gw_text rfl ?_ | refine gw_skip ?_ | refine gw_yes rfl ?_ | refine gw_no rfl ?_ | refine gw_exit ?_ | refine gw_block ?_ | refine gw_label ?_ | (refine gs_n tyT_ok 0 ?_ (hp := ?hp); case hp => exact ⟨by decide, by decide⟩))
    rw [hsz, show (if (255 : Int) < ((s.size - 255 * k : Nat) : Int) then 255 else ((s.size - 255 * k : Nat) : Int)) = (M : Int) by split <;> omega]
    refine gs_call [0, 1] ent183 rfl (by decide) (writeByte_w hb (by unfold bkN at hk; omega)) fun v' F' ns ho _ _ => ?_
    obtain ⟨q2, p2, rfl, rfl, hb2⟩ := ho
    have hex : (s.extract (255 * k) s.size).extract 0 M = s.extract (255 * k) (255 * k + M) := by
      have := ex_ex s (a := 255 * k) (b := M) (c := s.size - 255 * k) (by omega)
      rw [show 255 * k + (s.size - 255 * k) = s.size by omega] at this
      exact this
    have htl : (s.extract (255 * k) s.size).extract M (s.size - 255 * k) = s.extract (255 * (k + 1)) s.size := by
      rw [ex_tail]
      by_cases h : 255 * k + 255 ≤ s.size
      · rw [show 255 * k + M = 255 * (k + 1) by omega]
      · rw [show 255 * k + M = s.size by omega]
        apply ByteArray.ext
        apply Array.ext'
        rw [toList_extract, toList_extract, List.drop_eq_nil_of_le (by first | (simp; done) | (simp; omega)), List.drop_eq_nil_of_le (by first | (simp; done) | (simp; omega))]
    have hsg : byl (s.extract (255 * k) (255 * k + M)) = seg (byl s) (255 * k) M := by rw [byl_seg s (by omega), Nat.add_sub_cancel_left]
    have hse : (s.extract (255 * k) (255 * k + M)).size = M := by
      have := size_ex (t := s) (a := 255 * k) (b := 255 * k + M) (by omega) (by omega)
      omega
    repeat (first | refine gs_n tyT_ok 0 ?_ | refine gs_gn tyT_ok 0 rfl ?_ | refine gs_no rfl ?_ | refine gs_end ?_ | refine gs_end' ?_ | refine gw_seq ?_ | refine gw_text rfl ?_ | refine gw_skip ?_ | refine gw_yes rfl ?_ | refine gw_no rfl ?_ | refine gw_exit ?_ | refine gw_block ?_ | refine gw_label ?_ | (refine gs_n tyT_ok 0 ?_ (hp := ?hp); case hp => exact ⟨by decide, by decide⟩))
    rw [show (0 : Int).toNat = 0 from rfl, Int.toNat_natCast, hex]
    refine gs_call [0, 1] ent184 rfl (by decide) (writeString_w (s := s.extract (255 * k) (255 * k + M)) hb2 (by rw [List.length_append, List.length_singleton]; unfold bkN at hk; omega) (by omega)) fun v' F' ns ho _ _ => ?_
    obtain ⟨q3, p3, rfl, rfl, hb3⟩ := ho
    rw [hsg, List.append_assoc] at hb3
    repeat (first | refine gs_n tyT_ok 0 ?_ | refine gs_gn tyT_ok 0 rfl ?_ | refine gs_no rfl ?_ | refine gs_end ?_ | refine gs_end' ?_ | refine gw_seq ?_ | refine gw_text rfl ?_ | refine gw_skip ?_ | refine gw_yes rfl ?_ | refine gw_no rfl ?_ | refine gw_exit ?_ | refine gw_block ?_ | refine gw_label ?_ | (refine gs_n tyT_ok 0 ?_ (hp := ?hp); case hp => exact ⟨by decide, by decide⟩))
    refine ⟨m - 1, by omega, (k + 1, q3, p3), ⟨by show k + 1 + (m - 1) = _; omega, ?_⟩, ⟨[0, 1], by decide, rfl⟩, ?_, rfl, trivial⟩
    · show Bld b3 q3 p3 (bk (byl s) (k + 1))
      rw [bk, hbl, ← hM]
      exact hb3
    · show Value.string _ = Value.string _
      rw [hsz]
      exact congrArg Value.string htl
  · have hk2 : k = bkN s.size := by unfold bkN at hk ⊢; omega
    have he : s.extract (255 * k) s.size = ⟨#[]⟩ := by
      apply ByteArray.ext
      apply Array.ext'
      rw [toList_extract, List.drop_eq_nil_of_le (by first | (simp; done) | (simp; omega))]
    refine gs_f tyT_ok ?hb ?_
    case hb => simp [he]
    repeat (first | refine gs_n tyT_ok 0 ?_ | refine gs_gn tyT_ok 0 rfl ?_ | refine gs_no rfl ?_ | refine gs_end ?_ | refine gs_end' ?_ | refine gw_seq ?_ | refine gw_text rfl ?_ | refine gw_skip ?_ | refine gw_yes rfl ?_ | refine gw_no rfl ?_ | refine gw_exit ?_ | refine gw_block ?_ | refine gw_label ?_ | (refine gs_n tyT_ok 0 ?_ (hp := ?hp); case hp => exact ⟨by decide, by decide⟩))
    refine gs_call [0, 1] ent185 rfl (by decide) (bString_w hb (by unfold bkN at hk; omega) (bk_byts (byl_byts s) k)) fun v' F' ns ho _ _ => ?_
    obtain ⟨p2, rfl, rfl, rfl⟩ := ho
    refine gs_cat (a := bk (byl s) k) (b := [0]) rfl rfl (by unfold bkN at hk; simp; omega) ?_
    rw [show bk (byl s) k ++ [0] = blks (byl s) by rw [blks, hbl, hk2]]
    repeat (first | refine gs_n tyT_ok 0 ?_ | refine gs_gn tyT_ok 0 rfl ?_ | refine gs_no rfl ?_ | refine gs_end ?_ | refine gs_end' ?_ | refine gw_seq ?_ | refine gw_text rfl ?_ | refine gw_skip ?_ | refine gw_yes rfl ?_ | refine gw_no rfl ?_ | refine gw_exit ?_ | refine gw_block ?_ | refine gw_label ?_ | (refine gs_n tyT_ok 0 ?_ (hp := ?hp); case hp => exact ⟨by decide, by decide⟩))
    exact gw_ret ⟨_, [], [], [], (.tmp .nil), ⟨rfl, rfl, rfl⟩, rfl, rfl, List.nodup_nil⟩
theorem least_w {a b : Int} : Pu Try.prog 64 [.int .i64 a, .int .i64 b] (.int .i64 (if a < b then a else b)) := by
  refine trip_of Try.func64 rfl (by simp [Try.ntmps64]) ?_
  repeat (first | refine gs_n tyT_ok 0 ?_ | refine gs_gn tyT_ok 0 rfl ?_ | refine gs_no rfl ?_ | refine gs_end ?_ | refine gs_end' ?_ | refine gw_seq ?_ | refine gw_text rfl ?_ | refine gw_skip ?_ | refine gw_yes rfl ?_ | refine gw_no rfl ?_ | refine gw_exit ?_ | refine gw_block ?_ | refine gw_label ?_ | (refine gs_n tyT_ok 0 ?_ (hp := ?hp); case hp => exact ⟨by decide, by decide⟩))
  by_cases h : a < b
  · rw [if_pos h]
    (refine gs_t tyT_ok ?hb ?_; case hb => first | exact decide_eq_true (by omega) | exact congrArg Bool.not (decide_eq_false (by omega)) | (simp; done) | (simp; omega))
    repeat (first | refine gs_n tyT_ok 0 ?_ | refine gs_gn tyT_ok 0 rfl ?_ | refine gs_no rfl ?_ | refine gs_end ?_ | refine gs_end' ?_ | refine gw_seq ?_ | refine gw_text rfl ?_ | refine gw_skip ?_ | refine gw_yes rfl ?_ | refine gw_no rfl ?_ | refine gw_exit ?_ | refine gw_block ?_ | refine gw_label ?_ | (refine gs_n tyT_ok 0 ?_ (hp := ?hp); case hp => exact ⟨by decide, by decide⟩))
    exact gw_ret ⟨_, [], [], [], (.tmp .nil), ⟨rfl, rfl, rfl⟩, rfl, rfl, List.nodup_nil⟩
  · rw [if_neg h]
    (refine gs_f tyT_ok ?hb ?_; case hb => first | exact decide_eq_false (by omega) | exact congrArg Bool.not (decide_eq_true (by omega)) | (simp; done) | (simp; omega))
    repeat (first | refine gs_n tyT_ok 0 ?_ | refine gs_gn tyT_ok 0 rfl ?_ | refine gs_no rfl ?_ | refine gs_end ?_ | refine gs_end' ?_ | refine gw_seq ?_ | refine gw_text rfl ?_ | refine gw_skip ?_ | refine gw_yes rfl ?_ | refine gw_no rfl ?_ | refine gw_exit ?_ | refine gw_block ?_ | refine gw_label ?_ | (refine gs_n tyT_ok 0 ?_ (hp := ?hp); case hp => exact ⟨by decide, by decide⟩))
    exact gw_ret ⟨_, [], [], [], (.tmp .nil), ⟨rfl, rfl, rfl⟩, rfl, rfl, List.nodup_nil⟩
set_option maxHeartbeats 1000000 in
theorem l10Blocks_w {s : ByteArray} (hs : s.size ≤ 1000000) : Pu Try.prog 181 [.string s] (.string (txt (blks (byl s)))) := by
  have hbl := byl_len s
  refine trip_of Try.func181 rfl (by simp [Try.ntmps181]) ?_
  repeat (first | refine gs_n tyT_ok 0 ?_ | refine gs_gn tyT_ok 0 rfl ?_ | refine gs_no rfl ?_ | refine gs_end ?_ | refine gs_end' ?_ | refine gw_seq ?_ | refine gw_text rfl ?_ | refine gw_skip ?_ | refine gw_yes rfl ?_ | refine gw_no rfl ?_ | refine gw_exit ?_ | refine gw_block ?_ | refine gw_label ?_ | (refine gs_n tyT_ok 0 ?_ (hp := ?hp); case hp => exact ⟨by decide, by decide⟩))
  refine gw_loopW (fun _ (k : Nat) => [(0, .string s), (3, .string (txt (bk (byl s) k))), (4, .int .i64 ((255 * k : Nat) : Int))]) (fun _ _ => []) (fun m k => k + m = bkN s.size) (bkN s.size) 0 (by simp) ⟨[], by decide, rfl⟩ ⟨rfl, rfl, rfl, trivial⟩ fun m k e hk => ?_
  have hbk := bk_len (byl s) k
  repeat (first | refine gs_n tyT_ok 0 ?_ | refine gs_gn tyT_ok 0 rfl ?_ | refine gs_no rfl ?_ | refine gs_end ?_ | refine gs_end' ?_ | refine gw_seq ?_ | refine gw_text rfl ?_ | refine gw_skip ?_ | refine gw_yes rfl ?_ | refine gw_no rfl ?_ | refine gw_exit ?_ | refine gw_block ?_ | refine gw_label ?_ | (refine gs_n tyT_ok 0 ?_ (hp := ?hp); case hp => exact ⟨by decide, by decide⟩))
  by_cases hlt : 255 * k < s.size
  · refine gs_t tyT_ok ?hb ?_
    case hb => exact decide_eq_true (by omega)
    obtain ⟨M, hM⟩ : ∃ M, M = min 255 (s.size - 255 * k) := ⟨_, rfl⟩
    have hM2 : 1 ≤ M ∧ M ≤ 255 ∧ 255 * k + M ≤ s.size := by omega
    have hkb : k < bkN s.size := by unfold bkN; omega
    repeat (first | refine gs_n tyT_ok 0 ?_ | refine gs_gn tyT_ok 0 rfl ?_ | refine gs_no rfl ?_ | refine gs_end ?_ | refine gs_end' ?_ | refine gw_seq ?_ | refine gw_text rfl ?_ | refine gw_skip ?_ | refine gw_yes rfl ?_ | refine gw_no rfl ?_ | refine gw_exit ?_ | refine gw_block ?_ | refine gw_label ?_ | (refine gs_n tyT_ok 0 ?_ (hp := ?hp); case hp => exact ⟨by decide, by decide⟩))
    refine gs_pu ent64 least_w ?_
    rw [show (if ((255 * k : Nat) : Int) + 255 < (s.size : Int) then ((255 * k : Nat) : Int) + 255 else (s.size : Int)) = ((255 * k + M : Nat) : Int) by split <;> omega]
    repeat (first | refine gs_n tyT_ok 0 ?_ | refine gs_gn tyT_ok 0 rfl ?_ | refine gs_no rfl ?_ | refine gs_end ?_ | refine gs_end' ?_ | refine gw_seq ?_ | refine gw_text rfl ?_ | refine gw_skip ?_ | refine gw_yes rfl ?_ | refine gw_no rfl ?_ | refine gw_exit ?_ | refine gw_block ?_ | refine gw_label ?_ | (refine gs_n tyT_ok 0 ?_ (hp := ?hp); case hp => exact ⟨by decide, by decide⟩))
    have hex : s.extract (255 * k) (255 * k + M) = txt (seg (byl s) (255 * k) M) := by rw [← txt_byl (s.extract (255 * k) (255 * k + M)), byl_seg s (by omega), Nat.add_sub_cancel_left]
    refine gw_any [.N, .N, .N, .N, .N, .E [], .L 0, .N, .N, .N, .N, .N, .N, .N] rfl rfl rfl ?_
    repeat (first | refine gs_n tyT_ok 0 ?_ | refine gs_gn tyT_ok 0 rfl ?_ | refine gs_no rfl ?_)
    rw [show ((255 * k + M : Nat) : Int) - ((255 * k : Nat) : Int) = (M : Int) by omega]
    repeat (first | refine gs_n tyT_ok 0 ?_ | refine gs_gn tyT_ok 0 rfl ?_ | refine gs_no rfl ?_)
    refine gs_lit tyT_ok (cs := bytesV [(M : Int)]) rfl rfl rfl (by decide) rfl fun b4 => ?_
    refine gs_txt 0 (xs := [(M : Int)]) rfl rfl rfl ?_
    refine gs_cat (a := bk (byl s) k) (b := [(M : Int)]) rfl rfl (by unfold bkN at hk; simp; omega) ?_
    repeat (first | refine gs_n tyT_ok 0 ?_ | refine gs_gn tyT_ok 0 rfl ?_ | refine gs_no rfl ?_)
    rw [Int.toNat_natCast, Int.toNat_natCast, hex]
    refine gs_cat (a := bk (byl s) k ++ [(M : Int)]) (b := seg (byl s) (255 * k) M) rfl rfl (by unfold bkN at hk; simp [seg]; omega) ?_
    repeat (first | refine gs_n tyT_ok 0 ?_ | refine gs_gn tyT_ok 0 rfl ?_ | refine gs_no rfl ?_ | refine gs_end ?_ | refine gs_end' ?_ | refine gw_seq ?_ | refine gw_text rfl ?_ | refine gw_skip ?_ | refine gw_yes rfl ?_ | refine gw_no rfl ?_ | refine gw_exit ?_ | refine gw_block ?_ | refine gw_label ?_ | (refine gs_n tyT_ok 0 ?_ (hp := ?hp); case hp => exact ⟨by decide, by decide⟩))
    refine ⟨m - 1, by omega, k + 1, by omega, ⟨[], by decide, rfl⟩, rfl, ?_, by show Value.int _ _ = Value.int _ _; congr 1, trivial⟩
    show Value.string _ = Value.string _
    rw [bk, hbl, ← hM, List.append_assoc]
  · have hk2 : k = bkN s.size := by unfold bkN at hk ⊢; omega
    refine gs_f tyT_ok ?hb ?_
    case hb => exact decide_eq_false (by omega)
    repeat (first | refine gs_n tyT_ok 0 ?_ | refine gs_gn tyT_ok 0 rfl ?_ | refine gs_no rfl ?_ | refine gs_end ?_ | refine gs_end' ?_ | refine gw_seq ?_ | refine gw_text rfl ?_ | refine gw_skip ?_ | refine gw_yes rfl ?_ | refine gw_no rfl ?_ | refine gw_exit ?_ | refine gw_block ?_ | refine gw_label ?_ | (refine gs_n tyT_ok 0 ?_ (hp := ?hp); case hp => exact ⟨by decide, by decide⟩))
    refine gs_lit tyT_ok (cs := bytesV [0]) rfl rfl rfl (by decide) rfl fun b4 => ?_
    refine gs_txt 0 (xs := [0]) rfl rfl rfl ?_
    refine gs_cat (a := bk (byl s) k) (b := [0]) rfl rfl (by unfold bkN at hk; simp; omega) ?_
    rw [show bk (byl s) k ++ [0] = blks (byl s) by rw [blks, hbl, hk2]]
    repeat (first | refine gs_n tyT_ok 0 ?_ | refine gs_gn tyT_ok 0 rfl ?_ | refine gs_no rfl ?_ | refine gs_end ?_ | refine gs_end' ?_ | refine gw_seq ?_ | refine gw_text rfl ?_ | refine gw_skip ?_ | refine gw_yes rfl ?_ | refine gw_no rfl ?_ | refine gw_exit ?_ | refine gw_block ?_ | refine gw_label ?_ | (refine gs_n tyT_ok 0 ?_ (hp := ?hp); case hp => exact ⟨by decide, by decide⟩))
    exact gw_ret ⟨_, [], [], [], (.tmp .nil), ⟨rfl, rfl, rfl⟩, rfl, rfl, List.nodup_nil⟩
end Go.Proofs.Ytjefdcbljpkmlaa.G
end
