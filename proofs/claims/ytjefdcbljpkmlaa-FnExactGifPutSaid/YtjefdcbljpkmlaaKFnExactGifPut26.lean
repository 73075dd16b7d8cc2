/- What the law FnExactGifPut needs, out of the texts Zd. -/
import Derived.Test.YtjefdcbljpkmlaaKFnExactGifPut21
section
set_option linter.unusedVariables false
set_option linter.unusedSimpArgs false
set_option maxRecDepth 10000
namespace Go.Proofs.Ytjefdcbljpkmlaa.G
open Go
set_option maxHeartbeats 4000000 in
theorem l1Put_w {a : Option Addr} {n c : Nat} {p : Nat × GO} {l : List (Nat × Nat)} {wide : Bool} (hv : OBt (.slice a n c) p l) (hok : bitsOk l) (hl : l.length ≤ 1000000) : Rd Try.prog 106 [.slice a n c, .bool wide] [p] (.string (txt (packB wide (lbits wide l)))) := by
  have hn : n = l.length := by obtain ⟨a', c', h⟩ := hv.sl; cases h; rfl
  subst hn
  refine trip_of Try.func106 rfl (by simp [Try.ntmps106]) ?_
  repeat (first | refine gs_n tyT_ok 0 ?_ | refine gs_gn tyT_ok 0 rfl ?_ | refine gs_no rfl ?_ | refine gs_end ?_ | refine gs_end' ?_ | refine gw_seq ?_ | refine gw_text rfl ?_ | refine gw_skip ?_ | refine gw_yes rfl ?_ | refine gw_no rfl ?_ | refine gw_exit ?_ | refine gw_block ?_ | refine gw_label ?_ | (refine gs_n tyT_ok 0 ?_ (hp := ?hp); case hp => exact ⟨by decide, by decide⟩))
  refine gs_lit tyT_ok (cs := []) rfl rfl rfl (by decide) rfl fun b5 => ?_
  repeat (first | refine gs_n tyT_ok 0 ?_ | refine gs_gn tyT_ok 0 rfl ?_ | refine gs_no rfl ?_ | refine gs_end ?_ | refine gs_end' ?_ | refine gw_seq ?_ | refine gw_text rfl ?_ | refine gw_skip ?_ | refine gw_yes rfl ?_ | refine gw_no rfl ?_ | refine gw_exit ?_ | refine gw_block ?_ | refine gw_label ?_ | (refine gs_n tyT_ok 0 ?_ (hp := ?hp); case hp => exact ⟨by decide, by decide⟩))
  refine gw_loopW (fun _ (x : Nat × Value × (Nat × GO)) => [(0, .slice a l.length c), (1, .bool wide), (5, x.2.1), (6, .int .i64 ((lbits wide (l.take x.1)).length : Nat)), (7, .int .i64 (x.1 : Int))]) (fun _ x => [p, x.2.2]) (fun m x => x.1 + m = l.length ∧ OB x.2.1 x.2.2 (packB wide (lbits wide (l.take x.1)))) l.length (0, .slice (some ⟨b5, 0, none⟩) 0 0, (b5, .row 5 [] 0)) ⟨by simp, by show OB _ _ (packB wide []); rw [packB_nil]; exact .inr ⟨b5, 0, 0, 0, rfl, rfl, rfl, Nat.le_refl _, by omega⟩⟩ ⟨[0, 1], by decide, rfl⟩ ⟨rfl, rfl, rfl, rfl, rfl, trivial⟩ fun m ⟨i, v, pb⟩ e ⟨hi, hb⟩ => ?_
  dsimp only at hi hb ⊢
  have hsm := sumZ_take l i
  have hsl := hok.2
  repeat (first | refine gs_n tyT_ok 0 ?_ | refine gs_gn tyT_ok 0 rfl ?_ | refine gs_no rfl ?_ | refine gs_end ?_ | refine gs_end' ?_ | refine gw_seq ?_ | refine gw_text rfl ?_ | refine gw_skip ?_ | refine gw_yes rfl ?_ | refine gw_no rfl ?_ | refine gw_exit ?_ | refine gw_block ?_ | refine gw_label ?_ | (refine gs_n tyT_ok 0 ?_ (hp := ?hp); case hp => exact ⟨by decide, by decide⟩))
  by_cases hlt : i < l.length
  case neg =>
    obtain rfl : i = l.length := by omega
    rw [List.take_length] at hb
    obtain ⟨va, vc, rfl⟩ := hb.sl
    (refine gs_f tyT_ok ?hb ?_; case hb => first | exact decide_eq_false (by omega) | exact congrArg Bool.not (decide_eq_true (by omega)) | (simp; done) | (simp; omega))
    repeat (first | refine gs_n tyT_ok 0 ?_ | refine gs_gn tyT_ok 0 rfl ?_ | refine gs_no rfl ?_ | refine gs_end ?_ | refine gs_end' ?_ | refine gw_seq ?_ | refine gw_text rfl ?_ | refine gw_skip ?_ | refine gw_yes rfl ?_ | refine gw_no rfl ?_ | refine gw_exit ?_ | refine gw_block ?_ | refine gw_label ?_ | (refine gs_n tyT_ok 0 ?_ (hp := ?hp); case hp => exact ⟨by decide, by decide⟩))
    refine gs_ofB 1 hb rfl rfl ?_
    repeat (first | refine gs_n tyT_ok 0 ?_ | refine gs_gn tyT_ok 0 rfl ?_ | refine gs_no rfl ?_ | refine gs_end ?_ | refine gs_end' ?_ | refine gw_seq ?_ | refine gw_text rfl ?_ | refine gw_skip ?_ | refine gw_yes rfl ?_ | refine gw_no rfl ?_ | refine gw_exit ?_ | refine gw_block ?_ | refine gw_label ?_ | (refine gs_n tyT_ok 0 ?_ (hp := ?hp); case hp => exact ⟨by decide, by decide⟩))
    exact gw_ret ⟨_, _, [], [0], .tmp .nil, ⟨rfl, rfl, rfl⟩, rfl, rfl, by decide⟩
  (refine gs_t tyT_ok ?hb ?_; case hb => first | exact decide_eq_true (by omega) | exact congrArg Bool.not (decide_eq_false (by omega)) | (simp; done) | (simp; omega))
  obtain ⟨_, rfl, h1, h2, h3, h4⟩ := hv.at hlt
  obtain ⟨o1, o2, o3⟩ := bitsOk_at hok hlt
  have htk := take_succD l (0, 0) hlt
  have hnx : lbits wide (l.take (i + 1)) = lbits wide (l.take i) ++ vbits wide (l.getD i (0, 0)).1 (l.getD i (0, 0)).2 (l.getD i (0, 0)).2 := by rw [htk, lbits_snoc]
  have hB : bin (lbits wide (l.take i)) := lbits_bin _ _
  have hBl : (lbits wide (l.take i)).length ≤ 72000 := by rw [lbits_len]; omega
  generalize l.getD i (0, 0) = x at *
  obtain ⟨u, z⟩ := x
  generalize lbits wide (l.take i) = B at *
  dsimp only at h1 h2 h3 o1 o2 o3 hnx
  repeat (first | refine gs_n tyT_ok 0 ?_ | refine gs_gn tyT_ok 0 rfl ?_ | refine gs_no rfl ?_ | refine gs_end ?_ | refine gs_end' ?_ | refine gw_seq ?_ | refine gw_text rfl ?_ | refine gw_skip ?_ | refine gw_yes rfl ?_ | refine gw_no rfl ?_ | refine gw_exit ?_ | refine gw_block ?_ | refine gw_label ?_ | (refine gs_n tyT_ok 0 ?_ (hp := ?hp); case hp => exact ⟨by decide, by decide⟩))
  refine gw_loopW (fun _ (x : Nat × Value × (Nat × GO)) => [(0, .slice (some ⟨p.1, 0, none⟩) l.length c), (1, .bool wide), (5, x.2.1), (6, .int .i64 ((B.length + x.1 : Nat) : Int)), (7, .int .i64 (i : Int)), (8, .int .i64 (x.1 : Int))]) (fun _ x => [p, x.2.2]) (fun m x => x.1 + m = z ∧ OB x.2.1 x.2.2 (packB wide (B ++ vbits wide u z x.1))) z (0, v, pb) ⟨by simp, by simpa [vbits] using hb⟩ ⟨[0, 1], by decide, rfl⟩ ⟨rfl, rfl, rfl, rfl, rfl, rfl, trivial⟩ fun m2 ⟨k, v, pb⟩ e ⟨hk, hb⟩ => ?_
  dsimp only at hk hb ⊢
  obtain ⟨va, vc, rfl⟩ := hb.sl
  have hbs : bin (B ++ vbits wide u z k) := bin_app hB (vbits_bin _ _ _ _)
  have hbl : (B ++ vbits wide u z k).length = B.length + k := by rw [List.length_append, vbits_len]
  repeat (first | refine gs_n tyT_ok 0 ?_ | refine gs_gn tyT_ok 0 rfl ?_ | refine gs_no rfl ?_ | refine gs_end ?_ | refine gs_end' ?_ | refine gw_seq ?_ | refine gw_text rfl ?_ | refine gw_skip ?_ | refine gw_yes rfl ?_ | refine gw_no rfl ?_ | refine gw_exit ?_ | refine gw_block ?_ | refine gw_label ?_ | (refine gs_n tyT_ok 0 ?_ (hp := ?hp); case hp => exact ⟨by decide, by decide⟩))
  refine gs_atb 0 rfl rfl rfl rfl h2 ?_
  by_cases hkz : k < z
  case neg =>
    obtain rfl : k = z := by omega
    (refine gs_f tyT_ok ?hb ?_; case hb => first | exact decide_eq_false (by omega) | exact congrArg Bool.not (decide_eq_true (by omega)) | (simp; done) | (simp; omega))
    repeat (first | refine gs_n tyT_ok 0 ?_ | refine gs_gn tyT_ok 0 rfl ?_ | refine gs_no rfl ?_ | refine gs_end ?_ | refine gs_end' ?_ | refine gw_seq ?_ | refine gw_text rfl ?_ | refine gw_skip ?_ | refine gw_yes rfl ?_ | refine gw_no rfl ?_ | refine gw_exit ?_ | refine gw_block ?_ | refine gw_label ?_ | (refine gs_n tyT_ok 0 ?_ (hp := ?hp); case hp => exact ⟨by decide, by decide⟩))
    exact ⟨m - 1, by omega, (i + 1, _, pb), ⟨by show i + 1 + (m - 1) = _; omega, by show OB _ pb (packB wide (lbits wide (l.take (i + 1)))); rw [hnx]; exact hb⟩, ⟨[0, 1], by decide, rfl⟩, rfl, rfl, rfl, by show Value.int _ _ = Value.int _ _; rw [hnx, List.length_append, vbits_len], rfl, trivial⟩
  (refine gs_t tyT_ok ?hb ?_; case hb => first | exact decide_eq_true (by omega) | exact congrArg Bool.not (decide_eq_false (by omega)) | (simp; done) | (simp; omega))
  refine gs_end ?_
  refine gw_yes rfl ?_
  refine gw_skip ?_
  refine gw_seq (gw_block (gw_seq (gw_text rfl ?_)))
  repeat (first | refine gs_n tyT_ok 0 ?_ | refine gs_gn tyT_ok 0 rfl ?_ | refine gs_no rfl ?_)
  refine gs_end ?_
  refine gw_seq ?_
  refine gw_join (α := Unit) (fun _ => [(0, .slice (some ⟨p.1, 0, none⟩) l.length c), (1, .bool wide), (5, .slice va (packB wide (B ++ vbits wide u z k)).length vc), (6, .int .i64 ((B.length + k : Nat) : Int)), (7, .int .i64 (i : Int)), (8, .int .i64 (k : Int)), (9, .int .i64 ((if wide then z - 1 - k else k : Nat) : Int))]) (fun _ => [p, pb]) (fun _ => True) ?_ fun _ e _ => ?_
  · cases wide
    · repeat (first | refine gs_n tyT_ok 0 ?_ | refine gs_gn tyT_ok 0 rfl ?_ | refine gs_no rfl ?_ | refine gs_end ?_ | refine gs_end' ?_ | refine gw_seq ?_ | refine gw_text rfl ?_ | refine gw_skip ?_ | refine gw_yes rfl ?_ | refine gw_no rfl ?_ | refine gw_exit ?_ | refine gw_block ?_ | refine gw_label ?_ | (refine gs_n tyT_ok 0 ?_ (hp := ?hp); case hp => exact ⟨by decide, by decide⟩))
      exact ⟨(), trivial, rfl, rfl, rfl, rfl, rfl, rfl, rfl, rfl, trivial⟩
    · repeat (first | refine gs_n tyT_ok 0 ?_ | refine gs_gn tyT_ok 0 rfl ?_ | refine gs_no rfl ?_ | refine gs_end ?_ | refine gs_end' ?_ | refine gw_seq ?_ | refine gw_text rfl ?_ | refine gw_skip ?_ | refine gw_yes rfl ?_ | refine gw_no rfl ?_ | refine gw_exit ?_ | refine gw_block ?_ | refine gw_label ?_ | (refine gs_n tyT_ok 0 ?_ (hp := ?hp); case hp => exact ⟨by decide, by decide⟩))
      refine gs_atb 0 rfl rfl rfl rfl h2 ?_
      repeat (first | refine gs_n tyT_ok 0 ?_ | refine gs_gn tyT_ok 0 rfl ?_ | refine gs_no rfl ?_ | refine gs_end ?_ | refine gs_end' ?_ | refine gw_seq ?_ | refine gw_text rfl ?_ | refine gw_skip ?_ | refine gw_yes rfl ?_ | refine gw_no rfl ?_ | refine gw_exit ?_ | refine gw_block ?_ | refine gw_label ?_ | (refine gs_n tyT_ok 0 ?_ (hp := ?hp); case hp => exact ⟨by decide, by decide⟩))
      exact ⟨(), trivial, rfl, rfl, rfl, rfl, rfl, rfl, rfl, by show Value.int _ _ = Value.int _ _; congr 1; show (z : Int) - 1 - (k : Int) = ((z - 1 - k : Nat) : Int); omega, trivial⟩
  have hvb : vbit wide u z k = u / 2 ^ (if wide then z - 1 - k else k) % 2 := rfl
  have hple : (if wide then z - 1 - k else k) ≤ 24 := by split <;> omega
  generalize (if wide then z - 1 - k else k) = S at *
  have hpw : (1 : Int) * 2 ^ S = ((2 ^ S : Nat) : Int) := by simp
  have hp1 : 1 ≤ 2 ^ S := Nat.one_le_two_pow
  have hq : (u : Int) / ((2 ^ S : Nat) : Int) % 2 = ((vbit wide u z k : Nat) : Int) := by rw [hvb]; simp
  have hul : u / 2 ^ S ≤ u := Nat.div_le_self _ _
  refine gw_seq (gw_any [.N, .N, .N, .N, .L 0, .N, .E [], .N, .N, .N] rfl rfl rfl ?_)
  repeat (first | refine gs_n tyT_ok 0 ?_ | refine gs_gn tyT_ok 0 rfl ?_ | refine gs_no rfl ?_)
  refine gs_atb 0 rfl rfl rfl rfl h1 ?_
  repeat (first | refine gs_n tyT_ok 0 ?_ | refine gs_gn tyT_ok 0 rfl ?_ | refine gs_no rfl ?_)
  refine gs_pu ent115 (sPow_w (n := S) (by omega)) ?_
  rw [hpw]
  have e2 : (u : Int) / ((2 ^ S : Nat) : Int) = ((u / 2 ^ S : Nat) : Int) := by simp
  obtain ⟨R, hR⟩ : ∃ R, R = u / 2 ^ S := ⟨_, rfl⟩
  rw [← hR] at e2 hul
  have e3 : inr .i64 ((u : Int) / ((2 ^ S : Nat) : Int)) := by rw [e2]; exact i64 (by omega) (by omega)
  refine gs_n tyT_ok 0 ?_ (hp := ?hp)
  case hp => exact ⟨by omega, by omega, e3⟩
  refine gs_n tyT_ok 0 ?_ (hp := ?hp)
  case hp => exact ⟨by rw [e2]; omega, by omega⟩
  rw [hq]
  have hb1 : vbit wide u z k ≤ 1 := by rw [hvb]; omega
  have hsucc : B ++ vbits wide u z (k + 1) = (B ++ vbits wide u z k) ++ [vbit wide u z k] := by rw [vbits_succ, List.append_assoc]
  generalize vbit wide u z k = bt at *
  generalize B ++ vbits wide u z k = C at *
  rw [← hbl]
  repeat (first | refine gs_n tyT_ok 0 ?_ | refine gs_gn tyT_ok 0 rfl ?_ | refine gs_no rfl ?_)
  refine gs_end' ?_
  refine gw_seq ?_
  refine gw_join (α := Value × (Nat × GO) × (Nat × GO)) (fun x => [(0, .slice (some ⟨p.1, 0, none⟩) l.length c), (1, .bool wide), (5, x.1), (6, .int .i64 (C.length : Int)), (7, .int .i64 (i : Int)), (8, .int .i64 (k : Int)), (10, .int .i64 (bt : Int))]) (fun x => [p, x.2.1, x.2.2]) (fun x => OB x.1 x.2.1 (if C.length % 8 = 0 then packB wide C ++ [0] else packB wide C)) ?_ fun ⟨v2, p2, junk⟩ e hv2 => ?_
  · by_cases h0 : C.length % 8 = 0
    · rw [if_pos h0]
      repeat (first | refine gs_n tyT_ok 0 ?_ | refine gs_gn tyT_ok 0 rfl ?_ | refine gs_no rfl ?_ | refine gs_end ?_ | refine gs_end' ?_ | refine gw_seq ?_ | refine gw_text rfl ?_ | refine gw_skip ?_ | refine gw_yes rfl ?_ | refine gw_no rfl ?_ | refine gw_exit ?_ | refine gw_block ?_ | refine gw_label ?_ | (refine gs_n tyT_ok 0 ?_ (hp := ?hp); case hp => exact ⟨by decide, by decide⟩) | (refine gs_tg tyT_ok rfl ?hb ?_; case hb => first | exact decide_eq_true (by omega) | exact congrArg Bool.not (decide_eq_false (by omega)) | (simp; done) | (simp; omega)) | (refine gs_fg tyT_ok rfl ?hb ?_; case hb => first | exact decide_eq_false (by omega) | exact congrArg Bool.not (decide_eq_true (by omega)) | (simp; done) | (simp; omega)) | (refine gs_t tyT_ok ?hb ?_; case hb => first | exact decide_eq_true (by omega) | exact congrArg Bool.not (decide_eq_false (by omega)) | (simp; done) | (simp; omega)) | (refine gs_f tyT_ok ?hb ?_; case hb => first | exact decide_eq_false (by omega) | exact congrArg Bool.not (decide_eq_true (by omega)) | (simp; done) | (simp; omega)))
      refine gs_push1b 1 (n := 0) rfl rfl hb (fun _ => rfl) (by rw [packB_len]; unfold packN; omega) fun b6 a6 c6 p6 hv6 => ?_
      repeat (first | refine gs_n tyT_ok 0 ?_ | refine gs_gn tyT_ok 0 rfl ?_ | refine gs_no rfl ?_ | refine gs_end ?_ | refine gs_end' ?_ | refine gw_seq ?_ | refine gw_text rfl ?_ | refine gw_skip ?_ | refine gw_yes rfl ?_ | refine gw_no rfl ?_ | refine gw_exit ?_ | refine gw_block ?_ | refine gw_label ?_ | (refine gs_n tyT_ok 0 ?_ (hp := ?hp); case hp => exact ⟨by decide, by decide⟩))
      exact ⟨(_, p6, (b6, _)), hv6, rfl, rfl, rfl, rfl, rfl, rfl, rfl, rfl, trivial⟩
    · rw [if_neg h0]
      refine gw_nil ?_
      repeat (first | refine gs_n tyT_ok 0 ?_ | refine gs_gn tyT_ok 0 rfl ?_ | refine gs_no rfl ?_ | refine gs_end ?_ | refine gs_end' ?_ | refine gw_seq ?_ | refine gw_text rfl ?_ | refine gw_skip ?_ | refine gw_yes rfl ?_ | refine gw_no rfl ?_ | refine gw_exit ?_ | refine gw_block ?_ | refine gw_label ?_ | (refine gs_n tyT_ok 0 ?_ (hp := ?hp); case hp => exact ⟨by decide, by decide⟩) | (refine gs_tg tyT_ok rfl ?hb ?_; case hb => first | exact decide_eq_true (by omega) | exact congrArg Bool.not (decide_eq_false (by omega)) | (simp; done) | (simp; omega)) | (refine gs_fg tyT_ok rfl ?hb ?_; case hb => first | exact decide_eq_false (by omega) | exact congrArg Bool.not (decide_eq_true (by omega)) | (simp; done) | (simp; omega)) | (refine gs_t tyT_ok ?hb ?_; case hb => first | exact decide_eq_true (by omega) | exact congrArg Bool.not (decide_eq_false (by omega)) | (simp; done) | (simp; omega)) | (refine gs_f tyT_ok ?hb ?_; case hb => first | exact decide_eq_false (by omega) | exact congrArg Bool.not (decide_eq_true (by omega)) | (simp; done) | (simp; omega)))
      exact ⟨(_, pb, (0, .none)), hb, rfl, rfl, rfl, rfl, rfl, rfl, rfl, rfl, trivial⟩
  dsimp only at hv2 ⊢
  have hlen := packB_ln (wide := wide) (bs := C)
  have hlast := packB_last (wide := wide) (bs := C)
  have hsn := packB_snoc (wide := wide) (bs := C) (b := bt)
  obtain ⟨hf1, hf2⟩ := byB_free (wide := wide) hbs
  have hxle := byB_le (wide := wide) hbs (8 * (C.length / 8))
  have hplc := plc_lt wide (C.length % 8) (by omega)
  obtain ⟨hp3, hp2⟩ := pow_lt8 hplc
  generalize byB wide C (8 * (C.length / 8)) = X at *
  generalize (if C.length % 8 = 0 then packB wide C ++ [(0 : Int)] else packB wide C) = Y at *
  obtain ⟨bb, cap, m5, rfl, rfl, hm1, hm2, hm3⟩ := hv2.own (by omega)
  refine gw_weak [0, 1] (by decide) rfl ?_
  refine gw_seq (gw_text rfl ?_)
  repeat (first | refine gs_n tyT_ok 0 ?_ | refine gs_gn tyT_ok 0 rfl ?_ | refine gs_no rfl ?_)
  refine gs_end ?_
  refine gw_seq ?_
  refine gw_join (α := Unit) (fun _ => [(0, .slice (some ⟨p.1, 0, none⟩) l.length c), (1, .bool wide), (5, .slice (some ⟨bb, 0, none⟩) Y.length cap), (6, .int .i64 (C.length : Int)), (7, .int .i64 (i : Int)), (8, .int .i64 (k : Int)), (10, .int .i64 (bt : Int)), (11, .int .i64 ((plc wide (C.length % 8) : Nat) : Int))]) (fun _ => [p, (bb, .row 5 (bytesV Y) m5)]) (fun _ => True) ?_ fun _ e _ => ?_
  · cases wide
    · repeat (first | refine gs_n tyT_ok 0 ?_ | refine gs_gn tyT_ok 0 rfl ?_ | refine gs_no rfl ?_ | refine gs_end ?_ | refine gs_end' ?_ | refine gw_seq ?_ | refine gw_text rfl ?_ | refine gw_skip ?_ | refine gw_yes rfl ?_ | refine gw_no rfl ?_ | refine gw_exit ?_ | refine gw_block ?_ | refine gw_label ?_ | (refine gs_n tyT_ok 0 ?_ (hp := ?hp); case hp => exact ⟨by decide, by decide⟩))
      exact ⟨(), trivial, rfl, rfl, rfl, rfl, rfl, rfl, rfl, rfl, rfl, trivial⟩
    · repeat (first | refine gs_n tyT_ok 0 ?_ | refine gs_gn tyT_ok 0 rfl ?_ | refine gs_no rfl ?_ | refine gs_end ?_ | refine gs_end' ?_ | refine gw_seq ?_ | refine gw_text rfl ?_ | refine gw_skip ?_ | refine gw_yes rfl ?_ | refine gw_no rfl ?_ | refine gw_exit ?_ | refine gw_block ?_ | refine gw_label ?_ | (refine gs_n tyT_ok 0 ?_ (hp := ?hp); case hp => exact ⟨by decide, by decide⟩))
      exact ⟨(), trivial, rfl, rfl, rfl, rfl, rfl, rfl, rfl, rfl, by show Value.int _ _ = Value.int _ _; congr 1; show (7 : Int) - ((C.length % 8 : Nat) : Int) = ((7 - C.length % 8 : Nat) : Int); omega, trivial⟩
  have hcell : (cellsG (.row 5 (bytesV Y) m5))[0 + (C.length / 8) * 1]? = some (.int .u8 (X : Int)) := by
    rw [Nat.zero_add, Nat.mul_one]
    show (bytesV Y)[C.length / 8]? = _
    rw [bytesV, List.getElem?_map, List.getElem?_eq_getElem (by omega)]
    rw [List.getD_eq_getElem?_getD, List.getElem?_eq_getElem (by omega)] at hlast
    simp only [Option.getD_some] at hlast
    rw [Option.map_some, hlast]
  generalize plc wide (C.length % 8) = Q at *
  have hbq : bt * 2 ^ Q ≤ 128 ∧ X + bt * 2 ^ Q ≤ 255 := by
    have : bt = 0 ∨ bt = 1 := by omega
    rcases this with rfl | rfl <;> omega
  have hpq : (bt : Int) * (1 * 2 ^ Q) = ((bt * 2 ^ Q : Nat) : Int) := by simp
  refine gw_seq (gw_any [.N, .N, .N, .N, .N, .N, .N, .L 1, .N, .N, .E [], .N, .N, .N, .N, .E [1]] rfl rfl rfl ?_)
  repeat (first | refine gs_n tyT_ok 0 ?_ | refine gs_gn tyT_ok 0 rfl ?_ | refine gs_no rfl ?_)
  refine gs_atb 1 rfl rfl rfl rfl (v := .int .u8 (X : Int)) hcell ?_
  repeat (first | refine gs_n tyT_ok 0 ?_ | refine gs_gn tyT_ok 0 rfl ?_ | refine gs_no rfl ?_)
  refine gs_pu ent115 (sPow_w (n := Q) (by omega)) ?_
  refine gs_n tyT_ok 0 ?_ (hp := ?hp)
  case hp => rw [hpq]; exact ⟨by omega, by omega⟩
  rw [hpq]
  repeat (first | refine gs_n tyT_ok 0 ?_ | refine gs_gn tyT_ok 0 rfl ?_ | refine gs_no rfl ?_)
  refine gs_putb 1 (i := C.length / 8) (n := ((X + bt * 2 ^ Q : Nat) : Int)) rfl rfl rfl (by omega) hm1 ?_
  rw [← hsn, ← hsucc]
  repeat (first | refine gs_n tyT_ok 0 ?_ | refine gs_gn tyT_ok 0 rfl ?_ | refine gs_no rfl ?_ | refine gs_end ?_ | refine gs_end' ?_ | refine gw_seq ?_ | refine gw_text rfl ?_ | refine gw_skip ?_ | refine gw_yes rfl ?_ | refine gw_no rfl ?_ | refine gw_exit ?_ | refine gw_block ?_ | refine gw_label ?_ | (refine gs_n tyT_ok 0 ?_ (hp := ?hp); case hp => exact ⟨by decide, by decide⟩))
  refine ⟨m2 - 1, by omega, (k + 1, _, (bb, _)), ⟨by show k + 1 + (m2 - 1) = _; omega, ?_⟩, ⟨[0, 1], by decide, rfl⟩, rfl, rfl, rfl, by show Value.int _ _ = Value.int _ _; congr 1; omega, rfl, rfl, trivial⟩
  refine .inr ⟨bb, Y.length, cap, m5, rfl, rfl, ?_, hm2, by omega⟩
  dsimp only
  rw [bytesV, List.length_map, hsucc, hsn, List.length_set, Nat.mul_one]
end Go.Proofs.Ytjefdcbljpkmlaa.G
end
