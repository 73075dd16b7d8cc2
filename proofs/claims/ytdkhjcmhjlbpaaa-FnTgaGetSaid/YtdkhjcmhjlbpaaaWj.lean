/- impl: TgaGet. -/
import Derived.Test.YtdkhjcmhjlbpaaaMf
set_option linter.unusedVariables false
set_option maxRecDepth 10000
namespace Go.Proofs.Ytdkhjcmhjlbpaaa.G
open Go
structure St where
  v : Value
  pp : Nat × GO
  at_ : Nat
  bad : Bool
  l : List Int
def St.fine (s : ByteArray) (x : St) : Prop := OI x.v x.pp x.l ∧ x.at_ ≤ 1000000 ∧ small x.l ∧ x.l.length ≤ 1000 ∧ (((x.bad = true ∨ x.at_ < s.size) ∧ tgaPts s = none) ∨ (x.bad = false ∧ s.size ≤ x.at_ ∧ tgaPts s = some x.l))
set_option maxHeartbeats 1000000 in
theorem tgaGet_w (s : ByteArray) : Trip Try.prog 29 [.string s] [] (PicOut (tgaGet s)) := by
  refine trip_of Try.func29 rfl (by simp [Try.ntmps29]) ?_
  refine gw_seq (gw_text rfl ?_)
  refine gs_alloc tyT_ok rfl fun b2 => ?_
  repeat (first | refine gs_n tyT_ok 0 ?_ | refine gs_gn tyT_ok 0 rfl ?_ | refine gs_no rfl ?_ | refine gs_end ?_ | refine gs_end' ?_ | refine gw_seq ?_ | refine gw_text rfl ?_ | refine gw_skip ?_ | refine gw_yes rfl ?_ | refine gw_no rfl ?_ | refine gw_exit ?_ | refine gw_block ?_ | refine gw_label ?_ | (refine gs_n tyT_ok 0 ?_ (hp := ?hp); case hp => exact ⟨by decide, by decide⟩))
  by_cases g1 : s.size ≤ 9000
  case neg =>
    rw [show tgaGet s = none from if_neg (fun h => g1 h.1)]
    (refine gs_t tyT_ok ?hb ?_; case hb => first | exact decide_eq_true (by omega) | exact congrArg Bool.not (decide_eq_false (by omega)) | (simp; done) | (simp; omega))
    repeat (first | refine gs_n tyT_ok 0 ?_ | refine gs_gn tyT_ok 0 rfl ?_ | refine gs_no rfl ?_ | refine gs_end ?_ | refine gs_end' ?_ | refine gw_seq ?_ | refine gw_text rfl ?_ | refine gw_skip ?_ | refine gw_yes rfl ?_ | refine gw_no rfl ?_ | refine gw_exit ?_ | refine gw_block ?_ | refine gw_label ?_ | (refine gs_n tyT_ok 0 ?_ (hp := ?hp); case hp => exact ⟨by decide, by decide⟩))
    refine gs_store tyT_ok 0 rfl rfl rfl rfl rfl rfl (Nat.le_of_ble_eq_true rfl) (Nat.le_of_ble_eq_true rfl) ?_
    repeat (first | refine gs_n tyT_ok 0 ?_ | refine gs_gn tyT_ok 0 rfl ?_ | refine gs_no rfl ?_ | refine gs_end ?_ | refine gs_end' ?_ | refine gw_seq ?_ | refine gw_text rfl ?_ | refine gw_skip ?_ | refine gw_yes rfl ?_ | refine gw_no rfl ?_ | refine gw_exit ?_ | refine gw_block ?_ | refine gw_label ?_ | (refine gs_n tyT_ok 0 ?_ (hp := ?hp); case hp => exact ⟨by decide, by decide⟩))
    exact gw_ret ⟨_, [], [], [], rv_cell tyT_ok 0 rfl rfl rfl rfl rfl (Nat.le_of_ble_eq_true rfl) (.tmp .nil), ⟨rfl, rfl, rfl⟩, rfl, rfl, by decide⟩
  (refine gs_f tyT_ok ?hb ?_; case hb => first | exact decide_eq_false (by omega) | exact congrArg Bool.not (decide_eq_true (by omega)) | (simp; done) | (simp; omega))
  repeat (first | refine gs_n tyT_ok 0 ?_ | refine gs_gn tyT_ok 0 rfl ?_ | refine gs_no rfl ?_ | refine gs_end ?_ | refine gs_end' ?_ | refine gw_seq ?_ | refine gw_text rfl ?_ | refine gw_skip ?_ | refine gw_yes rfl ?_ | refine gw_no rfl ?_ | refine gw_exit ?_ | refine gw_block ?_ | refine gw_label ?_ | (refine gs_n tyT_ok 0 ?_ (hp := ?hp); case hp => exact ⟨by decide, by decide⟩))
  refine gs_box fun g => ?_
  repeat (first | refine gs_n tyT_ok 0 ?_ | refine gs_gn tyT_ok 0 rfl ?_ | refine gs_no rfl ?_ | refine gs_end ?_ | refine gs_end' ?_ | refine gw_seq ?_ | refine gw_text rfl ?_ | refine gw_skip ?_ | refine gw_yes rfl ?_ | refine gw_no rfl ?_ | refine gw_exit ?_ | refine gw_block ?_ | refine gw_label ?_ | (refine gs_n tyT_ok 0 ?_ (hp := ?hp); case hp => exact ⟨by decide, by decide⟩))
  refine gs_call [1] ent83 rfl (by decide) (tgaHead_w g1) fun v F' ns ho _ _ => ?_
  obtain ⟨p, bad, k, d, w, h, a, n, c, runs, down, q, rfl, rfl, rfl, hR⟩ := ho
  repeat (first | refine gs_n tyT_ok 0 ?_ | refine gs_gn tyT_ok 0 rfl ?_ | refine gs_no rfl ?_ | refine gs_end ?_ | refine gs_end' ?_ | refine gw_seq ?_ | refine gw_text rfl ?_ | refine gw_skip ?_ | refine gw_yes rfl ?_ | refine gw_no rfl ?_ | refine gw_exit ?_ | refine gw_block ?_ | refine gw_label ?_ | (refine gs_n tyT_ok 0 ?_ (hp := ?hp); case hp => exact ⟨by decide, by decide⟩))
  refine gs_alloc tyT_ok rfl fun b5 => ?_
  refine gs_store tyT_ok 3 rfl rfl rfl rfl rfl rfl (Nat.le_of_ble_eq_true rfl) (Nat.le_of_ble_eq_true rfl) ?_
  have hah : 0 ≤ (hdOf s).ahead := byt_ge s 0
  have hma : 0 ≤ (hdOf s).many := fld_ge s 5 2 false 2
  rcases hR with ⟨rfl, hno⟩ | ⟨rfl, g2, g3, g4, rfl, rfl, rfl, rfl, rfl, rfl, hp, hp2, hq⟩
  · rw [show tgaGet s = none from if_neg (fun h => hno ⟨h.2.1, h.2.2.1, h.2.2.2.1, by have := h.2.2.2.2; unfold tgaAt at this; omega⟩)]
    repeat (first | refine gs_n tyT_ok 0 ?_ | refine gs_gn tyT_ok 0 rfl ?_ | refine gs_no rfl ?_ | refine gs_l tyT_ok 1 ?_ | refine gs_gl tyT_ok 1 rfl ?_ | (refine gs_l tyT_ok 1 ?_ (hp := ?hp); case hp => exact ⟨rfl, Nat.le_of_ble_eq_true rfl⟩) | (refine gs_gl tyT_ok 1 rfl ?_ (hp := ?hp); case hp => exact ⟨rfl, Nat.le_of_ble_eq_true rfl⟩) | refine gs_end ?_ | refine gs_end' ?_ | refine gw_seq ?_ | refine gw_text rfl ?_ | refine gw_skip ?_ | refine gw_yes rfl ?_ | refine gw_no rfl ?_ | refine gw_exit ?_ | refine gw_block ?_ | refine gw_label ?_ | (refine gs_n tyT_ok 0 ?_ (hp := ?hp); case hp => exact ⟨by decide, by decide⟩))
    refine gs_store tyT_ok 0 rfl rfl rfl rfl rfl rfl (Nat.le_of_ble_eq_true rfl) (Nat.le_of_ble_eq_true rfl) ?_
    repeat (first | refine gs_n tyT_ok 0 ?_ | refine gs_gn tyT_ok 0 rfl ?_ | refine gs_no rfl ?_ | refine gs_end ?_ | refine gs_end' ?_ | refine gw_seq ?_ | refine gw_text rfl ?_ | refine gw_skip ?_ | refine gw_yes rfl ?_ | refine gw_no rfl ?_ | refine gw_exit ?_ | refine gw_block ?_ | refine gw_label ?_ | (refine gs_n tyT_ok 0 ?_ (hp := ?hp); case hp => exact ⟨by decide, by decide⟩))
    exact gw_ret ⟨_, [], [], [], rv_cell tyT_ok 0 rfl rfl rfl rfl rfl (Nat.le_of_ble_eq_true rfl) (.tmp .nil), ⟨rfl, rfl, rfl⟩, rfl, rfl, by decide⟩
  have hat : p = tgaAt s := by unfold tgaAt; omega
  subst hat
  have hdep := ok_depth g3
  obtain ⟨hw, hh⟩ := g4
  obtain ⟨z, hz⟩ : ∃ z : Nat, (hdOf s).depth / 8 = z := ⟨((hdOf s).depth / 8).toNat, by omega⟩
  obtain ⟨W, hW⟩ := Int.eq_ofNat_of_zero_le (show 0 ≤ (hdOf s).wide by omega)
  obtain ⟨H, hH⟩ := Int.eq_ofNat_of_zero_le (show 0 ≤ (hdOf s).high by omega)
  have hz4 : 1 ≤ z ∧ z ≤ 4 := by omega
  have hWH : W * H ≤ 20 * 20 := Nat.mul_le_mul (by omega) (by omega)
  have hpts : tgaPts s = if (hdOf s).runs then (match runL s z (W * H) (W * H) [] (tgaAt s) with
      | some (l, a) => if a = s.size then some l else none
      | none => none) else if tgaAt s + W * H * z = s.size then some (nums s z (tgaAt s) (W * H)) else none := by
    unfold tgaPts
    rw [hz, hW, hH, ← Int.natCast_mul]
    rfl
  repeat (first | refine gs_n tyT_ok 0 ?_ | refine gs_gn tyT_ok 0 rfl ?_ | refine gs_no rfl ?_ | refine gs_l tyT_ok 1 ?_ | refine gs_gl tyT_ok 1 rfl ?_ | (refine gs_l tyT_ok 1 ?_ (hp := ?hp); case hp => exact ⟨rfl, Nat.le_of_ble_eq_true rfl⟩) | (refine gs_gl tyT_ok 1 rfl ?_ (hp := ?hp); case hp => exact ⟨rfl, Nat.le_of_ble_eq_true rfl⟩) | refine gs_l tyT_ok 3 ?_ | refine gs_gl tyT_ok 3 rfl ?_ | (refine gs_l tyT_ok 3 ?_ (hp := ?hp); case hp => exact ⟨rfl, Nat.le_of_ble_eq_true rfl⟩) | (refine gs_gl tyT_ok 3 rfl ?_ (hp := ?hp); case hp => exact ⟨rfl, Nat.le_of_ble_eq_true rfl⟩) | refine gs_end ?_ | refine gs_end' ?_ | refine gw_seq ?_ | refine gw_text rfl ?_ | refine gw_skip ?_ | refine gw_yes rfl ?_ | refine gw_no rfl ?_ | refine gw_exit ?_ | refine gw_block ?_ | refine gw_label ?_ | (refine gs_n tyT_ok 0 ?_ (hp := ?hp); case hp => exact ⟨by decide, by decide⟩))
  rw [hz]
  repeat (first | refine gs_n tyT_ok 0 ?_ | refine gs_gn tyT_ok 0 rfl ?_ | refine gs_no rfl ?_ | refine gs_end ?_ | refine gs_end' ?_ | refine gw_seq ?_ | refine gw_text rfl ?_ | refine gw_skip ?_ | refine gw_label ?_)
  refine gw_join (fun x : St => [(0, .string s), (2, ptr b2), (4, ptr g), (5, ptr b5), (7, .bool (decide ((hdOf s).lst = 0)))]) (fun x => [(b2, zimg), (g, sc s x.at_ x.bad), q, (b5, imc (hdOf s).kind (hdOf s).depth (hdOf s).wide (hdOf s).high (.slice a n c) x.v), x.pp]) (St.fine s) ?_ fun x e hx => ?_
  · by_cases hr : (hdOf s).runs
    · rw [if_pos hr] at hpts
      refine gw_cond (t := decide (hdOf s).runs) rfl (fun _ => ?_) (fun h => absurd hr (of_decide_eq_false h))
      refine gw_seq (gw_any [.N, .N, .N, .N, .L 1, .N, .N, .L 3, .N, .L 3, .N, .E [], .N, .N, .N, .N, .N, .N, .N] rfl rfl rfl ?_)
      rw [hW, hH]
      repeat (first | refine gs_n tyT_ok 0 ?_ | refine gs_gn tyT_ok 0 rfl ?_ | refine gs_no rfl ?_ | refine gs_l tyT_ok 1 ?_ | refine gs_gl tyT_ok 1 rfl ?_ | (refine gs_l tyT_ok 1 ?_ (hp := ?hp); case hp => exact ⟨rfl, Nat.le_of_ble_eq_true rfl⟩) | (refine gs_gl tyT_ok 1 rfl ?_ (hp := ?hp); case hp => exact ⟨rfl, Nat.le_of_ble_eq_true rfl⟩) | refine gs_l tyT_ok 3 ?_ | refine gs_gl tyT_ok 3 rfl ?_ | (refine gs_l tyT_ok 3 ?_ (hp := ?hp); case hp => exact ⟨rfl, Nat.le_of_ble_eq_true rfl⟩) | (refine gs_gl tyT_ok 3 rfl ?_ (hp := ?hp); case hp => exact ⟨rfl, Nat.le_of_ble_eq_true rfl⟩))
      rw [← Int.natCast_mul]
      refine gs_call [] ent84 rfl (by decide) (runGet_w g1 hz4.1 hz4.2 (by omega) hp2) fun v F' ns ho _ _ => ?_
      rcases ho with ⟨rfl, ⟨rfl, rfl, hnone⟩ | ⟨wv, pp, l, at2, rfl, rfl, hv, hsome⟩⟩
      · repeat (first | refine gs_n tyT_ok 0 ?_ | refine gs_gn tyT_ok 0 rfl ?_ | refine gs_no rfl ?_)
        refine gs_end' ?_
        refine gw_nil ?_
        repeat (first | refine gs_n tyT_ok 0 ?_ | refine gs_gn tyT_ok 0 rfl ?_ | refine gs_no rfl ?_ | refine gs_end ?_ | refine gs_end' ?_ | refine gw_seq ?_ | refine gw_text rfl ?_ | refine gw_skip ?_ | refine gw_yes rfl ?_ | refine gw_no rfl ?_ | refine gw_exit ?_ | refine gw_block ?_ | refine gw_label ?_ | (refine gs_n tyT_ok 0 ?_ (hp := ?hp); case hp => exact ⟨by decide, by decide⟩))
        refine gs_store tyT_ok 3 rfl rfl rfl rfl rfl rfl (Nat.le_of_ble_eq_true rfl) (Nat.le_of_ble_eq_true rfl) ?_
        repeat (first | refine gs_n tyT_ok 0 ?_ | refine gs_gn tyT_ok 0 rfl ?_ | refine gs_no rfl ?_ | refine gs_end ?_ | refine gs_end' ?_ | refine gw_seq ?_ | refine gw_text rfl ?_ | refine gw_skip ?_ | refine gw_yes rfl ?_ | refine gw_no rfl ?_ | refine gw_exit ?_ | refine gw_block ?_ | refine gw_label ?_ | (refine gs_n tyT_ok 0 ?_ (hp := ?hp); case hp => exact ⟨by decide, by decide⟩))
        refine gs_store tyT_ok 1 rfl rfl rfl rfl rfl rfl (Nat.le_of_ble_eq_true rfl) (Nat.le_of_ble_eq_true rfl) ?_
        repeat (first | refine gs_n tyT_ok 0 ?_ | refine gs_gn tyT_ok 0 rfl ?_ | refine gs_no rfl ?_ | refine gs_end ?_ | refine gs_end' ?_ | refine gw_seq ?_ | refine gw_text rfl ?_ | refine gw_skip ?_ | refine gw_yes rfl ?_ | refine gw_no rfl ?_ | refine gw_exit ?_ | refine gw_block ?_ | refine gw_label ?_ | (refine gs_n tyT_ok 0 ?_ (hp := ?hp); case hp => exact ⟨by decide, by decide⟩))
        refine gs_store tyT_ok 1 rfl rfl rfl rfl rfl rfl (Nat.le_of_ble_eq_true rfl) (Nat.le_of_ble_eq_true rfl) ?_
        repeat (first | refine gs_n tyT_ok 0 ?_ | refine gs_gn tyT_ok 0 rfl ?_ | refine gs_no rfl ?_ | refine gs_end ?_ | refine gs_end' ?_ | refine gw_seq ?_ | refine gw_text rfl ?_ | refine gw_skip ?_ | refine gw_yes rfl ?_ | refine gw_no rfl ?_ | refine gw_exit ?_ | refine gw_block ?_ | refine gw_label ?_ | (refine gs_n tyT_ok 0 ?_ (hp := ?hp); case hp => exact ⟨by decide, by decide⟩))
        exact ⟨⟨.slice none 0 0, (0, .none), 0, true, []⟩, ⟨OI.nil, by decide, small_nil, by simp, .inl ⟨.inl rfl, by rw [hpts, hnone]⟩⟩, rfl, rfl, rfl, rfl, rfl, rfl, trivial⟩
      · have hv' := hv
        obtain ⟨ua, uc, rfl, _⟩ := hv'.ls
        have hle := runL_le _ _ _ _ _ hp2 hsome
        have hsm := runL_small hz4.2 _ _ _ _ _ (fun x hx => by cases hx) hsome
        have hln := runL_len _ _ _ _ _ (Nat.zero_le _) hsome
        repeat (first | refine gs_n tyT_ok 0 ?_ | refine gs_gn tyT_ok 0 rfl ?_ | refine gs_no rfl ?_ | refine gs_end ?_ | refine gs_end' ?_ | refine gw_seq ?_ | refine gw_text rfl ?_ | refine gw_skip ?_ | refine gw_yes rfl ?_ | refine gw_no rfl ?_ | refine gw_exit ?_ | refine gw_block ?_ | refine gw_label ?_ | (refine gs_n tyT_ok 0 ?_ (hp := ?hp); case hp => exact ⟨by decide, by decide⟩))
        refine gs_store tyT_ok 3 rfl rfl rfl rfl rfl rfl (Nat.le_of_ble_eq_true rfl) (Nat.le_of_ble_eq_true rfl) ?_
        repeat (first | refine gs_n tyT_ok 0 ?_ | refine gs_gn tyT_ok 0 rfl ?_ | refine gs_no rfl ?_ | refine gs_end ?_ | refine gs_end' ?_ | refine gw_seq ?_ | refine gw_text rfl ?_ | refine gw_skip ?_ | refine gw_yes rfl ?_ | refine gw_no rfl ?_ | refine gw_exit ?_ | refine gw_block ?_ | refine gw_label ?_ | (refine gs_n tyT_ok 0 ?_ (hp := ?hp); case hp => exact ⟨by decide, by decide⟩))
        refine gs_store tyT_ok 1 rfl rfl rfl rfl rfl rfl (Nat.le_of_ble_eq_true rfl) (Nat.le_of_ble_eq_true rfl) ?_
        repeat (first | refine gs_n tyT_ok 0 ?_ | refine gs_gn tyT_ok 0 rfl ?_ | refine gs_no rfl ?_ | refine gs_end ?_ | refine gs_end' ?_ | refine gw_seq ?_ | refine gw_text rfl ?_ | refine gw_skip ?_ | refine gw_yes rfl ?_ | refine gw_no rfl ?_ | refine gw_exit ?_ | refine gw_block ?_ | refine gw_label ?_ | (refine gs_n tyT_ok 0 ?_ (hp := ?hp); case hp => exact ⟨by decide, by decide⟩))
        refine gs_store tyT_ok 1 rfl rfl rfl rfl rfl rfl (Nat.le_of_ble_eq_true rfl) (Nat.le_of_ble_eq_true rfl) ?_
        repeat (first | refine gs_n tyT_ok 0 ?_ | refine gs_gn tyT_ok 0 rfl ?_ | refine gs_no rfl ?_ | refine gs_end ?_ | refine gs_end' ?_ | refine gw_seq ?_ | refine gw_text rfl ?_ | refine gw_skip ?_ | refine gw_yes rfl ?_ | refine gw_no rfl ?_ | refine gw_exit ?_ | refine gw_block ?_ | refine gw_label ?_ | (refine gs_n tyT_ok 0 ?_ (hp := ?hp); case hp => exact ⟨by decide, by decide⟩))
        refine ⟨⟨_, pp, at2, false, l⟩, ⟨hv, by show at2 ≤ 1000000; omega, hsm, by show l.length ≤ 1000; omega, ?_⟩, rfl, rfl, rfl, rfl, rfl, rfl, trivial⟩
        rw [hpts, hsome]
        by_cases ha : at2 = s.size
        · exact .inr ⟨rfl, by show s.size ≤ at2; omega, if_pos ha⟩
        · exact .inl ⟨.inr (by show at2 < s.size; omega), if_neg ha⟩
    · rw [if_neg hr] at hpts
      refine gw_cond (t := decide (hdOf s).runs) rfl (fun h => absurd (of_decide_eq_true h) hr) (fun _ => ?_)
      rw [hW, hH]
      repeat (first | refine gs_n tyT_ok 0 ?_ | refine gs_gn tyT_ok 0 rfl ?_ | refine gs_no rfl ?_ | refine gs_l tyT_ok 3 ?_ | refine gs_gl tyT_ok 3 rfl ?_ | (refine gs_l tyT_ok 3 ?_ (hp := ?hp); case hp => exact ⟨rfl, Nat.le_of_ble_eq_true rfl⟩) | (refine gs_gl tyT_ok 3 rfl ?_ (hp := ?hp); case hp => exact ⟨rfl, Nat.le_of_ble_eq_true rfl⟩) | refine gs_end ?_ | refine gs_end' ?_ | refine gw_seq ?_ | refine gw_text rfl ?_ | refine gw_skip ?_ | refine gw_label ?_)
      rw [← Int.natCast_mul]
      repeat (first | refine gs_n tyT_ok 0 ?_ | refine gs_gn tyT_ok 0 rfl ?_ | refine gs_no rfl ?_ | refine gs_end ?_ | refine gs_end' ?_ | refine gw_seq ?_ | refine gw_text rfl ?_ | refine gw_skip ?_ | refine gw_label ?_)
      refine gw_nil ?_
      refine gw_block ?_
      refine gw_loopL (fun _ (x : Nat × St) => [(0, .string s), (2, ptr b2), (4, ptr g), (5, ptr b5), (7, .bool (decide ((hdOf s).lst = 0))), (8, .int .i64 z), (67, .int .i64 ((W * H : Nat) : Int)), (68, .int .i64 x.1)]) (fun _ x => [(b2, zimg), (g, sc s x.2.at_ x.2.bad), q, (b5, imc (hdOf s).kind (hdOf s).depth W H (.slice a n c) x.2.v), x.2.pp])
        (fun m x => x.1 + m = W * H ∧ OI x.2.v x.2.pp x.2.l ∧ x.2.l.length = x.1 ∧ small x.2.l ∧ x.2.at_ ≤ s.size ∧ ((x.2.bad = false ∧ x.2.at_ = tgaAt s + x.1 * z ∧ x.2.l = nums s z (tgaAt s) x.1) ∨ (x.2.bad = true ∧ s.size < tgaAt s + x.1 * z))) (W * H) (0, ⟨.slice none 0 0, (0, .none), tgaAt s, false, []⟩) ⟨by simp, OI.nil, rfl, small_nil, hp2, .inl ⟨rfl, by simp, rfl⟩⟩ rfl ⟨rfl, rfl, rfl, rfl, rfl, rfl, rfl, rfl, trivial⟩ fun m ⟨i, ⟨v, pp, at2, bad, l⟩⟩ e ⟨hm, hv, hlen, hsm, hle, hst⟩ => ?_
      dsimp only at hm hv hlen hsm hle hst ⊢
      have hv' := hv
      obtain ⟨ua, uc, rfl, _⟩ := hv'.ls
      repeat (first | refine gs_n tyT_ok 0 ?_ | refine gs_gn tyT_ok 0 rfl ?_ | refine gs_no rfl ?_ | refine gs_end ?_ | refine gs_end' ?_ | refine gw_seq ?_ | refine gw_text rfl ?_ | refine gw_skip ?_ | refine gw_yes rfl ?_ | refine gw_no rfl ?_ | refine gw_exit ?_ | refine gw_block ?_ | refine gw_label ?_ | (refine gs_n tyT_ok 0 ?_ (hp := ?hp); case hp => exact ⟨by decide, by decide⟩))
      by_cases k1 : i < W * H
      case neg =>
        obtain rfl : i = W * H := by omega
        (refine gs_f tyT_ok ?hb ?_; case hb => first | exact decide_eq_false (by omega) | exact congrArg Bool.not (decide_eq_true (by omega)) | (simp; done) | (simp; omega))
        repeat (first | refine gs_n tyT_ok 0 ?_ | refine gs_gn tyT_ok 0 rfl ?_ | refine gs_no rfl ?_ | refine gs_end ?_ | refine gs_end' ?_ | refine gw_seq ?_ | refine gw_text rfl ?_ | refine gw_skip ?_ | refine gw_yes rfl ?_ | refine gw_no rfl ?_ | refine gw_exit ?_ | refine gw_block ?_ | refine gw_label ?_ | (refine gs_n tyT_ok 0 ?_ (hp := ?hp); case hp => exact ⟨by decide, by decide⟩))
        rw [← hW, ← hH]
        refine ⟨⟨_, pp, at2, bad, l⟩, ⟨hv, by show at2 ≤ 1000000; omega, hsm, by show l.length ≤ 1000; omega, ?_⟩, rfl, rfl, rfl, rfl, rfl, rfl, trivial⟩
        rw [hpts]
        rcases hst with ⟨rfl, h1, h2⟩ | ⟨rfl, h1⟩
        · by_cases ha : tgaAt s + W * H * z = s.size
          · exact .inr ⟨rfl, by show s.size ≤ at2; omega, by rw [if_pos ha, h2]⟩
          · exact .inl ⟨.inr (by show at2 < s.size; omega), if_neg ha⟩
        · exact .inl ⟨.inl rfl, if_neg (by omega)⟩
      (refine gs_t tyT_ok ?hb ?_; case hb => first | exact decide_eq_true (by omega) | exact congrArg Bool.not (decide_eq_false (by omega)) | (simp; done) | (simp; omega))
      repeat (first | refine gs_n tyT_ok 0 ?_ | refine gs_gn tyT_ok 0 rfl ?_ | refine gs_no rfl ?_ | refine gs_end ?_ | refine gs_end' ?_ | refine gw_seq ?_ | refine gw_text rfl ?_ | refine gw_skip ?_ | refine gw_yes rfl ?_ | refine gw_no rfl ?_ | refine gw_exit ?_ | refine gw_block ?_ | refine gw_label ?_ | (refine gs_n tyT_ok 0 ?_ (hp := ?hp); case hp => exact ⟨by decide, by decide⟩))
      refine gw_any [.N, .L 3, .N, .N, .E [1], .E [], .E [4, 5], .N, .E [3]] rfl rfl rfl ?_
      repeat (first | refine gs_n tyT_ok 0 ?_ | refine gs_gn tyT_ok 0 rfl ?_ | refine gs_no rfl ?_ | refine gs_l tyT_ok 3 ?_ | refine gs_gl tyT_ok 3 rfl ?_ | (refine gs_l tyT_ok 3 ?_ (hp := ?hp); case hp => exact ⟨rfl, Nat.le_of_ble_eq_true rfl⟩) | (refine gs_gl tyT_ok 3 rfl ?_ (hp := ?hp); case hp => exact ⟨rfl, Nat.le_of_ble_eq_true rfl⟩))
      have hs' : s.size ≤ 1000000000000 := by omega
      have hiz : (i + 1) * z = i * z + z := Nat.succ_mul i z
      by_cases k2 : bad = false ∧ at2 + z ≤ s.size
      · obtain ⟨rfl, k2⟩ := k2
        have hst : at2 = tgaAt s + i * z ∧ l = nums s z (tgaAt s) i := by
          rcases hst with ⟨_, h1, h2⟩ | ⟨h, _⟩
          · exact ⟨h1, h2⟩
          · cases h
        refine gs_wr [1] ent57 rfl (by decide) (number_t hs' hz4.1 hz4.2 k2) rfl ?_
        refine gs_push 4 rfl rfl hv (fun _ => rfl) (by omega) fun b6 va3 vc3 p3 hv3 => ?_
        repeat (first | refine gs_n tyT_ok 0 ?_ | refine gs_gn tyT_ok 0 rfl ?_ | refine gs_no rfl ?_)
        refine gs_store tyT_ok 3 rfl rfl rfl rfl rfl rfl (Nat.le_of_ble_eq_true rfl) (Nat.le_of_ble_eq_true rfl) ?_
        refine gs_end' ?_
        refine gw_weak [0, 1, 2, 3, 4] (by decide) rfl ?_
        repeat (first | refine gs_n tyT_ok 0 ?_ | refine gs_gn tyT_ok 0 rfl ?_ | refine gs_no rfl ?_ | refine gs_end ?_ | refine gs_end' ?_ | refine gw_seq ?_ | refine gw_text rfl ?_ | refine gw_skip ?_ | refine gw_yes rfl ?_ | refine gw_no rfl ?_ | refine gw_exit ?_ | refine gw_block ?_ | refine gw_label ?_ | (refine gs_n tyT_ok 0 ?_ (hp := ?hp); case hp => exact ⟨by decide, by decide⟩))
        refine ⟨m - 1, by omega, (i + 1, ⟨_, p3, at2 + z, false, l ++ [fld s at2 z false z]⟩), ⟨by show i + 1 + (m - 1) = _; omega, hv3, by show (l ++ [fld s at2 z false z]).length = i + 1; rw [List.length_append, hlen]; rfl, small_app hsm fun x hx => by rw [List.mem_singleton.1 hx]; exact small_fld hz4.2, k2, .inl ⟨rfl, by show at2 + z = tgaAt s + (i + 1) * z; omega, ?_⟩⟩, rfl, rfl, rfl, rfl, rfl, rfl, rfl, rfl, rfl, trivial⟩
        show l ++ [fld s at2 z false z] = nums s z (tgaAt s) (i + 1)
        rw [nums_succ, ← hst.2, ← hst.1]
      · have hst : s.size < tgaAt s + (i + 1) * z := by
          rcases hst with ⟨h0, h1, h2⟩ | ⟨_, h1⟩
          · have : ¬ at2 + z ≤ s.size := fun h => k2 ⟨h0, h⟩
            omega
          · omega
        refine gs_wr [1] ent57 rfl (by decide) (number_f hs' hle hz4.1 hz4.2 (nope k2)) rfl ?_
        refine gs_push 4 rfl rfl hv (fun _ => rfl) (by omega) fun b6 va3 vc3 p3 hv3 => ?_
        repeat (first | refine gs_n tyT_ok 0 ?_ | refine gs_gn tyT_ok 0 rfl ?_ | refine gs_no rfl ?_)
        refine gs_store tyT_ok 3 rfl rfl rfl rfl rfl rfl (Nat.le_of_ble_eq_true rfl) (Nat.le_of_ble_eq_true rfl) ?_
        refine gs_end' ?_
        refine gw_weak [0, 1, 2, 3, 4] (by decide) rfl ?_
        repeat (first | refine gs_n tyT_ok 0 ?_ | refine gs_gn tyT_ok 0 rfl ?_ | refine gs_no rfl ?_ | refine gs_end ?_ | refine gs_end' ?_ | refine gw_seq ?_ | refine gw_text rfl ?_ | refine gw_skip ?_ | refine gw_yes rfl ?_ | refine gw_no rfl ?_ | refine gw_exit ?_ | refine gw_block ?_ | refine gw_label ?_ | (refine gs_n tyT_ok 0 ?_ (hp := ?hp); case hp => exact ⟨by decide, by decide⟩))
        exact ⟨m - 1, by omega, (i + 1, ⟨_, p3, at2, true, l ++ [0]⟩), ⟨by show i + 1 + (m - 1) = _; omega, hv3, by show (l ++ [(0 : Int)]).length = i + 1; rw [List.length_append, hlen]; rfl, small_app hsm fun x hx => by rw [List.mem_singleton.1 hx]; decide, hle, .inr ⟨rfl, hst⟩⟩, rfl, rfl, rfl, rfl, rfl, rfl, rfl, rfl, rfl, trivial⟩
  obtain ⟨v, pp, at2, bad, l⟩ := x
  obtain ⟨hv, hle, hsm, hln, hst⟩ := hx
  dsimp only at hv hle hsm hln hst ⊢
  have hv' := hv
  obtain ⟨ua, uc, rfl, _⟩ := hv'.ls
  have hpos : s.size ≤ 9000 ∧ 18 ≤ s.size ∧ (hdOf s).ok ∧ (hdOf s).size ∧ tgaAt s ≤ s.size := ⟨g1, g2, g3, ⟨hw, hh⟩, hp2⟩
  rcases hst with ⟨hf, hnone⟩ | ⟨rfl, hge, hsome⟩
  · rw [show tgaGet s = none by rw [tgaGet, if_pos hpos, hnone]]
    cases bad
    · have hf : at2 < s.size := hf.resolve_left (by simp)
      repeat (first | refine gs_n tyT_ok 0 ?_ | refine gs_gn tyT_ok 0 rfl ?_ | refine gs_no rfl ?_ | refine gs_l tyT_ok 1 ?_ | refine gs_gl tyT_ok 1 rfl ?_ | (refine gs_l tyT_ok 1 ?_ (hp := ?hp); case hp => exact ⟨rfl, Nat.le_of_ble_eq_true rfl⟩) | (refine gs_gl tyT_ok 1 rfl ?_ (hp := ?hp); case hp => exact ⟨rfl, Nat.le_of_ble_eq_true rfl⟩) | refine gs_end ?_ | refine gs_end' ?_ | refine gw_seq ?_ | refine gw_text rfl ?_ | refine gw_skip ?_ | refine gw_yes rfl ?_ | refine gw_no rfl ?_ | refine gw_exit ?_ | refine gw_block ?_ | refine gw_label ?_ | (refine gs_n tyT_ok 0 ?_ (hp := ?hp); case hp => exact ⟨by decide, by decide⟩))
      (refine gs_tg tyT_ok rfl ?hb ?_; case hb => first | exact decide_eq_true (by omega) | exact congrArg Bool.not (decide_eq_false (by omega)) | (simp; done) | (simp; omega))
      repeat (first | refine gs_n tyT_ok 0 ?_ | refine gs_gn tyT_ok 0 rfl ?_ | refine gs_no rfl ?_ | refine gs_end ?_ | refine gs_end' ?_ | refine gw_seq ?_ | refine gw_text rfl ?_ | refine gw_skip ?_ | refine gw_yes rfl ?_ | refine gw_no rfl ?_ | refine gw_exit ?_ | refine gw_block ?_ | refine gw_label ?_ | (refine gs_n tyT_ok 0 ?_ (hp := ?hp); case hp => exact ⟨by decide, by decide⟩))
      refine gs_store tyT_ok 0 rfl rfl rfl rfl rfl rfl (Nat.le_of_ble_eq_true rfl) (Nat.le_of_ble_eq_true rfl) ?_
      repeat (first | refine gs_n tyT_ok 0 ?_ | refine gs_gn tyT_ok 0 rfl ?_ | refine gs_no rfl ?_ | refine gs_end ?_ | refine gs_end' ?_ | refine gw_seq ?_ | refine gw_text rfl ?_ | refine gw_skip ?_ | refine gw_yes rfl ?_ | refine gw_no rfl ?_ | refine gw_exit ?_ | refine gw_block ?_ | refine gw_label ?_ | (refine gs_n tyT_ok 0 ?_ (hp := ?hp); case hp => exact ⟨by decide, by decide⟩))
      exact gw_ret ⟨_, [], [], [], rv_cell tyT_ok 0 rfl rfl rfl rfl rfl (Nat.le_of_ble_eq_true rfl) (.tmp .nil), ⟨rfl, rfl, rfl⟩, rfl, rfl, by decide⟩
    · repeat (first | refine gs_n tyT_ok 0 ?_ | refine gs_gn tyT_ok 0 rfl ?_ | refine gs_no rfl ?_ | refine gs_l tyT_ok 1 ?_ | refine gs_gl tyT_ok 1 rfl ?_ | (refine gs_l tyT_ok 1 ?_ (hp := ?hp); case hp => exact ⟨rfl, Nat.le_of_ble_eq_true rfl⟩) | (refine gs_gl tyT_ok 1 rfl ?_ (hp := ?hp); case hp => exact ⟨rfl, Nat.le_of_ble_eq_true rfl⟩) | refine gs_end ?_ | refine gs_end' ?_ | refine gw_seq ?_ | refine gw_text rfl ?_ | refine gw_skip ?_ | refine gw_yes rfl ?_ | refine gw_no rfl ?_ | refine gw_exit ?_ | refine gw_block ?_ | refine gw_label ?_ | (refine gs_n tyT_ok 0 ?_ (hp := ?hp); case hp => exact ⟨by decide, by decide⟩))
      refine gs_store tyT_ok 0 rfl rfl rfl rfl rfl rfl (Nat.le_of_ble_eq_true rfl) (Nat.le_of_ble_eq_true rfl) ?_
      repeat (first | refine gs_n tyT_ok 0 ?_ | refine gs_gn tyT_ok 0 rfl ?_ | refine gs_no rfl ?_ | refine gs_end ?_ | refine gs_end' ?_ | refine gw_seq ?_ | refine gw_text rfl ?_ | refine gw_skip ?_ | refine gw_yes rfl ?_ | refine gw_no rfl ?_ | refine gw_exit ?_ | refine gw_block ?_ | refine gw_label ?_ | (refine gs_n tyT_ok 0 ?_ (hp := ?hp); case hp => exact ⟨by decide, by decide⟩))
      exact gw_ret ⟨_, [], [], [], rv_cell tyT_ok 0 rfl rfl rfl rfl rfl (Nat.le_of_ble_eq_true rfl) (.tmp .nil), ⟨rfl, rfl, rfl⟩, rfl, rfl, by decide⟩
  have hget : tgaGet s = if imgOk (hdOf s).kind (hdOf s).depth (hdOf s).wide (hdOf s).high (tgaCols s) (l.map (unr (hdOf s).kind)) then
        some ⟨(hdOf s).kind, (hdOf s).depth, (hdOf s).wide, (hdOf s).high, tgaCols s, if (hdOf s).lst = 0 then rows (hdOf s).wide.toNat (hdOf s).high.toNat (l.map (unr (hdOf s).kind)) (hdOf s).high.toNat else l.map (unr (hdOf s).kind)⟩
      else none := by rw [tgaGet, if_pos hpos, hsome]
  have hq : OI (.slice a n c) q (tgaCols s) := hq
  have hq' := hq
  obtain ⟨a', c', he, hl1⟩ := hq'.ls
  cases he
  have hcl : (tgaCols s).length ≤ 65535 := by
    have := fld_le s 5 2 false 2
    have h5 : (hdOf s).many ≤ 65535 := this
    unfold tgaCols
    rw [cols_len]
    omega
  repeat (first | refine gs_n tyT_ok 0 ?_ | refine gs_gn tyT_ok 0 rfl ?_ | refine gs_no rfl ?_ | refine gs_l tyT_ok 1 ?_ | refine gs_gl tyT_ok 1 rfl ?_ | (refine gs_l tyT_ok 1 ?_ (hp := ?hp); case hp => exact ⟨rfl, Nat.le_of_ble_eq_true rfl⟩) | (refine gs_gl tyT_ok 1 rfl ?_ (hp := ?hp); case hp => exact ⟨rfl, Nat.le_of_ble_eq_true rfl⟩) | refine gs_end ?_ | refine gs_end' ?_ | refine gw_seq ?_ | refine gw_text rfl ?_ | refine gw_skip ?_ | refine gw_yes rfl ?_ | refine gw_no rfl ?_ | refine gw_exit ?_ | refine gw_block ?_ | refine gw_label ?_ | (refine gs_n tyT_ok 0 ?_ (hp := ?hp); case hp => exact ⟨by decide, by decide⟩))
  (refine gs_fg tyT_ok rfl ?hb ?_; case hb => first | exact decide_eq_false (by omega) | exact congrArg Bool.not (decide_eq_true (by omega)) | (simp; done) | (simp; omega))
  repeat (first | refine gs_n tyT_ok 0 ?_ | refine gs_gn tyT_ok 0 rfl ?_ | refine gs_no rfl ?_ | refine gs_l tyT_ok 3 ?_ | refine gs_gl tyT_ok 3 rfl ?_ | (refine gs_l tyT_ok 3 ?_ (hp := ?hp); case hp => exact ⟨rfl, Nat.le_of_ble_eq_true rfl⟩) | (refine gs_gl tyT_ok 3 rfl ?_ (hp := ?hp); case hp => exact ⟨rfl, Nat.le_of_ble_eq_true rfl⟩) | refine gs_end ?_ | refine gs_end' ?_ | refine gw_seq ?_ | refine gw_text rfl ?_ | refine gw_skip ?_ | refine gw_yes rfl ?_ | refine gw_no rfl ?_ | refine gw_exit ?_ | refine gw_block ?_ | refine gw_label ?_ | (refine gs_n tyT_ok 0 ?_ (hp := ?hp); case hp => exact ⟨by decide, by decide⟩))
  refine gw_loopL (fun _ (x : Nat × (Nat × GO)) => [(0, .string s), (2, ptr b2), (4, ptr g), (5, ptr b5), (7, .bool (decide ((hdOf s).lst = 0))), (94, .slice ua l.length uc), (95, .int .i64 l.length), (96, .int .i64 x.1)]) (fun _ x => [(b2, zimg), (g, sc s at2 false), q, (b5, imc (hdOf s).kind (hdOf s).depth (hdOf s).wide (hdOf s).high (.slice a (tgaCols s).length c) (.slice ua l.length uc)), x.2]) (fun m x => x.1 + m = l.length ∧ OI (.slice ua l.length uc) x.2 (part (unr (hdOf s).kind) l x.1)) l.length (0, pp) ⟨by simp, by simpa [part] using hv⟩ rfl ⟨rfl, rfl, rfl, rfl, rfl, rfl, rfl, rfl, trivial⟩ fun m ⟨i, p2⟩ e ⟨hm, hv2⟩ => ?_
  dsimp only at hm hv2 ⊢
  repeat (first | refine gs_n tyT_ok 0 ?_ | refine gs_gn tyT_ok 0 rfl ?_ | refine gs_no rfl ?_ | refine gs_end ?_ | refine gs_end' ?_ | refine gw_seq ?_ | refine gw_text rfl ?_ | refine gw_skip ?_ | refine gw_yes rfl ?_ | refine gw_no rfl ?_ | refine gw_exit ?_ | refine gw_block ?_ | refine gw_label ?_ | (refine gs_n tyT_ok 0 ?_ (hp := ?hp); case hp => exact ⟨by decide, by decide⟩))
  by_cases k1 : i < l.length
  · (refine gs_t tyT_ok ?hb ?_; case hb => first | exact decide_eq_true (by omega) | exact congrArg Bool.not (decide_eq_false (by omega)) | (simp; done) | (simp; omega))
    have hplen := part_len (unr (hdOf s).kind) l (Nat.le_of_lt k1)
    obtain ⟨bb, mm, rfl, rfl, hmm, hset⟩ := hv2.set (i := i) (by omega)
    have hcell : (cellsG (.row 3 (ints (part (unr (hdOf s).kind) l i)) mm))[0 + i * 1]? = some (.int .i64 (l.getD i 0)) := by
      simp only [cellsG, ints, Nat.zero_add, Nat.mul_one]
      rw [List.getElem?_map, List.getElem?_eq_getElem (by omega)]
      have := part_at (unr (hdOf s).kind) l k1
      rw [List.getD_eq_getElem?_getD, List.getElem?_eq_getElem (by omega)] at this
      simp only [Option.getD_some] at this
      rw [Option.map_some, this]
    have hx := hsm (l.getD i 0) (by rw [List.getD_eq_getElem?_getD, List.getElem?_eq_getElem k1]; exact List.getElem_mem k1)
    repeat (first | refine gs_n tyT_ok 0 ?_ | refine gs_gn tyT_ok 0 rfl ?_ | refine gs_no rfl ?_ | refine gs_end ?_ | refine gs_end' ?_ | refine gw_seq ?_ | refine gw_text rfl ?_ | refine gw_skip ?_ | refine gw_yes rfl ?_ | refine gw_no rfl ?_ | refine gw_exit ?_ | refine gw_block ?_ | refine gw_label ?_ | (refine gs_n tyT_ok 0 ?_ (hp := ?hp); case hp => exact ⟨by decide, by decide⟩))
    refine gs_at 4 tyT_ok rfl rfl rfl rfl hcell ?_
    repeat (first | refine gs_n tyT_ok 0 ?_ | refine gs_gn tyT_ok 0 rfl ?_ | refine gs_no rfl ?_ | refine gs_end ?_ | refine gs_end' ?_ | refine gw_seq ?_ | refine gw_text rfl ?_ | refine gw_skip ?_ | refine gw_label ?_)
    refine gw_any [.N, .L 3, .N, .N, .L 3, .N, .E [], .N, .E [4]] rfl rfl rfl ?_
    repeat (first | refine gs_n tyT_ok 0 ?_ | refine gs_gn tyT_ok 0 rfl ?_ | refine gs_no rfl ?_ | refine gs_l tyT_ok 3 ?_ | refine gs_gl tyT_ok 3 rfl ?_ | (refine gs_l tyT_ok 3 ?_ (hp := ?hp); case hp => exact ⟨rfl, Nat.le_of_ble_eq_true rfl⟩) | (refine gs_gl tyT_ok 3 rfl ?_ (hp := ?hp); case hp => exact ⟨rfl, Nat.le_of_ble_eq_true rfl⟩))
    refine gs_pu ent85 (unrolled_w hx.1 hx.2) ?_
    repeat (first | refine gs_n tyT_ok 0 ?_ | refine gs_gn tyT_ok 0 rfl ?_ | refine gs_no rfl ?_)
    refine gs_store tyT_ok 4 (b := bb) (off := i) ?hx rfl rfl rfl rfl rfl ?hle ?hn ?_
    case hx =>
      show Value.pointer (some ⟨bb, 0 + i * 1, none⟩) = _
      rw [Nat.zero_add, Nat.mul_one]
    case hle =>
      show i ≤ (ints _).length
      simp only [ints, List.length_map]
      omega
    case hn =>
      show i + 1 ≤ mm
      omega
    repeat (first | refine gs_n tyT_ok 0 ?_ | refine gs_gn tyT_ok 0 rfl ?_ | refine gs_no rfl ?_ | refine gs_end ?_ | refine gs_end' ?_ | refine gw_seq ?_ | refine gw_text rfl ?_ | refine gw_skip ?_ | refine gw_yes rfl ?_ | refine gw_no rfl ?_ | refine gw_exit ?_ | refine gw_block ?_ | refine gw_label ?_ | (refine gs_n tyT_ok 0 ?_ (hp := ?hp); case hp => exact ⟨by decide, by decide⟩))
    refine ⟨m - 1, by omega, (i + 1, (bb, _)), ⟨by show i + 1 + (m - 1) = _; omega, ?_⟩, rfl, rfl, rfl, rfl, rfl, rfl, rfl, rfl, rfl, trivial⟩
    have := hset (unr (hdOf s).kind (l.getD i 0))
    rw [part_set _ _ k1] at this
    exact this
  obtain rfl : i = l.length := by omega
  rw [part_all] at hv2
  have hv2' := hv2
  obtain ⟨ua', uc', he, hl2⟩ := hv2'.ls
  injection he with he1 _ he3
  subst he1 he3
  have hl3 : LS ua l.length uc p2 (l.map (unr (hdOf s).kind)) := by
    have := hl2
    rwa [List.length_map] at this
  have hln2 : (l.map (unr (hdOf s).kind)).length ≤ 1000000 := by rw [List.length_map]; omega
  (refine gs_f tyT_ok ?hb ?_; case hb => first | exact decide_eq_false (by omega) | exact congrArg Bool.not (decide_eq_true (by omega)) | (simp; done) | (simp; omega))
  repeat (first | refine gs_n tyT_ok 0 ?_ | refine gs_gn tyT_ok 0 rfl ?_ | refine gs_no rfl ?_ | refine gs_l tyT_ok 3 ?_ | refine gs_gl tyT_ok 3 rfl ?_ | (refine gs_l tyT_ok 3 ?_ (hp := ?hp); case hp => exact ⟨rfl, Nat.le_of_ble_eq_true rfl⟩) | (refine gs_gl tyT_ok 3 rfl ?_ (hp := ?hp); case hp => exact ⟨rfl, Nat.le_of_ble_eq_true rfl⟩) | refine gs_end ?_ | refine gs_end' ?_ | refine gw_seq ?_ | refine gw_text rfl ?_ | refine gw_skip ?_ | refine gw_yes rfl ?_ | refine gw_no rfl ?_ | refine gw_exit ?_ | refine gw_block ?_ | refine gw_label ?_ | (refine gs_n tyT_ok 0 ?_ (hp := ?hp); case hp => exact ⟨by decide, by decide⟩))
  refine gs_rd [2, 4] ent63 rfl (by decide) (imageOk_w hl1 hl3 (by omega) (by omega)) ?_
  by_cases hok : imgOk (hdOf s).kind (hdOf s).depth (hdOf s).wide (hdOf s).high (tgaCols s) (l.map (unr (hdOf s).kind))
  case neg =>
    rw [hget, if_neg hok, decide_eq_false hok]
    repeat (first | refine gs_n tyT_ok 0 ?_ | refine gs_gn tyT_ok 0 rfl ?_ | refine gs_no rfl ?_ | refine gs_end ?_ | refine gs_end' ?_ | refine gw_seq ?_ | refine gw_text rfl ?_ | refine gw_skip ?_ | refine gw_yes rfl ?_ | refine gw_no rfl ?_ | refine gw_exit ?_ | refine gw_block ?_ | refine gw_label ?_ | (refine gs_n tyT_ok 0 ?_ (hp := ?hp); case hp => exact ⟨by decide, by decide⟩))
    refine gs_store tyT_ok 0 rfl rfl rfl rfl rfl rfl (Nat.le_of_ble_eq_true rfl) (Nat.le_of_ble_eq_true rfl) ?_
    repeat (first | refine gs_n tyT_ok 0 ?_ | refine gs_gn tyT_ok 0 rfl ?_ | refine gs_no rfl ?_ | refine gs_end ?_ | refine gs_end' ?_ | refine gw_seq ?_ | refine gw_text rfl ?_ | refine gw_skip ?_ | refine gw_yes rfl ?_ | refine gw_no rfl ?_ | refine gw_exit ?_ | refine gw_block ?_ | refine gw_label ?_ | (refine gs_n tyT_ok 0 ?_ (hp := ?hp); case hp => exact ⟨by decide, by decide⟩))
    exact gw_ret ⟨_, [], [], [], rv_cell tyT_ok 0 rfl rfl rfl rfl rfl (Nat.le_of_ble_eq_true rfl) (.tmp .nil), ⟨rfl, rfl, rfl⟩, rfl, rfl, by decide⟩
  rw [hget, if_pos hok, decide_eq_true hok]
  repeat (first | refine gs_n tyT_ok 0 ?_ | refine gs_gn tyT_ok 0 rfl ?_ | refine gs_no rfl ?_ | refine gs_end ?_ | refine gs_end' ?_ | refine gw_seq ?_ | refine gw_text rfl ?_ | refine gw_skip ?_ | refine gw_yes rfl ?_ | refine gw_no rfl ?_ | refine gw_exit ?_ | refine gw_block ?_ | refine gw_label ?_ | (refine gs_n tyT_ok 0 ?_ (hp := ?hp); case hp => exact ⟨by decide, by decide⟩))
  by_cases hl0 : (hdOf s).lst = 0
  · refine gw_cond (t := decide ((hdOf s).lst = 0)) rfl (fun _ => ?_) (fun h => absurd hl0 (of_decide_eq_false h))
    rw [if_pos hl0]
    repeat (first | refine gs_n tyT_ok 0 ?_ | refine gs_gn tyT_ok 0 rfl ?_ | refine gs_no rfl ?_ | refine gs_l tyT_ok 3 ?_ | refine gs_gl tyT_ok 3 rfl ?_ | (refine gs_l tyT_ok 3 ?_ (hp := ?hp); case hp => exact ⟨rfl, Nat.le_of_ble_eq_true rfl⟩) | (refine gs_gl tyT_ok 3 rfl ?_ (hp := ?hp); case hp => exact ⟨rfl, Nat.le_of_ble_eq_true rfl⟩) | refine gs_end ?_ | refine gs_end' ?_ | refine gw_seq ?_ | refine gw_text rfl ?_ | refine gw_skip ?_ | refine gw_yes rfl ?_ | refine gw_no rfl ?_ | refine gw_exit ?_ | refine gw_block ?_ | refine gw_label ?_ | (refine gs_n tyT_ok 0 ?_ (hp := ?hp); case hp => exact ⟨by decide, by decide⟩))
    refine gs_call [2, 4] ent33 rfl (by decide) (imageFlip_w hl1 hl3 (by omega) hln2 hok) fun v F' ns ho _ _ => ?_
    obtain ⟨rfl, w1, w2, p3, p4, rfl, rfl, hv3, hv4⟩ := ho
    have hv3' := hv3
    have hv4' := hv4
    obtain ⟨xa, xc, rfl, _⟩ := hv3'.ls
    obtain ⟨ya, yc, rfl, _⟩ := hv4'.ls
    refine gs_store tyT_ok 0 rfl rfl rfl rfl rfl rfl (Nat.le_of_ble_eq_true rfl) (Nat.le_of_ble_eq_true rfl) ?_
    repeat (first | refine gs_n tyT_ok 0 ?_ | refine gs_gn tyT_ok 0 rfl ?_ | refine gs_no rfl ?_ | refine gs_end ?_ | refine gs_end' ?_ | refine gw_seq ?_ | refine gw_text rfl ?_ | refine gw_skip ?_ | refine gw_yes rfl ?_ | refine gw_no rfl ?_ | refine gw_exit ?_ | refine gw_block ?_ | refine gw_label ?_ | (refine gs_n tyT_ok 0 ?_ (hp := ?hp); case hp => exact ⟨by decide, by decide⟩))
    exact gw_ret ⟨_, [], [p3, p4], [5, 6], rv_cell tyT_ok 0 rfl rfl rfl rfl rfl (Nat.le_of_ble_eq_true rfl) (.tmp .nil), ⟨rfl, _, _, p3, p4, rfl, rfl, hv3, hv4⟩, rfl, rfl, by decide⟩
  · refine gw_cond (t := decide ((hdOf s).lst = 0)) rfl (fun h => absurd (of_decide_eq_true h) hl0) (fun _ => ?_)
    rw [if_neg hl0]
    repeat (first | refine gs_n tyT_ok 0 ?_ | refine gs_gn tyT_ok 0 rfl ?_ | refine gs_no rfl ?_ | refine gs_l tyT_ok 3 ?_ | refine gs_gl tyT_ok 3 rfl ?_ | (refine gs_l tyT_ok 3 ?_ (hp := ?hp); case hp => exact ⟨rfl, Nat.le_of_ble_eq_true rfl⟩) | (refine gs_gl tyT_ok 3 rfl ?_ (hp := ?hp); case hp => exact ⟨rfl, Nat.le_of_ble_eq_true rfl⟩) | refine gs_end ?_ | refine gs_end' ?_ | refine gw_seq ?_ | refine gw_text rfl ?_ | refine gw_skip ?_ | refine gw_yes rfl ?_ | refine gw_no rfl ?_ | refine gw_exit ?_ | refine gw_block ?_ | refine gw_label ?_ | (refine gs_n tyT_ok 0 ?_ (hp := ?hp); case hp => exact ⟨by decide, by decide⟩))
    refine gs_store tyT_ok 0 rfl rfl rfl rfl rfl rfl (Nat.le_of_ble_eq_true rfl) (Nat.le_of_ble_eq_true rfl) ?_
    repeat (first | refine gs_n tyT_ok 0 ?_ | refine gs_gn tyT_ok 0 rfl ?_ | refine gs_no rfl ?_ | refine gs_end ?_ | refine gs_end' ?_ | refine gw_seq ?_ | refine gw_text rfl ?_ | refine gw_skip ?_ | refine gw_yes rfl ?_ | refine gw_no rfl ?_ | refine gw_exit ?_ | refine gw_block ?_ | refine gw_label ?_ | (refine gs_n tyT_ok 0 ?_ (hp := ?hp); case hp => exact ⟨by decide, by decide⟩))
    exact gw_ret ⟨_, [], [q, p2], [2, 4], rv_cell tyT_ok 0 rfl rfl rfl rfl rfl (Nat.le_of_ble_eq_true rfl) (.tmp .nil), ⟨rfl, _, _, q, p2, rfl, rfl, hq, hv2⟩, rfl, rfl, by decide⟩
end Go.Proofs.Ytdkhjcmhjlbpaaa.G
