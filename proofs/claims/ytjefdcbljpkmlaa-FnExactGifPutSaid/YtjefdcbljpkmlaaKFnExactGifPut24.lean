/- What the law FnExactGifPut needs, out of the texts Zg. -/
import Derived.Test.YtjefdcbljpkmlaaKFnExactGifPut23
section
set_option linter.unusedVariables false
set_option linter.unusedSimpArgs false
set_option maxRecDepth 10000
namespace Go.Proofs.Ytjefdcbljpkmlaa.G
open Go
/-- The bytes of a text, as numbers. -/
def byl (s : ByteArray) : List Int := s.data.toList.map fun b => (b.toNat : Int)
theorem byl_len (s : ByteArray) : (byl s).length = s.size := by
  rw [byl, List.length_map, Array.length_toList]
  rfl
theorem byl_V (s : ByteArray) : (s.data.toList.map fun b => Value.int .u8 (b.toNat : Int)) = bytesV (byl s) := by simp [byl, bytesV]
theorem byl_at (s : ByteArray) {i : Nat} (h : i < s.size) : (byl s).getD i 0 = byt s i := by
  have h2 : i < s.data.toList.length := by rw [Array.length_toList]; exact h
  unfold byt byl
  rw [List.getD_eq_getElem?_getD, List.getElem?_map, List.getElem?_eq_getElem h2, List.getD_eq_getElem?_getD, List.getElem?_eq_getElem h2]
  rfl
theorem OB.at {a : Option Addr} {n c : Nat} {p : Nat × GO} {zs : List Int} (h : OB (.slice a n c) p zs) {k : Nat} (hk : k < zs.length) : n = zs.length ∧ a = some ⟨p.1, 0, none⟩ ∧ (cellsG p.2)[0 + k * 1]? = some (.int .u8 (zs.getD k 0)) := by
  rcases h with ⟨_, _, hz⟩ | ⟨b, len, cap, n', h, rfl, hl, hlc, hcn⟩
  · have : zs = [] := by simpa [bytesV] using hz
    subst this
    simp at hk
  · cases h
    refine ⟨by simpa [bytesV] using hl.symm, rfl, ?_⟩
    rw [Nat.zero_add, Nat.mul_one]
    show (bytesV zs)[k]? = _
    rw [bytesV, List.getElem?_map, List.getElem?_eq_getElem hk]
    simp [List.getD, hk]
section
variable {ops os : List Oper} {H : Option (List Hint)} {K : Env → GL → Prop} {e : Env} {l : GL} {d : Nat} {T : TypeId} {pos : String} {af : Array Edge}
theorem gs_look2 (j : Nat) {t kt vt : TypeId} {x y : Operand} {b : Nat} {m : List (ByteArray × Int)} {k0 : ByteArray} {i : TyI} (ht : tk tyT t = some (.map kt vt)) (hk : tk tyT kt = some .str) (hv : tyT vt = some i) (hz : i.zero = .int .i64 0) (hx : gev e x = .map (some b)) (hy : gev e y = .string k0) (hl : l[j]? = some (b, SM m))
    (k : gseq Try.prog ops os (tl? H) K (upd e d (.tuple #[.int .i64 ((sfind m k0).getD 0), .bool (sfind m k0).isSome])) l) (hh : hL j H := by trivial) : gseq Try.prog ops (⟨some d, .lookup t x y true, T, pos, af, none⟩ :: os) H K e l := gs_lookup j ht hk hv hz hx hy hl k hh
theorem gs_look1 (j : Nat) {t kt vt : TypeId} {x y : Operand} {b : Nat} {m : List (ByteArray × Int)} {k0 : ByteArray} {i : TyI} (ht : tk tyT t = some (.map kt vt)) (hk : tk tyT kt = some .str) (hv : tyT vt = some i) (hz : i.zero = .int .i64 0) (hx : gev e x = .map (some b)) (hy : gev e y = .string k0) (hl : l[j]? = some (b, SM m))
    (k : gseq Try.prog ops os (tl? H) K (upd e d (.int .i64 ((sfind m k0).getD 0))) l) (hh : hL j H := by trivial) : gseq Try.prog ops (⟨some d, .lookup t x y false, T, pos, af, none⟩ :: os) H K e l := gs_lookup j ht hk hv hz hx hy hl k hh
end
def lastZ : Nat → Bool
  | 0 => false
  | _ => true
/-- Where the program stands: what was told, what is known. -/
structure Ls where
  at_ : Nat
  D : List ByteArray
  out : List (Nat × Nat)
  v : Value
  p : Nat × GO
  mb : Nat
  many : Nat
  last : Bool
  n : Nat
def Ls.fine (t : ByteArray) (bits : Nat) (wide : Bool) (s : Ls) : Prop :=
  OBt s.v s.p s.out ∧ ((s.at_ < t.size ∧ runZ t bits wide (s.at_ + 1) = ⟨s.D, s.at_, s.out⟩ ∧ s.many = knoZ bits s.D.length ∧ s.last = lastZ s.D.length ∧ s.n = lzB bits + s.D.length) ∨ (s.at_ = t.size ∧ endZ t bits wide = (s.out, s.many)))
set_option maxHeartbeats 4000000 in
theorem lzwPut_w (t : ByteArray) (B : Int) (wide : Bool) (ht : t.size ≤ 1000000000000) : Pu Try.prog 33 [.string t, .int .i64 B, .bool wide] (.string (lzPut t B wide)) := by
  refine trip_of Try.func33 rfl (by simp [Try.ntmps33]) ?_
  repeat (first | refine gs_n tyT_ok 0 ?_ | refine gs_gn tyT_ok 0 rfl ?_ | refine gs_no rfl ?_ | refine gs_end ?_ | refine gs_end' ?_ | refine gw_seq ?_ | refine gw_text rfl ?_ | refine gw_skip ?_ | refine gw_yes rfl ?_ | refine gw_no rfl ?_ | refine gw_exit ?_ | refine gw_block ?_ | refine gw_label ?_ | (refine gs_n tyT_ok 0 ?_ (hp := ?hp); case hp => exact ⟨by decide, by decide⟩))
  refine gs_pu ent108 lzwOk_w ?_
  by_cases hok : lzOk B wide
  case neg =>
    rw [decide_eq_false hok, show lzPut t B wide = txt [] from if_neg fun h => hok h.1]
    repeat (first | refine gs_n tyT_ok 0 ?_ | refine gs_gn tyT_ok 0 rfl ?_ | refine gs_no rfl ?_ | refine gs_end ?_ | refine gs_end' ?_ | refine gw_seq ?_ | refine gw_text rfl ?_ | refine gw_skip ?_ | refine gw_yes rfl ?_ | refine gw_no rfl ?_ | refine gw_exit ?_ | refine gw_block ?_ | refine gw_label ?_ | (refine gs_n tyT_ok 0 ?_ (hp := ?hp); case hp => exact ⟨by decide, by decide⟩))
    exact gw_ret ⟨_, [], [], [], (.tmp .nil), ⟨rfl, rfl, rfl⟩, rfl, rfl, List.nodup_nil⟩
  rw [decide_eq_true hok]
  by_cases h5 : t.size ≤ 5000
  case neg =>
    rw [show lzPut t B wide = txt [] from if_neg fun h => h5 h.2.1]
    repeat (first | refine gs_n tyT_ok 0 ?_ | refine gs_gn tyT_ok 0 rfl ?_ | refine gs_no rfl ?_ | refine gs_end ?_ | refine gs_end' ?_ | refine gw_seq ?_ | refine gw_text rfl ?_ | refine gw_skip ?_ | refine gw_yes rfl ?_ | refine gw_no rfl ?_ | refine gw_exit ?_ | refine gw_block ?_ | refine gw_label ?_ | (refine gs_n tyT_ok 0 ?_ (hp := ?hp); case hp => exact ⟨by decide, by decide⟩))
    (refine gs_tg tyT_ok rfl ?hb ?_; case hb => first | exact decide_eq_true (by omega) | exact congrArg Bool.not (decide_eq_false (by omega)) | (simp; done) | (simp; omega))
    repeat (first | refine gs_n tyT_ok 0 ?_ | refine gs_gn tyT_ok 0 rfl ?_ | refine gs_no rfl ?_ | refine gs_end ?_ | refine gs_end' ?_ | refine gw_seq ?_ | refine gw_text rfl ?_ | refine gw_skip ?_ | refine gw_yes rfl ?_ | refine gw_no rfl ?_ | refine gw_exit ?_ | refine gw_block ?_ | refine gw_label ?_ | (refine gs_n tyT_ok 0 ?_ (hp := ?hp); case hp => exact ⟨by decide, by decide⟩))
    exact gw_ret ⟨_, [], [], [], (.tmp .nil), ⟨rfl, rfl, rfl⟩, rfl, rfl, List.nodup_nil⟩
  obtain ⟨⟨hb2, hb8⟩, hw8⟩ := hok
  obtain ⟨bits, rfl⟩ := Int.eq_ofNat_of_zero_le (show 0 ≤ B by omega)
  have hok : lzOk (bits : Int) wide := ⟨⟨hb2, hb8⟩, hw8⟩
  have hb2 : 2 ≤ bits := by omega
  have hb8 : bits ≤ 8 := by omega
  have h8 : 2 ^ bits ≤ 2 ^ 8 := Nat.pow_le_pow_right (by decide) hb8
  have h81 : 1 ≤ 2 ^ bits := Nat.one_le_two_pow
  have hB := lzB_le hb8
  have hF := fullZ_le wide
  repeat (first | refine gs_n tyT_ok 0 ?_ | refine gs_gn tyT_ok 0 rfl ?_ | refine gs_no rfl ?_ | refine gs_end ?_ | refine gs_end' ?_ | refine gw_seq ?_ | refine gw_text rfl ?_ | refine gw_skip ?_ | refine gw_yes rfl ?_ | refine gw_no rfl ?_ | refine gw_exit ?_ | refine gw_block ?_ | refine gw_label ?_ | (refine gs_n tyT_ok 0 ?_ (hp := ?hp); case hp => exact ⟨by decide, by decide⟩))
  (refine gs_fg tyT_ok rfl ?hb ?_; case hb => first | exact decide_eq_false (by omega) | exact congrArg Bool.not (decide_eq_true (by omega)) | (simp; done) | (simp; omega))
  repeat (first | refine gs_n tyT_ok 0 ?_ | refine gs_gn tyT_ok 0 rfl ?_ | refine gs_no rfl ?_ | refine gs_end ?_ | refine gs_end' ?_ | refine gw_seq ?_ | refine gw_text rfl ?_ | refine gw_skip ?_ | refine gw_yes rfl ?_ | refine gw_no rfl ?_ | refine gw_exit ?_ | refine gw_block ?_ | refine gw_label ?_ | (refine gs_n tyT_ok 0 ?_ (hp := ?hp); case hp => exact ⟨by decide, by decide⟩))
  refine gs_bytes tyT_ok rfl rfl rfl rfl fun v0 p0 hv0 => ?_
  rw [byl_V] at hv0
  have hv0 : OB v0 p0 (byl t) := hv0
  have hbl := byl_len t
  obtain ⟨a0, c0, rfl⟩ := hv0.sl
  repeat (first | refine gs_n tyT_ok 0 ?_ | refine gs_gn tyT_ok 0 rfl ?_ | refine gs_no rfl ?_ | refine gs_end ?_ | refine gs_end' ?_ | refine gw_seq ?_ | refine gw_text rfl ?_ | refine gw_skip ?_ | refine gw_yes rfl ?_ | refine gw_no rfl ?_ | refine gw_exit ?_ | refine gw_block ?_ | refine gw_label ?_ | (refine gs_n tyT_ok 0 ?_ (hp := ?hp); case hp => exact ⟨by decide, by decide⟩))
  rw [hbl]
  refine gw_loopW (fun _ (i : Nat) => [(0, .string t), (1, .int .i64 (bits : Int)), (2, .bool wide), (28, .slice a0 (byl t).length c0), (29, .int .i64 (t.size : Int)), (30, .int .i64 (i : Int))]) (fun _ _ => [p0]) (fun m i => i + m = t.size ∧ ∀ j, j < i → byt t j < ((2 ^ bits : Nat) : Int)) t.size 0 ⟨by omega, fun j hj => by omega⟩ ⟨[0], by decide, rfl⟩ ⟨rfl, rfl, rfl, by rw [hbl]; rfl, rfl, rfl, trivial⟩ fun m i e ⟨hi, hj⟩ => ?_
  repeat (first | refine gs_n tyT_ok 0 ?_ | refine gs_gn tyT_ok 0 rfl ?_ | refine gs_no rfl ?_ | refine gs_end ?_ | refine gs_end' ?_ | refine gw_seq ?_ | refine gw_text rfl ?_ | refine gw_skip ?_ | refine gw_yes rfl ?_ | refine gw_no rfl ?_ | refine gw_exit ?_ | refine gw_block ?_ | refine gw_label ?_ | (refine gs_n tyT_ok 0 ?_ (hp := ?hp); case hp => exact ⟨by decide, by decide⟩))
  by_cases hlt : i < t.size
  case pos =>
    (refine gs_t tyT_ok ?hb ?_; case hb => first | exact decide_eq_true (by omega) | exact congrArg Bool.not (decide_eq_false (by omega)) | (simp; done) | (simp; omega))
    obtain ⟨_, rfl, hc⟩ := hv0.at (k := i) (by omega)
    rw [byl_at t hlt] at hc
    have hx0 := byt_ge t i
    have hx1 := byt_le t i
    repeat (first | refine gs_n tyT_ok 0 ?_ | refine gs_gn tyT_ok 0 rfl ?_ | refine gs_no rfl ?_ | refine gs_end ?_ | refine gs_end' ?_ | refine gw_seq ?_ | refine gw_text rfl ?_ | refine gw_skip ?_ | refine gw_yes rfl ?_ | refine gw_no rfl ?_ | refine gw_exit ?_ | refine gw_block ?_ | refine gw_label ?_ | (refine gs_n tyT_ok 0 ?_ (hp := ?hp); case hp => exact ⟨by decide, by decide⟩))
    refine gs_atb 0 rfl rfl rfl rfl hc ?_
    repeat (first | refine gs_n tyT_ok 0 ?_ | refine gs_gn tyT_ok 0 rfl ?_ | refine gs_no rfl ?_ | refine gs_end ?_ | refine gs_end' ?_ | refine gw_seq ?_ | refine gw_text rfl ?_ | refine gw_skip ?_ | refine gw_yes rfl ?_ | refine gw_no rfl ?_ | refine gw_exit ?_ | refine gw_block ?_ | refine gw_label ?_ | (refine gs_n tyT_ok 0 ?_ (hp := ?hp); case hp => exact ⟨by decide, by decide⟩))
    refine gs_n tyT_ok 0 ?_ (hp := ?hp)
    case hp => exact ⟨by omega, by show (bits : Int) ≤ 64; omega, by rw [shl1]; omega, by rw [shl1]; omega⟩
    rw [shl1]
    by_cases hbad : ((2 ^ bits : Nat) : Int) ≤ byt t i
    · rw [show lzPut t bits wide = txt [] from if_neg fun h => by have := h.2.2 i hlt; simp only [Int.toNat_natCast] at this; omega]
      refine gs_t tyT_ok ?hb ?_
      case hb => exact decide_eq_true hbad
      repeat (first | refine gs_n tyT_ok 0 ?_ | refine gs_gn tyT_ok 0 rfl ?_ | refine gs_no rfl ?_ | refine gs_end ?_ | refine gs_end' ?_ | refine gw_seq ?_ | refine gw_text rfl ?_ | refine gw_skip ?_ | refine gw_yes rfl ?_ | refine gw_no rfl ?_ | refine gw_exit ?_ | refine gw_block ?_ | refine gw_label ?_ | (refine gs_n tyT_ok 0 ?_ (hp := ?hp); case hp => exact ⟨by decide, by decide⟩))
      exact gw_ret ⟨_, [], [], [], (.tmp .nil), ⟨rfl, rfl, rfl⟩, rfl, rfl, List.nodup_nil⟩
    · refine gs_f tyT_ok ?hb ?_
      case hb => exact decide_eq_false hbad
      repeat (first | refine gs_n tyT_ok 0 ?_ | refine gs_gn tyT_ok 0 rfl ?_ | refine gs_no rfl ?_ | refine gs_end ?_ | refine gs_end' ?_ | refine gw_seq ?_ | refine gw_text rfl ?_ | refine gw_skip ?_ | refine gw_yes rfl ?_ | refine gw_no rfl ?_ | refine gw_exit ?_ | refine gw_block ?_ | refine gw_label ?_ | (refine gs_n tyT_ok 0 ?_ (hp := ?hp); case hp => exact ⟨by decide, by decide⟩))
      refine ⟨m - 1, by omega, i + 1, ⟨by omega, fun j hj2 => ?_⟩, ⟨[0], by decide, rfl⟩, rfl, rfl, rfl, rfl, rfl, rfl, trivial⟩
      rcases Nat.lt_succ_iff_lt_or_eq.1 hj2 with h | rfl
      · exact hj j h
      · omega
  obtain rfl : i = t.size := by omega
  have hfit : fitsZ bits t := hj
  rw [show lzPut t bits wide = txt (packB wide (lbits wide (lzL t bits wide))) from if_pos ⟨hok, h5, hfit⟩]
  (refine gs_f tyT_ok ?hb ?_; case hb => first | exact decide_eq_false (by omega) | exact congrArg Bool.not (decide_eq_true (by omega)) | (simp; done) | (simp; omega))
  refine gs_end ?_
  refine gw_seq (gw_no rfl ?_)
  refine gw_exit ?_
  refine gw_seq (gw_text rfl ?_)
  repeat (first | refine gs_n tyT_ok 0 ?_ | refine gs_gn tyT_ok 0 rfl ?_ | refine gs_no rfl ?_)
  refine gs_end ?_
  refine gw_joinW (α := Unit) (fun _ => [(0, .string t), (1, .int .i64 (bits : Int)), (2, .bool wide), (9, .int .i64 (fullZ wide : Int))]) (fun _ => []) (fun _ => True) ?_ fun _ e _ => ?_
  · cases wide
    · repeat (first | refine gs_n tyT_ok 0 ?_ | refine gs_gn tyT_ok 0 rfl ?_ | refine gs_no rfl ?_ | refine gs_end ?_ | refine gs_end' ?_ | refine gw_seq ?_ | refine gw_text rfl ?_ | refine gw_skip ?_ | refine gw_yes rfl ?_ | refine gw_no rfl ?_ | refine gw_exit ?_ | refine gw_block ?_ | refine gw_label ?_ | (refine gs_n tyT_ok 0 ?_ (hp := ?hp); case hp => exact ⟨by decide, by decide⟩))
      exact ⟨(), trivial, ⟨[], by decide, rfl⟩, rfl, rfl, rfl, rfl, trivial⟩
    · repeat (first | refine gs_n tyT_ok 0 ?_ | refine gs_gn tyT_ok 0 rfl ?_ | refine gs_no rfl ?_ | refine gs_end ?_ | refine gs_end' ?_ | refine gw_seq ?_ | refine gw_text rfl ?_ | refine gw_skip ?_ | refine gw_yes rfl ?_ | refine gw_no rfl ?_ | refine gw_exit ?_ | refine gw_block ?_ | refine gw_label ?_ | (refine gs_n tyT_ok 0 ?_ (hp := ?hp); case hp => exact ⟨by decide, by decide⟩))
      exact ⟨(), trivial, ⟨[], by decide, rfl⟩, rfl, rfl, rfl, rfl, trivial⟩
  repeat (first | refine gs_n tyT_ok 0 ?_ | refine gs_gn tyT_ok 0 rfl ?_ | refine gs_no rfl ?_ | refine gs_end ?_ | refine gs_end' ?_ | refine gw_seq ?_ | refine gw_text rfl ?_ | refine gw_skip ?_ | refine gw_yes rfl ?_ | refine gw_no rfl ?_ | refine gw_exit ?_ | refine gw_block ?_ | refine gw_label ?_ | (refine gs_n tyT_ok 0 ?_ (hp := ?hp); case hp => exact ⟨by decide, by decide⟩))
  refine gs_box fun g => ?_
  repeat (first | refine gs_n tyT_ok 0 ?_ | refine gs_gn tyT_ok 0 rfl ?_ | refine gs_no rfl ?_ | refine gs_end ?_ | refine gs_end' ?_ | refine gw_seq ?_ | refine gw_text rfl ?_ | refine gw_skip ?_ | refine gw_yes rfl ?_ | refine gw_no rfl ?_ | refine gw_exit ?_ | refine gw_block ?_ | refine gw_label ?_ | (refine gs_n tyT_ok 0 ?_ (hp := ?hp); case hp => exact ⟨by decide, by decide⟩))
  refine gs_wr [0] ent109 rfl (by decide) (clear_w (many := 0) (last := false) (wide := wide) hb8) rfl ?_
  refine gs_end ?_
  refine gw_nil ?_
  refine gw_seq (gw_any [.N, .N, .N, .E [0], .N, .E [], .N] rfl rfl rfl ?_)
  repeat (first | refine gs_n tyT_ok 0 ?_ | refine gs_gn tyT_ok 0 rfl ?_ | refine gs_no rfl ?_)
  refine gs_n tyT_ok 0 ?_ (hp := ?hp)
  case hp => exact ⟨by omega, by show (bits : Int) ≤ 64; omega, by rw [shl1]; omega, by rw [shl1]; omega⟩
  rw [shl1]
  repeat (first | refine gs_n tyT_ok 0 ?_ | refine gs_gn tyT_ok 0 rfl ?_ | refine gs_no rfl ?_)
  refine gs_rd [0] ent110 rfl (by decide) (size_w (last := false) (wide := wide) (many := lzB bits) hb8 (by omega)) ?_
  rw [widZ_first hb2 hb8 fun h => by have := hw8 h; omega]
  repeat (first | refine gs_n tyT_ok 0 ?_ | refine gs_gn tyT_ok 0 rfl ?_ | refine gs_no rfl ?_)
  refine gs_lit tyT_ok (cs := bitV [(2 ^ bits, bits + 1)]) rfl rfl rfl (by decide) rfl fun b11 => ?_
  repeat (first | refine gs_n tyT_ok 0 ?_ | refine gs_gn tyT_ok 0 rfl ?_ | refine gs_no rfl ?_)
  refine gs_end' ?_
  refine gw_weak [0, 2] (by decide) rfl ?_
  refine gw_seq (gw_any [.N, .E [], .N, .N, .N, .N, .N] rfl rfl rfl ?_)
  repeat (first | refine gs_n tyT_ok 0 ?_ | refine gs_gn tyT_ok 0 rfl ?_ | refine gs_no rfl ?_)
  refine gs_call [] ent111 rfl (by decide) (firstKnown_w hb8) fun v F' ns ho _ _ => ?_
  obtain ⟨mb, rfl, rfl, rfl⟩ := ho
  repeat (first | refine gs_n tyT_ok 0 ?_ | refine gs_gn tyT_ok 0 rfl ?_ | refine gs_no rfl ?_)
  refine gs_n tyT_ok 0 ?_ (hp := ?hp)
  case hp => exact ⟨by omega, by show (bits : Int) ≤ 64; omega, by rw [shl1]; omega, by rw [shl1]; omega⟩
  rw [shl1]
  repeat (first | refine gs_n tyT_ok 0 ?_ | refine gs_gn tyT_ok 0 rfl ?_ | refine gs_no rfl ?_ | refine gs_end ?_ | refine gs_end' ?_ | refine gw_seq ?_ | refine gw_text rfl ?_ | refine gw_skip ?_ | refine gw_yes rfl ?_ | refine gw_no rfl ?_ | refine gw_exit ?_ | refine gw_block ?_ | refine gw_label ?_ | (refine gs_n tyT_ok 0 ?_ (hp := ?hp); case hp => exact ⟨by decide, by decide⟩))
  have hnat : ((2 ^ bits : Nat) : Int) + 2 = ((lzB bits : Nat) : Int) := by unfold lzB; omega
  rw [hnat]
  have hO : OBt (.slice (some ⟨b11, 0, none⟩) 1 1) (b11, .row 108 (bitV [(2 ^ bits, bits + 1)]) 2) [(2 ^ bits, bits + 1)] := .inr ⟨b11, 1, 1, 2, rfl, rfl, rfl, Nat.le_refl _, Nat.le_refl _⟩
  refine gw_loopW (fun _ (s : Ls) => [(0, .string t), (1, .int .i64 (bits : Int)), (2, .bool wide), (9, .int .i64 (fullZ wide : Int)), (10, ptr g), (11, s.v), (12, .map (some s.mb)), (13, .int .i64 (s.n : Int)), (14, .int .i64 (s.at_ : Int))]) (fun _ s => [(g, tel bits wide s.many s.last), s.p, (s.mb, SM (mapZ bits s.D))]) (fun m s => t.size ≤ s.at_ + m ∧ s.fine t bits wide) t.size ⟨0, [], [(2 ^ bits, bits + 1)], .slice (some ⟨b11, 0, none⟩) 1 1, (b11, .row 108 (bitV [(2 ^ bits, bits + 1)]) 2), mb, lzB bits, false, lzB bits⟩ ⟨by simp, hO, ?_⟩ ⟨[0, 1, 2], by decide, rfl⟩ ⟨rfl, rfl, rfl, rfl, rfl, rfl, rfl, rfl, rfl, trivial⟩ fun m s e ⟨hm, hv, hs⟩ => ?_
  · by_cases h0 : t.size = 0
    · exact .inr ⟨h0.symm, by rw [endZ, if_pos h0]⟩
    · refine .inl ⟨by show 0 < t.size; omega, ?_, rfl, rfl, rfl⟩
      show stepZ t bits wide ⟨[], 0, _⟩ 0 = _
      rw [stepZ, if_pos (.inl (by show (t.extract 0 (0 + 1)).size = 1; rw [size_ex (by omega) (by omega)]))]
  obtain ⟨A, D, out, v, p, mb, many, last, n⟩ := s
  dsimp only at hm hv hs ⊢
  obtain ⟨va, vc, rfl⟩ := hv.sl
  obtain ⟨hlok, hll⟩ := lzL_ok (wide := wide) hb2 hb8 hfit h5
  rcases hs with ⟨hlt, hrun, rfl, rfl, rfl⟩ | ⟨rfl, hend⟩
  case inr =>
    have hlz : lzL t bits wide = out ++ [(2 ^ bits + 1, widZ bits wide many)] := by rw [lzL, hend]
    obtain ⟨_, e2, e3, _⟩ := endZ_ok (wide := wide) hb2 hb8 hfit h5
    rw [hend] at e2 e3
    dsimp only at e2 e3
    repeat (first | refine gs_n tyT_ok 0 ?_ | refine gs_gn tyT_ok 0 rfl ?_ | refine gs_no rfl ?_ | refine gs_end ?_ | refine gs_end' ?_ | refine gw_seq ?_ | refine gw_text rfl ?_ | refine gw_skip ?_ | refine gw_yes rfl ?_ | refine gw_no rfl ?_ | refine gw_exit ?_ | refine gw_block ?_ | refine gw_label ?_ | (refine gs_n tyT_ok 0 ?_ (hp := ?hp); case hp => exact ⟨by decide, by decide⟩))
    (refine gs_f tyT_ok ?hb ?_; case hb => first | exact decide_eq_false (by omega) | exact congrArg Bool.not (decide_eq_true (by omega)) | (simp; done) | (simp; omega))
    repeat (first | refine gs_n tyT_ok 0 ?_ | refine gs_gn tyT_ok 0 rfl ?_ | refine gs_no rfl ?_ | refine gs_end ?_ | refine gs_end' ?_ | refine gw_seq ?_ | refine gw_text rfl ?_ | refine gw_skip ?_ | refine gw_yes rfl ?_ | refine gw_no rfl ?_ | refine gw_exit ?_ | refine gw_block ?_ | refine gw_label ?_ | (refine gs_n tyT_ok 0 ?_ (hp := ?hp); case hp => exact ⟨by decide, by decide⟩))
    refine gw_any [.N, .N, .N, .N, .N, .E [0], .N, .E [], .E [1, 3], .N, .E [1], .N] rfl rfl rfl ?_
    repeat (first | refine gs_n tyT_ok 0 ?_ | refine gs_gn tyT_ok 0 rfl ?_ | refine gs_no rfl ?_)
    refine gs_n tyT_ok 0 ?_ (hp := ?hp)
    case hp => exact ⟨by omega, by show (bits : Int) ≤ 64; omega, by rw [shl1]; omega, by rw [shl1]; omega⟩
    rw [shl1]
    repeat (first | refine gs_n tyT_ok 0 ?_ | refine gs_gn tyT_ok 0 rfl ?_ | refine gs_no rfl ?_)
    refine gs_rd [0] ent110 rfl (by decide) (size_w hb8 (by omega)) ?_
    repeat (first | refine gs_n tyT_ok 0 ?_ | refine gs_gn tyT_ok 0 rfl ?_ | refine gs_no rfl ?_)
    refine gs_pushb 1 (u := 2 ^ bits + 1) (z := widZ bits wide many) rfl rfl hv (fun _ => rfl) (by omega) fun b5 a5 c5 p5 hv5 => ?_
    repeat (first | refine gs_n tyT_ok 0 ?_ | refine gs_gn tyT_ok 0 rfl ?_ | refine gs_no rfl ?_)
    rw [← hlz] at hv5
    refine gs_rd [1] ent113 rfl (by decide) (bitsPut_w hv5 hlok (by omega)) ?_
    repeat (first | refine gs_n tyT_ok 0 ?_ | refine gs_gn tyT_ok 0 rfl ?_ | refine gs_no rfl ?_ | refine gs_end ?_ | refine gs_end' ?_ | refine gw_seq ?_ | refine gw_text rfl ?_ | refine gw_skip ?_ | refine gw_yes rfl ?_ | refine gw_no rfl ?_ | refine gw_exit ?_ | refine gw_block ?_ | refine gw_label ?_ | (refine gs_n tyT_ok 0 ?_ (hp := ?hp); case hp => exact ⟨by decide, by decide⟩))
    exact gw_ret ⟨_, [], [], [], (.tmp .nil), ⟨rfl, rfl, rfl⟩, rfl, rfl, List.nodup_nil⟩
  have hinv := inv_run (wide := wide) hb2 hb8 hfit (A + 1) (by omega)
  rw [hrun] at hinv
  have hfull := hinv.full
  obtain ⟨cc, cc1, cc2⟩ := hinv.len
  dsimp only at hfull cc1 cc2
  repeat (first | refine gs_n tyT_ok 0 ?_ | refine gs_gn tyT_ok 0 rfl ?_ | refine gs_no rfl ?_ | refine gs_end ?_ | refine gs_end' ?_ | refine gw_seq ?_ | refine gw_text rfl ?_ | refine gw_skip ?_ | refine gw_yes rfl ?_ | refine gw_no rfl ?_ | refine gw_exit ?_ | refine gw_block ?_ | refine gw_label ?_ | (refine gs_n tyT_ok 0 ?_ (hp := ?hp); case hp => exact ⟨by decide, by decide⟩))
  (refine gs_t tyT_ok ?hb ?_; case hb => first | exact decide_eq_true (by omega) | exact congrArg Bool.not (decide_eq_false (by omega)) | (simp; done) | (simp; omega))
  refine gs_end ?_
  refine gw_yes rfl ?_
  refine gw_skip ?_
  refine gw_block ?_
  refine gw_seq (gw_text rfl ?_)
  repeat (first | refine gs_n tyT_ok 0 ?_ | refine gs_gn tyT_ok 0 rfl ?_ | refine gs_no rfl ?_)
  refine gs_end ?_
  refine gw_joinW (α := Nat) (fun E => [(0, .string t), (1, .int .i64 (bits : Int)), (2, .bool wide), (9, .int .i64 (fullZ wide : Int)), (10, ptr g), (11, .slice va out.length vc), (12, .map (some mb)), (13, .int .i64 ((lzB bits + D.length : Nat) : Int)), (14, .int .i64 (A : Int)), (15, .int .i64 (E : Int))]) (fun E => [(g, tel bits wide (knoZ bits D.length) (lastZ D.length)), p, (mb, SM (mapZ bits D))]) (fun E => A < E ∧ E ≤ t.size ∧ runZ t bits wide E = ⟨D, A, out⟩ ∧ (E = t.size ∨ ¬ hasZ D (t.extract A (E + 1)))) ?_ fun E e ⟨hE1, hE2, hE3, hE4⟩ => ?_
  · refine gw_block ?_
    refine gw_loopW (fun _ (E : Nat) => [(0, .string t), (1, .int .i64 (bits : Int)), (2, .bool wide), (9, .int .i64 (fullZ wide : Int)), (10, ptr g), (11, .slice va out.length vc), (12, .map (some mb)), (13, .int .i64 ((lzB bits + D.length : Nat) : Int)), (14, .int .i64 (A : Int)), (15, .int .i64 (E : Int))]) (fun _ E => [(g, tel bits wide (knoZ bits D.length) (lastZ D.length)), p, (mb, SM (mapZ bits D))]) (fun m E => t.size ≤ E + m ∧ A < E ∧ E ≤ t.size ∧ runZ t bits wide E = ⟨D, A, out⟩) t.size (A + 1) ⟨by omega, by omega, by omega, hrun⟩ ⟨[0, 1, 2], by decide, rfl⟩ ⟨rfl, rfl, rfl, rfl, rfl, rfl, rfl, rfl, rfl, rfl, trivial⟩ fun m2 E e ⟨hE0, hE1, hE2, hE3⟩ => ?_
    repeat (first | refine gs_n tyT_ok 0 ?_ | refine gs_gn tyT_ok 0 rfl ?_ | refine gs_no rfl ?_ | refine gs_end ?_ | refine gs_end' ?_ | refine gw_seq ?_ | refine gw_text rfl ?_ | refine gw_skip ?_ | refine gw_yes rfl ?_ | refine gw_no rfl ?_ | refine gw_exit ?_ | refine gw_block ?_ | refine gw_label ?_ | (refine gs_n tyT_ok 0 ?_ (hp := ?hp); case hp => exact ⟨by decide, by decide⟩))
    by_cases k1 : E < t.size
    case neg =>
      (refine gs_f tyT_ok ?hb ?_; case hb => first | exact decide_eq_false (by omega) | exact congrArg Bool.not (decide_eq_true (by omega)) | (simp; done) | (simp; omega))
      repeat (first | refine gs_n tyT_ok 0 ?_ | refine gs_gn tyT_ok 0 rfl ?_ | refine gs_no rfl ?_ | refine gs_end ?_ | refine gs_end' ?_ | refine gw_seq ?_ | refine gw_text rfl ?_ | refine gw_skip ?_ | refine gw_yes rfl ?_ | refine gw_no rfl ?_ | refine gw_exit ?_ | refine gw_block ?_ | refine gw_label ?_ | (refine gs_n tyT_ok 0 ?_ (hp := ?hp); case hp => exact ⟨by decide, by decide⟩))
      exact ⟨E, ⟨hE1, hE2, hE3, .inl (by omega)⟩, ⟨[0, 1, 2], by decide, rfl⟩, rfl, rfl, rfl, rfl, rfl, rfl, rfl, rfl, rfl, rfl, trivial⟩
    (refine gs_t tyT_ok ?hb ?_; case hb => first | exact decide_eq_true (by omega) | exact congrArg Bool.not (decide_eq_false (by omega)) | (simp; done) | (simp; omega))
    repeat (first | refine gs_n tyT_ok 0 ?_ | refine gs_gn tyT_ok 0 rfl ?_ | refine gs_no rfl ?_ | refine gs_end ?_ | refine gs_end' ?_ | refine gw_seq ?_ | refine gw_text rfl ?_ | refine gw_skip ?_ | refine gw_yes rfl ?_ | refine gw_no rfl ?_ | refine gw_exit ?_ | refine gw_block ?_ | refine gw_label ?_ | (refine gs_n tyT_ok 0 ?_ (hp := ?hp); case hp => exact ⟨by decide, by decide⟩))
    have hEn : ((E : Int) + 1).toNat = E + 1 := by omega
    have hsf : sfind (mapZ bits D) (t.extract A (E + 1)) = if hasZ D (t.extract A (E + 1)) then some (numZ bits D (t.extract A (E + 1)) : Int) else none := sfind_mapZ hb8 fun h => by rw [size_ex (by omega) (by omega)] at h; omega
    refine gs_look2 2 (k0 := t.extract A (E + 1)) rfl rfl rfl rfl rfl (by show Value.string (t.extract A ((E : Int) + 1).toNat) = _; rw [hEn]) rfl ?_
    rw [hsf]
    by_cases hh : hasZ D (t.extract A (E + 1))
    · rw [if_pos hh]
      repeat (first | refine gs_n tyT_ok 0 ?_ | refine gs_gn tyT_ok 0 rfl ?_ | refine gs_no rfl ?_ | refine gs_end ?_ | refine gs_end' ?_ | refine gw_seq ?_ | refine gw_text rfl ?_ | refine gw_skip ?_ | refine gw_yes rfl ?_ | refine gw_no rfl ?_ | refine gw_exit ?_ | refine gw_block ?_ | refine gw_label ?_ | (refine gs_n tyT_ok 0 ?_ (hp := ?hp); case hp => exact ⟨by decide, by decide⟩))
      refine ⟨m2 - 1, by omega, E + 1, ⟨by omega, by omega, by omega, ?_⟩, ⟨[0, 1, 2], by decide, rfl⟩, rfl, rfl, rfl, rfl, rfl, rfl, rfl, rfl, rfl, rfl, trivial⟩
      show stepZ t bits wide (runZ t bits wide E) E = _
      rw [hE3, stepZ, if_pos hh]
    · rw [if_neg hh]
      repeat (first | refine gs_n tyT_ok 0 ?_ | refine gs_gn tyT_ok 0 rfl ?_ | refine gs_no rfl ?_ | refine gs_end ?_ | refine gs_end' ?_ | refine gw_seq ?_ | refine gw_text rfl ?_ | refine gw_skip ?_ | refine gw_yes rfl ?_ | refine gw_no rfl ?_ | refine gw_exit ?_ | refine gw_block ?_ | refine gw_label ?_ | (refine gs_n tyT_ok 0 ?_ (hp := ?hp); case hp => exact ⟨by decide, by decide⟩))
      exact ⟨E, ⟨hE1, hE2, hE3, .inr hh⟩, ⟨[0, 1, 2], by decide, rfl⟩, rfl, rfl, rfl, rfl, rfl, rfl, rfl, rfl, rfl, rfl, trivial⟩
  have hcode : hasZ D (t.extract A E) := by
    have h := inv_run (wide := wide) hb2 hb8 hfit E hE2
    rw [hE3] at h
    rcases h.at_ with ⟨h1, _⟩ | ⟨_, h1⟩
    · omega
    · exact h1
  have hsf : sfind (mapZ bits D) (t.extract A E) = some (numZ bits D (t.extract A E) : Int) := by
    rw [sfind_mapZ hb8 fun h => by rw [size_ex (by omega) (by omega)] at h; rw [byt_ex (by omega) (by omega)]; exact hfit _ (by omega), if_pos hcode]
  have hkn : knoZ bits D.length ≤ 4095 := by unfold knoZ; split <;> omega
  refine gw_seq (gw_any [.N, .N, .N, .N, .N, .N, .L 2, .N, .E [0], .N, .E [], .E [1, 3], .N] rfl rfl rfl ?_)
  repeat (first | refine gs_n tyT_ok 0 ?_ | refine gs_gn tyT_ok 0 rfl ?_ | refine gs_no rfl ?_)
  refine gs_look1 2 (k0 := t.extract A E) rfl rfl rfl rfl rfl rfl rfl ?_
  rw [hsf]
  repeat (first | refine gs_n tyT_ok 0 ?_ | refine gs_gn tyT_ok 0 rfl ?_ | refine gs_no rfl ?_)
  refine gs_rd [0] ent110 rfl (by decide) (size_w hb8 (by omega)) ?_
  repeat (first | refine gs_n tyT_ok 0 ?_ | refine gs_gn tyT_ok 0 rfl ?_ | refine gs_no rfl ?_)
  refine gs_pushb 1 (u := numZ bits D (t.extract A E)) (z := widZ bits wide (knoZ bits D.length)) rfl rfl hv (fun _ => rfl) (by omega) fun b5 a5 c5 p5 hv5 => ?_
  repeat (first | refine gs_n tyT_ok 0 ?_ | refine gs_gn tyT_ok 0 rfl ?_ | refine gs_no rfl ?_ | refine gs_end ?_ | refine gs_end' ?_ | refine gw_seq ?_ | refine gw_text rfl ?_ | refine gw_skip ?_ | refine gw_yes rfl ?_ | refine gw_no rfl ?_ | refine gw_exit ?_ | refine gw_block ?_ | refine gw_label ?_ | (refine gs_n tyT_ok 0 ?_ (hp := ?hp); case hp => exact ⟨by decide, by decide⟩))
  refine gs_wr [0] ent112 rfl (by decide) (told_w (by omega)) rfl ?_
  have hmany : (if lastZ D.length = true ∧ knoZ bits D.length < 4096 then knoZ bits D.length + 1 else knoZ bits D.length) = lzB bits + D.length := by
    cases hd : D.length with
    | zero => simp [lastZ, knoZ]
    | succ n =>
      rw [hd] at hkn
      rw [if_pos ⟨rfl, by omega⟩, knoZ, if_neg (by omega)]
      omega
  rw [hmany]
  repeat (first | refine gs_n tyT_ok 0 ?_ | refine gs_gn tyT_ok 0 rfl ?_ | refine gs_no rfl ?_ | refine gs_end ?_ | refine gs_end' ?_ | refine gw_seq ?_ | refine gw_text rfl ?_ | refine gw_skip ?_ | refine gw_yes rfl ?_ | refine gw_no rfl ?_ | refine gw_exit ?_ | refine gw_block ?_ | refine gw_label ?_ | (refine gs_n tyT_ok 0 ?_ (hp := ?hp); case hp => exact ⟨by decide, by decide⟩))
  by_cases hlast : E = t.size
  · subst hlast
    (refine gs_f tyT_ok ?hb ?_; case hb => first | exact decide_eq_false (by omega) | exact congrArg Bool.not (decide_eq_true (by omega)) | (simp; done) | (simp; omega))
    repeat (first | refine gs_n tyT_ok 0 ?_ | refine gs_gn tyT_ok 0 rfl ?_ | refine gs_no rfl ?_ | refine gs_end ?_ | refine gs_end' ?_ | refine gw_seq ?_ | refine gw_text rfl ?_ | refine gw_skip ?_ | refine gw_yes rfl ?_ | refine gw_no rfl ?_ | refine gw_exit ?_ | refine gw_block ?_ | refine gw_label ?_ | (refine gs_n tyT_ok 0 ?_ (hp := ?hp); case hp => exact ⟨by decide, by decide⟩))
    refine gs_f tyT_ok ?hb ?_
    case hb => exact decide_eq_false (by omega)
    repeat (first | refine gs_n tyT_ok 0 ?_ | refine gs_gn tyT_ok 0 rfl ?_ | refine gs_no rfl ?_ | refine gs_end ?_ | refine gs_end' ?_ | refine gw_seq ?_ | refine gw_text rfl ?_ | refine gw_skip ?_ | refine gw_yes rfl ?_ | refine gw_no rfl ?_ | refine gw_exit ?_ | refine gw_block ?_ | refine gw_label ?_ | (refine gs_n tyT_ok 0 ?_ (hp := ?hp); case hp => exact ⟨by decide, by decide⟩))
    refine ⟨m - 1, by omega, ⟨t.size, D, _, _, p5, mb, lzB bits + D.length, true, lzB bits + D.length⟩, ⟨by show t.size ≤ t.size + (m - 1); omega, hv5, .inr ⟨rfl, ?_⟩⟩, ⟨[0, 1, 2], by decide, rfl⟩, rfl, rfl, rfl, rfl, rfl, rfl, rfl, rfl, rfl, trivial⟩
    rw [endZ, if_neg (by omega), hE3]
  have hEn : ((E : Int) + 1).toNat = E + 1 := by omega
  have hno : ¬ hasZ D (t.extract A (E + 1)) := hE4.resolve_left hlast
  have hsn : sfind (mapZ bits D) (t.extract A (E + 1)) = none := by
    rw [sfind_mapZ hb8 fun h => by rw [size_ex (by omega) (by omega)] at h; omega, if_neg hno]
  (refine gs_t tyT_ok ?hb ?_; case hb => first | exact decide_eq_true (by omega) | exact congrArg Bool.not (decide_eq_false (by omega)) | (simp; done) | (simp; omega))
  repeat (first | refine gs_n tyT_ok 0 ?_ | refine gs_gn tyT_ok 0 rfl ?_ | refine gs_no rfl ?_ | refine gs_end ?_ | refine gs_end' ?_ | refine gw_seq ?_ | refine gw_text rfl ?_ | refine gw_skip ?_ | refine gw_yes rfl ?_ | refine gw_no rfl ?_ | refine gw_exit ?_ | refine gw_block ?_ | refine gw_label ?_ | (refine gs_n tyT_ok 0 ?_ (hp := ?hp); case hp => exact ⟨by decide, by decide⟩))
  refine gs_mapNew 2 (k0 := t.extract A (E + 1)) rfl rfl rfl (by show Value.string (t.extract A ((E : Int) + 1).toNat) = _; rw [hEn]) rfl hsn rfl ?_
  rw [← mapZ_snoc]
  repeat (first | refine gs_n tyT_ok 0 ?_ | refine gs_gn tyT_ok 0 rfl ?_ | refine gs_no rfl ?_ | refine gs_end ?_ | refine gs_end' ?_ | refine gw_seq ?_ | refine gw_text rfl ?_ | refine gw_skip ?_ | refine gw_yes rfl ?_ | refine gw_no rfl ?_ | refine gw_exit ?_ | refine gw_block ?_ | refine gw_label ?_ | (refine gs_n tyT_ok 0 ?_ (hp := ?hp); case hp => exact ⟨by decide, by decide⟩))
  have hk1 : knoZ bits (D.length + 1) = lzB bits + D.length := by unfold knoZ; rw [if_neg (by omega)]; omega
  by_cases hfu : fullZ wide ≤ lzB bits + (D.length + 1)
  · have hst : runZ t bits wide (E + 1) = ⟨[], E, out ++ [(numZ bits D (t.extract A E), widZ bits wide (knoZ bits D.length))] ++ [(2 ^ bits, widZ bits wide (lzB bits + D.length))]⟩ := by
      show stepZ t bits wide (runZ t bits wide E) E = _
      rw [hE3, stepZ, if_neg hno, if_pos hfu, hk1]
    refine gs_t tyT_ok ?hb ?_
    case hb => exact decide_eq_true (by omega)
    refine gs_end ?_
    refine gw_yes rfl ?_
    refine gw_seq (gw_any [.N, .N, .N, .N, .E [0], .N, .E [], .E [1, 4], .N] rfl rfl rfl ?_)
    repeat (first | refine gs_n tyT_ok 0 ?_ | refine gs_gn tyT_ok 0 rfl ?_ | refine gs_no rfl ?_)
    refine gs_n tyT_ok 0 ?_ (hp := ?hp)
    case hp => exact ⟨by omega, by show (bits : Int) ≤ 64; omega, by rw [shl1]; omega, by rw [shl1]; omega⟩
    rw [shl1]
    repeat (first | refine gs_n tyT_ok 0 ?_ | refine gs_gn tyT_ok 0 rfl ?_ | refine gs_no rfl ?_)
    refine gs_rd [0] ent110 rfl (by decide) (size_w hb8 (by omega)) ?_
    repeat (first | refine gs_n tyT_ok 0 ?_ | refine gs_gn tyT_ok 0 rfl ?_ | refine gs_no rfl ?_)
    refine gs_pushb 1 (u := 2 ^ bits) (z := widZ bits wide (lzB bits + D.length)) rfl rfl hv5 (fun _ => rfl) (by simp; omega) fun b6 a6 c6 p6 hv6 => ?_
    repeat (first | refine gs_n tyT_ok 0 ?_ | refine gs_gn tyT_ok 0 rfl ?_ | refine gs_no rfl ?_ | refine gs_end ?_ | refine gs_end' ?_ | refine gw_seq ?_ | refine gw_text rfl ?_ | refine gw_skip ?_ | refine gw_yes rfl ?_ | refine gw_no rfl ?_ | refine gw_exit ?_ | refine gw_block ?_ | refine gw_label ?_ | (refine gs_n tyT_ok 0 ?_ (hp := ?hp); case hp => exact ⟨by decide, by decide⟩))
    refine gs_wr [0] ent109 rfl (by decide) (clear_w hb8) rfl ?_
    refine gs_end ?_
    refine gw_any [.N, .E [], .N, .N, .N, .N, .N] rfl rfl rfl ?_
    repeat (first | refine gs_n tyT_ok 0 ?_ | refine gs_gn tyT_ok 0 rfl ?_ | refine gs_no rfl ?_)
    refine gs_call [] ent111 rfl (by decide) (firstKnown_w hb8) fun v F' ns ho _ _ => ?_
    obtain ⟨mb2, rfl, rfl, rfl⟩ := ho
    repeat (first | refine gs_n tyT_ok 0 ?_ | refine gs_gn tyT_ok 0 rfl ?_ | refine gs_no rfl ?_)
    refine gs_n tyT_ok 0 ?_ (hp := ?hp)
    case hp => exact ⟨by omega, by show (bits : Int) ≤ 64; omega, by rw [shl1]; omega, by rw [shl1]; omega⟩
    rw [shl1]
    repeat (first | refine gs_n tyT_ok 0 ?_ | refine gs_gn tyT_ok 0 rfl ?_ | refine gs_no rfl ?_ | refine gs_end ?_ | refine gs_end' ?_ | refine gw_seq ?_ | refine gw_text rfl ?_ | refine gw_skip ?_ | refine gw_yes rfl ?_ | refine gw_no rfl ?_ | refine gw_exit ?_ | refine gw_block ?_ | refine gw_label ?_ | (refine gs_n tyT_ok 0 ?_ (hp := ?hp); case hp => exact ⟨by decide, by decide⟩))
    rw [hnat]
    exact ⟨m - 1, by omega, ⟨E, [], _, _, p6, mb2, lzB bits, false, lzB bits⟩, ⟨by show t.size ≤ E + (m - 1); omega, hv6, .inl ⟨by show E < t.size; omega, hst, rfl, rfl, rfl⟩⟩, ⟨[0, 1, 5], by decide, rfl⟩, rfl, rfl, rfl, rfl, rfl, rfl, rfl, rfl, rfl, trivial⟩
  · have hst : runZ t bits wide (E + 1) = ⟨D ++ [t.extract A (E + 1)], E, out ++ [(numZ bits D (t.extract A E), widZ bits wide (knoZ bits D.length))]⟩ := by
      show stepZ t bits wide (runZ t bits wide E) E = _
      rw [hE3, stepZ, if_neg hno, if_neg hfu]
    have hl1 : (D ++ [t.extract A (E + 1)]).length = D.length + 1 := by simp
    refine gs_f tyT_ok ?hb ?_
    case hb => exact decide_eq_false (by omega)
    repeat (first | refine gs_n tyT_ok 0 ?_ | refine gs_gn tyT_ok 0 rfl ?_ | refine gs_no rfl ?_ | refine gs_end ?_ | refine gs_end' ?_ | refine gw_seq ?_ | refine gw_text rfl ?_ | refine gw_skip ?_ | refine gw_yes rfl ?_ | refine gw_no rfl ?_ | refine gw_exit ?_ | refine gw_block ?_ | refine gw_label ?_ | (refine gs_n tyT_ok 0 ?_ (hp := ?hp); case hp => exact ⟨by decide, by decide⟩))
    refine ⟨m - 1, by omega, ⟨E, D ++ [t.extract A (E + 1)], _, _, p5, mb, lzB bits + D.length, true, lzB bits + (D.length + 1)⟩, ⟨by show t.size ≤ E + (m - 1); omega, hv5, .inl ⟨by show E < t.size; omega, hst, ?_, ?_, ?_⟩⟩, ⟨[0, 1, 2], by decide, rfl⟩, rfl, rfl, rfl, rfl, rfl, rfl, rfl, ?_, rfl, trivial⟩
    · dsimp only
      rw [hl1, hk1]
    · dsimp only
      rw [hl1]
      rfl
    · dsimp only
      rw [hl1]
    · show Value.int _ _ = Value.int _ _
      congr 1
end Go.Proofs.Ytjefdcbljpkmlaa.G
end
