/- What the law FnExactGifPut needs, out of the texts Zc. -/
import Derived.Test.YtjefdcbljpkmlaaKFnExactGifPut14
import Derived.Test.YtjefdcbljpkmlaaKFnExactGifPut16
import Derived.Test.YtjefdcbljpkmlaaKFnExactGifPut18
import Derived.Test.YtjefdcbljpkmlaaKFnExactGifPut20
section
set_option linter.unusedVariables false
set_option linter.unusedSimpArgs false
set_option maxRecDepth 10000
namespace Go.Proofs.Ytjefdcbljpkmlaa.G
open Go
/-- A list of numbers with their sizes, in memory. -/
def bitV (l : List (Nat × Nat)) : List Value := l.flatMap fun x => [.int .i64 (x.1 : Int), .int .i64 (x.2 : Int)]
theorem bitV_len : ∀ l : List (Nat × Nat), (bitV l).length = l.length * 2
  | [] => rfl
  | x :: l => by
    have := bitV_len l
    simp only [bitV, List.flatMap_cons, List.length_append, List.length_cons, List.length_nil] at this ⊢
    omega
theorem bitV_at : ∀ (l : List (Nat × Nat)) (k : Nat), k < l.length → (bitV l)[k * 2]? = some (.int .i64 ((l.getD k (0, 0)).1 : Int)) ∧ (bitV l)[k * 2 + 1]? = some (.int .i64 ((l.getD k (0, 0)).2 : Int))
  | x :: l, 0, _ => ⟨rfl, rfl⟩
  | x :: l, k + 1, h => by
    have ih := bitV_at l k (by simpa using h)
    have e : bitV (x :: l) = [.int .i64 (x.1 : Int), .int .i64 (x.2 : Int)] ++ bitV l := rfl
    rw [e, List.getElem?_append_right (by simp; omega), List.getElem?_append_right (by simp; omega)]
    simpa [Nat.succ_mul] using ih
def OBt (v : Value) (p : Nat × GO) (l : List (Nat × Nat)) : Prop := OwnE 108 2 v p (bitV l)
theorem OBt.sl {v : Value} {p : Nat × GO} {l : List (Nat × Nat)} (h : OBt v p l) : ∃ a c, v = .slice a l.length c := by
  rcases h with ⟨rfl, hp, hD⟩ | ⟨b, len, cap, n, rfl, rfl, hl, hlc, hcn⟩
  · have : l = [] := by
      cases l with
      | nil => rfl
      | cons x l => simp [bitV] at hD
    subst this
    exact ⟨_, _, rfl⟩
  · have : len = l.length := by rw [bitV_len] at hl; omega
    subst this
    exact ⟨_, _, rfl⟩
theorem OBt.at {a : Option Addr} {n c : Nat} {p : Nat × GO} {l : List (Nat × Nat)} (h : OBt (.slice a n c) p l) {k : Nat} (hk : k < l.length) : n = l.length ∧ a = some ⟨p.1, 0, none⟩ ∧ (cellsG p.2)[0 + k * 2]? = some (.int .i64 ((l.getD k (0, 0)).1 : Int)) ∧ (cellsG p.2)[0 + k * 2 + 1]? = some (.int .i64 ((l.getD k (0, 0)).2 : Int)) ∧ ((cellsG p.2).drop (0 + k * 2)).take 2 = [.int .i64 ((l.getD k (0, 0)).1 : Int), .int .i64 ((l.getD k (0, 0)).2 : Int)] ∧ 0 + k * 2 + 2 ≤ (cellsG p.2).length := by
  rcases h with ⟨_, _, hD⟩ | ⟨b, len, cap, n', h, rfl, hl, hlc, hcn⟩
  · cases l with
    | nil => simp at hk
    | cons x l => simp [bitV] at hD
  · cases h
    have hn : n = l.length := by rw [bitV_len] at hl; omega
    obtain ⟨h1, h2⟩ := bitV_at l k hk
    have hlen := bitV_len l
    refine ⟨hn, rfl, by rw [Nat.zero_add]; exact h1, by rw [Nat.zero_add]; exact h2, ?_, by show 0 + k * 2 + 2 ≤ (bitV l).length; omega⟩
    rw [Nat.zero_add]
    show ((bitV l).drop (k * 2)).take 2 = _
    apply List.ext_getElem?
    intro i
    match i with
    | 0 => rw [List.getElem?_take_of_lt (by decide), List.getElem?_drop, Nat.add_zero, h1]; rfl
    | 1 => rw [List.getElem?_take_of_lt (by decide), List.getElem?_drop, h2]; rfl
    | i + 2 => rw [List.getElem?_eq_none (by simp; omega), List.getElem?_eq_none (by simp)]
section
variable {ops os : List Oper} {H : Option (List Hint)} {K : Env → GL → Prop} {e : Env} {l : GL} {d1 d2 : Nat} {T T2 : TypeId} {pos pos2 : String} {af af2 : Array Edge}
/-- append(y, x) of one number with its size. -/
theorem gs_pushb (j : Nat) {x y : Operand} {u z : Nat} {p : Nat × GO} {v : Value} {L : List (Nat × Nat)} (hx : gev e x = .agg #[.int .i64 (u : Int), .int .i64 (z : Int)]) (hl : l[j]? = some p) (hv : OBt v p L) (hy : ∀ u, gev (upd e d1 u) y = v) (hz : L.length ≤ 1000000000)
    (k : ∀ b a c p2, OBt (.slice a (L.length + 1) c) p2 (L ++ [(u, z)]) → gseq Try.prog ops os (tl? (tl? H)) K (upd (upd e d1 (.slice (some ⟨b, 0, none⟩) 1 1)) d2 (.slice a (L.length + 1) c)) ((l ++ [(b, GO.row 108 [.int .i64 (u : Int), .int .i64 (z : Int)] 2)]).set j p2)) (hh : hE [] H := by trivial) (hh2 : hE [j, l.length] (tl? H) := by trivial) :
    gseq Try.prog ops (⟨some d1, .buildSlice 102 1 #[(0, x)], T, pos, af, none⟩ :: ⟨some d2, .call { callee := .builtin .append, args := #[y, .tmp d1], argTypes := #[102, 102] }, T2, pos2, af2, none⟩ :: os) H K e l := by
  refine gs_pushx j 1 (nw := [.int .i64 (u : Int), .int .i64 (z : Int)]) (el := 108) rfl rfl rfl (by decide) ?_ rfl rfl (by decide) (by decide) hl hv hy ?_ (fun b v2 p2 hv2 => ?_) hh hh2
  · show fillL _ _ [(0, gev e x)] = _
    rw [hx]
    rfl
  · rw [bitV_len]
    show (L.length * 2 + 2) * 16 ≤ 140737488355328 * 2
    omega
  · have hv3 : OBt v2 p2 (L ++ [(u, z)]) := by
      have e3 : bitV L ++ [.int .i64 (u : Int), .int .i64 (z : Int)] = bitV (L ++ [(u, z)]) := by simp [bitV]
      rw [e3] at hv2
      exact hv2
    obtain ⟨a, c, he⟩ := hv3.sl
    subst he
    rw [List.length_append] at hv3 ⊢
    exact k b a c p2 hv3
/-- append(y, x) of one byte. -/
theorem gs_push1b (j : Nat) {x y : Operand} {n : Int} {p : Nat × GO} {v : Value} {zs : List Int} (hx : gev e x = .int .u8 n) (hl : l[j]? = some p) (hv : OB v p zs) (hy : ∀ u, gev (upd e d1 u) y = v) (hz : zs.length ≤ 1000000000)
    (k : ∀ b a c p2, OB (.slice a (zs.length + 1) c) p2 (zs ++ [n]) → gseq Try.prog ops os (tl? (tl? H)) K (upd (upd e d1 (.slice (some ⟨b, 0, none⟩) 1 1)) d2 (.slice a (zs.length + 1) c)) ((l ++ [(b, GO.row 5 [.int .u8 n] 1)]).set j p2)) (hh : hE [] H := by trivial) (hh2 : hE [j, l.length] (tl? H) := by trivial) :
    gseq Try.prog ops (⟨some d1, .buildSlice 35 1 #[(0, x)], T, pos, af, none⟩ :: ⟨some d2, .call { callee := .builtin .append, args := #[y, .tmp d1], argTypes := #[35, 35] }, T2, pos2, af2, none⟩ :: os) H K e l := by
  refine gs_pushx j 1 (nw := [.int .u8 n]) (el := 5) rfl rfl rfl (by decide) ?_ rfl rfl (by decide) (by decide) hl hv hy ?_ (fun b v2 p2 hv2 => ?_) hh hh2
  · show fillL _ _ [(0, gev e x)] = _
    rw [hx]
    rfl
  · simp only [bytesV, List.length_map, List.length_singleton]
    show (zs.length + 1) * 1 ≤ 140737488355328 * 1
    omega
  · have hv3 : OB v2 p2 (zs ++ [n]) := by
      have e3 : bytesV zs ++ [.int .u8 n] = bytesV (zs ++ [n]) := by simp [bytesV]
      rw [e3] at hv2
      exact hv2
    obtain ⟨a, c, he⟩ := hv3.sl
    subst he
    rw [List.length_append] at hv3 ⊢
    exact k b a c p2 hv3
end
theorem packB_nil (wide : Bool) : packB wide [] = [] := rfl
/-- string(b) of bytes that are owned. -/
theorem gs_ofB (j : Nat) {ops os : List Oper} {H : Option (List Hint)} {K : Env → GL → Prop} {e : Env} {l : GL} {d : Nat} {T : TypeId} {pos : String} {af : Array Edge} {x : Operand} {v : Value} {p : Nat × GO} {zs : List Int} (hv : OB v p zs) (hx : gev e x = v) (hl : l[j]? = some p)
    (k : gseq Try.prog ops os (tl? H) K (upd e d (.string (txt zs))) l) (hh : hL j H := by trivial) : gseq Try.prog ops (⟨some d, .convert 35 9 x, T, pos, af, none⟩ :: os) H K e l := by
  rcases hv with ⟨rfl, _, hz⟩ | ⟨b, len, cap, n, rfl, rfl, hl2, hlc, hcn⟩
  · have : zs = [] := by simpa [bytesV] using hz
    subst this
    exact gs_v j (lv_text_nil tyT_ok j rfl rfl rfl rfl hx) k hh
  · have : len = zs.length := by simpa [bytesV] using hl2.symm
    subst this
    exact gs_txt j hx hl rfl k hh
abbrev pk (v : Value) (n : Nat) (wide : Bool) : GO := .row 164 [v, .int .i64 (n : Int), .bool wide] 3
theorem OB.own {v : Value} {p : Nat × GO} {L : List Int} (hv : OB v p L) (h1 : 1 ≤ L.length) : ∃ b cap m, v = .slice (some ⟨b, 0, none⟩) L.length cap ∧ p = (b, .row 5 (bytesV L) m) ∧ L.length ≤ m ∧ L.length ≤ cap ∧ cap ≤ m := by
  rcases hv with ⟨_, _, h3⟩ | ⟨b, len, cap, m, h3, h4, h5, h6, h7⟩
  · simp [bytesV] at h3
    rw [h3] at h1
    simp at h1
  · have : L.length = len := by simpa [bytesV] using h5
    subst this
    exact ⟨b, cap, m, h3, h4, by omega, h6, by omega⟩
/-- A byte stored in a row that is owned. -/
theorem gs_putb (j : Nat) {ops os : List Oper} {H : Option (List Hint)} {K : Env → GL → Prop} {e : Env} {l : GL} {T : TypeId} {pos : String} {af : Array Edge} {x y : Operand} {b m i : Nat} {n : Int} {zs : List Int} (hx : gev e x = .pointer (some ⟨b, 0 + i * 1, none⟩)) (hy : gev e y = .int .u8 n) (hl : l[j]? = some (b, .row 5 (bytesV zs) m)) (hi : i < zs.length) (hm : zs.length ≤ m)
    (k : gseq Try.prog ops os (tl? H) K e (l.set j (b, .row 5 (bytesV (zs.set i n)) m))) (hh : hE [j] H := by trivial) : gseq Try.prog ops (⟨none, .store 5 x y, T, pos, af, none⟩ :: os) H K e l := by
  have hx2 : gev e x = .pointer (some ⟨b, i, none⟩) := by rw [hx, Nat.zero_add, Nat.mul_one]
  refine gs_store tyT_ok j (i := ⟨.int .u8, 1, 1, .int .u8 0⟩) (vs := [.int .u8 n]) hx2 hl rfl (by rw [hy]; rfl) rfl rfl (by simp [bytesV]; omega) (by show i + 1 ≤ m; omega) ?_ hh
  have e2 : put (bytesV zs) i [.int .u8 n] = bytesV (zs.set i n) := by
    apply List.ext_getElem?
    intro q
    unfold put
    simp only [bytesV, List.length_singleton, List.map_set]
    rw [List.getElem?_set]
    by_cases h1 : q < i
    · rw [if_neg (by omega), List.append_assoc, List.getElem?_append_left (by simp; omega), List.getElem?_take_of_lt h1]
    · by_cases h2 : q = i
      · subst h2
        rw [if_pos rfl, if_pos (by simpa using hi), List.append_assoc, List.getElem?_append_right (by simp; omega)]
        simp [show min q zs.length = q by omega]
      · rw [if_neg (by omega), List.getElem?_append_right (by simp; omega), List.getElem?_drop]
        congr 1
        simp
        omega
  rw [e2]
  exact k
theorem u8_or {a b : Nat} (ha : a < 256) (hb : b < 256) : bits .or .u8 (a : Int) (b : Int) = ((a ||| b : Nat) : Int) := by
  have hx : a ||| b < 2 ^ 8 := Nat.or_lt_two_pow (by omega) (by omega)
  show IntKind.u8.wrap ((BitVec.ofInt 8 (a : Int) ||| BitVec.ofInt 8 (b : Int)).toNat : Int) = _
  rw [BitVec.toNat_or, BitVec.ofInt_natCast, BitVec.ofInt_natCast, BitVec.toNat_ofNat, BitVec.toNat_ofNat, Nat.mod_eq_of_lt (by omega), Nat.mod_eq_of_lt (by omega), wrap_u8]
  omega
theorem plc_lt (wide : Bool) (i : Nat) (h : i < 8) : plc wide i < 8 := by unfold plc; split <;> omega
theorem pow_lt8 {p : Nat} (h : p < 8) : 1 ≤ 2 ^ p ∧ 2 ^ p ≤ 128 := by
  have h1 : 2 ^ p ≤ 2 ^ 7 := Nat.pow_le_pow_right (by decide) (by omega)
  have h2 : 1 ≤ 2 ^ p := Nat.one_le_two_pow
  exact ⟨h2, by omega⟩
theorem i64_and_one {a : Nat} (h : a < 9223372036854775808) : bits .and .i64 (a : Int) 1 = ((a % 2 : Nat) : Int) := by
  have hx : a &&& 1 = a % 2 := Nat.and_one_is_mod a
  show IntKind.i64.wrap ((BitVec.ofInt 64 (a : Int) &&& BitVec.ofInt 64 (1 : Int)).toNat : Int) = _
  rw [BitVec.toNat_and, ofInt_i64' a h, show (BitVec.ofInt 64 (1 : Int)).toNat = 1 by decide, hx]
  simp [IntKind.wrap, IntKind.signed, IntKind.bits]
  omega
def BitOut (g : Nat) (n : Nat) (wide : Bool) (bs : List Nat) : OutT := fun u F' ns => ∃ v2 p2, F' = [(g, pk v2 n wide), p2] ∧ ns = [] ∧ OB v2 p2 (packB wide bs)
set_option maxHeartbeats 1000000 in
theorem bit_w {g n b : Nat} {v : Value} {p : Nat × GO} {wide : Bool} {bs : List Nat} (hv : OB v p (packB wide bs)) (hn : bs.length = n) (hb : b ≤ 1) (hbs : bin bs) (hm : n ≤ 1000000) : Trip Try.prog 210 [ptr g, .int .i64 (b : Int)] [(g, pk v n wide), p] (BitOut g (n + 1) wide (bs ++ [b])) := by
  subst hn
  obtain ⟨va, vc, rfl⟩ := hv.sl
  have hpl := packB_len wide bs
  have hpN : packN bs.length ≤ 1000000 := by unfold packN; omega
  refine trip_of Try.func210 rfl (by simp [Try.ntmps210]) ?_
  refine gw_seq (gw_text rfl ?_)
  repeat (first | refine gs_n tyT_ok 0 ?_ | refine gs_gn tyT_ok 0 rfl ?_ | refine gs_no rfl ?_ | refine gs_l tyT_ok 0 ?_ | refine gs_gl tyT_ok 0 rfl ?_ | (refine gs_l tyT_ok 0 ?_ (hp := ?hp); case hp => exact ⟨rfl, Nat.le_of_ble_eq_true rfl⟩) | (refine gs_gl tyT_ok 0 rfl ?_ (hp := ?hp); case hp => exact ⟨rfl, Nat.le_of_ble_eq_true rfl⟩))
  refine gs_end ?_
  refine gw_seq ?_
  refine gw_join (α := Value × (Nat × GO) × (Nat × GO)) (fun _ => [(0, ptr g), (1, .int .i64 (b : Int)), (4, .int .i64 ((bs.length % 8 : Nat) : Int))]) (fun x => [(g, pk x.1 bs.length wide), x.2.1, x.2.2]) (fun x => OB x.1 x.2.1 (if bs.length % 8 = 0 then packB wide bs ++ [0] else packB wide bs)) ?_ fun ⟨v2, p2, junk⟩ e hv2 => ?_
  · by_cases h0 : bs.length % 8 = 0
    · rw [if_pos h0]
      repeat (first | refine gs_n tyT_ok 0 ?_ | refine gs_gn tyT_ok 0 rfl ?_ | refine gs_no rfl ?_ | refine gs_l tyT_ok 0 ?_ | refine gs_gl tyT_ok 0 rfl ?_ | (refine gs_l tyT_ok 0 ?_ (hp := ?hp); case hp => exact ⟨rfl, Nat.le_of_ble_eq_true rfl⟩) | (refine gs_gl tyT_ok 0 rfl ?_ (hp := ?hp); case hp => exact ⟨rfl, Nat.le_of_ble_eq_true rfl⟩) | refine gs_end ?_ | refine gs_end' ?_ | refine gw_seq ?_ | refine gw_text rfl ?_ | refine gw_skip ?_ | refine gw_yes rfl ?_ | refine gw_no rfl ?_ | refine gw_exit ?_ | refine gw_block ?_ | refine gw_label ?_ | (refine gs_n tyT_ok 0 ?_ (hp := ?hp); case hp => exact ⟨by decide, by decide⟩) | (refine gs_tg tyT_ok rfl ?hb ?_; case hb => first | exact decide_eq_true (by omega) | exact congrArg Bool.not (decide_eq_false (by omega)) | (simp; done) | (simp; omega)) | (refine gs_fg tyT_ok rfl ?hb ?_; case hb => first | exact decide_eq_false (by omega) | exact congrArg Bool.not (decide_eq_true (by omega)) | (simp; done) | (simp; omega)) | (refine gs_t tyT_ok ?hb ?_; case hb => first | exact decide_eq_true (by omega) | exact congrArg Bool.not (decide_eq_false (by omega)) | (simp; done) | (simp; omega)) | (refine gs_f tyT_ok ?hb ?_; case hb => first | exact decide_eq_false (by omega) | exact congrArg Bool.not (decide_eq_true (by omega)) | (simp; done) | (simp; omega)))
      refine gs_push1b 1 (n := 0) rfl rfl hv (fun _ => rfl) (by omega) fun b5 a5 c5 p5 hv5 => ?_
      repeat (first | refine gs_n tyT_ok 0 ?_ | refine gs_gn tyT_ok 0 rfl ?_ | refine gs_no rfl ?_ | refine gs_l tyT_ok 0 ?_ | refine gs_gl tyT_ok 0 rfl ?_ | (refine gs_l tyT_ok 0 ?_ (hp := ?hp); case hp => exact ⟨rfl, Nat.le_of_ble_eq_true rfl⟩) | (refine gs_gl tyT_ok 0 rfl ?_ (hp := ?hp); case hp => exact ⟨rfl, Nat.le_of_ble_eq_true rfl⟩))
      refine gs_store tyT_ok 0 rfl rfl rfl rfl rfl rfl (Nat.le_of_ble_eq_true rfl) (Nat.le_of_ble_eq_true rfl) ?_
      repeat (first | refine gs_n tyT_ok 0 ?_ | refine gs_gn tyT_ok 0 rfl ?_ | refine gs_no rfl ?_ | refine gs_end ?_ | refine gs_end' ?_ | refine gw_seq ?_ | refine gw_text rfl ?_ | refine gw_skip ?_ | refine gw_yes rfl ?_ | refine gw_no rfl ?_ | refine gw_exit ?_ | refine gw_block ?_ | refine gw_label ?_ | (refine gs_n tyT_ok 0 ?_ (hp := ?hp); case hp => exact ⟨by decide, by decide⟩))
      exact ⟨(_, p5, (b5, _)), hv5, rfl, rfl, rfl, rfl, trivial⟩
    · rw [if_neg h0]
      refine gw_nil ?_
      repeat (first | refine gs_n tyT_ok 0 ?_ | refine gs_gn tyT_ok 0 rfl ?_ | refine gs_no rfl ?_ | refine gs_l tyT_ok 0 ?_ | refine gs_gl tyT_ok 0 rfl ?_ | (refine gs_l tyT_ok 0 ?_ (hp := ?hp); case hp => exact ⟨rfl, Nat.le_of_ble_eq_true rfl⟩) | (refine gs_gl tyT_ok 0 rfl ?_ (hp := ?hp); case hp => exact ⟨rfl, Nat.le_of_ble_eq_true rfl⟩) | refine gs_end ?_ | refine gs_end' ?_ | refine gw_seq ?_ | refine gw_text rfl ?_ | refine gw_skip ?_ | refine gw_yes rfl ?_ | refine gw_no rfl ?_ | refine gw_exit ?_ | refine gw_block ?_ | refine gw_label ?_ | (refine gs_n tyT_ok 0 ?_ (hp := ?hp); case hp => exact ⟨by decide, by decide⟩) | (refine gs_tg tyT_ok rfl ?hb ?_; case hb => first | exact decide_eq_true (by omega) | exact congrArg Bool.not (decide_eq_false (by omega)) | (simp; done) | (simp; omega)) | (refine gs_fg tyT_ok rfl ?hb ?_; case hb => first | exact decide_eq_false (by omega) | exact congrArg Bool.not (decide_eq_true (by omega)) | (simp; done) | (simp; omega)) | (refine gs_t tyT_ok ?hb ?_; case hb => first | exact decide_eq_true (by omega) | exact congrArg Bool.not (decide_eq_false (by omega)) | (simp; done) | (simp; omega)) | (refine gs_f tyT_ok ?hb ?_; case hb => first | exact decide_eq_false (by omega) | exact congrArg Bool.not (decide_eq_true (by omega)) | (simp; done) | (simp; omega)))
      exact ⟨(_, p, (0, .none)), hv, rfl, rfl, rfl, rfl, trivial⟩
  dsimp only at hv2 ⊢
  have hlen := packB_ln (wide := wide) (bs := bs)
  have hlast := packB_last (wide := wide) (bs := bs)
  have hsn := packB_snoc (wide := wide) (bs := bs) (b := b)
  obtain ⟨hf1, hf2⟩ := byB_free (wide := wide) hbs
  have hxle := byB_le (wide := wide) hbs (8 * (bs.length / 8))
  have hplc := plc_lt wide (bs.length % 8) (by omega)
  obtain ⟨hp1, hp2⟩ := pow_lt8 hplc
  have hor := or_free _ (show byB wide bs (8 * (bs.length / 8)) < 256 by omega) _ hplc hf1
  generalize byB wide bs (8 * (bs.length / 8)) = X at *
  generalize (if bs.length % 8 = 0 then packB wide bs ++ [(0 : Int)] else packB wide bs) = Y at *
  obtain ⟨bb, cap, m, rfl, rfl, hm1, _, _⟩ := hv2.own (by omega)
  refine gw_weak [0, 1] (by decide) rfl ?_
  refine gw_seq ?_
  refine gw_join (α := Unit) (fun _ => [(0, ptr g), (1, .int .i64 (b : Int)), (4, .int .i64 ((plc wide (bs.length % 8) : Nat) : Int))]) (fun _ => [(g, pk (.slice (some ⟨bb, 0, none⟩) Y.length cap) bs.length wide), (bb, .row 5 (bytesV Y) m)]) (fun _ => True) ?_ fun _ e _ => ?_
  · cases wide
    · repeat (first | refine gs_n tyT_ok 0 ?_ | refine gs_gn tyT_ok 0 rfl ?_ | refine gs_no rfl ?_ | refine gs_l tyT_ok 0 ?_ | refine gs_gl tyT_ok 0 rfl ?_ | (refine gs_l tyT_ok 0 ?_ (hp := ?hp); case hp => exact ⟨rfl, Nat.le_of_ble_eq_true rfl⟩) | (refine gs_gl tyT_ok 0 rfl ?_ (hp := ?hp); case hp => exact ⟨rfl, Nat.le_of_ble_eq_true rfl⟩) | refine gs_end ?_ | refine gs_end' ?_ | refine gw_seq ?_ | refine gw_text rfl ?_ | refine gw_skip ?_ | refine gw_yes rfl ?_ | refine gw_no rfl ?_ | refine gw_exit ?_ | refine gw_block ?_ | refine gw_label ?_ | (refine gs_n tyT_ok 0 ?_ (hp := ?hp); case hp => exact ⟨by decide, by decide⟩))
      exact ⟨(), trivial, rfl, rfl, rfl, rfl, trivial⟩
    · repeat (first | refine gs_n tyT_ok 0 ?_ | refine gs_gn tyT_ok 0 rfl ?_ | refine gs_no rfl ?_ | refine gs_l tyT_ok 0 ?_ | refine gs_gl tyT_ok 0 rfl ?_ | (refine gs_l tyT_ok 0 ?_ (hp := ?hp); case hp => exact ⟨rfl, Nat.le_of_ble_eq_true rfl⟩) | (refine gs_gl tyT_ok 0 rfl ?_ (hp := ?hp); case hp => exact ⟨rfl, Nat.le_of_ble_eq_true rfl⟩) | refine gs_end ?_ | refine gs_end' ?_ | refine gw_seq ?_ | refine gw_text rfl ?_ | refine gw_skip ?_ | refine gw_yes rfl ?_ | refine gw_no rfl ?_ | refine gw_exit ?_ | refine gw_block ?_ | refine gw_label ?_ | (refine gs_n tyT_ok 0 ?_ (hp := ?hp); case hp => exact ⟨by decide, by decide⟩))
      exact ⟨(), trivial, rfl, rfl, rfl, by show Value.int _ _ = Value.int _ _; congr 1; show (7 : Int) - ((bs.length % 8 : Nat) : Int) = ((7 - bs.length % 8 : Nat) : Int); omega, trivial⟩
  obtain ⟨N, hN⟩ : ∃ N, N = bs.length / 8 := ⟨_, rfl⟩
  rw [← hN] at hlen hlast hsn
  have hcell : (cellsG (.row 5 (bytesV Y) m))[0 + N * 1]? = some (.int .u8 (X : Int)) := by
    rw [Nat.zero_add, Nat.mul_one]
    show (bytesV Y)[N]? = _
    rw [bytesV, List.getElem?_map, List.getElem?_eq_getElem (by omega)]
    rw [List.getD_eq_getElem?_getD, List.getElem?_eq_getElem (by omega)] at hlast
    simp only [Option.getD_some] at hlast
    rw [Option.map_some, hlast]
  have hsh : (b : Int) * 2 ^ Int.toNat ((plc wide (bs.length % 8) : Nat) : Int) = ((b * 2 ^ plc wide (bs.length % 8) : Nat) : Int) := by
    rw [Int.toNat_natCast]
    simp
  generalize plc wide (bs.length % 8) = Q at *
  have hbq : b * 2 ^ Q ≤ 128 := by
    have : b = 0 ∨ b = 1 := by omega
    rcases this with rfl | rfl <;> omega
  refine gw_seq (gw_any [.N, .N, .N, .L 0, .N, .N, .N, .L 0, .N, .N, .N, .L 1, .N, .N, .N, .N, .N, .N, .E [1]] rfl rfl rfl ?_)
  repeat (first | refine gs_n tyT_ok 0 ?_ | refine gs_gn tyT_ok 0 rfl ?_ | refine gs_no rfl ?_ | refine gs_l tyT_ok 0 ?_ | refine gs_gl tyT_ok 0 rfl ?_ | (refine gs_l tyT_ok 0 ?_ (hp := ?hp); case hp => exact ⟨rfl, Nat.le_of_ble_eq_true rfl⟩) | (refine gs_gl tyT_ok 0 rfl ?_ (hp := ?hp); case hp => exact ⟨rfl, Nat.le_of_ble_eq_true rfl⟩))
  have hN2 : ((Y.length : Int) - 1).toNat = N := by omega
  refine gs_atb 1 rfl rfl rfl rfl (v := .int .u8 (X : Int)) (by rw [hN2]; exact hcell) ?_
  repeat (first | refine gs_n tyT_ok 0 ?_ | refine gs_gn tyT_ok 0 rfl ?_ | refine gs_no rfl ?_ | refine gs_l tyT_ok 0 ?_ | refine gs_gl tyT_ok 0 rfl ?_ | (refine gs_l tyT_ok 0 ?_ (hp := ?hp); case hp => exact ⟨rfl, Nat.le_of_ble_eq_true rfl⟩) | (refine gs_gl tyT_ok 0 rfl ?_ (hp := ?hp); case hp => exact ⟨rfl, Nat.le_of_ble_eq_true rfl⟩))
  refine gs_n tyT_ok 0 ?_ (hp := ?hp)
  case hp => exact ⟨by omega, by show (Q : Int) ≤ 64; omega, by rw [hsh]; omega, by rw [hsh]; omega⟩
  rw [hsh]
  repeat (first | refine gs_n tyT_ok 0 ?_ | refine gs_gn tyT_ok 0 rfl ?_ | refine gs_no rfl ?_ | refine gs_l tyT_ok 0 ?_ | refine gs_gl tyT_ok 0 rfl ?_ | (refine gs_l tyT_ok 0 ?_ (hp := ?hp); case hp => exact ⟨rfl, Nat.le_of_ble_eq_true rfl⟩) | (refine gs_gl tyT_ok 0 rfl ?_ (hp := ?hp); case hp => exact ⟨rfl, Nat.le_of_ble_eq_true rfl⟩))
  refine gs_putb 1 (i := ((Y.length : Int) - 1).toNat) (n := ((X + b * 2 ^ Q : Nat) : Int)) rfl ?hy rfl (by omega) hm1 ?_
  case hy =>
    show Value.int .u8 (bits .or .u8 (X : Int) ((b * 2 ^ Q : Nat) : Int)) = _
    rw [u8_or (by omega) (by omega)]
    have : b = 0 ∨ b = 1 := by omega
    rcases this with rfl | rfl
    · rw [Nat.zero_mul, Nat.or_zero, Nat.add_zero]
    · rw [Nat.one_mul, hor]
  rw [hN2, ← hsn]
  repeat (first | refine gs_n tyT_ok 0 ?_ | refine gs_gn tyT_ok 0 rfl ?_ | refine gs_no rfl ?_)
  refine gs_end' ?_
  repeat (first | refine gs_n tyT_ok 0 ?_ | refine gs_gn tyT_ok 0 rfl ?_ | refine gs_no rfl ?_ | refine gs_l tyT_ok 0 ?_ | refine gs_gl tyT_ok 0 rfl ?_ | (refine gs_l tyT_ok 0 ?_ (hp := ?hp); case hp => exact ⟨rfl, Nat.le_of_ble_eq_true rfl⟩) | (refine gs_gl tyT_ok 0 rfl ?_ (hp := ?hp); case hp => exact ⟨rfl, Nat.le_of_ble_eq_true rfl⟩) | refine gs_end ?_ | refine gs_end' ?_ | refine gw_seq ?_ | refine gw_text rfl ?_ | refine gw_skip ?_ | refine gw_yes rfl ?_ | refine gw_no rfl ?_ | refine gw_exit ?_ | refine gw_block ?_ | refine gw_label ?_ | (refine gs_n tyT_ok 0 ?_ (hp := ?hp); case hp => exact ⟨by decide, by decide⟩))
  refine gs_store tyT_ok 0 rfl rfl rfl rfl rfl rfl (Nat.le_of_ble_eq_true rfl) (Nat.le_of_ble_eq_true rfl) ?_
  repeat (first | refine gs_n tyT_ok 0 ?_ | refine gs_gn tyT_ok 0 rfl ?_ | refine gs_no rfl ?_ | refine gs_end ?_ | refine gs_end' ?_ | refine gw_seq ?_ | refine gw_text rfl ?_ | refine gw_skip ?_ | refine gw_yes rfl ?_ | refine gw_no rfl ?_ | refine gw_exit ?_ | refine gw_block ?_ | refine gw_label ?_ | (refine gs_n tyT_ok 0 ?_ (hp := ?hp); case hp => exact ⟨by decide, by decide⟩))
  refine ⟨[], [(g, pk (.slice (some ⟨bb, 0, none⟩) Y.length cap) (bs.length + 1) wide), (bb, .row 5 (bytesV (packB wide (bs ++ [b]))) m)], [], [0, 1], .nil, ⟨_, _, rfl, rfl, .inr ⟨bb, Y.length, cap, m, rfl, rfl, ?_, by omega, by omega⟩⟩, rfl, rfl, by decide⟩
  rw [bytesV, List.length_map, hsn, List.length_set, Nat.mul_one]
set_option maxHeartbeats 1000000 in
/-- The bits of a number, one after the other. -/
theorem pput_w {g n u z : Nat} {v : Value} {p : Nat × GO} {wide : Bool} {bs : List Nat} (hv : OB v p (packB wide bs)) (hn : bs.length = n) (hz : z ≤ 24) (hu : u < 2 ^ 24) (hbs : bin bs) (hm : n + z ≤ 100000) : Trip Try.prog 169 [ptr g, .int .i64 (u : Int), .int .i64 (z : Int)] [(g, pk v n wide), p] (BitOut g (n + z) wide (bs ++ vbits wide u z z)) := by
  subst hn
  refine trip_of Try.func169 rfl (by simp [Try.ntmps169]) ?_
  repeat (first | refine gs_n tyT_ok 0 ?_ | refine gs_gn tyT_ok 0 rfl ?_ | refine gs_no rfl ?_ | refine gs_end ?_ | refine gs_end' ?_ | refine gw_seq ?_ | refine gw_text rfl ?_ | refine gw_skip ?_ | refine gw_yes rfl ?_ | refine gw_no rfl ?_ | refine gw_exit ?_ | refine gw_block ?_ | refine gw_label ?_ | (refine gs_n tyT_ok 0 ?_ (hp := ?hp); case hp => exact ⟨by decide, by decide⟩))
  refine gw_loopL (fun _ (x : Nat × Value × (Nat × GO)) => [(0, ptr g), (1, .int .i64 (u : Int)), (2, .int .i64 (z : Int)), (7, .int .i64 (z : Int)), (8, .int .i64 (x.1 : Int))]) (fun _ x => [(g, pk x.2.1 (bs.length + x.1) wide), x.2.2]) (fun m x => x.1 + m = z ∧ OB x.2.1 x.2.2 (packB wide (bs ++ vbits wide u z x.1))) z (0, v, p) ⟨by simp, by simpa [vbits] using hv⟩ rfl ⟨rfl, rfl, rfl, rfl, rfl, trivial⟩ fun m ⟨k, v, p⟩ e ⟨hk, hv⟩ => ?_
  dsimp only at hk hv ⊢
  repeat (first | refine gs_n tyT_ok 0 ?_ | refine gs_gn tyT_ok 0 rfl ?_ | refine gs_no rfl ?_ | refine gs_end ?_ | refine gs_end' ?_ | refine gw_seq ?_ | refine gw_text rfl ?_ | refine gw_skip ?_ | refine gw_yes rfl ?_ | refine gw_no rfl ?_ | refine gw_exit ?_ | refine gw_block ?_ | refine gw_label ?_ | (refine gs_n tyT_ok 0 ?_ (hp := ?hp); case hp => exact ⟨by decide, by decide⟩))
  by_cases hlt : k < z
  · (refine gs_t tyT_ok ?hb ?_; case hb => first | exact decide_eq_true (by omega) | exact congrArg Bool.not (decide_eq_false (by omega)) | (simp; done) | (simp; omega))
    refine gs_end ?_
    refine gw_seq (gw_yes rfl ?_)
    refine gw_skip ?_
    refine gw_seq (gw_block (gw_seq (gw_text rfl ?_)))
    repeat (first | refine gs_n tyT_ok 0 ?_ | refine gs_gn tyT_ok 0 rfl ?_ | refine gs_no rfl ?_)
    refine gs_end ?_
    refine gw_seq ?_
    refine gw_join (α := Unit) (fun _ => [(0, ptr g), (1, .int .i64 (u : Int)), (2, .int .i64 (z : Int)), (6, .int .i64 ((if wide then z - 1 - k else k : Nat) : Int)), (7, .int .i64 (z : Int)), (8, .int .i64 (k : Int))]) (fun _ => [(g, pk v (bs.length + k) wide), p]) (fun _ => True) ?_ fun _ e _ => ?_
    · cases wide
      · repeat (first | refine gs_n tyT_ok 0 ?_ | refine gs_gn tyT_ok 0 rfl ?_ | refine gs_no rfl ?_ | refine gs_l tyT_ok 0 ?_ | refine gs_gl tyT_ok 0 rfl ?_ | (refine gs_l tyT_ok 0 ?_ (hp := ?hp); case hp => exact ⟨rfl, Nat.le_of_ble_eq_true rfl⟩) | (refine gs_gl tyT_ok 0 rfl ?_ (hp := ?hp); case hp => exact ⟨rfl, Nat.le_of_ble_eq_true rfl⟩) | refine gs_end ?_ | refine gs_end' ?_ | refine gw_seq ?_ | refine gw_text rfl ?_ | refine gw_skip ?_ | refine gw_yes rfl ?_ | refine gw_no rfl ?_ | refine gw_exit ?_ | refine gw_block ?_ | refine gw_label ?_ | (refine gs_n tyT_ok 0 ?_ (hp := ?hp); case hp => exact ⟨by decide, by decide⟩))
        exact ⟨(), trivial, rfl, rfl, rfl, rfl, rfl, rfl, rfl, trivial⟩
      · repeat (first | refine gs_n tyT_ok 0 ?_ | refine gs_gn tyT_ok 0 rfl ?_ | refine gs_no rfl ?_ | refine gs_l tyT_ok 0 ?_ | refine gs_gl tyT_ok 0 rfl ?_ | (refine gs_l tyT_ok 0 ?_ (hp := ?hp); case hp => exact ⟨rfl, Nat.le_of_ble_eq_true rfl⟩) | (refine gs_gl tyT_ok 0 rfl ?_ (hp := ?hp); case hp => exact ⟨rfl, Nat.le_of_ble_eq_true rfl⟩) | refine gs_end ?_ | refine gs_end' ?_ | refine gw_seq ?_ | refine gw_text rfl ?_ | refine gw_skip ?_ | refine gw_yes rfl ?_ | refine gw_no rfl ?_ | refine gw_exit ?_ | refine gw_block ?_ | refine gw_label ?_ | (refine gs_n tyT_ok 0 ?_ (hp := ?hp); case hp => exact ⟨by decide, by decide⟩))
        exact ⟨(), trivial, rfl, rfl, rfl, rfl, by show Value.int _ _ = Value.int _ _; congr 1; show (z : Int) - 1 - (k : Int) = ((z - 1 - k : Nat) : Int); omega, rfl, rfl, trivial⟩
    have hsh : (u : Int) / 2 ^ Int.toNat ((if wide then z - 1 - k else k : Nat) : Int) = ((u / 2 ^ (if wide then z - 1 - k else k) : Nat) : Int) := by
      rw [Int.toNat_natCast]
      simp
    have hbit : bits .and .i64 ((u / 2 ^ (if wide then z - 1 - k else k) : Nat) : Int) 1 = ((vbit wide u z k : Nat) : Int) := by
      have hx : u / 2 ^ (if wide then z - 1 - k else k) ≤ u := Nat.div_le_self _ _
      have := i64_and_one (a := u / 2 ^ (if wide then z - 1 - k else k)) (by omega)
      rw [this]
      rfl
    have hple : (if wide then z - 1 - k else k) ≤ 24 := by split <;> omega
    generalize (if wide then z - 1 - k else k) = S at *
    repeat (first | refine gs_n tyT_ok 0 ?_ | refine gs_gn tyT_ok 0 rfl ?_ | refine gs_no rfl ?_ | refine gs_end ?_ | refine gs_end' ?_ | refine gw_seq ?_ | refine gw_text rfl ?_ | refine gw_skip ?_ | refine gw_yes rfl ?_ | refine gw_no rfl ?_ | refine gw_exit ?_ | refine gw_block ?_ | refine gw_label ?_ | (refine gs_n tyT_ok 0 ?_ (hp := ?hp); case hp => exact ⟨by decide, by decide⟩))
    refine gs_n tyT_ok 0 ?_ (hp := ?hp)
    case hp => exact ⟨by omega, by show (S : Int) ≤ 64; omega⟩
    rw [hsh]
    repeat (first | refine gs_n tyT_ok 0 ?_ | refine gs_gn tyT_ok 0 rfl ?_ | refine gs_no rfl ?_ | refine gs_end ?_ | refine gs_end' ?_ | refine gw_seq ?_ | refine gw_text rfl ?_ | refine gw_skip ?_ | refine gw_yes rfl ?_ | refine gw_no rfl ?_ | refine gw_exit ?_ | refine gw_block ?_ | refine gw_label ?_ | (refine gs_n tyT_ok 0 ?_ (hp := ?hp); case hp => exact ⟨by decide, by decide⟩))
    rw [hbit]
    refine gs_call [0, 1] ent210 rfl (by decide) (bit_w (bs := bs ++ vbits wide u z k) hv (by rw [List.length_append, vbits_len]) (by unfold vbit; omega) (bin_app hbs (vbits_bin _ _ _ _)) (by omega)) fun v' F' ns ho _ _ => ?_
    obtain ⟨v2, p2, rfl, rfl, hv2⟩ := ho
    rw [List.append_assoc, ← vbits_succ] at hv2
    repeat (first | refine gs_n tyT_ok 0 ?_ | refine gs_gn tyT_ok 0 rfl ?_ | refine gs_no rfl ?_ | refine gs_end ?_ | refine gs_end' ?_ | refine gw_seq ?_ | refine gw_text rfl ?_ | refine gw_skip ?_ | refine gw_yes rfl ?_ | refine gw_no rfl ?_ | refine gw_exit ?_ | refine gw_block ?_ | refine gw_label ?_ | (refine gs_n tyT_ok 0 ?_ (hp := ?hp); case hp => exact ⟨by decide, by decide⟩))
    exact ⟨m - 1, by omega, (k + 1, v2, p2), ⟨by show k + 1 + (m - 1) = _; omega, hv2⟩, rfl, rfl, rfl, rfl, rfl, rfl, trivial⟩
  · obtain rfl : k = z := by omega
    (refine gs_f tyT_ok ?hb ?_; case hb => first | exact decide_eq_false (by omega) | exact congrArg Bool.not (decide_eq_true (by omega)) | (simp; done) | (simp; omega))
    repeat (first | refine gs_n tyT_ok 0 ?_ | refine gs_gn tyT_ok 0 rfl ?_ | refine gs_no rfl ?_ | refine gs_end ?_ | refine gs_end' ?_ | refine gw_seq ?_ | refine gw_text rfl ?_ | refine gw_skip ?_ | refine gw_yes rfl ?_ | refine gw_no rfl ?_ | refine gw_exit ?_ | refine gw_block ?_ | refine gw_label ?_ | (refine gs_n tyT_ok 0 ?_ (hp := ?hp); case hp => exact ⟨by decide, by decide⟩))
    exact ⟨[], [(g, pk v (bs.length + k) wide), p], [], [0, 1], .nil, ⟨v, p, rfl, rfl, hv⟩, rfl, rfl, by decide⟩
/-- Numbers that fit their sizes. -/
def bitsOk (l : List (Nat × Nat)) : Prop := (∀ x ∈ l, x.2 ≤ 24 ∧ x.1 < 2 ^ x.2) ∧ sumZ l ≤ 72000
theorem bitsOk_at {l : List (Nat × Nat)} (h : bitsOk l) {i : Nat} (hi : i < l.length) : (l.getD i (0, 0)).2 ≤ 24 ∧ (l.getD i (0, 0)).1 < 2 ^ (l.getD i (0, 0)).2 ∧ (l.getD i (0, 0)).1 < 2 ^ 24 := by
  have hm : l.getD i (0, 0) ∈ l := by rw [List.getD_eq_getElem?_getD, List.getElem?_eq_getElem hi]; exact List.getElem_mem hi
  obtain ⟨h1, h2⟩ := h.1 _ hm
  exact ⟨h1, h2, Nat.lt_of_lt_of_le h2 (Nat.pow_le_pow_right (by decide) h1)⟩
theorem take_succD {α : Type} (l : List α) (d : α) {i : Nat} (hi : i < l.length) : l.take (i + 1) = l.take i ++ [l.getD i d] := by
  rw [List.take_succ_eq_append_getElem hi, List.getD_eq_getElem?_getD, List.getElem?_eq_getElem hi]
  rfl
theorem sumZ_take (l : List (Nat × Nat)) (i : Nat) : sumZ (l.take i) ≤ sumZ l := by
  have h : sumZ l = sumZ (l.take i) + sumZ (l.drop i) := by
    rw [sumZ, sumZ, sumZ, ← List.sum_append, ← List.map_append, List.take_append_drop]
  omega
set_option maxHeartbeats 2000000 in
theorem bitsPut_w {a : Option Addr} {n c : Nat} {p : Nat × GO} {l : List (Nat × Nat)} {wide : Bool} (hv : OBt (.slice a n c) p l) (hok : bitsOk l) (hl : l.length ≤ 1000000) : Rd Try.prog 113 [.slice a n c, .bool wide] [p] (.string (txt (packB wide (lbits wide l)))) := by
  have hn : n = l.length := by obtain ⟨a', c', h⟩ := hv.sl; cases h; rfl
  subst hn
  refine trip_of Try.func113 rfl (by simp [Try.ntmps113]) ?_
  repeat (first | refine gs_n tyT_ok 0 ?_ | refine gs_gn tyT_ok 0 rfl ?_ | refine gs_no rfl ?_ | refine gs_end ?_ | refine gs_end' ?_ | refine gw_seq ?_ | refine gw_text rfl ?_ | refine gw_skip ?_ | refine gw_yes rfl ?_ | refine gw_no rfl ?_ | refine gw_exit ?_ | refine gw_block ?_ | refine gw_label ?_ | (refine gs_n tyT_ok 0 ?_ (hp := ?hp); case hp => exact ⟨by decide, by decide⟩))
  refine gw_loopW (fun _ (i : Nat) => [(0, .slice a l.length c), (1, .bool wide), (5, .int .i64 (sumZ (l.take i) : Nat)), (11, .slice a l.length c), (12, .int .i64 (l.length : Int)), (13, .int .i64 (i : Int))]) (fun _ i => [p]) (fun m i => i + m = l.length) l.length 0 (by simp) ⟨[0], by decide, rfl⟩ ⟨rfl, rfl, rfl, rfl, rfl, rfl, trivial⟩ fun m i e hi => ?_
  have hsm := sumZ_take l i
  have hsl := hok.2
  repeat (first | refine gs_n tyT_ok 0 ?_ | refine gs_gn tyT_ok 0 rfl ?_ | refine gs_no rfl ?_ | refine gs_end ?_ | refine gs_end' ?_ | refine gw_seq ?_ | refine gw_text rfl ?_ | refine gw_skip ?_ | refine gw_yes rfl ?_ | refine gw_no rfl ?_ | refine gw_exit ?_ | refine gw_block ?_ | refine gw_label ?_ | (refine gs_n tyT_ok 0 ?_ (hp := ?hp); case hp => exact ⟨by decide, by decide⟩))
  by_cases hlt : i < l.length
  · (refine gs_t tyT_ok ?hb ?_; case hb => first | exact decide_eq_true (by omega) | exact congrArg Bool.not (decide_eq_false (by omega)) | (simp; done) | (simp; omega))
    obtain ⟨_, rfl, h1, h2, h3, h4⟩ := hv.at hlt
    obtain ⟨o1, o2, o3⟩ := bitsOk_at hok hlt
    have htk := take_succD l (0, 0) hlt
    generalize l.getD i (0, 0) = x at *
    obtain ⟨u, z⟩ := x
    dsimp only at h1 h2 h3 o1 o2 o3
    repeat (first | refine gs_n tyT_ok 0 ?_ | refine gs_gn tyT_ok 0 rfl ?_ | refine gs_no rfl ?_ | refine gs_end ?_ | refine gs_end' ?_ | refine gw_seq ?_ | refine gw_text rfl ?_ | refine gw_skip ?_ | refine gw_yes rfl ?_ | refine gw_no rfl ?_ | refine gw_exit ?_ | refine gw_block ?_ | refine gw_label ?_ | (refine gs_n tyT_ok 0 ?_ (hp := ?hp); case hp => exact ⟨by decide, by decide⟩))
    refine gs_v 0 (lv_loads tyT_ok 0 rfl rfl rfl rfl rfl h3 h4) ?_
    refine gs_alloc tyT_ok rfl fun b7 => ?_
    refine gs_store tyT_ok 1 rfl rfl rfl rfl rfl rfl (Nat.le_of_ble_eq_true rfl) (Nat.le_of_ble_eq_true rfl) ?_
    repeat (first | refine gs_n tyT_ok 0 ?_ | refine gs_gn tyT_ok 0 rfl ?_ | refine gs_no rfl ?_ | refine gs_end ?_ | refine gs_end' ?_ | refine gw_seq ?_ | refine gw_text rfl ?_ | refine gw_skip ?_ | refine gw_yes rfl ?_ | refine gw_no rfl ?_ | refine gw_exit ?_ | refine gw_block ?_ | refine gw_label ?_ | (refine gs_n tyT_ok 0 ?_ (hp := ?hp); case hp => exact ⟨by decide, by decide⟩))
    have hpw : (1 : Int) * 2 ^ Int.toNat ((z : Nat) : Int) = ((2 ^ z : Nat) : Int) := by rw [Int.toNat_natCast]; simp
    have hp24 : 2 ^ z ≤ 2 ^ 24 := Nat.pow_le_pow_right (by decide) o1
    refine gw_any [.N, .L 1, .E [], .N, .N, .N, .L 1, .N, .L 1, .N, .N, .E [], .N, .N] rfl rfl rfl ?_
    repeat (first | refine gs_n tyT_ok 0 ?_ | refine gs_gn tyT_ok 0 rfl ?_ | refine gs_no rfl ?_ | refine gs_l tyT_ok 1 ?_ | refine gs_gl tyT_ok 1 rfl ?_ | (refine gs_l tyT_ok 1 ?_ (hp := ?hp); case hp => exact ⟨rfl, Nat.le_of_ble_eq_true rfl⟩) | (refine gs_gl tyT_ok 1 rfl ?_ (hp := ?hp); case hp => exact ⟨rfl, Nat.le_of_ble_eq_true rfl⟩))
    refine gs_pu ent72 (in_t ⟨by omega, by omega⟩) ?_
    repeat (first | refine gs_n tyT_ok 0 ?_ | refine gs_gn tyT_ok 0 rfl ?_ | refine gs_no rfl ?_ | refine gs_l tyT_ok 1 ?_ | refine gs_gl tyT_ok 1 rfl ?_ | (refine gs_l tyT_ok 1 ?_ (hp := ?hp); case hp => exact ⟨rfl, Nat.le_of_ble_eq_true rfl⟩) | (refine gs_gl tyT_ok 1 rfl ?_ (hp := ?hp); case hp => exact ⟨rfl, Nat.le_of_ble_eq_true rfl⟩))
    refine gs_gn tyT_ok 0 rfl ?_ (hp := ?hp)
    case hp => exact ⟨by omega, by show (z : Int) ≤ 64; omega, by rw [hpw]; omega, by rw [hpw]; omega⟩
    rw [hpw]
    repeat (first | refine gs_n tyT_ok 0 ?_ | refine gs_gn tyT_ok 0 rfl ?_ | refine gs_no rfl ?_ | refine gs_l tyT_ok 1 ?_ | refine gs_gl tyT_ok 1 rfl ?_ | (refine gs_l tyT_ok 1 ?_ (hp := ?hp); case hp => exact ⟨rfl, Nat.le_of_ble_eq_true rfl⟩) | (refine gs_gl tyT_ok 1 rfl ?_ (hp := ?hp); case hp => exact ⟨rfl, Nat.le_of_ble_eq_true rfl⟩))
    refine gs_pug ent72 rfl (in_t ⟨by omega, by omega⟩) ?_
    repeat (first | refine gs_n tyT_ok 0 ?_ | refine gs_gn tyT_ok 0 rfl ?_ | refine gs_no rfl ?_ | refine gs_l tyT_ok 1 ?_ | refine gs_gl tyT_ok 1 rfl ?_ | (refine gs_l tyT_ok 1 ?_ (hp := ?hp); case hp => exact ⟨rfl, Nat.le_of_ble_eq_true rfl⟩) | (refine gs_gl tyT_ok 1 rfl ?_ (hp := ?hp); case hp => exact ⟨rfl, Nat.le_of_ble_eq_true rfl⟩) | refine gs_end ?_ | refine gs_end' ?_ | refine gw_seq ?_ | refine gw_text rfl ?_ | refine gw_skip ?_ | refine gw_yes rfl ?_ | refine gw_no rfl ?_ | refine gw_exit ?_ | refine gw_block ?_ | refine gw_label ?_ | (refine gs_n tyT_ok 0 ?_ (hp := ?hp); case hp => exact ⟨by decide, by decide⟩))
    refine ⟨m - 1, by omega, i + 1, by omega, ⟨[0], by decide, rfl⟩, rfl, rfl, ?_, rfl, rfl, rfl, trivial⟩
    show Value.int _ _ = Value.int _ _
    rw [htk, sumZ_snoc]
    rfl
  · obtain rfl : i = l.length := by omega
    (refine gs_f tyT_ok ?hb ?_; case hb => first | exact decide_eq_false (by omega) | exact congrArg Bool.not (decide_eq_true (by omega)) | (simp; done) | (simp; omega))
    repeat (first | refine gs_n tyT_ok 0 ?_ | refine gs_gn tyT_ok 0 rfl ?_ | refine gs_no rfl ?_ | refine gs_end ?_ | refine gs_end' ?_ | refine gw_seq ?_ | refine gw_text rfl ?_ | refine gw_skip ?_ | refine gw_yes rfl ?_ | refine gw_no rfl ?_ | refine gw_exit ?_ | refine gw_block ?_ | refine gw_label ?_ | (refine gs_n tyT_ok 0 ?_ (hp := ?hp); case hp => exact ⟨by decide, by decide⟩))
    rw [List.take_length]
    (refine gs_f tyT_ok ?hb ?_; case hb => first | exact decide_eq_false (by omega) | exact congrArg Bool.not (decide_eq_true (by omega)) | (simp; done) | (simp; omega))
    repeat (first | refine gs_n tyT_ok 0 ?_ | refine gs_gn tyT_ok 0 rfl ?_ | refine gs_no rfl ?_ | refine gs_end ?_ | refine gs_end' ?_ | refine gw_seq ?_ | refine gw_text rfl ?_ | refine gw_skip ?_ | refine gw_yes rfl ?_ | refine gw_no rfl ?_ | refine gw_exit ?_ | refine gw_block ?_ | refine gw_label ?_ | (refine gs_n tyT_ok 0 ?_ (hp := ?hp); case hp => exact ⟨by decide, by decide⟩))
    refine gs_box fun b8 => ?_
    repeat (first | refine gs_n tyT_ok 0 ?_ | refine gs_gn tyT_ok 0 rfl ?_ | refine gs_no rfl ?_ | refine gs_end ?_ | refine gs_end' ?_ | refine gw_seq ?_ | refine gw_text rfl ?_ | refine gw_skip ?_ | refine gw_yes rfl ?_ | refine gw_no rfl ?_ | refine gw_exit ?_ | refine gw_block ?_ | refine gw_label ?_ | (refine gs_n tyT_ok 0 ?_ (hp := ?hp); case hp => exact ⟨by decide, by decide⟩))
    refine gw_nil ?_
    refine gw_loopW (fun _ (x : Nat × Value × (Nat × GO)) => [(0, .slice a l.length c), (8, ptr b8), (41, .slice a l.length c), (42, .int .i64 (l.length : Int)), (43, .int .i64 (x.1 : Int))]) (fun _ x => [p, (b8, pk x.2.1 (lbits wide (l.take x.1)).length wide), x.2.2]) (fun m x => x.1 + m = l.length ∧ OB x.2.1 x.2.2 (packB wide (lbits wide (l.take x.1)))) l.length (0, .slice none 0 0, (0, .none)) ⟨by simp, by show OB _ _ (packB wide []); rw [packB_nil]; exact OB.nil⟩ ⟨[0, 1, 2], by decide, rfl⟩ ⟨rfl, rfl, rfl, rfl, rfl, trivial⟩ fun m ⟨i, v, pb⟩ e ⟨hi, hb⟩ => ?_
    dsimp only at hi hb ⊢
    have hsm := sumZ_take l i
    have hsl := hok.2
    repeat (first | refine gs_n tyT_ok 0 ?_ | refine gs_gn tyT_ok 0 rfl ?_ | refine gs_no rfl ?_ | refine gs_end ?_ | refine gs_end' ?_ | refine gw_seq ?_ | refine gw_text rfl ?_ | refine gw_skip ?_ | refine gw_yes rfl ?_ | refine gw_no rfl ?_ | refine gw_exit ?_ | refine gw_block ?_ | refine gw_label ?_ | (refine gs_n tyT_ok 0 ?_ (hp := ?hp); case hp => exact ⟨by decide, by decide⟩))
    by_cases hlt : i < l.length
    · (refine gs_t tyT_ok ?hb ?_; case hb => first | exact decide_eq_true (by omega) | exact congrArg Bool.not (decide_eq_false (by omega)) | (simp; done) | (simp; omega))
      obtain ⟨_, rfl, h1, h2, h3, h4⟩ := hv.at hlt
      obtain ⟨o1, o2, o3⟩ := bitsOk_at hok hlt
      have htk := take_succD l (0, 0) hlt
      generalize l.getD i (0, 0) = x at *
      obtain ⟨u, z⟩ := x
      dsimp only at h1 h2 h3 o1 o2 o3
      repeat (first | refine gs_n tyT_ok 0 ?_ | refine gs_gn tyT_ok 0 rfl ?_ | refine gs_no rfl ?_ | refine gs_end ?_ | refine gs_end' ?_ | refine gw_seq ?_ | refine gw_text rfl ?_ | refine gw_skip ?_ | refine gw_yes rfl ?_ | refine gw_no rfl ?_ | refine gw_exit ?_ | refine gw_block ?_ | refine gw_label ?_ | (refine gs_n tyT_ok 0 ?_ (hp := ?hp); case hp => exact ⟨by decide, by decide⟩))
      refine gs_v 0 (lv_loads tyT_ok 0 rfl rfl rfl rfl rfl h3 h4) ?_
      refine gs_alloc tyT_ok rfl fun b7 => ?_
      refine gs_store tyT_ok 3 rfl rfl rfl rfl rfl rfl (Nat.le_of_ble_eq_true rfl) (Nat.le_of_ble_eq_true rfl) ?_
      repeat (first | refine gs_n tyT_ok 0 ?_ | refine gs_gn tyT_ok 0 rfl ?_ | refine gs_no rfl ?_ | refine gs_l tyT_ok 3 ?_ | refine gs_gl tyT_ok 3 rfl ?_ | (refine gs_l tyT_ok 3 ?_ (hp := ?hp); case hp => exact ⟨rfl, Nat.le_of_ble_eq_true rfl⟩) | (refine gs_gl tyT_ok 3 rfl ?_ (hp := ?hp); case hp => exact ⟨rfl, Nat.le_of_ble_eq_true rfl⟩) | refine gs_end ?_ | refine gs_end' ?_ | refine gw_seq ?_ | refine gw_text rfl ?_ | refine gw_skip ?_ | refine gw_yes rfl ?_ | refine gw_no rfl ?_ | refine gw_exit ?_ | refine gw_block ?_ | refine gw_label ?_ | (refine gs_n tyT_ok 0 ?_ (hp := ?hp); case hp => exact ⟨by decide, by decide⟩))
      refine gs_call [1, 2] ent169 rfl (by decide) (pput_w (bs := lbits wide (l.take i)) hb rfl o1 o3 (lbits_bin _ _) (by rw [lbits_len]; omega)) fun v' F' ns ho _ _ => ?_
      obtain ⟨v2, p2, rfl, rfl, hv2⟩ := ho
      repeat (first | refine gs_n tyT_ok 0 ?_ | refine gs_gn tyT_ok 0 rfl ?_ | refine gs_no rfl ?_ | refine gs_end ?_ | refine gs_end' ?_ | refine gw_seq ?_ | refine gw_text rfl ?_ | refine gw_skip ?_ | refine gw_yes rfl ?_ | refine gw_no rfl ?_ | refine gw_exit ?_ | refine gw_block ?_ | refine gw_label ?_ | (refine gs_n tyT_ok 0 ?_ (hp := ?hp); case hp => exact ⟨by decide, by decide⟩))
      have he : lbits wide (l.take i) ++ vbits wide u z z = lbits wide (l.take (i + 1)) := by rw [htk, lbits_snoc]
      refine ⟨m - 1, by omega, (i + 1, v2, p2), ⟨by show i + 1 + (m - 1) = _; omega, by show OB v2 p2 (packB wide (lbits wide (l.take (i + 1)))); rw [← he]; exact hv2⟩, ⟨[0, 1, 2], by decide, ?_⟩, rfl, rfl, rfl, rfl, rfl, trivial⟩
      dsimp only
      rw [← he, List.length_append, vbits_len]
      rfl
    · obtain rfl : i = l.length := by omega
      rw [List.take_length] at hb
      obtain ⟨va, vc, rfl⟩ := hb.sl
      (refine gs_f tyT_ok ?hb ?_; case hb => first | exact decide_eq_false (by omega) | exact congrArg Bool.not (decide_eq_true (by omega)) | (simp; done) | (simp; omega))
      rw [List.take_length]
      repeat (first | refine gs_n tyT_ok 0 ?_ | refine gs_gn tyT_ok 0 rfl ?_ | refine gs_no rfl ?_ | refine gs_l tyT_ok 1 ?_ | refine gs_gl tyT_ok 1 rfl ?_ | (refine gs_l tyT_ok 1 ?_ (hp := ?hp); case hp => exact ⟨rfl, Nat.le_of_ble_eq_true rfl⟩) | (refine gs_gl tyT_ok 1 rfl ?_ (hp := ?hp); case hp => exact ⟨rfl, Nat.le_of_ble_eq_true rfl⟩) | refine gs_end ?_ | refine gs_end' ?_ | refine gw_seq ?_ | refine gw_text rfl ?_ | refine gw_skip ?_ | refine gw_yes rfl ?_ | refine gw_no rfl ?_ | refine gw_exit ?_ | refine gw_block ?_ | refine gw_label ?_ | (refine gs_n tyT_ok 0 ?_ (hp := ?hp); case hp => exact ⟨by decide, by decide⟩))
      refine gs_ofB 2 hb rfl rfl ?_
      repeat (first | refine gs_n tyT_ok 0 ?_ | refine gs_gn tyT_ok 0 rfl ?_ | refine gs_no rfl ?_ | refine gs_end ?_ | refine gs_end' ?_ | refine gw_seq ?_ | refine gw_text rfl ?_ | refine gw_skip ?_ | refine gw_yes rfl ?_ | refine gw_no rfl ?_ | refine gw_exit ?_ | refine gw_block ?_ | refine gw_label ?_ | (refine gs_n tyT_ok 0 ?_ (hp := ?hp); case hp => exact ⟨by decide, by decide⟩))
      exact gw_ret ⟨_, _, [], [0], .tmp .nil, ⟨rfl, rfl, rfl⟩, rfl, rfl, by decide⟩
end Go.Proofs.Ytjefdcbljpkmlaa.G
end
