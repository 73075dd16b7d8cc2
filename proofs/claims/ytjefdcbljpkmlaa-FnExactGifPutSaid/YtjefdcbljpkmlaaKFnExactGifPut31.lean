/- What the law FnExactGifPut needs, out of the texts Yc. -/
import Derived.Test.YtjefdcbljpkmlaaKFnExactGifPut14
import Derived.Test.YtjefdcbljpkmlaaKFnExactGifPut16
import Derived.Test.YtjefdcbljpkmlaaKFnExactGifPut21
section
set_option linter.unusedVariables false
set_option linter.unusedSimpArgs false
set_option maxRecDepth 10000
namespace Go.Proofs.Ytjefdcbljpkmlaa.G
open Go
/-- The bytes of a number, the highest first. -/
def be (n z : Nat) : List Int := (le n z).reverse
theorem be_len (n z : Nat) : (be n z).length = z := by simp [be, le_len]
theorem be_succ (n z : Nat) : be n (z + 1) = [((n / 256 ^ z % 256 : Nat) : Int)] ++ be n z := by simp [be, le_succ]
def bpart (n z i : Nat) : List Int := List.replicate (z - i) 0 ++ be n i
theorem bpart_len {n z i : Nat} (h : i ≤ z) : (bpart n z i).length = z := by simp [bpart, be_len]; omega
theorem bpart_set {n z i : Nat} (h : i < z) : (bpart n z i).set (z - 1 - i) ((n / 256 ^ i % 256 : Nat) : Int) = bpart n z (i + 1) := by
  unfold bpart
  rw [be_succ, show z - i = (z - (i + 1)) + 1 by omega, List.replicate_succ', List.append_assoc, List.set_append_right _ _ (by simp; omega)]
  rw [show z - 1 - i - (List.replicate (z - (i + 1)) (0 : Int)).length = 0 by simp; omega]
  rfl
set_option maxHeartbeats 1000000 in
theorem numPutB_w {n : Int} {z : Nat} (hz : 1 ≤ z ∧ z ≤ 4) (hn : 0 ≤ n ∧ n < ((256 ^ z : Nat) : Int)) : Pu Try.prog 120 [.int .i64 n, .int .i64 z, .bool true] (.string (txt (be n.toNat z))) := by
  obtain ⟨e1, e2, e3⟩ := pow8 hz.1 hz.2
  obtain ⟨N, rfl⟩ := Int.eq_ofNat_of_zero_le hn.1
  refine trip_of Try.func120 rfl (by simp [Try.ntmps120]) ?_
  repeat (first | refine gs_n tyT_ok 0 ?_ | refine gs_gn tyT_ok 0 rfl ?_ | refine gs_no rfl ?_ | refine gs_end ?_ | refine gs_end' ?_ | refine gw_seq ?_ | refine gw_text rfl ?_ | refine gw_skip ?_ | refine gw_yes rfl ?_ | refine gw_no rfl ?_ | refine gw_exit ?_ | refine gw_block ?_ | refine gw_label ?_ | (refine gs_n tyT_ok 0 ?_ (hp := ?hp); case hp => exact ⟨by decide, by decide⟩))
  refine gs_pu ent72 (in_t (by omega)) ?_
  repeat (first | refine gs_n tyT_ok 0 ?_ | refine gs_gn tyT_ok 0 rfl ?_ | refine gs_no rfl ?_ | refine gs_end ?_ | refine gs_end' ?_ | refine gw_seq ?_ | refine gw_text rfl ?_ | refine gw_skip ?_ | refine gw_yes rfl ?_ | refine gw_no rfl ?_ | refine gw_exit ?_ | refine gw_block ?_ | refine gw_label ?_ | (refine gs_n tyT_ok 0 ?_ (hp := ?hp); case hp => exact ⟨by decide, by decide⟩))
  refine gs_gn tyT_ok 0 rfl ?_ (hp := ?hp)
  case hp =>
    refine ⟨by show (0 : Int) ≤ 8 * (z : Int); omega, by show 8 * (z : Int) ≤ 64; omega, ?_⟩
    rw [e1]
    exact ⟨by omega, by omega⟩
  rw [e1]
  repeat (first | refine gs_n tyT_ok 0 ?_ | refine gs_gn tyT_ok 0 rfl ?_ | refine gs_no rfl ?_ | refine gs_end ?_ | refine gs_end' ?_ | refine gw_seq ?_ | refine gw_text rfl ?_ | refine gw_skip ?_ | refine gw_yes rfl ?_ | refine gw_no rfl ?_ | refine gw_exit ?_ | refine gw_block ?_ | refine gw_label ?_ | (refine gs_n tyT_ok 0 ?_ (hp := ?hp); case hp => exact ⟨by decide, by decide⟩))
  refine gs_pug ent72 rfl (in_t (by omega)) ?_
  repeat (first | refine gs_n tyT_ok 0 ?_ | refine gs_gn tyT_ok 0 rfl ?_ | refine gs_no rfl ?_ | refine gs_end ?_ | refine gs_end' ?_ | refine gw_seq ?_ | refine gw_text rfl ?_ | refine gw_skip ?_ | refine gw_yes rfl ?_ | refine gw_no rfl ?_ | refine gw_exit ?_ | refine gw_block ?_ | refine gw_label ?_ | (refine gs_n tyT_ok 0 ?_ (hp := ?hp); case hp => exact ⟨by decide, by decide⟩))
  refine gs_make tyT_ok (n := z) rfl rfl rfl rfl rfl (by omega) (by decide) fun b => ?_
  repeat (first | refine gs_n tyT_ok 0 ?_ | refine gs_gn tyT_ok 0 rfl ?_ | refine gs_no rfl ?_ | refine gs_end ?_ | refine gs_end' ?_ | refine gw_seq ?_ | refine gw_text rfl ?_ | refine gw_skip ?_ | refine gw_yes rfl ?_ | refine gw_no rfl ?_ | refine gw_exit ?_ | refine gw_block ?_ | refine gw_label ?_ | (refine gs_n tyT_ok 0 ?_ (hp := ?hp); case hp => exact ⟨by decide, by decide⟩))
  refine gw_loopW (fun _ (i : Nat) => [(0, .int .i64 (N : Int)), (1, .int .i64 z), (2, .bool true), (7, .slice (some ⟨b, 0, none⟩) z z), (25, .int .i64 z), (26, .int .i64 i)]) (fun _ i => [(b, .row 5 (bytesV (bpart N z i)) (z * 1))]) (fun m i => i + m = z) z 0 (by omega) ⟨[0], by decide, ?_⟩ ⟨rfl, rfl, rfl, rfl, rfl, rfl, trivial⟩ fun m i e hm => ?_
  · simp only [bpart, be, le_zero, List.reverse_nil, List.append_nil, Nat.sub_zero, bytesV, List.map_replicate]
    show some [(b, GO.row 5 (List.replicate z [Value.int .u8 0]).flatten (z * 1))] = _
    simp [List.flatten_replicate_singleton]
  repeat (first | refine gs_n tyT_ok 0 ?_ | refine gs_gn tyT_ok 0 rfl ?_ | refine gs_no rfl ?_ | refine gs_end ?_ | refine gs_end' ?_ | refine gw_seq ?_ | refine gw_text rfl ?_ | refine gw_skip ?_ | refine gw_yes rfl ?_ | refine gw_no rfl ?_ | refine gw_exit ?_ | refine gw_block ?_ | refine gw_label ?_ | (refine gs_n tyT_ok 0 ?_ (hp := ?hp); case hp => exact ⟨by decide, by decide⟩))
  by_cases g : i < z
  · (refine gs_t tyT_ok ?hb ?_; case hb => first | exact decide_eq_true (by omega) | exact congrArg Bool.not (decide_eq_false (by omega)) | (simp; done) | (simp; omega))
    have hzi : (z : Int) - 1 - (i : Int) = ((z - 1 - i : Nat) : Int) := by omega
    repeat (first | refine gs_n tyT_ok 0 ?_ | refine gs_gn tyT_ok 0 rfl ?_ | refine gs_no rfl ?_ | refine gs_end ?_ | refine gs_end' ?_ | refine gw_seq ?_ | refine gw_text rfl ?_ | refine gw_skip ?_ | refine gw_yes rfl ?_ | refine gw_no rfl ?_ | refine gw_exit ?_ | refine gw_block ?_ | refine gw_label ?_ | (refine gs_n tyT_ok 0 ?_ (hp := ?hp); case hp => exact ⟨by decide, by decide⟩))
    rw [hzi]
    repeat (first | refine gs_n tyT_ok 0 ?_ | refine gs_gn tyT_ok 0 rfl ?_ | refine gs_no rfl ?_ | refine gs_end ?_ | refine gs_end' ?_ | refine gw_seq ?_ | refine gw_text rfl ?_ | refine gw_skip ?_ | refine gw_yes rfl ?_ | refine gw_no rfl ?_ | refine gw_exit ?_ | refine gw_block ?_ | refine gw_label ?_ | (refine gs_n tyT_ok 0 ?_ (hp := ?hp); case hp => exact ⟨by decide, by decide⟩))
    refine gs_n tyT_ok 0 ?_ (hp := ?hp)
    case hp => exact ⟨by omega, by show 8 * (i : Int) ≤ 64; omega⟩
    refine gs_n tyT_ok 1 ?_
    rw [wrap_u8, shr8]
    repeat (first | refine gs_n tyT_ok 0 ?_ | refine gs_gn tyT_ok 0 rfl ?_ | refine gs_no rfl ?_ | refine gs_end ?_ | refine gs_end' ?_ | refine gw_seq ?_ | refine gw_text rfl ?_ | refine gw_skip ?_ | refine gw_yes rfl ?_ | refine gw_no rfl ?_ | refine gw_exit ?_ | refine gw_block ?_ | refine gw_label ?_ | (refine gs_n tyT_ok 0 ?_ (hp := ?hp); case hp => exact ⟨by decide, by decide⟩))
    have hl := bpart_len (n := N) (z := z) (i := i) (by omega)
    refine gs_putb 0 (i := z - 1 - i) (n := ((N / 256 ^ i : Nat) : Int) % 256) rfl rfl rfl (by omega) (by omega) ?_
    rw [show ((N / 256 ^ i : Nat) : Int) % 256 = ((N / 256 ^ i % 256 : Nat) : Int) by simp, bpart_set g]
    repeat (first | refine gs_n tyT_ok 0 ?_ | refine gs_gn tyT_ok 0 rfl ?_ | refine gs_no rfl ?_ | refine gs_end ?_ | refine gs_end' ?_ | refine gw_seq ?_ | refine gw_text rfl ?_ | refine gw_skip ?_ | refine gw_yes rfl ?_ | refine gw_no rfl ?_ | refine gw_exit ?_ | refine gw_block ?_ | refine gw_label ?_ | (refine gs_n tyT_ok 0 ?_ (hp := ?hp); case hp => exact ⟨by decide, by decide⟩))
    exact ⟨m - 1, by omega, i + 1, by omega, ⟨[0], by decide, rfl⟩, rfl, rfl, rfl, rfl, rfl, rfl, trivial⟩
  · obtain rfl : i = z := by omega
    (refine gs_f tyT_ok ?hb ?_; case hb => first | exact decide_eq_false (by omega) | exact congrArg Bool.not (decide_eq_true (by omega)) | (simp; done) | (simp; omega))
    repeat (first | refine gs_n tyT_ok 0 ?_ | refine gs_gn tyT_ok 0 rfl ?_ | refine gs_no rfl ?_ | refine gs_end ?_ | refine gs_end' ?_ | refine gw_seq ?_ | refine gw_text rfl ?_ | refine gw_skip ?_ | refine gw_yes rfl ?_ | refine gw_no rfl ?_ | refine gw_exit ?_ | refine gw_block ?_ | refine gw_label ?_ | (refine gs_n tyT_ok 0 ?_ (hp := ?hp); case hp => exact ⟨by decide, by decide⟩))
    refine gs_txt 0 (xs := bpart N i i) rfl rfl (bpart_len (Nat.le_refl _)) ?_
    rw [show bpart N i i = be N i by simp [bpart]]
    repeat (first | refine gs_n tyT_ok 0 ?_ | refine gs_gn tyT_ok 0 rfl ?_ | refine gs_no rfl ?_ | refine gs_end ?_ | refine gs_end' ?_ | refine gw_seq ?_ | refine gw_text rfl ?_ | refine gw_skip ?_ | refine gw_yes rfl ?_ | refine gw_no rfl ?_ | refine gw_exit ?_ | refine gw_block ?_ | refine gw_label ?_ | (refine gs_n tyT_ok 0 ?_ (hp := ?hp); case hp => exact ⟨by decide, by decide⟩))
    exact gw_ret ⟨_, [], [], [], (.tmp .nil), ⟨rfl, rfl, rfl⟩, rfl, rfl, List.nodup_nil⟩
theorem l1NumB_w (n : Nat) (z : Nat) (hz : z ≤ 4) (hn : n < 9223372036854775808) : Pu Try.prog 143 [.int .i64 n, .int .i64 z, .bool true] (.string (txt (be n z))) := by
  refine trip_of Try.func143 rfl (by simp [Try.ntmps143]) ?_
  repeat (first | refine gs_n tyT_ok 0 ?_ | refine gs_gn tyT_ok 0 rfl ?_ | refine gs_no rfl ?_ | refine gs_end ?_ | refine gs_end' ?_ | refine gw_seq ?_ | refine gw_text rfl ?_ | refine gw_skip ?_ | refine gw_yes rfl ?_ | refine gw_no rfl ?_ | refine gw_exit ?_ | refine gw_block ?_ | refine gw_label ?_ | (refine gs_n tyT_ok 0 ?_ (hp := ?hp); case hp => exact ⟨by decide, by decide⟩))
  refine gw_loopW (fun _ (i : Nat) => [(0, .int .i64 ((n / 256 ^ i : Nat) : Int)), (1, .int .i64 z), (2, .bool true), (7, .string (txt (be n i))), (8, .int .i64 i)]) (fun _ _ => []) (fun m i => i + m = z) z 0 (by omega) ⟨[], by decide, rfl⟩ ⟨by show Value.int _ _ = _; simp, rfl, rfl, rfl, rfl, trivial⟩ fun m i e hm => ?_
  repeat (first | refine gs_n tyT_ok 0 ?_ | refine gs_gn tyT_ok 0 rfl ?_ | refine gs_no rfl ?_ | refine gs_end ?_ | refine gs_end' ?_ | refine gw_seq ?_ | refine gw_text rfl ?_ | refine gw_skip ?_ | refine gw_yes rfl ?_ | refine gw_no rfl ?_ | refine gw_exit ?_ | refine gw_block ?_ | refine gw_label ?_ | (refine gs_n tyT_ok 0 ?_ (hp := ?hp); case hp => exact ⟨by decide, by decide⟩))
  by_cases g : i < z
  · (refine gs_t tyT_ok ?hb ?_; case hb => first | exact decide_eq_true (by omega) | exact congrArg Bool.not (decide_eq_false (by omega)) | (simp; done) | (simp; omega))
    have hb : n / 256 ^ i < 9223372036854775808 := Nat.lt_of_le_of_lt (Nat.div_le_self _ _) hn
    obtain ⟨y, hy⟩ : ∃ y, y = n / 256 ^ i := ⟨_, rfl⟩
    rw [← hy] at hb ⊢
    repeat (first | refine gs_n tyT_ok 0 ?_ | refine gs_gn tyT_ok 0 rfl ?_ | refine gs_no rfl ?_ | refine gs_end ?_ | refine gs_end' ?_ | refine gw_seq ?_ | refine gw_text rfl ?_ | refine gw_skip ?_ | refine gw_yes rfl ?_ | refine gw_no rfl ?_ | refine gw_exit ?_ | refine gw_block ?_ | refine gw_label ?_ | (refine gs_n tyT_ok 0 ?_ (hp := ?hp); case hp => exact ⟨by decide, by decide⟩))
    refine gs_lit tyT_ok (cs := bytesV [(y : Int) % 256]) rfl rfl rfl (by decide) rfl fun b => ?_
    refine gs_txt 0 (xs := [(y : Int) % 256]) rfl rfl rfl ?_
    repeat (first | refine gs_n tyT_ok 0 ?_ | refine gs_gn tyT_ok 0 rfl ?_ | refine gs_no rfl ?_ | refine gs_end ?_ | refine gs_end' ?_ | refine gw_seq ?_ | refine gw_text rfl ?_ | refine gw_skip ?_ | refine gw_yes rfl ?_ | refine gw_no rfl ?_ | refine gw_exit ?_ | refine gw_block ?_ | refine gw_label ?_ | (refine gs_n tyT_ok 0 ?_ (hp := ?hp); case hp => exact ⟨by decide, by decide⟩))
    refine gs_cat (a := [(y : Int) % 256]) (b := be n i) rfl rfl (by rw [be_len, List.length_singleton]; omega) ?_
    repeat (first | refine gs_n tyT_ok 0 ?_ | refine gs_gn tyT_ok 0 rfl ?_ | refine gs_no rfl ?_ | refine gs_end ?_ | refine gs_end' ?_ | refine gw_seq ?_ | refine gw_text rfl ?_ | refine gw_skip ?_ | refine gw_yes rfl ?_ | refine gw_no rfl ?_ | refine gw_exit ?_ | refine gw_block ?_ | refine gw_label ?_ | (refine gs_n tyT_ok 0 ?_ (hp := ?hp); case hp => exact ⟨by decide, by decide⟩))
    refine ⟨m - 1, by omega, i + 1, by omega, ⟨[], by decide, rfl⟩, ?_, rfl, rfl, ?_, rfl, trivial⟩
    · show Value.int .i64 ((y : Int) / 256) = _
      rw [hy, Nat.pow_succ, ← Nat.div_div_eq_div_mul]
      simp
    · show Value.string (txt ([(y : Int) % 256] ++ be n i)) = _
      rw [be_succ, ← hy]
      simp
  · obtain rfl : i = z := by omega
    (refine gs_f tyT_ok ?hb ?_; case hb => first | exact decide_eq_false (by omega) | exact congrArg Bool.not (decide_eq_true (by omega)) | (simp; done) | (simp; omega))
    repeat (first | refine gs_n tyT_ok 0 ?_ | refine gs_gn tyT_ok 0 rfl ?_ | refine gs_no rfl ?_ | refine gs_end ?_ | refine gs_end' ?_ | refine gw_seq ?_ | refine gw_text rfl ?_ | refine gw_skip ?_ | refine gw_yes rfl ?_ | refine gw_no rfl ?_ | refine gw_exit ?_ | refine gw_block ?_ | refine gw_label ?_ | (refine gs_n tyT_ok 0 ?_ (hp := ?hp); case hp => exact ⟨by decide, by decide⟩))
    exact gw_ret ⟨_, [], [], [], (.tmp .nil), ⟨rfl, rfl, rfl⟩, rfl, rfl, List.nodup_nil⟩
/-- Numbers of so many bytes each, the highest first. -/
def bes (z : Nat) (l : List Int) : List Int := l.flatMap fun n => be n.toNat z
theorem bes_len (z : Nat) : ∀ l : List Int, (bes z l).length = l.length * z
  | [] => by simp [bes]
  | x :: l => by
    have := bes_len z l
    simp only [bes, List.flatMap_cons, List.length_append, be_len, List.length_cons] at this ⊢
    rw [this, Nat.succ_mul]
    omega
theorem bes_take (z : Nat) (cs : List Int) {i : Nat} (g : i < cs.length) : bes z (cs.take (i + 1)) = bes z (cs.take i) ++ be (cs.getD i 0).toNat z := by
  rw [take_succD cs 0 g]
  simp [bes]
set_option maxHeartbeats 1000000 in
theorem colorsPutB_w {a1 : Option Addr} {n1 c1 : Nat} {q1 : Nat × GO} {cs : List Int} {z : Nat} (h1 : LS a1 n1 c1 q1 cs) (hc : fits z cs) (hz : 1 ≤ z ∧ z ≤ 4) (hl : cs.length ≤ 1000000) :
    Rd Try.prog 60 [.slice a1 n1 c1, .int .i64 z, .bool true] [q1] (.string (txt (bes z cs))) := by
  obtain rfl := h1.1
  refine trip_of Try.func60 rfl (by simp [Try.ntmps60]) ?_
  repeat (first | refine gs_n tyT_ok 0 ?_ | refine gs_gn tyT_ok 0 rfl ?_ | refine gs_no rfl ?_ | refine gs_end ?_ | refine gs_end' ?_ | refine gw_seq ?_ | refine gw_text rfl ?_ | refine gw_skip ?_ | refine gw_yes rfl ?_ | refine gw_no rfl ?_ | refine gw_exit ?_ | refine gw_block ?_ | refine gw_label ?_ | (refine gs_n tyT_ok 0 ?_ (hp := ?hp); case hp => exact ⟨by decide, by decide⟩))
  refine gw_loopW (fun _ (i : Nat) => [(0, .slice a1 cs.length c1), (1, .int .i64 z), (2, .bool true), (7, .string (txt (bes z (cs.take i)))), (10, .slice a1 cs.length c1), (11, .int .i64 cs.length), (12, .int .i64 i)]) (fun _ _ => [q1]) (fun m i => i + m = cs.length) cs.length 0 (by omega) ⟨[0], by decide, rfl⟩ ⟨rfl, rfl, rfl, rfl, rfl, rfl, rfl, trivial⟩ fun m i e hm => ?_
  repeat (first | refine gs_n tyT_ok 0 ?_ | refine gs_gn tyT_ok 0 rfl ?_ | refine gs_no rfl ?_ | refine gs_end ?_ | refine gs_end' ?_ | refine gw_seq ?_ | refine gw_text rfl ?_ | refine gw_skip ?_ | refine gw_yes rfl ?_ | refine gw_no rfl ?_ | refine gw_exit ?_ | refine gw_block ?_ | refine gw_label ?_ | (refine gs_n tyT_ok 0 ?_ (hp := ?hp); case hp => exact ⟨by decide, by decide⟩))
  by_cases g : i < cs.length
  · (refine gs_t tyT_ok ?hb ?_; case hb => first | exact decide_eq_true (by omega) | exact congrArg Bool.not (decide_eq_false (by omega)) | (simp; done) | (simp; omega))
    obtain ⟨o1, rfl, ho1⟩ := h1.at g
    have hx := fits_at hc g
    have htk := bes_take z cs g
    have hlen : (bes z (cs.take i)).length ≤ 4000000 := by
      rw [bes_len, List.length_take]
      have := Nat.mul_le_mul (show min i cs.length ≤ 1000000 by omega) hz.2
      omega
    repeat (first | refine gs_n tyT_ok 0 ?_ | refine gs_gn tyT_ok 0 rfl ?_ | refine gs_no rfl ?_ | refine gs_end ?_ | refine gs_end' ?_ | refine gw_seq ?_ | refine gw_text rfl ?_ | refine gw_skip ?_ | refine gw_yes rfl ?_ | refine gw_no rfl ?_ | refine gw_exit ?_ | refine gw_block ?_ | refine gw_label ?_ | (refine gs_n tyT_ok 0 ?_ (hp := ?hp); case hp => exact ⟨by decide, by decide⟩))
    refine gs_at 0 tyT_ok rfl rfl rfl rfl ho1 ?_
    repeat (first | refine gs_n tyT_ok 0 ?_ | refine gs_gn tyT_ok 0 rfl ?_ | refine gs_no rfl ?_ | refine gs_end ?_ | refine gs_end' ?_ | refine gw_seq ?_ | refine gw_text rfl ?_ | refine gw_skip ?_ | refine gw_yes rfl ?_ | refine gw_no rfl ?_ | refine gw_exit ?_ | refine gw_block ?_ | refine gw_label ?_ | (refine gs_n tyT_ok 0 ?_ (hp := ?hp); case hp => exact ⟨by decide, by decide⟩))
    refine gs_pu ent120 (numPutB_w hz hx) ?_
    refine gs_cat (a := bes z (cs.take i)) (b := be (cs.getD i 0).toNat z) rfl rfl (by rw [be_len]; omega) ?_
    rw [← htk]
    repeat (first | refine gs_n tyT_ok 0 ?_ | refine gs_gn tyT_ok 0 rfl ?_ | refine gs_no rfl ?_ | refine gs_end ?_ | refine gs_end' ?_ | refine gw_seq ?_ | refine gw_text rfl ?_ | refine gw_skip ?_ | refine gw_yes rfl ?_ | refine gw_no rfl ?_ | refine gw_exit ?_ | refine gw_block ?_ | refine gw_label ?_ | (refine gs_n tyT_ok 0 ?_ (hp := ?hp); case hp => exact ⟨by decide, by decide⟩))
    exact ⟨m - 1, by omega, i + 1, by omega, ⟨[0], by decide, rfl⟩, rfl, rfl, rfl, rfl, rfl, rfl, rfl, trivial⟩
  · obtain rfl : i = cs.length := by omega
    rw [List.take_length]
    (refine gs_f tyT_ok ?hb ?_; case hb => first | exact decide_eq_false (by omega) | exact congrArg Bool.not (decide_eq_true (by omega)) | (simp; done) | (simp; omega))
    repeat (first | refine gs_n tyT_ok 0 ?_ | refine gs_gn tyT_ok 0 rfl ?_ | refine gs_no rfl ?_ | refine gs_end ?_ | refine gs_end' ?_ | refine gw_seq ?_ | refine gw_text rfl ?_ | refine gw_skip ?_ | refine gw_yes rfl ?_ | refine gw_no rfl ?_ | refine gw_exit ?_ | refine gw_block ?_ | refine gw_label ?_ | (refine gs_n tyT_ok 0 ?_ (hp := ?hp); case hp => exact ⟨by decide, by decide⟩))
    exact gw_ret ⟨_, _, [], [0], .tmp .nil, ⟨rfl, rfl, rfl⟩, rfl, rfl, by decide⟩
set_option maxHeartbeats 1000000 in
theorem l9Table_w {a1 : Option Addr} {n1 c1 : Nat} {q1 : Nat × GO} {cs : List Int} (h1 : LS a1 n1 c1 q1 cs) (hc : small cs) (hl : cs.length ≤ 1000000) :
    Rd Try.prog 180 [.slice a1 n1 c1] [q1] (.string (txt (bes 3 cs))) := by
  obtain rfl := h1.1
  refine trip_of Try.func180 rfl (by simp [Try.ntmps180]) ?_
  repeat (first | refine gs_n tyT_ok 0 ?_ | refine gs_gn tyT_ok 0 rfl ?_ | refine gs_no rfl ?_ | refine gs_end ?_ | refine gs_end' ?_ | refine gw_seq ?_ | refine gw_text rfl ?_ | refine gw_skip ?_ | refine gw_yes rfl ?_ | refine gw_no rfl ?_ | refine gw_exit ?_ | refine gw_block ?_ | refine gw_label ?_ | (refine gs_n tyT_ok 0 ?_ (hp := ?hp); case hp => exact ⟨by decide, by decide⟩))
  refine gw_loopW (fun _ (i : Nat) => [(0, .slice a1 cs.length c1), (3, .string (txt (bes 3 (cs.take i)))), (4, .int .i64 i)]) (fun _ _ => [q1]) (fun m i => i + m = cs.length) cs.length 0 (by omega) ⟨[0], by decide, rfl⟩ ⟨rfl, rfl, rfl, trivial⟩ fun m i e hm => ?_
  repeat (first | refine gs_n tyT_ok 0 ?_ | refine gs_gn tyT_ok 0 rfl ?_ | refine gs_no rfl ?_ | refine gs_end ?_ | refine gs_end' ?_ | refine gw_seq ?_ | refine gw_text rfl ?_ | refine gw_skip ?_ | refine gw_yes rfl ?_ | refine gw_no rfl ?_ | refine gw_exit ?_ | refine gw_block ?_ | refine gw_label ?_ | (refine gs_n tyT_ok 0 ?_ (hp := ?hp); case hp => exact ⟨by decide, by decide⟩))
  by_cases g : i < cs.length
  · (refine gs_t tyT_ok ?hb ?_; case hb => first | exact decide_eq_true (by omega) | exact congrArg Bool.not (decide_eq_false (by omega)) | (simp; done) | (simp; omega))
    obtain ⟨o1, rfl, ho1⟩ := h1.at g
    have hx := hc (cs.getD i 0) (by rw [List.getD_eq_getElem?_getD, List.getElem?_eq_getElem g]; exact List.getElem_mem g)
    have htk := bes_take 3 cs g
    have hlen : (bes 3 (cs.take i)).length ≤ 4000000 := by
      rw [bes_len, List.length_take]
      omega
    obtain ⟨x, hX⟩ := Int.eq_ofNat_of_zero_le hx.1
    rw [hX] at ho1 htk hx
    repeat (first | refine gs_n tyT_ok 0 ?_ | refine gs_gn tyT_ok 0 rfl ?_ | refine gs_no rfl ?_ | refine gs_end ?_ | refine gs_end' ?_ | refine gw_seq ?_ | refine gw_text rfl ?_ | refine gw_skip ?_ | refine gw_yes rfl ?_ | refine gw_no rfl ?_ | refine gw_exit ?_ | refine gw_block ?_ | refine gw_label ?_ | (refine gs_n tyT_ok 0 ?_ (hp := ?hp); case hp => exact ⟨by decide, by decide⟩))
    refine gs_at 0 tyT_ok rfl rfl rfl rfl ho1 ?_
    refine gs_pu ent143 (l1NumB_w x 3 (by omega) (by omega)) ?_
    refine gs_cat (a := bes 3 (cs.take i)) (b := be x 3) rfl rfl (by rw [be_len]; omega) ?_
    rw [show be x 3 = be ((x : Int)).toNat 3 from rfl, ← htk]
    repeat (first | refine gs_n tyT_ok 0 ?_ | refine gs_gn tyT_ok 0 rfl ?_ | refine gs_no rfl ?_ | refine gs_end ?_ | refine gs_end' ?_ | refine gw_seq ?_ | refine gw_text rfl ?_ | refine gw_skip ?_ | refine gw_yes rfl ?_ | refine gw_no rfl ?_ | refine gw_exit ?_ | refine gw_block ?_ | refine gw_label ?_ | (refine gs_n tyT_ok 0 ?_ (hp := ?hp); case hp => exact ⟨by decide, by decide⟩))
    exact ⟨m - 1, by omega, i + 1, by omega, ⟨[0], by decide, rfl⟩, rfl, rfl, rfl, trivial⟩
  · obtain rfl : i = cs.length := by omega
    rw [List.take_length]
    (refine gs_f tyT_ok ?hb ?_; case hb => first | exact decide_eq_false (by omega) | exact congrArg Bool.not (decide_eq_true (by omega)) | (simp; done) | (simp; omega))
    repeat (first | refine gs_n tyT_ok 0 ?_ | refine gs_gn tyT_ok 0 rfl ?_ | refine gs_no rfl ?_ | refine gs_end ?_ | refine gs_end' ?_ | refine gw_seq ?_ | refine gw_text rfl ?_ | refine gw_skip ?_ | refine gw_yes rfl ?_ | refine gw_no rfl ?_ | refine gw_exit ?_ | refine gw_block ?_ | refine gw_label ?_ | (refine gs_n tyT_ok 0 ?_ (hp := ?hp); case hp => exact ⟨by decide, by decide⟩))
    exact gw_ret ⟨_, _, [], [0], .tmp .nil, ⟨rfl, rfl, rfl⟩, rfl, rfl, by decide⟩
end Go.Proofs.Ytjefdcbljpkmlaa.G
end
