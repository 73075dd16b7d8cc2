/- laws.FnExactChunksPut: at every list of pieces the program's ChunksPut returns what the reference's returns, and leaves the list as it was. -/
import Derived.Test.YtdhpekdfpoeboaaDoorF3
import Derived.Test.YtdhpekdfpoeboaaDoorLibOk
set_option linter.unusedVariables false
set_option linter.unusedSimpArgs false
namespace Go.Proofs.YtdhpekdfpoeboaaDoor.Pure
open Go.RowKit Go.Proofs.YtdhpekdfpoeboaaDoor.P Go.Proofs.YtdhpekdfpoeboaaDoor.Lib Go.Proofs.YtdhpekdfpoeboaaDoorW.PrintWords Go.Proofs.YtdhpekdfpoeboaaDoorW.PrintLast Go.Proofs.YtdhpekdfpoeboaaDoorW.PrintMore
/-! ### sums -/
theorem land1' (n : Int) : Go.bits .and .i64 n 1 = n % 2 := by
  have h1 : (BitVec.ofInt 64 1).toNat = 2 ^ 1 - 1 := by decide
  have key : (BitVec.ofInt 64 n &&& BitVec.ofInt 64 1).toNat = (n % ((2 ^ 64 : Nat) : Int)).toNat % 2 ^ 1 := by
    rw [BitVec.toNat_and, BitVec.toNat_ofInt, h1, Nat.and_two_pow_sub_one_eq_mod]
  show IntKind.i64.wrap ((BitVec.ofInt 64 n &&& BitVec.ofInt 64 1).toNat : Int) = _
  rw [key, IntKind.wrap_i64]
  omega
theorem xor_range {a b : Int} (ha : 0 ≤ a ∧ a ≤ 4294967295) (hb : 0 ≤ b ∧ b ≤ 4294967295) : 0 ≤ Go.bits .xor .i64 a b ∧ Go.bits .xor .i64 a b ≤ 4294967295 := by
  obtain ⟨x, rfl⟩ := Int.eq_ofNat_of_zero_le ha.1
  obtain ⟨y, rfl⟩ := Int.eq_ofNat_of_zero_le hb.1
  rw [i64_xor_nat x y (by omega) (by omega)]
  have h : x ^^^ y < 2 ^ 32 := Nat.xor_lt_two_pow (by omega) (by omega)
  generalize x ^^^ y = z at h
  omega
theorem crc1_range {c : Int} (h : 0 ≤ c ∧ c ≤ 4294967295) : 0 ≤ crc1 c ∧ crc1 c ≤ 4294967295 := by
  unfold crc1
  have h2 : 0 ≤ c / 2 ∧ c / 2 ≤ 4294967295 := by omega
  split
  · exact xor_range h2 (by omega)
  · exact h2
theorem crcn_range (d : Nat) : ∀ {c : Int}, (0 ≤ c ∧ c ≤ 4294967295) → 0 ≤ crcn d c ∧ crcn d c ≤ 4294967295 := by
  induction d with
  | zero => intro c h; exact h
  | succ d ih => intro c h; exact ih (crc1_range h)
theorem crcl_range (l : List Int) : ∀ {c : Int}, (∀ x ∈ l, 0 ≤ x ∧ x ≤ 255) → (0 ≤ c ∧ c ≤ 4294967295) → 0 ≤ crcl l c ∧ crcl l c ≤ 4294967295 := by
  induction l with
  | nil => intro c _ h; exact h
  | cons b l ih =>
    intro c hb h
    have h1 := hb b List.mem_cons_self
    exact ih (fun x hx => hb x (List.mem_cons_of_mem _ hx)) (crcn_range 8 (xor_range h ⟨h1.1, by omega⟩))
theorem bytes_range (s : ByteArray) : ∀ x ∈ bytesOf s, 0 ≤ x ∧ x ≤ 255 := by
  intro x hx
  unfold bytesOf at hx
  obtain ⟨b, _, rfl⟩ := List.mem_map.1 hx
  have := UInt8.toNat_lt b
  omega
def crcv (s : ByteArray) : Int := if s.size ≤ 9000 then Go.bits .xor .i64 (crcl (bytesOf s) (Go.bits .xor .i64 0 4294967295)) 4294967295 else 0
theorem crcv_range (s : ByteArray) : 0 ≤ crcv s ∧ crcv s ≤ 4294967295 := by
  unfold crcv
  split
  · exact xor_range (crcl_range _ (bytes_range s) (xor_range (by omega) (by omega))) (by omega)
  · omega
theorem icrc_eq (s : ByteArray) : impl_Crc32.f s = some (crcv s) := by
  unfold impl_Crc32.f impl_CrcMore.f crcv
  by_cases h : s.size ≤ 9000
  · rw [if_pos h, if_pos (show crcOk 0 s from ⟨by omega, h⟩)]; rfl
  · rw [if_neg h, if_neg (show ¬ crcOk 0 s from fun z => h z.2)]; rfl
theorem scrc_l1 {P : Int → Prop} (s : ByteArray) (i : Nat) (d : Nat) : ∀ (j : Nat) (c : Int), j + d = 8 → (0 ≤ c ∧ c ≤ 4294967295) → i ≤ 9000 →
    Ok (fun k => spec_l2Crc.l0 k (crcn d c) s ((i + 1 : Nat) : Int)) P → Ok (fun k => spec_l2Crc.l1 k c s (i : Int) (j : Int)) P := by
  induction d with
  | zero =>
    intro j c hj hc hi k
    refine Ok.succ ?_
    simp only [spec_l2Crc.l1]
    rw [k_w i hi]
    exact Ok.no (by omega) k
  | succ d ih =>
    intro j c hj hc hi k
    have c1 : (j : Int) < 8 := by omega
    have e1 : wrap64 ((j : Int) + 1) = ((j + 1 : Nat) : Int) := k_w j (by omega)
    have e2 : wrap64 (Int.tdiv c 2) = c / 2 := by rw [tdiv_nn hc.1, w64 (by omega) (by omega)]
    have e3 : Int.tmod c 2 = c % 2 := tmod_nn hc.1
    have hr := crc1_range hc
    have hstep := ih (j + 1) (crc1 c) (by omega) hr hi k
    refine Ok.succ ?_
    simp only [spec_l2Crc.l1]
    refine Ok.yes c1 ?_
    rw [e1, e2, e3]
    unfold spec_l2Xor.f
    unfold crc1 at hstep
    rw [land1'] at hstep
    clear hr ih k e2 e3
    by_cases ho : c % 2 = 1
    · rw [if_pos ho] at hstep
      exact Ok.yes ho (Ok.binds rfl hstep)
    · rw [if_neg ho] at hstep
      exact Ok.no ho hstep
theorem scrc_l0 (s : ByteArray) (hs : s.size ≤ 9000) (d : Nat) : ∀ (i : Nat) (c : Int), i + d = s.size → (0 ≤ c ∧ c ≤ 4294967295) → Ok (fun k => spec_l2Crc.l0 k c s (i : Int)) (· = crcl ((bytesOf s).drop i) c) := by
  induction d with
  | zero =>
    intro i c hi hc
    rw [List.drop_eq_nil_of_le (by rw [bytesOf_length]; omega)]
    refine Ok.succ ?_
    simp only [spec_l2Crc.l0]
    exact Ok.no (by omega) (Ok.now _ rfl)
  | succ d ih =>
    intro i c hi hc
    have hl : i < (bytesOf s).length := by rw [bytesOf_length]; omega
    have e : (bytesOf s)[i] = bt s (i : Int) := by
      rw [← rd_bytesOf]
      unfold rd
      rw [Int.toNat_natCast, List.getD_eq_getElem?_getD, List.getElem?_eq_getElem hl, Option.getD_some]
    have hb := bt_range s (i : Int)
    have hx := xor_range hc (show 0 ≤ bt s (i : Int) ∧ bt s (i : Int) ≤ 4294967295 by omega)
    have h := ih (i + 1) (crcn 8 (Go.bits .xor .i64 c (bt s (i : Int)))) (by omega) (crcn_range 8 hx)
    rw [List.drop_eq_getElem_cons hl, e]
    simp only [crcl]
    refine Ok.succ ?_
    simp only [spec_l2Crc.l0]
    rw [bt_w]
    unfold spec_l2Xor.f
    exact Ok.yes (by clear hx h; omega) (Ok.yes (by clear hx h; omega) (Ok.binds rfl (scrc_l1 s i 8 0 _ rfl hx (by clear hx h; omega) h)))
theorem scrc_ok (s : ByteArray) : Ok (fun k => spec_Crc32.f k s) (· = crcv s) := by
  unfold spec_Crc32.f
  refine Ok.bind (P := (· = crcv s)) ?_ fun x hx => Ok.now _ hx
  unfold spec_CrcMore.f
  have hin : spec_l1In.f 0 0 4294967295 = some true := by unfold spec_l1In.f; rfl
  refine Ok.binds hin (Ok.yes rfl ?_)
  unfold crcv
  by_cases h : s.size ≤ 9000
  · rw [if_pos h, decide_eq_false (show ¬ (s.size : Int) > 9000 by omega)]
    refine Ok.succ ?_
    simp only [spec_CrcMore.j0]
    unfold spec_l2Xor.f
    refine Ok.no (by simp) (Ok.binds rfl ?_)
    refine Ok.bind (P := (· = crcl (bytesOf s) (Go.bits .xor .i64 0 4294967295))) ?_ fun x hx => ?_
    · unfold spec_l2Crc.f
      have h0 := scrc_l0 s h s.size 0 (Go.bits .xor .i64 0 4294967295) (by omega) (xor_range (by omega) (by omega))
      rw [List.drop_zero] at h0
      exact h0
    · subst hx
      exact Ok.binds rfl (Ok.now _ rfl)
  · rw [if_neg h, decide_eq_true (show (s.size : Int) > 9000 by omega)]
    refine Ok.succ ?_
    simp only [spec_CrcMore.j0]
    exact Ok.yes (by simp) (Ok.now _ rfl)
/-! ### names -/
theorem letter_iff : ∀ b : Fin 256, letters.data.toList.contains (UInt8.ofNat b.val) = (decide (97 ≤ b.val ∧ b.val ≤ 122) || decide (65 ≤ b.val ∧ b.val ≤ 90)) := by decide +kernel
theorem letter_of (b : UInt8) : letters.data.toList.contains b = (decide (97 ≤ b.toNat ∧ b.toNat ≤ 122) || decide (65 ≤ b.toNat ∧ b.toNat ≤ 90)) := by
  have h := letter_iff ⟨b.toNat, UInt8.toNat_lt b⟩
  simp only [UInt8.ofNat_toNat] at h
  exact h
def nameV (s : ByteArray) : Bool := decide (s.size = 4) && nameB s
theorem sname_l (s : ByteArray) (hs : s.size ≤ 9223372036854775000) (d : Nat) : ∀ i : Nat, i + d = s.size → Ok (fun k => spec_l9Name.l0 k s (i : Int)) (· = (((s.data.toList.drop i).all fun b => letters.data.toList.contains b) && decide (s.size = 4))) := by
  have hl : s.data.toList.length = s.size := by simp
  induction d with
  | zero =>
    intro i hi
    rw [List.drop_eq_nil_of_le (by omega)]
    refine Ok.succ ?_
    simp only [spec_l9Name.l0]
    refine Ok.no (by omega) (Ok.now _ ?_)
    by_cases h4 : s.size = 4
    · rw [h4]; rfl
    · rw [decide_eq_false h4, beq_eq_false_iff_ne.2 (show ¬ (s.size : Int) = 4 by omega)]; rfl
  | succ d ih =>
    intro i hi
    have hlt : i < s.size := by omega
    have hltl : i < s.data.toList.length := by omega
    have e1 : wrap64 ((i : Int) + 1) = ((i + 1 : Nat) : Int) := by rw [w64 (by omega) (by omega)] <;> omega
    have hb : bt s (i : Int) = ((s.data.toList[i]).toNat : Int) := by
      rw [bt_nat s i hlt]
      congr 1
    rw [List.drop_eq_getElem_cons hltl, List.all_cons, letter_of]
    obtain ⟨n, hn⟩ : ∃ n, (s.data.toList[i]).toNat = n := ⟨_, rfl⟩
    rw [hn] at hb ⊢
    have h := ih (i + 1) (by omega)
    clear ih hn
    have k1 : (i : Int) < (s.size : Int) := by omega
    have k2 : (0 : Int) ≤ (i : Int) := by omega
    refine Ok.succ ?_
    simp only [spec_l9Name.l0]
    refine Ok.yes k1 (Ok.yes k2 ?_)
    rw [hb, e1]
    clear hb e1 hltl hlt hl hs hi
    by_cases a1 : 97 ≤ n ∧ n ≤ 122
    · rw [decide_eq_true a1, Bool.true_or, Bool.true_and]
      exact Ok.yes (by omega) (Ok.yes (by omega) h)
    · rw [decide_eq_false a1, Bool.false_or]
      by_cases a2 : 65 ≤ n ∧ n ≤ 90
      · rw [decide_eq_true a2, Bool.true_and]
        exact Ok.no (by omega) (Ok.yes (by omega) (Ok.yes (by omega) h))
      · rw [decide_eq_false a2, Bool.false_and, Bool.false_and]
        refine Ok.ite (fun b1 => Ok.no (by omega) ?_) (fun b1 => ?_)
        · exact Ok.ite (fun b2 => Ok.no (by omega) (Ok.now _ rfl)) (fun b2 => Ok.now _ rfl)
        · exact Ok.ite (fun b2 => Ok.no (by omega) (Ok.now _ rfl)) (fun b2 => Ok.now _ rfl)
theorem sname_ok (s : ByteArray) (hs : s.size ≤ 9223372036854775000) : Ok (fun k => spec_l9Name.f k s) (· = nameV s) := by
  unfold spec_l9Name.f nameV
  refine (sname_l s hs s.size 0 (by omega)).mono fun r hr => ?_
  rw [hr, List.drop_zero, Bool.and_comm]
  rfl
theorem iname_eq (s : ByteArray) : impl_nameOk.f s = some (nameV s) := rfl
/-! ### numbers of four bytes -/
def num4 (n : Int) : ByteArray := strOfNums [n / 16777216 % 256, n / 65536 % 256, n / 256 % 256, n % 256]
theorem num4_size (n : Int) : (num4 n).size = 4 := by unfold num4; rw [strOfNums_size]; rfl
theorem nums_app (a b : List Int) : strOfNums a ++ strOfNums b = strOfNums (a ++ b) := by
  apply ByteArray.ext
  simp only [ByteArray.data_append]
  unfold strOfNums
  simp
theorem snum_ok (n : Int) (h : 0 ≤ n ∧ n ≤ 4294967295) : Ok (fun k => spec_l1Num.f k n 4 true) (· = num4 n) := by
  have q1 : Int.tmod n 256 % 256 = n % 256 := by rw [tmod_nn h.1]; omega
  have q2 : wrap64 (Int.tdiv n 256) = n / 256 := by rw [tdiv_nn h.1, w64 (by omega) (by omega)]
  have q3 : Int.tmod (n / 256) 256 % 256 = n / 256 % 256 := by rw [tmod_nn (by omega)]; omega
  have q4 : wrap64 (Int.tdiv (n / 256) 256) = n / 65536 := by rw [tdiv_nn (by omega), w64 (by omega) (by omega)]; omega
  have q5 : Int.tmod (n / 65536) 256 % 256 = n / 65536 % 256 := by rw [tmod_nn (by omega)]; omega
  have q6 : wrap64 (Int.tdiv (n / 65536) 256) = n / 16777216 := by rw [tdiv_nn (by omega), w64 (by omega) (by omega)]; omega
  have q7 : Int.tmod (n / 16777216) 256 % 256 = n / 16777216 % 256 := by rw [tmod_nn (by omega)]; omega
  have z : ∀ l : List Int, (strOfNums l).size = l.length := fun l => strOfNums_size l
  have e0 : (⟨#[]⟩ : ByteArray) = strOfNums [] := rfl
  unfold spec_l1Num.f
  rw [e0]
  refine Ok.succ ?_
  simp only [spec_l1Num.l0]
  rw [q1, q2, show wrap64 ((0 : Int) + 1) = 1 from by decide +kernel]
  refine Ok.yes (by omega) (Ok.binds rfl (Ok.yes (by simp) (Ok.yes (by rw [z, z]; simp) ?_)))
  rw [nums_app]
  refine Ok.succ ?_
  simp only [spec_l1Num.l0]
  rw [q3, q4, show wrap64 ((1 : Int) + 1) = 2 from by decide +kernel]
  refine Ok.yes (by omega) (Ok.binds rfl (Ok.yes (by simp) (Ok.yes (by rw [z, z]; simp) ?_)))
  rw [nums_app]
  refine Ok.succ ?_
  simp only [spec_l1Num.l0]
  rw [q5, q6, show wrap64 ((2 : Int) + 1) = 3 from by decide +kernel]
  refine Ok.yes (by omega) (Ok.binds rfl (Ok.yes (by simp) (Ok.yes (by rw [z, z]; simp) ?_)))
  rw [nums_app]
  refine Ok.succ ?_
  simp only [spec_l1Num.l0]
  rw [q7, show wrap64 ((3 : Int) + 1) = 4 from by decide +kernel]
  refine Ok.yes (by omega) (Ok.binds rfl (Ok.yes (by simp) (Ok.yes (by rw [z, z]; simp) ?_)))
  rw [nums_app]
  refine Ok.succ ?_
  simp only [spec_l1Num.l0]
  exact Ok.no (by omega) (Ok.now _ rfl)
theorem shr_of (n : Int) (e : Int) (z : Int) (he : 0 ≤ e ∧ e ≤ 60) (hz : (2 : Int) ^ e.toNat = z) : shr .i64 n e = n / z := by
  unfold shr
  show n / 2 ^ min e.toNat 64 = _
  rw [Nat.min_eq_left (by omega), hz]
theorem inum_ok (n : Int) (h : 0 ≤ n ∧ n ≤ 4294967295) : Ok (fun k => impl_NumPut.f k n 4 true) (· = num4 n) := by
  have hin : impl_in.f 4 1 4 = some true := by unfold impl_in.f; rfl
  have hsh : shl .i64 1 32 = 4294967296 := by decide
  have hin2 : impl_in.f n 0 4294967295 = some true := by unfold impl_in.f; rw [if_pos h.1, decide_eq_true h.2]
  unfold impl_NumPut.f
  refine Ok.binds hin (Ok.yes rfl ?_)
  rw [show wrap64 (8 * (4 : Int)) = 32 from by decide +kernel, hsh, show wrap64 ((4294967296 : Int) - 1) = 4294967295 from by decide +kernel]
  refine Ok.yes (by omega) (Ok.binds hin2 (Ok.succ ?_))
  simp only [impl_NumPut.j0]
  refine Ok.no (by simp) (Ok.yes (by omega) (Ok.yes (by decide) (Ok.binds rfl ?_)))
  have f0 : shr .i64 n 0 % 256 = n % 256 := by rw [shr_of n 0 1 (by omega) (by decide)]; omega
  have f1 : shr .i64 n 8 % 256 = n / 256 % 256 := by rw [shr_of n 8 256 (by omega) (by decide)]
  have f2 : shr .i64 n 16 % 256 = n / 65536 % 256 := by rw [shr_of n 16 65536 (by omega) (by decide)]
  have f3 : shr .i64 n 24 % 256 = n / 16777216 % 256 := by rw [shr_of n 24 16777216 (by omega) (by decide)]
  have er : (List.replicate (4 : Int).toNat 0 : List Int) = [0, 0, 0, 0] := rfl
  rw [er, show ((([0, 0, 0, 0] : List Int).length : Nat) : Int) = 4 from rfl]
  refine Ok.succ ?_
  simp only [impl_NumPut.l0]
  rw [show wrap64 (8 * (0 : Int)) = 0 from by decide +kernel, show wrap64 (wrap64 ((4 : Int) - 1) - 0) = 3 from by decide +kernel, f0, show wrap64 ((0 : Int) + 1) = 1 from by decide +kernel]
  refine Ok.yes (by omega) (Ok.yes (by simp) (Ok.yes (by omega) (Ok.yes (by omega) (Ok.yes (by decide) ?_))))
  refine Ok.succ ?_
  simp only [impl_NumPut.l0]
  rw [show wrap64 (8 * (1 : Int)) = 8 from by decide +kernel, show wrap64 (wrap64 ((4 : Int) - 1) - 1) = 2 from by decide +kernel, f1, show wrap64 ((1 : Int) + 1) = 2 from by decide +kernel]
  refine Ok.yes (by omega) (Ok.yes (by simp) (Ok.yes (by omega) (Ok.yes (by omega) (Ok.yes (by rw [List.length_set]; decide) ?_))))
  refine Ok.succ ?_
  simp only [impl_NumPut.l0]
  rw [show wrap64 (8 * (2 : Int)) = 16 from by decide +kernel, show wrap64 (wrap64 ((4 : Int) - 1) - 2) = 1 from by decide +kernel, f2, show wrap64 ((2 : Int) + 1) = 3 from by decide +kernel]
  refine Ok.yes (by omega) (Ok.yes (by simp) (Ok.yes (by omega) (Ok.yes (by omega) (Ok.yes (by rw [List.length_set, List.length_set]; decide) ?_))))
  refine Ok.succ ?_
  simp only [impl_NumPut.l0]
  rw [show wrap64 (8 * (3 : Int)) = 24 from by decide +kernel, show wrap64 (wrap64 ((4 : Int) - 1) - 3) = 0 from by decide +kernel, f3, show wrap64 ((3 : Int) + 1) = 4 from by decide +kernel]
  refine Ok.yes (by omega) (Ok.yes (by simp) (Ok.yes (by omega) (Ok.yes (by omega) (Ok.yes (by rw [List.length_set, List.length_set, List.length_set]; decide) ?_))))
  refine Ok.succ ?_
  simp only [impl_NumPut.l0]
  exact Ok.no (by omega) (Ok.now _ rfl)

/-! ### pieces -/
def pieceT (c : S41) : ByteArray := num4 (c.f1.size : Int) ++ c.f0 ++ c.f1 ++ num4 (crcv (c.f0 ++ c.f1))
theorem pieceT_size (c : S41) : (pieceT c).size = 8 + c.f0.size + c.f1.size := by
  unfold pieceT
  rw [ByteArray.size_append, ByteArray.size_append, ByteArray.size_append, num4_size, num4_size]
  omega
theorem itext_ok (c : S41) (h0 : c.f0.size ≤ 1048576) (h1 : c.f1.size ≤ 1048576) : Ok (fun k => impl_Chunk_text.f k c.f0 c.f1) (· = pieceT c) := by
  unfold impl_Chunk_text.f
  refine (inum_ok (c.f1.size : Int) (by omega)).bind fun x hx => ?_
  subst hx
  have z1 := num4_size (c.f1.size : Int)
  refine Ok.yes (by rw [z1]; omega) (Ok.yes (by rw [ByteArray.size_append, z1]; omega) (Ok.yes (by omega) (Ok.binds (icrc_eq _) ?_)))
  refine (inum_ok _ (crcv_range _)).bind fun x hx => ?_
  subst hx
  exact Ok.yes (by rw [ByteArray.size_append, ByteArray.size_append, z1, num4_size]; omega) (Ok.now _ rfl)
def sign8 : ByteArray := strOfNums [137, 80, 78, 71, 13, 10, 26, 10]
/-- The pieces' texts behind a text. -/
def piecesT : List S41 → ByteArray → ByteArray
  | [], x => x
  | c :: l, x => piecesT l (x ++ pieceT c)
/-- May pieces be written, n bytes being told already? -/
def piecesOk : List S41 → Nat → Bool
  | [], _ => true
  | c :: l, n => nameV c.f0 && (decide (n + 12 + c.f1.size ≤ 9000) && piecesOk l (n + 12 + c.f1.size))
def putV (l : List S41) : ByteArray := if piecesOk l 8 = true then piecesT l sign8 else ⟨#[]⟩
theorem rd_at {l : List S41} {i : Nat} (h : i < l.length) : l.drop i = rd_T41 l (i : Int) :: l.drop (i + 1) := by
  rw [List.drop_eq_getElem_cons h]
  show _ = l.getD (i : Int).toNat z41 :: _
  rw [Int.toNat_natCast, List.getD_eq_getElem?_getD, List.getElem?_eq_getElem h, Option.getD_some]
theorem rd_in {l : List S41} {i : Nat} (h : i < l.length) : rd_T41 l (i : Int) ∈ l := by
  show l.getD (i : Int).toNat z41 ∈ l
  rw [Int.toNat_natCast, List.getD_eq_getElem?_getD, List.getElem?_eq_getElem h, Option.getD_some]
  exact List.getElem_mem h
section
variable (l : List S41) (hl : l.length ≤ 1048576) (hb : ∀ c ∈ l, c.f0.size ≤ 1048576 ∧ c.f1.size ≤ 1048576)
include hl hb
theorem swrite_l (d : Nat) : ∀ (i : Nat) (x : ByteArray), i + d = l.length → x.size ≤ 3000000 * i + 100 → Ok (fun k => spec_l9Chunks.l0 k l x (i : Int)) (· = piecesT (l.drop i) x) := by
  induction d with
  | zero =>
    intro i x hi hx
    rw [List.drop_eq_nil_of_le (by omega)]
    refine Ok.succ ?_
    simp only [spec_l9Chunks.l0]
    exact Ok.no (by omega) (Ok.now _ rfl)
  | succ d ih =>
    intro i x hi hx
    have hlt : i < l.length := by omega
    rw [rd_at hlt]
    have hbc := hb _ (rd_in hlt)
    have e1 : wrap64 ((i : Int) + 1) = ((i + 1 : Nat) : Int) := by rw [w64 (by omega) (by omega)] <;> omega
    obtain ⟨c, hc⟩ : ∃ c, rd_T41 l (i : Int) = c := ⟨_, rfl⟩
    rw [hc] at hbc ⊢
    have z1 := num4_size (c.f1.size : Int)
    have z2 := num4_size (crcv (c.f0 ++ c.f1))
    have zp := pieceT_size c
    refine Ok.succ ?_
    simp only [spec_l9Chunks.l0]
    refine Ok.yes (by omega) (Ok.yes (by omega) ?_)
    rw [hc, e1]
    refine Ok.yes (by omega) ?_
    refine (snum_ok (c.f1.size : Int) (by omega)).bind fun y hy => ?_
    subst hy
    refine Ok.yes (by rw [z1]; omega) (Ok.yes (by rw [ByteArray.size_append, ByteArray.size_append, z1]; omega) ?_)
    refine (scrc_ok _).bind fun y hy => ?_
    subst hy
    refine (snum_ok _ (crcv_range _)).bind fun y hy => ?_
    subst hy
    refine Ok.yes (by rw [ByteArray.size_append, ByteArray.size_append, ByteArray.size_append, z1, z2]; omega) ?_
    have h := ih (i + 1) (x ++ pieceT c) (by omega) (by rw [ByteArray.size_append, zp]; omega)
    have ea : x ++ num4 (c.f1.size : Int) ++ (c.f0 ++ c.f1) ++ num4 (crcv (c.f0 ++ c.f1)) = x ++ pieceT c := by
      unfold pieceT
      simp only [ByteArray.append_assoc]
    rw [ea]
    exact h
theorem iwrite_l (d : Nat) : ∀ (i : Nat) (x : ByteArray), i + d = l.length → x.size ≤ 3000000 * i + 100 → Ok (fun k => impl_ChunksPut.l1 k x l (l.length : Int) (i : Int)) (· = piecesT (l.drop i) x) := by
  induction d with
  | zero =>
    intro i x hi hx
    rw [List.drop_eq_nil_of_le (by omega)]
    refine Ok.succ ?_
    simp only [impl_ChunksPut.l1]
    exact Ok.no (by omega) (Ok.now _ rfl)
  | succ d ih =>
    intro i x hi hx
    have hlt : i < l.length := by omega
    rw [rd_at hlt]
    have hbc := hb _ (rd_in hlt)
    have e1 : wrap64 ((i : Int) + 1) = ((i + 1 : Nat) : Int) := by rw [w64 (by omega) (by omega)] <;> omega
    obtain ⟨c, hc⟩ : ∃ c, rd_T41 l (i : Int) = c := ⟨_, rfl⟩
    rw [hc] at hbc ⊢
    have zp := pieceT_size c
    refine Ok.succ ?_
    simp only [impl_ChunksPut.l1]
    refine Ok.yes (by omega) (Ok.yes (by omega) (Ok.yes (by omega) ?_))
    rw [hc, e1]
    refine (itext_ok c hbc.1 hbc.2).bind fun y hy => ?_
    subst hy
    refine Ok.yes (by rw [zp]; omega) ?_
    exact ih (i + 1) (x ++ pieceT c) (by omega) (by rw [ByteArray.size_append, zp]; omega)
theorem sput_l (d : Nat) : ∀ (i n : Nat), i + d = l.length → n ≤ 9000 → (piecesOk l 8 = piecesOk (l.drop i) n) → Ok (fun k => spec_ChunksPut.l0 k l (n : Int) (i : Int)) (· = putV l) := by
  induction d with
  | zero =>
    intro i n hi hn ha
    rw [List.drop_eq_nil_of_le (by omega)] at ha
    refine Ok.succ ?_
    simp only [spec_ChunksPut.l0]
    refine Ok.no (by omega) ?_
    unfold putV
    rw [if_pos (show piecesOk l 8 = true from ha)]
    refine Ok.bind (P := (· = piecesT l sign8)) ?_ fun x hx => Ok.now _ hx
    unfold spec_l9Chunks.f spec_l9Sign.f
    refine Ok.binds rfl ?_
    have h := swrite_l l hl hb l.length 0 sign8 (by omega) (by decide)
    rw [List.drop_zero] at h
    exact h
  | succ d ih =>
    intro i n hi hn ha
    have hlt : i < l.length := by omega
    rw [rd_at hlt] at ha
    have hbc := hb _ (rd_in hlt)
    have e1 : wrap64 ((i : Int) + 1) = ((i + 1 : Nat) : Int) := by rw [w64 (by omega) (by omega)] <;> omega
    obtain ⟨c, hc⟩ : ∃ c, rd_T41 l (i : Int) = c := ⟨_, rfl⟩
    rw [hc] at hbc ha
    simp only [piecesOk] at ha
    have e2 : wrap64 (wrap64 ((n : Int) + 12) + (c.f1.size : Int)) = ((n + 12 + c.f1.size : Nat) : Int) := by rw [w64 (x := (n : Int) + 12) (by omega) (by omega), w64 (by omega) (by omega)]; omega
    refine Ok.succ ?_
    simp only [spec_ChunksPut.l0]
    refine Ok.yes (by omega) (Ok.yes (by omega) ?_)
    rw [hc, e1, e2]
    refine (sname_ok c.f0 (by omega)).bind fun y hy => ?_
    subst hy
    cases hnm : nameV c.f0 with
    | false =>
      rw [hnm, Bool.false_and] at ha
      refine Ok.no (by simp) (Ok.now _ ?_)
      unfold putV
      rw [if_neg (by rw [ha]; exact Bool.false_ne_true)]
    | true =>
      rw [hnm, Bool.true_and] at ha
      refine Ok.yes rfl (Ok.ite (fun g => Ok.now _ ?_) (fun g => ?_))
      · rw [decide_eq_false (by omega), Bool.false_and] at ha
        unfold putV
        rw [if_neg (by rw [ha]; exact Bool.false_ne_true)]
      · rw [decide_eq_true (by omega), Bool.true_and] at ha
        exact ih (i + 1) _ (by omega) (by omega) ha
theorem iput_l (d : Nat) : ∀ (i n : Nat), i + d = l.length → n ≤ 9000 → (piecesOk l 8 = piecesOk (l.drop i) n) → Ok (fun k => impl_ChunksPut.l0 k l (n : Int) l (l.length : Int) (i : Int)) (· = putV l) := by
  induction d with
  | zero =>
    intro i n hi hn ha
    rw [List.drop_eq_nil_of_le (by omega)] at ha
    refine Ok.succ ?_
    simp only [impl_ChunksPut.l0]
    refine Ok.no (by omega) ?_
    unfold putV
    rw [if_pos (show piecesOk l 8 = true from ha)]
    have h := iwrite_l l hl hb l.length 0 sign8 (by omega) (by decide)
    rw [List.drop_zero] at h
    exact h
  | succ d ih =>
    intro i n hi hn ha
    have hlt : i < l.length := by omega
    rw [rd_at hlt] at ha
    have hbc := hb _ (rd_in hlt)
    have e1 : wrap64 ((i : Int) + 1) = ((i + 1 : Nat) : Int) := by rw [w64 (by omega) (by omega)] <;> omega
    obtain ⟨c, hc⟩ : ∃ c, rd_T41 l (i : Int) = c := ⟨_, rfl⟩
    rw [hc] at hbc ha
    simp only [piecesOk] at ha
    have e2 : wrap64 ((n : Int) + wrap64 (12 + (c.f1.size : Int))) = ((n + 12 + c.f1.size : Nat) : Int) := by rw [w64 (x := 12 + (c.f1.size : Int)) (by omega) (by omega), w64 (by omega) (by omega)]; omega
    refine Ok.succ ?_
    simp only [impl_ChunksPut.l0]
    refine Ok.yes (by omega) (Ok.yes (by omega) (Ok.yes (by omega) ?_))
    rw [hc, e1, e2]
    refine Ok.binds (iname_eq c.f0) ?_
    cases hnm : nameV c.f0 with
    | false =>
      rw [hnm, Bool.false_and] at ha
      refine Ok.no (by simp) (Ok.now _ ?_)
      unfold putV
      rw [if_neg (by rw [ha]; exact Bool.false_ne_true)]
    | true =>
      rw [hnm, Bool.true_and] at ha
      refine Ok.yes rfl (Ok.ite (fun g => Ok.now _ ?_) (fun g => ?_))
      · rw [decide_eq_false (by omega), Bool.false_and] at ha
        unfold putV
        rw [if_neg (by rw [ha]; exact Bool.false_ne_true)]
      · rw [decide_eq_true (by omega), Bool.true_and] at ha
        exact ih (i + 1) _ (by omega) (by omega) ha
theorem sput_ok : Ok (fun k => spec_ChunksPut.f k l) (· = putV l) := by
  unfold spec_ChunksPut.f
  exact sput_l l hl hb l.length 0 8 (by omega) (by omega) (by rw [List.drop_zero])
theorem iput_ok : Ok (fun k => impl_ChunksPut.f k l) (· = putV l) := by
  unfold impl_ChunksPut.f
  exact iput_l l hl hb l.length 0 8 (by omega) (by omega) (by rw [List.drop_zero])
end

def asChunk (c : S40) : S41 := ⟨c.f0, c.f1⟩
theorem tochunk_run (l : List S40) (hl : l.length ≤ 1048576) (d : Nat) : ∀ (i : Nat), i + d = l.length → Ok (fun n => laws_toChunkS.l0 n l ((l.take i).map asChunk ++ List.replicate d z41) (i : Int)) (· = l.map asChunk) := by
  induction d with
  | zero =>
    intro i hi
    refine Ok.succ ?_
    simp only [laws_toChunkS.l0]
    have c1 : ¬ (i : Int) < (l.length : Int) := by omega
    refine Ok.no c1 ?_
    rw [List.take_of_length_le (by omega)]
    exact Ok.now _ (by simp)
  | succ d ih =>
    intro i hi
    have hlt : i < l.length := by omega
    have c1 : (i : Int) < (l.length : Int) := by omega
    have c2 : (0 : Int) ≤ (i : Int) := by omega
    have hlen : ((l.take i).map asChunk ++ List.replicate (d + 1) z41).length = l.length := by simp; omega
    have c3 : (i : Int) < (((l.take i).map asChunk ++ List.replicate (d + 1) z41).length : Int) := by rw [hlen]; exact c1
    have e1 : wrap64 ((i : Int) + 1) = ((i + 1 : Nat) : Int) := by rw [w64 (by omega) (by omega)] <;> omega
    refine Ok.succ ?_
    simp only [laws_toChunkS.l0]
    refine Ok.yes c1 (Ok.yes c2 ?_)
    have hr : rd_T40 l (i : Int) = l[i] := by
      show l.getD (i : Int).toNat z40 = _
      rw [Int.toNat_natCast, List.getD_eq_getElem?_getD, List.getElem?_eq_getElem hlt, Option.getD_some]
    rw [hr]
    unfold laws_toChunk.f
    refine Ok.binds rfl (Ok.yes c3 ?_)
    rw [e1, Int.toNat_natCast]
    have e2 : ((l.take i).map asChunk ++ List.replicate (d + 1) z41).set i (⟨l[i].f0, l[i].f1⟩ : S41) = (l.take (i + 1)).map asChunk ++ List.replicate d z41 := by
      have ht : ((l.take i).map asChunk).length = i := by rw [List.length_map, List.length_take]; omega
      rw [List.set_append, if_neg (by omega), ht, Nat.sub_self, List.replicate_succ, List.set_cons_zero, List.take_add_one, List.getElem?_eq_getElem hlt, Option.toList_some, List.map_append, List.append_assoc]
      rfl
    rw [e2]
    exact ih (i + 1) (by omega)
theorem tochunk_ok (l : List S40) (hl : l.length ≤ 1048576) : Ok (fun n => laws_toChunkS.f n l) (· = l.map asChunk) := by
  unfold laws_toChunkS.f
  have c1 : (0 : Int) ≤ (l.length : Int) := by omega
  have c2 : ((l.length : Int)).toNat ≤ 8796093022208 := by omega
  refine Ok.yes c1 (Ok.yes c2 ?_)
  have h := tochunk_run l hl l.length 0 (by omega)
  rw [List.take_zero, List.map_nil, List.nil_append] at h
  rw [Int.toNat_natCast]
  exact h
theorem eqchunk_run (l : List S41) (hl : l.length ≤ 1048576) (d : Nat) : ∀ (i : Nat), i + d = l.length → Ok (fun n => laws_eqChunkS.l0 n l l (i : Int)) (· = true) := by
  induction d with
  | zero =>
    intro i hi
    refine Ok.succ ?_
    simp only [laws_eqChunkS.l0]
    have c1 : ¬ (i : Int) < (l.length : Int) := by omega
    exact Ok.no c1 (Ok.now _ rfl)
  | succ d ih =>
    intro i hi
    have c1 : (i : Int) < (l.length : Int) := by omega
    have c2 : (0 : Int) ≤ (i : Int) := by omega
    have e1 : wrap64 ((i : Int) + 1) = ((i + 1 : Nat) : Int) := by rw [w64 (by omega) (by omega)] <;> omega
    have he : ∀ x y : ByteArray, laws_eqChunk.f x y x y = some true := fun x y => by unfold laws_eqChunk.f; rw [if_pos rfl, if_pos rfl]
    refine Ok.succ ?_
    simp only [laws_eqChunkS.l0]
    refine Ok.yes c1 (Ok.yes c2 (Ok.yes c1 (Ok.binds (he _ _) (Ok.yes rfl ?_))))
    rw [e1]
    exact ih (i + 1) (by omega)
theorem eqchunk_ok (l : List S41) (hl : l.length ≤ 1048576) : Ok (fun n => laws_eqChunkS.f n l l) (· = true) := by
  unfold laws_eqChunkS.f
  exact Ok.yes rfl (eqchunk_run l hl l.length 0 (by omega))
/-- The sum of the sizes: below nought, or no piece is longer than a million. -/
theorem sz_run (l : List S40) (hl : l.length ≤ 1048576) (hb : ∀ c ∈ l, c.f0.size ≤ 9223372036854775807 ∧ c.f1.size ≤ 9223372036854775807) (d : Nat) : ∀ (i : Nat) (left : Int), i + d = l.length → 0 ≤ left → left ≤ 1048576 →
    Ok (fun n => laws_szChunkS.l0 n l left (i : Int)) (fun r => r < 0 ∨ ∀ c ∈ l.drop i, c.f0.size ≤ 1048576 ∧ c.f1.size ≤ 1048576) := by
  induction d with
  | zero =>
    intro i left hi h0 h1
    refine Ok.succ ?_
    simp only [laws_szChunkS.l0]
    have c1 : ¬ (i : Int) < (l.length : Int) := by omega
    refine Ok.no c1 (Ok.now _ (.inr ?_))
    rw [List.drop_eq_nil_of_le (by omega)]
    intro c hc
    cases hc
  | succ d ih =>
    intro i left hi h0 h1
    have hlt : i < l.length := by omega
    have c1 : (i : Int) < (l.length : Int) := by omega
    have c2 : (0 : Int) ≤ (i : Int) := by omega
    have e1 : wrap64 ((i : Int) + 1) = ((i + 1 : Nat) : Int) := by rw [w64 (by omega) (by omega)] <;> omega
    have hr : rd_T40 l (i : Int) = l[i] := by
      show l.getD (i : Int).toNat z40 = _
      rw [Int.toNat_natCast, List.getD_eq_getElem?_getD, List.getElem?_eq_getElem hlt, Option.getD_some]
    have hbi := hb _ (List.getElem_mem hlt)
    obtain ⟨c, hc⟩ : ∃ c, l[i] = c := ⟨_, rfl⟩
    have hdrop : l.drop i = c :: l.drop (i + 1) := by rw [List.drop_eq_getElem_cons hlt, hc]
    rw [hc] at hr hbi
    rw [hdrop]
    have q1 : wrap64 (left - (c.f0.size : Int)) = left - (c.f0.size : Int) := w64 (by omega) (by omega)
    refine Ok.succ ?_
    simp only [laws_szChunkS.l0]
    refine Ok.yes c1 (Ok.yes c2 ?_)
    rw [hr, e1]
    unfold laws_szChunk.f
    rw [q1]
    by_cases g1 : left - (c.f0.size : Int) < 0
    · simp only [if_pos g1]
      exact Ok.binds rfl (Ok.yes (by omega) (Ok.now _ (.inl (by omega))))
    · have q2 : wrap64 (left - (c.f0.size : Int) - (c.f1.size : Int)) = left - (c.f0.size : Int) - (c.f1.size : Int) := w64 (by omega) (by omega)
      rw [q2]
      simp only [if_neg g1]
      by_cases g2 : left - (c.f0.size : Int) - (c.f1.size : Int) < 0
      · simp only [if_pos g2]
        exact Ok.binds rfl (Ok.yes (by omega) (Ok.now _ (.inl (by omega))))
      · simp only [if_neg g2]
        refine Ok.binds rfl (Ok.no (by omega) ?_)
        refine (ih (i + 1) _ (by omega) (by omega) (by omega)).mono fun r hr2 => ?_
        rcases hr2 with hr2 | hr2
        · exact .inl hr2
        · refine .inr fun x hx => ?_
          rcases List.mem_cons.1 hx with rfl | hx
          · exact ⟨by omega, by omega⟩
          · exact hr2 x hx
/-- No condition but that the list and its texts are such as a machine can hold. -/
theorem FnExactChunksPut (l : List S40) (hl : l.length ≤ 9223372036854775807) (hb : ∀ c ∈ l, c.f0.size ≤ 9223372036854775807 ∧ c.f1.size ≤ 9223372036854775807) : ∃ k, laws_FnExactChunksPut.f k l = some true := by
  apply Ok.rounds
  unfold laws_FnExactChunksPut.f laws_szChunkS.f
  have e1 : wrap64 (1048576 - (l.length : Int)) = 1048576 - (l.length : Int) := w64 (by omega) (by omega)
  rw [e1]
  by_cases hbig : 1048576 - (l.length : Int) < 0
  · simp only [if_pos hbig]
    exact Ok.binds rfl (Ok.yes (by omega) (Ok.now _ rfl))
  · simp only [if_neg hbig]
    have hl2 : l.length ≤ 1048576 := by omega
    refine (sz_run l hl2 hb l.length 0 _ (by omega) (by omega) (by omega)).bind fun r hr => ?_
    refine Ok.ite (fun h => Ok.now _ rfl) (fun h => ?_)
    have hsm : ∀ c ∈ l.map asChunk, c.f0.size ≤ 1048576 ∧ c.f1.size ≤ 1048576 := by
      rcases hr with hr | hr
      · exact absurd hr h
      · rw [List.drop_zero] at hr
        intro c hc
        obtain ⟨x, hx, rfl⟩ := List.mem_map.1 hc
        exact hr x hx
    have hlm : (l.map asChunk).length ≤ 1048576 := by rw [List.length_map]; exact hl2
    refine (tochunk_ok l hl2).bind fun x hx => ?_
    subst hx
    refine (sput_ok _ hlm hsm).bind fun y hy => ?_
    subst hy
    refine (tochunk_ok l hl2).bind fun x hx => ?_
    subst hx
    refine (iput_ok _ hlm hsm).bind fun y hy => ?_
    subst hy
    refine Ok.yes rfl ?_
    refine (tochunk_ok l hl2).bind fun x hx => ?_
    subst hx
    refine (eqchunk_ok _ hlm).bind fun x hx => ?_
    subst hx
    exact Ok.yes rfl (Ok.now _ rfl)
end Go.Proofs.YtdhpekdfpoeboaaDoor.Pure
