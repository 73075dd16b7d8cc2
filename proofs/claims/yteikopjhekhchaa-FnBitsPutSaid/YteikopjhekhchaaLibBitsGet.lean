/- The reference's BitsPut tells what the program's tells; what BitsPut put BitsGet reads. -/
import Derived.Test.YteikopjhekhchaaF40
import Derived.Test.YteikopjhekhchaaF45
import Derived.Test.YteikopjhekhchaaLibRead
set_option linter.unusedVariables false
set_option linter.unusedSimpArgs false
namespace Go.Proofs.Yteikopjhekhchaa.Pure
open Go.RowKit Go.Proofs.Yteikopjhekhchaa.P Go.Proofs.Yteikopjhekhchaa.Lib Go.Proofs.YteikopjhekhchaaW.PrintWords Go.Proofs.YteikopjhekhchaaW.PrintLast Go.Proofs.YteikopjhekhchaaW.PrintMore

theorem sin_eq0 (x a1 : Int) : spec_l1In.f x 0 a1 = some (decide (0 ≤ x) && decide (x ≤ a1)) := by
  unfold spec_l1In.f
  by_cases h : x ≥ 0
  · have h' : 0 ≤ x := h
    rw [if_pos h]; simp [h']
  · have h' : ¬ 0 ≤ x := h
    rw [if_neg h]; simp [h']
theorem l1Ok_ok (b : S59) : Ok (fun k => spec_l1Ok.f k b.f0 b.f1) (· = bitOk b) := by
  unfold spec_l1Ok.f bitOk bitIn
  rw [sin_eq0]
  refine Ok.binds rfl ?_
  by_cases h0 : 0 ≤ b.f1
  · by_cases h1 : b.f1 ≤ 24
    · rw [decide_eq_true h0, decide_eq_true h1]
      refine Ok.yes rfl ?_
      obtain ⟨n, hn⟩ := Int.eq_ofNat_of_zero_le h0
      rw [hn, Int.toNat_natCast]
      refine (pow_ok n (by omega)).bind fun x hx => ?_
      subst hx
      have p1 := pow2_1 n
      have p2 := pow2_le (show n ≤ 62 by omega)
      have e : wrap64 ((2 : Int) ^ n - 1) = 2 ^ n - 1 := w64 (by omega) (by omega)
      rw [e, sin_eq0]
      exact Ok.now _ rfl
    · rw [decide_eq_false h1]
      exact Ok.no (by simp) (Ok.now _ (by simp))
  · rw [decide_eq_false h0]
    exact Ok.no (by simp) (Ok.now _ (by simp))
theorem bitOk_size {b : S59} (h : bitOk b = true) : sizeOk b ∧ b.f1 ≤ 24 ∧ b.f0 < 2 ^ b.f1.toNat := by
  unfold bitOk bitIn at h
  simp only [Bool.and_eq_true, decide_eq_true_eq] at h
  obtain ⟨⟨h1, h2⟩, h3, h4⟩ := h
  have hp := pow2_32 (D := b.f1.toNat) (by omega)
  unfold sizeOk
  exact ⟨⟨h3, by omega, h1, by omega⟩, h2, by omega⟩
theorem all_mem {l : List S59} (h : l.all bitOk = true) : ∀ b ∈ l, bitOk b = true := List.all_eq_true.1 h
theorem bscan (l : List S59) (high : Bool) (hl : l.length ≤ 1000000) (d : Nat) : ∀ (i : Nat) (s : Int), i + d = l.length → 0 ≤ s → s ≤ 72000 → (l.all bitOk = (l.drop i).all bitOk) → bitsSum l = s + bitsSum (l.drop i) →
    Ok (fun n => spec_BitsPut.l0 n l high s (i : Int)) (· = if l.all bitOk = true then (if bitsSum l > 72000 then ⟨#[]⟩ else strOfNums (pkBits high l [] 0)) else ⟨#[]⟩) := by
  induction d with
  | zero =>
    intro i s hi h0 h1 ha hs
    rw [List.drop_eq_nil_of_le (by omega)] at ha hs
    simp only [List.all_nil, bitsSum, Int.add_zero] at ha hs
    have c1 : ¬ (i : Int) < (l.length : Int) := by omega
    have c2 : ¬ bitsSum l > 72000 := by omega
    rw [if_pos ha, if_neg c2]
    refine Ok.succ ?_
    simp only [spec_BitsPut.l0]
    refine Ok.no c1 ?_
    exact (l1Put_ok l high hl (fun b hb => (bitOk_size (all_mem ha b hb)).1) (by omega)).bind fun x hx => Ok.now _ hx
  | succ d ih =>
    intro i s hi h0 h1 ha hs
    have hlt : i < l.length := by omega
    have c1 : (i : Int) < (l.length : Int) := by omega
    have c2 : (0 : Int) ≤ (i : Int) := by omega
    have e1 : wrap64 ((i : Int) + 1) = ((i + 1 : Nat) : Int) := by rw [w64 (by omega) (by omega)] <;> omega
    have hc : l.drop i = l[i] :: l.drop (i + 1) := List.drop_eq_getElem_cons hlt
    have he : rd_T59 l (i : Int) = l[i] := by
      show l.getD (i : Int).toNat z59 = _
      rw [Int.toNat_natCast, List.getD_eq_getElem?_getD, List.getElem?_eq_getElem hlt]; rfl
    rw [hc] at ha hs
    obtain ⟨b, hb⟩ : ∃ b, l[i] = b := ⟨_, rfl⟩
    rw [hb] at ha hs he
    simp only [List.all_cons, bitsSum] at ha hs
    refine Ok.succ ?_
    simp only [spec_BitsPut.l0]
    refine Ok.yes c1 (Ok.yes c2 ?_)
    rw [he, e1]
    refine (l1Ok_ok b).bind fun x hx => ?_
    subst hx
    cases hok : bitOk b with
    | false =>
      rw [hok, Bool.false_and] at ha
      rw [if_neg (by rw [ha]; exact Bool.false_ne_true)]
      exact Ok.no Bool.false_ne_true (Ok.now _ rfl)
    | true =>
      have hz := (bitOk_size hok)
      have hz1 := hz.1.2.2.1
      have hz2 := hz.2.1
      clear hz
      rw [hok, Bool.true_and] at ha
      have e2 : wrap64 (s + b.f1) = s + b.f1 := w64 (by omega) (by omega)
      refine Ok.yes rfl ?_
      rw [e2]
      refine Ok.ite (fun h => Ok.now _ ?_) (fun h => ?_)
      · by_cases hall : l.all bitOk = true
        · have hn := bitsSum_nonneg (l.drop (i + 1)) (fun x hx => (bitOk_size (all_mem hall x (List.mem_of_mem_drop hx))).1)
          rw [if_pos hall, if_pos (by omega)]
        · rw [if_neg hall]
      · exact ih (i + 1) (s + b.f1) (by omega) (by omega) (by omega) ha (by omega)
theorem bitsPut_ok (l : List S59) (high : Bool) (hl : l.length ≤ 1000000) : ∃ r, impl_BitsPut.f l high = some r ∧ Ok (fun n => spec_BitsPut.f n l high) (· = r) := by
  unfold impl_BitsPut.f spec_BitsPut.f
  rw [if_pos (by omega)]
  refine ⟨if l.all bitOk = true then (if bitsSum l > 72000 then ⟨#[]⟩ else strOfNums (pkBits high l [] 0)) else ⟨#[]⟩, ?_, ?_⟩
  · split
    · split <;> rfl
    · rfl
  · exact bscan l high hl l.length 0 0 (by omega) (by omega) (by omega) (by rw [List.drop_zero]) (by rw [List.drop_zero]; omega)

/-! ### where each number stands -/
def natSum : List S59 → Nat
  | [] => 0
  | b :: l => b.f1.toNat + natSum l
theorem natSum_eq : ∀ l : List S59, (∀ b ∈ l, sizeOk b) → (natSum l : Int) = bitsSum l
  | [], _ => rfl
  | b :: l, h => by
    have h1 := natSum_eq l (fun x hx => h x (List.mem_cons_of_mem _ hx))
    have h2 := (h b List.mem_cons_self).2.2.1
    simp only [natSum, bitsSum]; omega
theorem natSum_take (l : List S59) : ∀ n, (h : n < l.length) → natSum (l.take (n + 1)) = natSum (l.take n) + l[n].f1.toNat := by
  induction l with
  | nil => intro n h; exact absurd h (Nat.not_lt_zero n)
  | cons b l ih =>
    intro n h
    cases n with
    | zero => simp [natSum]
    | succ n =>
      have h1 := ih n (by simpa using h)
      simp only [List.take_succ_cons, natSum, List.getElem_cons_succ]
      rw [h1]
      omega
theorem natSum_take_le (l : List S59) : ∀ n, natSum (l.take n) ≤ natSum l := by
  induction l with
  | nil => intro n; simp [natSum]
  | cons b l ih =>
    intro n
    cases n with
    | zero => simp [natSum]
    | succ n =>
      have h1 := ih n
      simp only [List.take_succ_cons, natSum]
      omega
theorem bits_at (high : Bool) : ∀ (l : List S59) (pos : Nat) (xs : List Int), (∀ b ∈ l, sizeOk b) → Inv high xs pos → pos + natSum l ≤ 1000000 →
    Inv high (pkBits high l xs (pos : Int)) (pos + natSum l) ∧ (∀ p, p < pos → bitv high (pkBits high l xs (pos : Int)) p = bitv high xs p) ∧ (∀ n (hn : n < l.length), ∀ i, i < l[n].f1.toNat → ((bitv high (pkBits high l xs (pos : Int)) (pos + natSum (l.take n) + i) : Nat) : Int) = pkBit l[n].f0 l[n].f1.toNat high i)
  | [], pos, xs, _, hI, _ => ⟨hI, fun _ _ => rfl, fun n hn => absurd hn (Nat.not_lt_zero n)⟩
  | b :: l, pos, xs, hok, hI, hp => by
    simp only [natSum] at hp
    have hb0 := (hok b List.mem_cons_self).2.2.1
    obtain ⟨s, hs⟩ : ∃ s : Nat, b.f1 = (s : Int) := ⟨b.f1.toNat, by omega⟩
    have hs2 : b.f1.toNat = s := by rw [hs]; exact Int.toNat_natCast s
    rw [hs2] at hp
    have hp1 : pos + s ≤ 1000000 := by omega
    have hp2 : pos + s + natSum l ≤ 1000000 := by omega
    obtain ⟨q1, q2, q3⟩ := put_bits b.f0 s high s 0 pos xs hI hp1
    obtain ⟨r1, r2, r3⟩ := bits_at high l (pos + s) _ (fun x hx => hok x (List.mem_cons_of_mem _ hx)) q1 hp2
    simp only [pkBits, natSum]
    rw [hs2, hs]
    rw [show ((pos + s : Nat) : Int) = (pos : Int) + (s : Int) from rfl] at r1 r2 r3
    refine ⟨by rw [← Nat.add_assoc]; exact r1, fun p hq => ?_, fun n hn i hi => ?_⟩
    · rw [r2 p (Nat.lt_of_lt_of_le hq (Nat.le_add_right _ _)), q2 p hq]
    · cases n with
      | zero =>
        simp only [List.getElem_cons_zero] at hi ⊢
        rw [hs2] at hi ⊢
        have e : pos + natSum ((b :: l).take 0) + i = pos + i := by simp [natSum]
        rw [e, r2 (pos + i) (Nat.add_lt_add_left hi pos), q3 i hi, Nat.zero_add]
      | succ n =>
        have e : pos + natSum ((b :: l).take (n + 1)) + i = pos + s + natSum (l.take n) + i := by simp only [List.take_succ_cons, natSum]; rw [hs2]; omega
        rw [e]
        exact r3 n (Nat.lt_of_succ_lt_succ hn) i hi

/-! ### BitsGet -/
theorem ior_nat (a b : Nat) (ha : a < 9223372036854775808) (hb : b < 9223372036854775808) : Go.bits .or .i64 (a : Int) (b : Int) = ((a ||| b : Nat) : Int) := by
  have hx : a ||| b < 2 ^ 63 := Nat.or_lt_two_pow (by omega) (by omega)
  show IntKind.i64.wrap ((BitVec.ofInt 64 (a : Int) ||| BitVec.ofInt 64 (b : Int)).toNat : Int) = _
  rw [BitVec.toNat_or, ofInt_i64 a ha, ofInt_i64 b hb, IntKind.wrap_i64]
  omega
theorem fold_low (m j : Nat) (hj : j < 40) : Go.bits .or .i64 ((m % 2 ^ j : Nat) : Int) (shl .i64 (((m / 2 ^ j % 2 : Nat)) : Int) (j : Int)) = ((m % 2 ^ (j + 1) : Nat) : Int) := by
  have hlt : m % 2 ^ j < 2 ^ j := Nat.mod_lt _ (Nat.two_pow_pos j)
  have hle : 2 ^ j ≤ 2 ^ 40 := Nat.pow_le_pow_right (by omega) (by omega)
  have he : (2 : Nat) ^ 40 = 1099511627776 := by decide
  rw [he] at hle
  obtain ⟨b, hb⟩ : ∃ b, m / 2 ^ j % 2 = b := ⟨_, rfl⟩
  have hb2 : b < 2 := by rw [← hb]; exact Nat.mod_lt _ (Nat.succ_pos 1)
  have hor := Nat.two_pow_add_eq_or_of_lt hlt b
  have hmod : m % 2 ^ (j + 1) = m % 2 ^ j + 2 ^ j * (m / 2 ^ j % 2) := Nat.mod_pow_succ
  rw [hb] at hmod ⊢
  have hprod : 2 ^ j * b ≤ 1099511627776 := by
    have : 2 ^ j * b ≤ 1099511627776 * 1 := Nat.mul_le_mul hle (by omega)
    omega
  have hsh : shl .i64 ((b : Nat) : Int) (j : Int) = ((2 ^ j * b : Nat) : Int) := by
    unfold shl
    rw [Int.toNat_natCast]
    show IntKind.i64.wrap ((b : Int) * 2 ^ min j 64) = _
    rw [Nat.min_eq_left (show j ≤ 64 by omega)]
    have ec : (b : Int) * (2 : Int) ^ j = ((2 ^ j * b : Nat) : Int) := by push_cast; rw [Int.mul_comm]
    rw [ec]
    generalize 2 ^ j * b = c at hprod
    rw [IntKind.wrap_i64]
    omega
  rw [hsh, hmod]
  rw [← Nat.add_comm, Nat.add_comm] at hor
  generalize 2 ^ j * b = c at hprod hor ⊢
  generalize m % 2 ^ j = a at hlt hor ⊢
  have ha : a < 1099511627776 := by omega
  rw [ior_nat a c (by omega) (by omega), Nat.or_comm, ← hor]
  exact congrArg _ (Nat.add_comm c a)
def part (high : Bool) (m size j : Nat) : Nat := if high = true then m / 2 ^ (size - j) else m % 2 ^ j
theorem bget_l0 (s : ByteArray) (at_ size m : Nat) (high : Bool) (hs : size ≤ 24) (hm : m < 2 ^ size) (hsz : at_ + size ≤ 8 * s.size) (ha : at_ ≤ 100000)
    (hb : ∀ j, j < size → ((bitT high s (at_ + j) : Nat) : Int) = pkBit (m : Int) size high j) (d : Nat) :
    ∀ j, j + d = size → Ok (fun n => impl_BitsGet.l0 n s (at_ : Int) high ((part high m size j : Nat) : Int) (size : Int) (j : Int)) (· = ((m : Int), true)) := by
  have hm24 : m < 2 ^ 24 := Nat.lt_of_lt_of_le hm (Nat.pow_le_pow_right (by omega) hs)
  have he : (2 : Nat) ^ 24 = 16777216 := by decide
  rw [he] at hm24
  induction d with
  | zero =>
    intro j hj
    obtain rfl : j = size := by omega
    have c1 : ¬ (j : Int) < (j : Int) := by omega
    refine Ok.succ ?_
    simp only [impl_BitsGet.l0]
    refine Ok.no c1 (Ok.now _ ?_)
    have e : part high m j j = m := by
      unfold part
      cases high with
      | true => rw [if_pos rfl, Nat.sub_self, Nat.pow_zero, Nat.div_one]
      | false => rw [if_neg Bool.false_ne_true, Nat.mod_eq_of_lt hm]
    rw [e]
  | succ d ih =>
    intro j hj
    have hj2 : j < size := by omega
    have c1 : (j : Int) < (size : Int) := by omega
    have c2 : (0 : Int) ≤ (j : Int) := by omega
    have e1 : wrap64 ((at_ : Int) + (j : Int)) = ((at_ + j : Nat) : Int) := by rw [w64 (by clear hm hb ih; omega) (by clear hm hb ih; omega)] <;> omega
    have e2 : wrap64 ((j : Int) + 1) = ((j + 1 : Nat) : Int) := by rw [w64 (by clear hm hb ih; omega) (by clear hm hb ih; omega)] <;> omega
    have hp1 : at_ + j < 8 * s.size := by omega
    have hp2 : at_ + j ≤ 1000000 := by omega
    have hB := hb j hj2
    have ih2 := ih (j + 1) (by omega)
    clear ih hb
    refine Ok.succ ?_
    simp only [impl_BitsGet.l0]
    refine Ok.yes c1 ?_
    rw [e1, e2]
    refine Ok.binds (bitAt_ok high s (at_ + j) hp1 hp2) ?_
    rw [hB]
    cases high with
    | true =>
      refine Ok.yes rfl ?_
      have hf := fold_high (m : Int) size j hj2
      have en : ((part true m size j : Nat) : Int) = (m : Int) / 2 ^ (size - j) := by unfold part; rw [if_pos rfl]; push_cast; rfl
      have en2 : ((part true m size (j + 1) : Nat) : Int) = (m : Int) / 2 ^ (size - (j + 1)) := by unfold part; rw [if_pos rfl]; push_cast; rfl
      rw [en2, ← hf] at ih2
      rw [en]
      have hn0 : 0 ≤ (m : Int) / 2 ^ (size - j) := Int.ediv_nonneg (by omega) (by have := pow2_1 (size - j); omega)
      have hn1 : (m : Int) / 2 ^ (size - j) ≤ m := Int.ediv_le_self _ (by omega)
      have hB3 : 0 ≤ pkBit (m : Int) size true j ∧ pkBit (m : Int) size true j ≤ 1 := by
        rw [← hB]
        have hB2 := bitT_lt true s (at_ + j)
        clear hf hB ih2 en en2 hm
        omega
      clear hf hB en en2 hm
      generalize (m : Int) / 2 ^ (size - j) = n at hn0 hn1 ih2 ⊢
      generalize pkBit (m : Int) size true j = B at hB3 ih2 ⊢
      have e4 : wrap64 (2 * n) = 2 * n := w64 (by omega) (by omega)
      have e5 : wrap64 (2 * n + B) = 2 * n + B := w64 (by omega) (by omega)
      rw [e4, e5]
      exact ih2
    | false =>
      refine Ok.no Bool.false_ne_true (Ok.yes c2 ?_)
      have hf := fold_low m j (by omega)
      have en : part false m size j = m % 2 ^ j := by unfold part; rw [if_neg Bool.false_ne_true]
      have en2 : part false m size (j + 1) = m % 2 ^ (j + 1) := by unfold part; rw [if_neg Bool.false_ne_true]
      have eb : pkBit (m : Int) size false j = ((m / 2 ^ j % 2 : Nat) : Int) := by unfold pkBit; rw [if_neg Bool.false_ne_true]; push_cast; rfl
      rw [en2] at ih2
      rw [en, eb, hf]
      exact ih2
theorem bitsGet_ok (s : ByteArray) (at_ size m : Nat) (high : Bool) (hs : size ≤ 24) (hm : m < 2 ^ size) (hsz : at_ + size ≤ 8 * s.size) (hss : s.size ≤ 9000)
    (hb : ∀ j, j < size → ((bitT high s (at_ + j) : Nat) : Int) = pkBit (m : Int) size high j) :
    Ok (fun n => impl_BitsGet.f n s (at_ : Int) (size : Int) high) (· = ((m : Int), true)) := by
  have h0 := bget_l0 s at_ size m high hs hm hsz (by clear hm hb; omega) hb size 0 (by omega)
  have e0 : part high m size 0 = 0 := by
    unfold part
    cases high with
    | true => rw [if_pos rfl, Nat.sub_zero, Nat.div_eq_of_lt hm]
    | false => rw [if_neg Bool.false_ne_true, Nat.pow_zero, Nat.mod_one]
  rw [e0] at h0
  clear hm hb e0
  have c1 : (0 : Int) ≤ (size : Int) := by omega
  have c2 : (size : Int) ≤ 24 := by omega
  have c3 : ¬ (s.size : Int) > 9000 := by omega
  have c4 : (0 : Int) ≤ (at_ : Int) := by omega
  have e1 : wrap64 (8 * (s.size : Int)) = 8 * (s.size : Int) := w64 (by omega) (by omega)
  have e2 : wrap64 (8 * (s.size : Int) - (size : Int)) = 8 * (s.size : Int) - (size : Int) := w64 (by omega) (by omega)
  have c5 : (at_ : Int) ≤ 8 * (s.size : Int) - (size : Int) := by omega
  unfold impl_BitsGet.f
  rw [in_eq0, in_eq0, decide_eq_true c1, decide_eq_true c2]
  refine Ok.binds rfl (Ok.yes rfl (Ok.no c3 ?_))
  rw [e1, e2, decide_eq_true c4, decide_eq_true c5]
  refine Ok.binds rfl (Ok.succ ?_)
  simp only [impl_BitsGet.j0]
  exact Ok.no (by simp) h0
end Go.Proofs.Yteikopjhekhchaa.Pure
