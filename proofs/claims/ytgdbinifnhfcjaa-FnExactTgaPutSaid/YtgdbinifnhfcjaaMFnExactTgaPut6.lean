/- Texts of one law put together (wip/merge2.py). -/
import Derived.Test.YtgdbinifnhfcjaaMFnExactTgaPut5
import Derived.Test.YtgdbinifnhfcjaaMFnExactTgaPut4
import Derived.Test.YtgdbinifnhfcjaaMFnExactTgaPut1
/- Numbers of one to four bytes, as the program and the reference read and write them. -/
set_option linter.unusedVariables false
set_option linter.unusedSimpArgs false
namespace Go.Proofs.Ytgdbinifnhfcjaa.Pure
open Go.RowKit Go.Proofs.Ytgdbinifnhfcjaa.P Go.Proofs.Ytgdbinifnhfcjaa.Lib Go.Proofs.YtgdbinifnhfcjaaW.PrintWords Go.Proofs.YtgdbinifnhfcjaaW.PrintLast Go.Proofs.YtgdbinifnhfcjaaW.PrintMore
/-! ### numbers of one to four bytes, written -/
/-- The bytes of a number, the lowest first. -/
def le (n : Int) : Nat → List Int
  | 0 => []
  | k + 1 => n % 256 :: le (n / 256) k
theorem le_length (k : Nat) : ∀ n, (le n k).length = k := by
  induction k with
  | zero => intro n; rfl
  | succ k ih => intro n; simp only [le, List.length_cons, ih]
theorem le_byte (k : Nat) : ∀ n, ∀ x ∈ le n k, 0 ≤ x ∧ x ≤ 255 := by
  induction k with
  | zero => intro n x h; cases h
  | succ k ih =>
    intro n x h
    simp only [le, List.mem_cons] at h
    rcases h with rfl | h
    · omega
    · exact ih _ x h
theorem le_snoc (k : Nat) : ∀ n : Int, le n (k + 1) = le n k ++ [n / 256 ^ k % 256] := by
  induction k with
  | zero => intro n; simp [le]
  | succ k ih =>
    intro n
    have e : n / 256 / 256 ^ k = n / 256 ^ (k + 1) := by
      rw [Int.ediv_ediv_of_nonneg (by omega), Int.pow_succ, Int.mul_comm]
    rw [show le n (k + 1 + 1) = n % 256 :: le (n / 256) (k + 1) from rfl, ih, e]
    rfl
def numv (n : Int) (z : Nat) (big : Bool) : ByteArray := strOfNums (if big = true then (le n z).reverse else le n z)
theorem numv_size (n : Int) (z : Nat) (big : Bool) : (numv n z big).size = z := by
  unfold numv
  rw [strOfNums_size]
  cases big
  · rw [if_neg (by simp), le_length]
  · rw [if_pos rfl, List.length_reverse, le_length]
theorem nums_app (a b : List Int) : strOfNums a ++ strOfNums b = strOfNums (a ++ b) := by
  apply ByteArray.ext
  simp only [ByteArray.data_append]
  unfold strOfNums
  simp
theorem append_nil' (s : ByteArray) : s ++ (⟨#[]⟩ : ByteArray) = s := ByteArray.append_empty
theorem nil_append' (s : ByteArray) : (⟨#[]⟩ : ByteArray) ++ s = s := ByteArray.empty_append
theorem pinc' (j : Nat) (hj : j ≤ 100000) : wrap64 ((j : Int) + 1) = ((j + 1 : Nat) : Int) := by rw [w64 (by omega) (by omega)]; omega
theorem snum_l0 (z : Nat) (hz : z ≤ 8) (big : Bool) (d : Nat) : ∀ (j : Nat) (n : Int) (out : ByteArray), j + d = z → 0 ≤ n → n ≤ 4294967295 → out.size ≤ j →
    Ok (fun k => spec_l1Num.l0 k n (z : Int) big out (j : Int)) (· = if big = true then strOfNums (le n d).reverse ++ out else out ++ strOfNums (le n d)) := by
  induction d with
  | zero =>
    intro j n out hj hn hn2 ho
    refine Ok.succ ?_
    simp only [spec_l1Num.l0]
    refine Ok.no (by omega) (Ok.now _ ?_)
    cases big
    · rw [if_neg (by simp)]; exact (append_nil' out).symm
    · rw [if_pos rfl]; exact (nil_append' out).symm
  | succ d ih =>
    intro j n out hj hn hn2 ho
    have e1 : Int.tmod n 256 % 256 = n % 256 := by rw [tmod_nn hn]; omega
    have e2 : wrap64 (Int.tdiv n 256) = n / 256 := by rw [tdiv_nn hn, w64 (by omega) (by omega)]
    have e3 := pinc' j (by omega)
    have z1 : (strOfNums [n % 256]).size = 1 := by rw [strOfNums_size]; rfl
    refine Ok.succ ?_
    simp only [spec_l1Num.l0]
    rw [e1, e2, e3]
    refine Ok.yes (by omega) (Ok.binds rfl ?_)
    cases big with
    | true =>
      refine Ok.yes rfl (Ok.yes (by rw [z1]; omega) ?_)
      have h := ih (j + 1) (n / 256) (strOfNums [n % 256] ++ out) (by omega) (by omega) (by omega) (by clear e1 e2 e3 ih; rw [ByteArray.size_append, z1]; omega)
      rw [if_pos rfl, ← ByteArray.append_assoc, nums_app] at h
      rw [if_pos rfl]
      simpa only [le, List.reverse_cons] using h
    | false =>
      refine Ok.no (by simp) (Ok.yes (by rw [z1]; omega) ?_)
      have h := ih (j + 1) (n / 256) (out ++ strOfNums [n % 256]) (by omega) (by omega) (by omega) (by clear e1 e2 e3 ih; rw [ByteArray.size_append, z1]; omega)
      rw [if_neg (by simp), ByteArray.append_assoc, nums_app] at h
      rw [if_neg (by simp)]
      simpa only [le, List.singleton_append] using h
theorem snum_ok (n : Int) (z : Nat) (big : Bool) (hz : z ≤ 8) (h : 0 ≤ n ∧ n ≤ 4294967295) : Ok (fun k => spec_l1Num.f k n (z : Int) big) (· = numv n z big) := by
  unfold spec_l1Num.f numv
  have h := snum_l0 z hz big z 0 n (⟨#[]⟩ : ByteArray) (by omega) h.1 h.2 (Nat.le_refl 0)
  rw [append_nil', nil_append'] at h
  cases big
  · exact h
  · exact h
theorem shr8 (n : Int) (j : Nat) (h : j ≤ 7) : shr .i64 n (8 * (j : Int)) = n / 256 ^ j := by
  unfold shr
  show n / 2 ^ min (8 * (j : Int)).toNat 64 = _
  rw [Nat.min_eq_left (by omega), show (8 * (j : Int)).toNat = 8 * j by omega, Int.pow_mul]
  rfl
theorem shl8 (z : Nat) (h1 : 1 ≤ z) (h : z ≤ 4) : wrap64 (8 * (z : Int)) = 8 * (z : Int) ∧ wrap64 ((shl .i64 1 (8 * (z : Int))) - 1) = 256 ^ z - 1 := by
  match z, h1, h with
  | 1, _, _ => decide +kernel
  | 2, _, _ => decide +kernel
  | 3, _, _ => decide +kernel
  | 4, _, _ => decide +kernel
theorem set_mid {α : Type} (a b : List α) (x v : α) (m : Nat) (h : a.length = m) : (a ++ x :: b).set m v = a ++ v :: b := by
  subst h
  rw [List.set_append_right _ _ (Nat.le_refl _), Nat.sub_self]
  rfl
theorem rep_snoc (m : Nat) : List.replicate (m + 1) (0 : Int) = List.replicate m 0 ++ [0] := List.replicate_succ'
/-- What stands in the bytes when k of them have been written. -/
def mid (n : Int) (z : Nat) (big : Bool) (k : Nat) : List Int := if big = true then List.replicate (z - k) 0 ++ (le n k).reverse else le n k ++ List.replicate (z - k) 0
theorem mid_length (n : Int) (z : Nat) (big : Bool) (k : Nat) (h : k ≤ z) : (mid n z big k).length = z := by
  unfold mid
  cases big
  · rw [if_neg (by simp), List.length_append, le_length, List.length_replicate]; omega
  · rw [if_pos rfl, List.length_append, List.length_reverse, le_length, List.length_replicate]; omega
theorem mid_step (n : Int) (z : Nat) (big : Bool) (k : Nat) (h : k < z) : (mid n z big k).set (if big = true then z - 1 - k else k) (n / 256 ^ k % 256) = mid n z big (k + 1) := by
  unfold mid
  obtain ⟨m, hm⟩ : ∃ m, z - k = m + 1 := ⟨z - k - 1, by omega⟩
  rw [hm, show z - (k + 1) = m by omega, show z - 1 - k = m by omega, le_snoc]
  cases big
  · rw [if_neg (by simp), if_neg (by simp), if_neg (by simp), List.replicate_succ, set_mid _ _ _ _ _ (le_length k n), List.append_assoc]; rfl
  · rw [if_pos rfl, if_pos rfl, if_pos rfl, rep_snoc, List.append_assoc, List.singleton_append, set_mid _ _ _ _ _ (by simp), List.reverse_append]; rfl
theorem inum_l0 (n : Int) (z : Nat) (big : Bool) (hz : z ≤ 4) (d : Nat) : ∀ j : Nat, j + d = z →
    Ok (fun k => impl_NumPut.l0 k n (z : Int) big (mid n z big j) (z : Int) (j : Int)) (· = numv n z big) := by
  induction d with
  | zero =>
    intro j hj
    obtain rfl : j = z := by omega
    refine Ok.succ ?_
    simp only [impl_NumPut.l0]
    refine Ok.no (by omega) (Ok.now _ ?_)
    unfold numv mid
    rw [Nat.sub_self]
    cases big
    · simp
    · simp
  | succ d ih =>
    intro j hj
    have h := ih (j + 1) (by omega)
    clear ih
    have e1 := pinc' j (by omega)
    have e8 : wrap64 (8 * (j : Int)) = 8 * (j : Int) := w64 (by omega) (by omega)
    have es := shr8 n j (by omega)
    have hl := mid_length n z big j (by omega)
    have hm := mid_step n z big j (by omega)
    refine Ok.succ ?_
    simp only [impl_NumPut.l0]
    rw [e1, e8, es, hl]
    cases big with
    | true =>
      have eb : wrap64 (wrap64 ((z : Int) - 1) - (j : Int)) = ((z - 1 - j : Nat) : Int) := by rw [w64 (x := (z : Int) - 1) (by omega) (by omega), w64 (by omega) (by omega)]; omega
      rw [eb]
      refine Ok.yes (by omega) (Ok.yes rfl (Ok.yes (by omega) (Ok.yes (by omega) (Ok.yes (by omega) ?_))))
      rw [if_pos rfl] at hm
      rw [Int.toNat_natCast, hm]
      exact h
    | false =>
      refine Ok.yes (by omega) (Ok.no (by simp) (Ok.yes (by omega) (Ok.yes (by omega) (Ok.yes (by omega) ?_))))
      rw [if_neg (by simp)] at hm
      rw [Int.toNat_natCast, hm]
      exact h
theorem inum_ok (n : Int) (z : Nat) (big : Bool) (h1 : 1 ≤ z) (hz : z ≤ 4) (h : 0 ≤ n ∧ n ≤ 256 ^ z - 1) : Ok (fun k => impl_NumPut.f k n (z : Int) big) (· = numv n z big) := by
  have hin : impl_in.f (z : Int) 1 4 = some true := by unfold impl_in.f; rw [if_pos (by omega), decide_eq_true (by omega)]
  have hin2 : impl_in.f n 0 (256 ^ z - 1) = some true := by unfold impl_in.f; rw [if_pos h.1, decide_eq_true h.2]
  obtain ⟨s1, s2⟩ := shl8 z h1 hz
  unfold impl_NumPut.f
  rw [s1, s2]
  refine Ok.binds hin (Ok.yes rfl (Ok.yes (by omega) (Ok.binds hin2 (Ok.succ ?_))))
  simp only [impl_NumPut.j0]
  refine Ok.no (by simp) (Ok.yes (by omega) (Ok.yes (by omega) (Ok.binds rfl ?_)))
  have e : (List.replicate ((z : Int)).toNat 0 : List Int) = mid n z big 0 := by
    unfold mid
    rw [Int.toNat_natCast]
    cases big
    · simp [le]
    · simp [le]
  rw [e, mid_length n z big 0 (by omega)]
  exact inum_l0 n z big hz z 0 (by omega)

/-! ### numbers of one to four bytes, read -/
theorem or_nat (a b : Nat) (ha : a ≤ 16777215) (hb : b ≤ 255) : Go.bits .or .i64 ((a * 256 : Nat) : Int) (b : Int) = ((a * 256 + b : Nat) : Int) := by
  show IntKind.i64.wrap ((BitVec.ofInt 64 ((a * 256 : Nat) : Int) ||| BitVec.ofInt 64 (b : Int)).toNat : Int) = _
  rw [BitVec.toNat_or, ofInt_i64 _ (by omega), ofInt_i64 _ (by omega), IntKind.wrap_i64]
  have h := Nat.shiftLeft_add_eq_or_of_lt (i := 8) (b := b) (by omega) a
  rw [Nat.shiftLeft_eq, show (2 : Nat) ^ 8 = 256 from rfl] at h
  rw [← h]
  generalize a * 256 + b = z at h
  have hz : z = a * 256 ||| b := h
  clear h
  have : z ≤ 4294967295 := by
    rw [hz]
    have := Nat.or_lt_two_pow (x := a * 256) (y := b) (n := 32) (by omega) (by omega)
    exact Nat.le_of_lt_succ this
  clear hz
  omega
theorem num_step {x b : Int} (hx : 0 ≤ x ∧ x ≤ 16777215) (hb : 0 ≤ b ∧ b ≤ 255) : Go.bits .or .i64 (wrap64 (x * 256)) (wrap64 b) = x * 256 + b := by
  rw [w64 (x := x * 256) (by omega) (by omega), w64 (x := b) (by omega) (by omega)]
  obtain ⟨m, rfl⟩ := Int.eq_ofNat_of_zero_le hx.1
  obtain ⟨n, rfl⟩ := Int.eq_ofNat_of_zero_le hb.1
  have h := or_nat m n (by omega) (by omega)
  rw [Int.natCast_mul] at h
  refine h.trans ?_
  omega
theorem num_step2 {x b : Int} (hx : 0 ≤ x ∧ x ≤ 16777215) (hb : 0 ≤ b ∧ b ≤ 255) : wrap64 (wrap64 (256 * x) + wrap64 b) = x * 256 + b := by
  rw [w64 (x := 256 * x) (by omega) (by omega), w64 (x := b) (by omega) (by omega), w64 (by omega) (by omega)]
  omega
/-- The number of n bytes from p on, of which j have been read. -/
def fv (s : ByteArray) (p n : Nat) (big : Bool) : Nat → Int
  | 0 => 0
  | j + 1 => fv s p n big j * 256 + bt s ((if big = true then p + j else p + n - 1 - j : Nat) : Int)
theorem fv_lt (s : ByteArray) (p n : Nat) (big : Bool) : ∀ j, 0 ≤ fv s p n big j ∧ fv s p n big j ≤ 256 ^ j - 1
  | 0 => by simp [fv]
  | j + 1 => by
    have h := fv_lt s p n big j
    simp only [fv]
    have b := bt_range s ((if big = true then p + j else p + n - 1 - j : Nat) : Int)
    rw [Int.pow_succ]
    generalize bt s ((if big = true then p + j else p + n - 1 - j : Nat) : Int) = x at b ⊢
    generalize fv s p n big j = y at h ⊢
    generalize (256 : Int) ^ j = z at h ⊢
    omega
theorem p256 {j : Nat} (h : j ≤ 3) : (256 : Int) ^ j ≤ 16777216 := by
  match j, h with
  | 0, _ => decide
  | 1, _ => decide
  | 2, _ => decide
  | 3, _ => decide
theorem fv_step (s : ByteArray) (p n : Nat) (big : Bool) {j : Nat} (h : j ≤ 3) : 0 ≤ fv s p n big j ∧ fv s p n big j ≤ 16777215 := by
  have h1 := fv_lt s p n big j
  have h2 := p256 h
  omega
theorem fv_range (s : ByteArray) (p n : Nat) (big : Bool) {j : Nat} (h : j ≤ 4) : 0 ≤ fv s p n big j ∧ fv s p n big j ≤ 4294967295 := by
  match j, h with
  | 0, _ => simp [fv]
  | j + 1, h =>
    have h1 := fv_step s p n big (j := j) (by omega)
    have b := bt_range s ((if big = true then p + j else p + n - 1 - j : Nat) : Int)
    simp only [fv]
    omega
theorem pw (p i : Nat) (hp : p ≤ 100000) (hi : i ≤ 100000) : wrap64 ((p : Int) + (i : Int)) = ((p + i : Nat) : Int) := by rw [w64 (by omega) (by omega)]; omega
theorem pback (p n j : Nat) (hp : p ≤ 100000) (hn : n ≤ 100000) (hj : j < n) : wrap64 (wrap64 (wrap64 ((p : Int) + (n : Int)) - 1) - (j : Int)) = ((p + n - 1 - j : Nat) : Int) := by
  rw [pw p n hp hn, w64 (x := ((p + n : Nat) : Int) - 1) (by omega) (by omega), w64 (by omega) (by omega)]
  omega
theorem pinc (j : Nat) (hj : j ≤ 100000) : wrap64 ((j : Int) + 1) = ((j + 1 : Nat) : Int) := by rw [w64 (by omega) (by omega)]; omega
theorem ig_l0 (s : ByteArray) (p n : Nat) (big : Bool) (hn : n ≤ 4) (hp : p + n ≤ s.size) (hs : s.size ≤ 90000) (d : Nat) : ∀ j : Nat, j + d = n → Ok (fun k => impl_NumGet.l0 k s (p : Int) (n : Int) big (fv s p n big j) (n : Int) (j : Int)) (· = (fv s p n big n, true)) := by
  induction d with
  | zero =>
    intro j hj
    obtain rfl : j = n := by omega
    refine Ok.succ ?_
    simp only [impl_NumGet.l0]
    exact Ok.no (by omega) (Ok.now _ rfl)
  | succ d ih =>
    intro j hj
    have h := ih (j + 1) (by omega)
    clear ih
    have e1 := pinc j (by omega)
    have f := fv_step s p n big (j := j) (by omega)
    simp only [fv] at h
    refine Ok.succ ?_
    simp only [impl_NumGet.l0]
    cases big with
    | true =>
      rw [if_pos rfl] at h
      rw [pw p j (by omega) (by omega), e1, num_step f (bt_range s _)]
      exact Ok.yes (by omega) (Ok.yes rfl (Ok.yes (by omega) (Ok.yes (by omega) h)))
    | false =>
      rw [if_neg (by simp)] at h
      rw [pback p n j (by omega) (by omega) (by omega), e1, num_step f (bt_range s ((p + n - 1 - j : Nat) : Int))]
      exact Ok.yes (by omega) (Ok.no (by simp) (Ok.yes (by omega) (Ok.yes (by omega) h)))
theorem sf_l0 (s : ByteArray) (p n : Nat) (big : Bool) (hn : n ≤ 4) (hp : p + n ≤ s.size) (hs : s.size ≤ 90000) (d : Nat) : ∀ j : Nat, j + d = n → Ok (fun k => spec_l1Field.l0 k s (p : Int) (n : Int) big (fv s p n big j) (j : Int)) (· = fv s p n big n) := by
  induction d with
  | zero =>
    intro j hj
    obtain rfl : j = n := by omega
    refine Ok.succ ?_
    simp only [spec_l1Field.l0]
    exact Ok.no (by omega) (Ok.now _ rfl)
  | succ d ih =>
    intro j hj
    have h := ih (j + 1) (by omega)
    clear ih
    have e1 := pinc j (by omega)
    have f := fv_step s p n big (j := j) (by omega)
    simp only [fv] at h
    refine Ok.succ ?_
    simp only [spec_l1Field.l0]
    cases big with
    | true =>
      rw [if_pos rfl] at h
      rw [pw p j (by omega) (by omega), e1, num_step2 f (bt_range s _)]
      exact Ok.yes (by omega) (Ok.yes rfl (Ok.yes (by omega) (Ok.yes (by omega) h)))
    | false =>
      rw [if_neg (by simp)] at h
      rw [pback p n j (by omega) (by omega) (by omega), e1, num_step2 f (bt_range s ((p + n - 1 - j : Nat) : Int))]
      exact Ok.yes (by omega) (Ok.no (by simp) (Ok.yes (by omega) (Ok.yes (by omega) h)))
/-- NumGet at a place that is a number of Nat. -/
theorem inumget_ok (s : ByteArray) (p n : Nat) (big : Bool) (h1 : 1 ≤ n) (hn : n ≤ 4) (hs : s.size ≤ 9000) (hp : p ≤ 100000) : Ok (fun k => impl_NumGet.f k s (p : Int) (n : Int) big) (· = if p + n ≤ s.size then (fv s p n big n, true) else (0, false)) := by
  have hin : impl_in.f (n : Int) 1 4 = some true := by unfold impl_in.f; rw [if_pos (by omega), decide_eq_true (by omega)]
  unfold impl_NumGet.f
  have e : wrap64 ((s.size : Int) - (n : Int)) = (s.size : Int) - (n : Int) := w64 (by omega) (by omega)
  rw [e]
  refine Ok.binds hin (Ok.yes rfl (Ok.no (by omega) ?_))
  by_cases h4 : p + n ≤ s.size
  · have hin2 : impl_in.f (p : Int) 0 ((s.size : Int) - (n : Int)) = some true := by unfold impl_in.f; rw [if_pos (by omega), decide_eq_true (by omega)]
    rw [if_pos h4]
    refine Ok.binds hin2 (Ok.succ ?_)
    simp only [impl_NumGet.j0]
    exact Ok.no (by simp) (ig_l0 s p n big hn h4 (by omega) n 0 (by omega))
  · have hin2 : impl_in.f (p : Int) 0 ((s.size : Int) - (n : Int)) = some false := by unfold impl_in.f; rw [if_pos (by omega), decide_eq_false (by omega)]
    rw [if_neg h4]
    refine Ok.binds hin2 (Ok.succ ?_)
    simp only [impl_NumGet.j0]
    exact Ok.yes (by simp) (Ok.now _ rfl)
theorem sfield_ok (s : ByteArray) (p n : Nat) (big : Bool) (hn : n ≤ 4) (hs : s.size ≤ 90000) (hp : p ≤ 100000) : Ok (fun k => spec_l1Field.f k s (p : Int) (n : Int) big) (· = if p + n ≤ s.size then fv s p n big n else 0) := by
  unfold spec_l1Field.f
  rw [pw p n hp (by omega)]
  refine Ok.no (by omega) ?_
  by_cases h4 : p + n ≤ s.size
  · rw [if_pos h4, decide_eq_false (by omega)]
    refine Ok.succ ?_
    simp only [spec_l1Field.j0]
    exact Ok.no (by simp) (sf_l0 s p n big hn h4 hs n 0 (by omega))
  · rw [if_neg h4, decide_eq_true (by omega)]
    refine Ok.succ ?_
    simp only [spec_l1Field.j0]
    exact Ok.yes (by simp) (Ok.now _ rfl)

/-! ### numbers and their bytes, both ways -/
theorem fv_zero (s : ByteArray) (p n : Nat) (big : Bool) : fv s p n big 0 = 0 := rfl
theorem le_cons (x b : Int) (k : Nat) (hb : 0 ≤ b ∧ b ≤ 255) : le (x * 256 + b) (k + 1) = b :: le x k := by
  simp only [le]
  rw [show (x * 256 + b) % 256 = b by omega, show (x * 256 + b) / 256 = x by omega]
theorem le_fv_big (s : ByteArray) (p n : Nat) (k : Nat) : (le (fv s p n true k) k).reverse = (List.range k).map fun i => bt s ((p + i : Nat) : Int) := by
  induction k with
  | zero => rfl
  | succ k ih =>
    rw [show fv s p n true (k + 1) = fv s p n true k * 256 + bt s ((p + k : Nat) : Int) from rfl, le_cons _ _ _ (bt_range s _), List.reverse_cons, ih, List.range_succ, List.map_append]
    rfl
theorem le_fv_small (s : ByteArray) (p n : Nat) (k : Nat) (hk : k ≤ n) : le (fv s p n false k) k = (List.range k).map fun i => bt s ((p + n - k + i : Nat) : Int) := by
  induction k with
  | zero => rfl
  | succ k ih =>
    have h := ih (by omega)
    rw [show fv s p n false (k + 1) = fv s p n false k * 256 + bt s ((p + n - 1 - k : Nat) : Int) from rfl, le_cons _ _ _ (bt_range s _), h, List.range_succ_eq_map, List.map_cons, List.map_map]
    congr 1
    · congr 2; omega
    · apply List.map_congr_left
      intro i _
      simp only [Function.comp]
      congr 2
      omega
theorem bt_ext (s : ByteArray) (p q i : Nat) (h : p + i < q) (hq : q ≤ s.size) : bt (s.extract p q) (i : Int) = bt s ((p + i : Nat) : Int) := by
  rw [bt_nat _ i (by rw [ByteArray.size_extract]; omega), bt_nat s (p + i) (by omega), ByteArray.getElem_extract]
theorem ext_nums (s : ByteArray) (p n : Nat) (h : p + n ≤ s.size) : strOfNums ((List.range n).map fun i => bt s ((p + i : Nat) : Int)) = s.extract p (p + n) := by
  have hz : (s.extract p (p + n)).size = n := by rw [ByteArray.size_extract]; omega
  have e := strOfNums_self (s.extract p (p + n))
  rw [hz] at e
  rw [← e]
  congr 1
  apply List.map_congr_left
  intro i hi
  exact (bt_ext s p (p + n) i (by have := List.mem_range.1 hi; omega) h).symm
/-- A number that was read, written again: the bytes that stood there. -/
theorem numv_fv (s : ByteArray) (p n : Nat) (big : Bool) (h : p + n ≤ s.size) : numv (fv s p n big n) n big = s.extract p (p + n) := by
  rw [← ext_nums s p n h]
  unfold numv
  cases big
  · rw [if_neg (by simp), le_fv_small s p n n (Nat.le_refl _), show p + n - n = p by omega]
  · rw [if_pos rfl, le_fv_big]
theorem le_inj (k : Nat) : ∀ a b : Int, 0 ≤ a → a ≤ 256 ^ k - 1 → 0 ≤ b → b ≤ 256 ^ k - 1 → le a k = le b k → a = b := by
  induction k with
  | zero => intro a b h1 h2 h3 h4 _; simp at h2 h4; omega
  | succ k ih =>
    intro a b h1 h2 h3 h4 h
    simp only [le, List.cons.injEq] at h
    rw [Int.pow_succ] at h2 h4
    have := ih (a / 256) (b / 256) (by omega) (by omega) (by omega) (by omega) h.2
    omega
theorem nums_inj : ∀ (a b : List Int), (∀ x ∈ a, 0 ≤ x ∧ x ≤ 255) → (∀ x ∈ b, 0 ≤ x ∧ x ≤ 255) → strOfNums a = strOfNums b → a = b := by
  intro a b ha hb h
  have hl : a.length = b.length := by rw [← strOfNums_size, h, strOfNums_size]
  apply List.ext_getElem hl
  intro i h1 h2
  have e1 := strOfNums_at a i h1 (ha _ (List.getElem_mem h1)).1 (ha _ (List.getElem_mem h1)).2
  have e2 := strOfNums_at b i h2 (hb _ (List.getElem_mem h2)).1 (hb _ (List.getElem_mem h2)).2
  rw [← e1, ← e2, h]
theorem numv_inj {a b : Int} {z : Nat} {big : Bool} (ha : 0 ≤ a ∧ a ≤ 256 ^ z - 1) (hb : 0 ≤ b ∧ b ≤ 256 ^ z - 1) (h : numv a z big = numv b z big) : a = b := by
  unfold numv at h
  cases big
  · rw [if_neg (by simp), if_neg (by simp)] at h
    exact le_inj z a b ha.1 ha.2 hb.1 hb.2 (nums_inj _ _ (le_byte z a) (le_byte z b) h)
  · rw [if_pos rfl, if_pos rfl] at h
    have h2 := nums_inj _ _ (fun x hx => le_byte z a x (List.mem_reverse.1 hx)) (fun x hx => le_byte z b x (List.mem_reverse.1 hx)) h
    exact le_inj z a b ha.1 ha.2 hb.1 hb.2 (by have h3 := congrArg List.reverse h2; rwa [List.reverse_reverse, List.reverse_reverse] at h3)
/-- A number that was written is read. -/
theorem fv_numv {s : ByteArray} {p z : Nat} {big : Bool} {n : Int} (hn : 0 ≤ n ∧ n ≤ 256 ^ z - 1) (h : p + z ≤ s.size) (e : s.extract p (p + z) = numv n z big) : fv s p z big z = n :=
  numv_inj (fv_lt s p z big z) hn ((numv_fv s p z big h).trans e)
theorem fv_ext (s : ByteArray) (p q i n : Nat) (big : Bool) (hq : q ≤ s.size) (h : p + i + n ≤ q) (k : Nat) (hk : k ≤ n) : fv (s.extract p q) i n big k = fv s (p + i) n big k := by
  induction k with
  | zero => rfl
  | succ k ih =>
    simp only [fv]
    rw [ih (by omega)]
    cases big
    · rw [if_neg (by simp), if_neg (by simp), bt_ext s p q _ (by omega) hq, show p + (i + n - 1 - k) = p + i + n - 1 - k by omega]
    · rw [if_pos rfl, if_pos rfl, bt_ext s p q _ (by omega) hq, show p + (i + k) = p + i + k by omega]

end Go.Proofs.Ytgdbinifnhfcjaa.Pure
namespace Go.Proofs.Ytgdbinifnhfcjaa.P
open Go.RowKit Go.Proofs.YtgdbinifnhfcjaaW.PrintWords Go.Proofs.YtgdbinifnhfcjaaW.PrintLast Go.Proofs.YtgdbinifnhfcjaaW.PrintMore
attribute [local go_sem] max2_int min2_int max_two min_two max_three min_three max_four min_four   -- for this text's walks alone
set_option linter.unusedVariables false
set_option linter.unusedSimpArgs false
/-! ### impl_numbers: function 63 -/
def impl_numbers.l0 : Nat → Int → ByteArray → List Int → Int → Int → Option (ByteArray)
 | 0, _, _, _, _, _ => none
 | k + 1, x0, x5, x8, x9, x10 => if x10 < x9 then (if 0 ≤ x10 then (if x10 < (x8.length : Int) then ((impl_NumPut.f k (rd x8 x10) x0 false).bind fun t428 => (if x5.size + t428.size ≤ 9223372036854775807 then (impl_numbers.l0 k x0 (x5 ++ t428) x8 x9 (wrap64 (x10 + 1))) else (none))) else (none)) else (none)) else (some x5)
def impl_numbers.f (k : Nat) (a0 : Int) (l1 : List Int) : Option (ByteArray) := impl_numbers.l0 k a0 (⟨#[]⟩ : ByteArray) l1 (l1.length : Int) 0
theorem impl_numbers.mono_l : ∀ k, (∀ y0 y1 y2 y3 y4, LeO (impl_numbers.l0 k y0 y1 y2 y3 y4) (impl_numbers.l0 (k + 1) y0 y1 y2 y3 y4))
 | 0 => fun _ _ _ _ _ r h => by simp [impl_numbers.l0] at h
 | k + 1 => by
  have ih0 := impl_numbers.mono_l k
  ·intro y0 y1 y2 y3 y4; unfold impl_numbers.l0
   repeat' first
   | (with_reducible exact ih0 _ _ _ _ _)
   | (with_reducible exact impl_NumPut.mono _ _ _ _)
   | (with_reducible exact LeO.refl _)
   | (with_reducible exact LeO.none _)
   | (with_reducible refine LeO.ite ?_ ?_)
   | (with_reducible refine LeO.bind ?_ (fun _ => ?_))
   | exact ih0 _ _ _ _ _
   | exact impl_NumPut.mono _ _ _ _
   | exact LeO.none _
   | refine LeO.ite ?_ ?_
   | refine LeO.bind ?_ (fun _ => ?_)
theorem impl_numbers.mono : ∀ a0 a1 k, LeO (impl_numbers.f k a0 a1) (impl_numbers.f (k + 1) a0 a1) := by
 intro a0 a1 k; have ih0 := impl_numbers.mono_l k; unfold impl_numbers.f
 repeat' first
  | (with_reducible exact ih0 _ _ _ _ _)
  | (with_reducible exact impl_NumPut.mono _ _ _ _)
  | (with_reducible exact LeO.refl _)
  | (with_reducible exact LeO.none _)
  | (with_reducible refine LeO.ite ?_ ?_)
  | (with_reducible refine LeO.bind ?_ (fun _ => ?_))
  | exact ih0 _ _ _ _ _
  | exact impl_NumPut.mono _ _ _ _
  | exact LeO.none _
  | refine LeO.ite ?_ ?_
  | refine LeO.bind ?_ (fun _ => ?_)
set_option maxHeartbeats 8000000 in
set_option maxRecDepth 100000 in
theorem impl_numbers.calls (k : Nat) (a0 : Int) (A1 : Option Addr) (c1 : Nat) (l1 : List Int) (r : ByteArray) (w : World) (hr1 : Kd.C (Kd.int .i64) w A1 l1.length l1) (hc1 : l1.length ≤ c1) (h : impl_numbers.f k a0 l1 = some r) :
 Calls Try.prog 63 #[.int .i64 a0, .slice A1 l1.length c1] w fun e w' => e = .returned (.string r) ∧ Below w.heap.size w w' := by
 have HR1 := Aside0.mk hr1; have HC1 := Aside0.mk hc1; clear hr1 hc1; have HB := Aside0.mk (Below.refl w.heap.size w); have H : (impl_numbers.l0 k a0 (⟨#[]⟩ : ByteArray) l1 (l1.length : Int) 0) = some r := h; clear h; have H' := Aside0.mk H; clear H; go_enter Try.func63, Try.ntmps63
 go_wp2
 go_loopg [5, 10] k (fun kq v5 v10 w' => ∃ (x5_1 : ByteArray) (x10_1 : Int), v5 = .string x5_1 ∧ v10 = .int .i64 x10_1 ∧ Aside0 (impl_numbers.l0 kq a0 x5_1 l1 (l1.length : Int) x10_1 = some r) ∧ Aside0 (kq ≤ k) ∧ Aside0 (Below w.heap.size w w'))
 case atStart => exact ⟨((⟨#[]⟩ : ByteArray)), (0), (by first | rfl | (simp; done) | (simp [*]; done)), (by first | rfl | (simp; done) | (simp [*]; done)), H', ⟨Nat.le_refl _⟩, Sq.a_ HB⟩
 case round =>
  clear H'; try clear c1
  try clear p2
  obtain ⟨x5_1, x10_1, rfl, rfl, HA, HK1, HB⟩ := hrel; cases gk with
  | zero => exact absurd HA.out (by simp [impl_numbers.l0])
  | succ k1 =>
   have H := HA.out; clear HA; simp only [impl_numbers.l0] at H
   by_cases c3 : x10_1 < (l1.length : Int)
   ·rw [if_pos c3] at H; have c3b0 : decide (x10_1 < (l1.length : Int)) = true := decide_eq_true c3; clear c3
    by_cases c4 : 0 ≤ x10_1
    ·rw [if_pos c4] at H; have c4b0 : decide (0 ≤ x10_1) = true := decide_eq_true c4; clear c4
     by_cases c5 : x10_1 < (l1.length : Int)
     ·rw [if_pos c5] at H; have c5b0 : decide (x10_1 < (l1.length : Int)) = true := decide_eq_true c5; clear c5; replace H := Option.bind_eq_some_iff.mp H; obtain ⟨t428, A60, H⟩ := H; have A6 := Aside0.mk A60; clear A60
      by_cases c7 : x5_1.size + t428.size ≤ 9223372036854775807
      ·rw [if_pos c7] at H; have c7b0 := eq_true c7; have c7b1 : decide (x5_1.size + t428.size ≤ 9223372036854775807) = true := decide_eq_true c7; try have c7b2 : (9223372036854775807 < x5_1.size + t428.size) = False := eq_false (Nat.not_lt.2 c7)
       have H' := Aside0.mk H; clear H; have p427 : 0 ≤ (x10_1 : Int) := of_decide_eq_true (by first | (with_reducible assumption) | assumption); have q427 : x10_1 < (l1.length : Int) := of_decide_eq_true (by first | (with_reducible assumption) | assumption); obtain ⟨ad427, e427, hx427_0⟩ := Kd.at_int HR1.out x10_1 p427 q427; cases e427; replace hx427_0 := (HB.out.cell (World.block_lt_of_cell? w _ hx427_0)).trans hx427_0; replace p427 := eq_true p427; replace q427 := eq_true q427; go_wp2_with (first | ((with_reducible refine gate_callee (f := 112) rfl ?_); refine goesL_ (some 17) rfl rfl Try.func112 (by kernel_rfl) rfl #[.int .i64 (rd l1 x10_1), .int .i64 a0, .bool false] rfl (by (try simp only [Sq.mp]); first | done | rfl | (simp only [List.length_drop, List.length_take]; rfl)) ?_; (with_reducible refine (impl_NumPut.calls k1 (rd l1 x10_1) a0 false t428 _ A6.out).mono ?_); rintro e w8 ⟨rfl, hb⟩; refine ⟨_, rfl, ?_⟩; have n0_ := Sq.s_ HB hb; clear HB; have HB := n0_; clear n0_; (try clear hb); (try clear hb2); (try clear hk); (try clear hi)))
       go_roundg k1
       case measure => have := HK1.out; omega
       case rel => exact ⟨(x5_1 ++ t428), (wrap64 (x10_1 + 1)), (by first | rfl | (simp; done) | (simp [*]; done)), (by first | rfl | (simp; done) | (simp [*]; done)), H', ⟨by have := HK1.out; omega⟩, Sq.a_ HB⟩
      ·rw [if_neg c7] at H; exact absurd H (by simp)
     ·rw [if_neg c5] at H; exact absurd H (by simp)
    ·rw [if_neg c4] at H; exact absurd H (by simp)
   ·rw [if_neg c3] at H; have c3b0 : decide (x10_1 < (l1.length : Int)) = false := decide_eq_false c3; clear c3; obtain rfl := Option.some.inj H; go_wp2
    go_ret
    exact ⟨by first | rfl | (simp [errW_none, errW_some] <;> rfl) | (simp [*, errW_none, errW_some] <;> rfl), by repeat (first | (with_reducible first | exact HB.out | apply below_alloc | apply pw_below_drewN | apply below_drew1) | exact HB.out)⟩
/-! ### impl_colorsPut: function 65 -/
def impl_colorsPut.l0 : Nat → Int → Bool → ByteArray → List Int → Int → Int → Option (ByteArray)
 | 0, _, _, _, _, _, _ => none
 | k + 1, x1, x2, x7, x10, x11, x12 => if x12 < x11 then (if 0 ≤ x12 then (if x12 < (x10.length : Int) then ((impl_NumPut.f k (rd x10 x12) x1 x2).bind fun t430 => (if x7.size + t430.size ≤ 9223372036854775807 then (impl_colorsPut.l0 k x1 x2 (x7 ++ t430) x10 x11 (wrap64 (x12 + 1))) else (none))) else (none)) else (none)) else (some x7)
def impl_colorsPut.f (k : Nat) (l0 : List Int) (a1 : Int) (a2 : Bool) : Option (ByteArray) := impl_colorsPut.l0 k a1 a2 (⟨#[]⟩ : ByteArray) l0 (l0.length : Int) 0
theorem impl_colorsPut.mono_l : ∀ k, (∀ y0 y1 y2 y3 y4 y5, LeO (impl_colorsPut.l0 k y0 y1 y2 y3 y4 y5) (impl_colorsPut.l0 (k + 1) y0 y1 y2 y3 y4 y5))
 | 0 => fun _ _ _ _ _ _ r h => by simp [impl_colorsPut.l0] at h
 | k + 1 => by
  have ih0 := impl_colorsPut.mono_l k
  ·intro y0 y1 y2 y3 y4 y5; unfold impl_colorsPut.l0
   repeat' first
   | (with_reducible exact ih0 _ _ _ _ _ _)
   | (with_reducible exact impl_NumPut.mono _ _ _ _)
   | (with_reducible exact LeO.refl _)
   | (with_reducible exact LeO.none _)
   | (with_reducible refine LeO.ite ?_ ?_)
   | (with_reducible refine LeO.bind ?_ (fun _ => ?_))
   | exact ih0 _ _ _ _ _ _
   | exact impl_NumPut.mono _ _ _ _
   | exact LeO.none _
   | refine LeO.ite ?_ ?_
   | refine LeO.bind ?_ (fun _ => ?_)
theorem impl_colorsPut.mono : ∀ a0 a1 a2 k, LeO (impl_colorsPut.f k a0 a1 a2) (impl_colorsPut.f (k + 1) a0 a1 a2) := by
 intro a0 a1 a2 k; have ih0 := impl_colorsPut.mono_l k; unfold impl_colorsPut.f
 repeat' first
  | (with_reducible exact ih0 _ _ _ _ _ _)
  | (with_reducible exact impl_NumPut.mono _ _ _ _)
  | (with_reducible exact LeO.refl _)
  | (with_reducible exact LeO.none _)
  | (with_reducible refine LeO.ite ?_ ?_)
  | (with_reducible refine LeO.bind ?_ (fun _ => ?_))
  | exact ih0 _ _ _ _ _ _
  | exact impl_NumPut.mono _ _ _ _
  | exact LeO.none _
  | refine LeO.ite ?_ ?_
  | refine LeO.bind ?_ (fun _ => ?_)
set_option maxHeartbeats 8000000 in
set_option maxRecDepth 100000 in
theorem impl_colorsPut.calls (k : Nat) (A0 : Option Addr) (c0 : Nat) (l0 : List Int) (a1 : Int) (a2 : Bool) (r : ByteArray) (w : World) (hr0 : Kd.C (Kd.int .i64) w A0 l0.length l0) (hc0 : l0.length ≤ c0) (h : impl_colorsPut.f k l0 a1 a2 = some r) :
 Calls Try.prog 65 #[.slice A0 l0.length c0, .int .i64 a1, .bool a2] w fun e w' => e = .returned (.string r) ∧ Below w.heap.size w w' := by
 have HR0 := Aside0.mk hr0; have HC0 := Aside0.mk hc0; clear hr0 hc0; have HB := Aside0.mk (Below.refl w.heap.size w); have H : (impl_colorsPut.l0 k a1 a2 (⟨#[]⟩ : ByteArray) l0 (l0.length : Int) 0) = some r := h; clear h; have H' := Aside0.mk H; clear H; go_enter Try.func65, Try.ntmps65
 go_wp2
 go_loopg [7, 12] k (fun kq v7 v12 w' => ∃ (x7_1 : ByteArray) (x12_1 : Int), v7 = .string x7_1 ∧ v12 = .int .i64 x12_1 ∧ Aside0 (impl_colorsPut.l0 kq a1 a2 x7_1 l0 (l0.length : Int) x12_1 = some r) ∧ Aside0 (kq ≤ k) ∧ Aside0 (Below w.heap.size w w'))
 case atStart => exact ⟨((⟨#[]⟩ : ByteArray)), (0), (by first | rfl | (simp; done) | (simp [*]; done)), (by first | rfl | (simp; done) | (simp [*]; done)), H', ⟨Nat.le_refl _⟩, Sq.a_ HB⟩
 case round =>
  clear H'; try clear p2
  obtain ⟨x7_1, x12_1, rfl, rfl, HA, HK1, HB⟩ := hrel; cases gk with
  | zero => exact absurd HA.out (by simp [impl_colorsPut.l0])
  | succ k1 =>
   have H := HA.out; clear HA; simp only [impl_colorsPut.l0] at H
   by_cases c4 : x12_1 < (l0.length : Int)
   ·rw [if_pos c4] at H; have c4b0 : decide (x12_1 < (l0.length : Int)) = true := decide_eq_true c4; clear c4
    by_cases c5 : 0 ≤ x12_1
    ·rw [if_pos c5] at H; have c5b0 : decide (0 ≤ x12_1) = true := decide_eq_true c5; clear c5
     by_cases c6 : x12_1 < (l0.length : Int)
     ·rw [if_pos c6] at H; have c6b0 : decide (x12_1 < (l0.length : Int)) = true := decide_eq_true c6; clear c6; replace H := Option.bind_eq_some_iff.mp H; obtain ⟨t430, A70, H⟩ := H; have A7 := Aside0.mk A70; clear A70
      by_cases c8 : x7_1.size + t430.size ≤ 9223372036854775807
      ·rw [if_pos c8] at H; have c8b0 := eq_true c8; have c8b1 : decide (x7_1.size + t430.size ≤ 9223372036854775807) = true := decide_eq_true c8; try have c8b2 : (9223372036854775807 < x7_1.size + t430.size) = False := eq_false (Nat.not_lt.2 c8)
       have H' := Aside0.mk H; clear H; have p429 : 0 ≤ (x12_1 : Int) := of_decide_eq_true (by first | (with_reducible assumption) | assumption); have q429 : x12_1 < (l0.length : Int) := of_decide_eq_true (by first | (with_reducible assumption) | assumption); obtain ⟨ad429, e429, hx429_0⟩ := Kd.at_int HR0.out x12_1 p429 q429; cases e429; replace hx429_0 := (HB.out.cell (World.block_lt_of_cell? w _ hx429_0)).trans hx429_0; replace p429 := eq_true p429; replace q429 := eq_true q429; go_wp2_with (first | ((with_reducible refine gate_callee (f := 112) rfl ?_); refine goesL_ (some 20) rfl rfl Try.func112 (by kernel_rfl) rfl #[.int .i64 (rd l0 x12_1), .int .i64 a1, .bool a2] rfl (by (try simp only [Sq.mp]); first | done | rfl | (simp only [List.length_drop, List.length_take]; rfl)) ?_; (with_reducible refine (impl_NumPut.calls k1 (rd l0 x12_1) a1 a2 t430 _ A7.out).mono ?_); rintro e w9 ⟨rfl, hb⟩; refine ⟨_, rfl, ?_⟩; have n0_ := Sq.s_ HB hb; clear HB; have HB := n0_; clear n0_; (try clear hb); (try clear hb2); (try clear hk); (try clear hi)))
       go_roundg k1
       case measure => have := HK1.out; omega
       case rel => exact ⟨(x7_1 ++ t430), (wrap64 (x12_1 + 1)), (by first | rfl | (simp; done) | (simp [*]; done)), (by first | rfl | (simp; done) | (simp [*]; done)), H', ⟨by have := HK1.out; omega⟩, Sq.a_ HB⟩
      ·rw [if_neg c8] at H; exact absurd H (by simp)
     ·rw [if_neg c6] at H; exact absurd H (by simp)
    ·rw [if_neg c5] at H; exact absurd H (by simp)
   ·rw [if_neg c4] at H; have c4b0 : decide (x12_1 < (l0.length : Int)) = false := decide_eq_false c4; clear c4; obtain rfl := Option.some.inj H; go_wp2
    go_ret
    exact ⟨by first | rfl | (simp [errW_none, errW_some] <;> rfl) | (simp [*, errW_none, errW_some] <;> rfl), by repeat (first | (with_reducible first | exact HB.out | apply below_alloc | apply pw_below_drewN | apply below_drew1) | exact HB.out)⟩
/-! ### spec_l11Colors: function 111 -/
def spec_l11Colors.l0 : Nat → List Int → Int → ByteArray → Int → Option (ByteArray)
 | 0, _, _, _, _ => none
 | k + 1, x0, x1, x5, x6 => if x6 < (x0.length : Int) then (if 0 ≤ x6 then ((spec_l1Num.f k (rd x0 x6) x1 false).bind fun t363 => (if x5.size + t363.size ≤ 9223372036854775807 then (spec_l11Colors.l0 k x0 x1 (x5 ++ t363) (wrap64 (x6 + 1))) else (none))) else (none)) else (some x5)
def spec_l11Colors.f (k : Nat) (l0 : List Int) (a1 : Int) : Option (ByteArray) := spec_l11Colors.l0 k l0 a1 (⟨#[]⟩ : ByteArray) 0
theorem spec_l11Colors.mono_l : ∀ k, (∀ y0 y1 y2 y3, LeO (spec_l11Colors.l0 k y0 y1 y2 y3) (spec_l11Colors.l0 (k + 1) y0 y1 y2 y3))
 | 0 => fun _ _ _ _ r h => by simp [spec_l11Colors.l0] at h
 | k + 1 => by
  have ih0 := spec_l11Colors.mono_l k
  ·intro y0 y1 y2 y3; unfold spec_l11Colors.l0
   repeat' first
   | (with_reducible exact ih0 _ _ _ _)
   | (with_reducible exact spec_l1Num.mono _ _ _ _)
   | (with_reducible exact LeO.refl _)
   | (with_reducible exact LeO.none _)
   | (with_reducible refine LeO.ite ?_ ?_)
   | (with_reducible refine LeO.bind ?_ (fun _ => ?_))
   | exact ih0 _ _ _ _
   | exact spec_l1Num.mono _ _ _ _
   | exact LeO.none _
   | refine LeO.ite ?_ ?_
   | refine LeO.bind ?_ (fun _ => ?_)
theorem spec_l11Colors.mono : ∀ a0 a1 k, LeO (spec_l11Colors.f k a0 a1) (spec_l11Colors.f (k + 1) a0 a1) := by
 intro a0 a1 k; have ih0 := spec_l11Colors.mono_l k; unfold spec_l11Colors.f
 repeat' first
  | (with_reducible exact ih0 _ _ _ _)
  | (with_reducible exact spec_l1Num.mono _ _ _ _)
  | (with_reducible exact LeO.refl _)
  | (with_reducible exact LeO.none _)
  | (with_reducible refine LeO.ite ?_ ?_)
  | (with_reducible refine LeO.bind ?_ (fun _ => ?_))
  | exact ih0 _ _ _ _
  | exact spec_l1Num.mono _ _ _ _
  | exact LeO.none _
  | refine LeO.ite ?_ ?_
  | refine LeO.bind ?_ (fun _ => ?_)
set_option maxHeartbeats 8000000 in
set_option maxRecDepth 100000 in
theorem spec_l11Colors.calls (k : Nat) (A0 : Option Addr) (c0 : Nat) (l0 : List Int) (a1 : Int) (r : ByteArray) (w : World) (hr0 : Kd.C (Kd.int .i64) w A0 l0.length l0) (hc0 : l0.length ≤ c0) (h : spec_l11Colors.f k l0 a1 = some r) :
 Calls Try.prog 111 #[.slice A0 l0.length c0, .int .i64 a1] w fun e w' => e = .returned (.string r) ∧ Below w.heap.size w w' := by
 have HR0 := Aside0.mk hr0; have HC0 := Aside0.mk hc0; clear hr0 hc0; have HB := Aside0.mk (Below.refl w.heap.size w); have H : (spec_l11Colors.l0 k l0 a1 (⟨#[]⟩ : ByteArray) 0) = some r := h; clear h; have H' := Aside0.mk H; clear H; go_enter Try.func111, Try.ntmps111
 go_wp2
 go_loopg [5, 6] k (fun kq v5 v6 w' => ∃ (x5_1 : ByteArray) (x6_1 : Int), v5 = .string x5_1 ∧ v6 = .int .i64 x6_1 ∧ Aside0 (spec_l11Colors.l0 kq l0 a1 x5_1 x6_1 = some r) ∧ Aside0 (kq ≤ k) ∧ Aside0 (Below w.heap.size w w'))
 case atStart => exact ⟨((⟨#[]⟩ : ByteArray)), (0), (by first | rfl | (simp; done) | (simp [*]; done)), (by first | rfl | (simp; done) | (simp [*]; done)), H', ⟨Nat.le_refl _⟩, Sq.a_ HB⟩
 case round =>
  clear H'; try clear c1
  try clear p2
  obtain ⟨x5_1, x6_1, rfl, rfl, HA, HK1, HB⟩ := hrel; cases gk with
  | zero => exact absurd HA.out (by simp [spec_l11Colors.l0])
  | succ k1 =>
   have H := HA.out; clear HA; simp only [spec_l11Colors.l0] at H
   by_cases c3 : x6_1 < (l0.length : Int)
   ·rw [if_pos c3] at H; have c3b0 : decide (x6_1 < (l0.length : Int)) = true := decide_eq_true c3; clear c3
    by_cases c4 : 0 ≤ x6_1
    ·rw [if_pos c4] at H; have c4b0 : decide (0 ≤ x6_1) = true := decide_eq_true c4; clear c4; replace H := Option.bind_eq_some_iff.mp H; obtain ⟨t363, A50, H⟩ := H; have A5 := Aside0.mk A50; clear A50
     by_cases c6 : x5_1.size + t363.size ≤ 9223372036854775807
     ·rw [if_pos c6] at H; have c6b0 := eq_true c6; have c6b1 : decide (x5_1.size + t363.size ≤ 9223372036854775807) = true := decide_eq_true c6; try have c6b2 : (9223372036854775807 < x5_1.size + t363.size) = False := eq_false (Nat.not_lt.2 c6)
      have H' := Aside0.mk H; clear H; have p362 : 0 ≤ (x6_1 : Int) := of_decide_eq_true (by first | (with_reducible assumption) | assumption); have q362 : x6_1 < (l0.length : Int) := of_decide_eq_true (by first | (with_reducible assumption) | assumption); obtain ⟨ad362, e362, hx362_0⟩ := Kd.at_int HR0.out x6_1 p362 q362; cases e362; replace hx362_0 := (HB.out.cell (World.block_lt_of_cell? w _ hx362_0)).trans hx362_0; replace p362 := eq_true p362; replace q362 := eq_true q362; go_wp2_with (first | ((with_reducible refine gate_callee (f := 109) rfl ?_); refine goesL_ (some 19) rfl rfl Try.func109 (by kernel_rfl) rfl #[.int .i64 (rd l0 x6_1), .int .i64 a1, .bool false] rfl (by (try simp only [Sq.mp]); first | done | rfl | (simp only [List.length_drop, List.length_take]; rfl)) ?_; (with_reducible refine (spec_l1Num.calls k1 (rd l0 x6_1) a1 false t363 _ A5.out).mono ?_); rintro e w7 ⟨rfl, hb⟩; refine ⟨_, rfl, ?_⟩; have n0_ := Sq.s_ HB hb; clear HB; have HB := n0_; clear n0_; (try clear hb); (try clear hb2); (try clear hk); (try clear hi)))
      go_roundg k1
      case measure => have := HK1.out; omega
      case rel => exact ⟨(x5_1 ++ t363), (wrap64 (x6_1 + 1)), (by first | rfl | (simp; done) | (simp [*]; done)), (by first | rfl | (simp; done) | (simp [*]; done)), H', ⟨by have := HK1.out; omega⟩, Sq.a_ HB⟩
     ·rw [if_neg c6] at H; exact absurd H (by simp)
    ·rw [if_neg c4] at H; exact absurd H (by simp)
   ·rw [if_neg c3] at H; have c3b0 : decide (x6_1 < (l0.length : Int)) = false := decide_eq_false c3; clear c3; obtain rfl := Option.some.inj H; go_wp2
    go_ret
    exact ⟨by first | rfl | (simp [errW_none, errW_some] <;> rfl) | (simp [*, errW_none, errW_some] <;> rfl), by repeat (first | (with_reducible first | exact HB.out | apply below_alloc | apply pw_below_drewN | apply below_drew1) | exact HB.out)⟩
end Go.Proofs.Ytgdbinifnhfcjaa.P
/- Numbers one behind the other, of so many bytes each, as the program and the reference write them. -/
set_option linter.unusedVariables false
set_option linter.unusedSimpArgs false
namespace Go.Proofs.Ytgdbinifnhfcjaa.Pic
open Go.RowKit Go.Proofs.Ytgdbinifnhfcjaa.P Go.Proofs.Ytgdbinifnhfcjaa.Lib Go.Proofs.YtgdbinifnhfcjaaW.PrintWords Go.Proofs.YtgdbinifnhfcjaaW.PrintLast Go.Proofs.YtgdbinifnhfcjaaW.PrintMore
open Go.Proofs.Ytgdbinifnhfcjaa.Pure (le le_length numv numv_size nums_app append_nil' nil_append' inum_ok snum_ok)
def cat (l : List Int) (z : Nat) : List Int := l.flatMap fun x => le x z
theorem cat_length (l : List Int) (z : Nat) : (cat l z).length = l.length * z := by
  unfold cat
  induction l with
  | nil => simp
  | cons x l ih => rw [List.flatMap_cons, List.length_append, le_length, ih, List.length_cons, Nat.succ_mul]; omega
theorem cat_snoc (l : List Int) (z : Nat) (x : Int) : cat (l ++ [x]) z = cat l z ++ le x z := by
  unfold cat
  rw [List.flatMap_append]
  simp
theorem cat_append (l m : List Int) (z : Nat) : cat (l ++ m) z = cat l z ++ cat m z := by
  unfold cat
  rw [List.flatMap_append]
theorem numv_le (x : Int) (z : Nat) : numv x z false = strOfNums (le x z) := by unfold numv; rw [if_neg (by simp)]
/-- Numbers of z bytes. -/
def fits (l : List Int) (z : Nat) : Prop := ∀ x ∈ l, 0 ≤ x ∧ x ≤ 256 ^ z - 1
theorem fits_at {l : List Int} {z : Nat} (h : fits l z) (i : Nat) (hi : i < l.length) : 0 ≤ rd l (i : Int) ∧ rd l (i : Int) ≤ 256 ^ z - 1 := h _ (rd_mem (by omega) (by omega))
theorem take_rd (l : List Int) (i : Nat) (h : i < l.length) : l.take (i + 1) = l.take i ++ [rd l (i : Int)] := by
  rw [List.take_succ_eq_append_getElem h]
  unfold rd
  rw [Int.toNat_natCast, List.getD_eq_getElem?_getD, List.getElem?_eq_getElem h, Option.getD_some]
theorem pow4 {z : Nat} (hz : z ≤ 4) : (256 : Int) ^ z - 1 ≤ 4294967295 := by
  have : z = 0 ∨ z = 1 ∨ z = 2 ∨ z = 3 ∨ z = 4 := by omega
  rcases this with rfl | rfl | rfl | rfl | rfl <;> omega
theorem pinc3 (j : Nat) (hj : j ≤ 10000000) : wrap64 ((j : Int) + 1) = ((j + 1 : Nat) : Int) := by rw [w64 (by omega) (by omega)]; omega
theorem sz_cat (l : List Int) (z i : Nat) (hz : z ≤ 4) (hl : l.length ≤ 1000000) : (strOfNums (cat (l.take i) z)).size ≤ 4000000 := by
  rw [strOfNums_size, cat_length, List.length_take]
  have h : min i l.length * z ≤ 1000000 * 4 := Nat.mul_le_mul (by omega) hz
  omega
theorem cat_step (l : List Int) (z i : Nat) (h : i < l.length) : strOfNums (cat (l.take i) z) ++ numv (rd l (i : Int)) z false = strOfNums (cat (l.take (i + 1)) z) := by
  rw [numv_le, nums_app, take_rd l i h, cat_snoc]
theorem numbers_l (l : List Int) (z : Nat) (h1 : 1 ≤ z) (hz : z ≤ 4) (hl : l.length ≤ 1000000) (hf : fits l z) (d : Nat) : ∀ i : Nat, i + d = l.length → Ok (fun k => impl_numbers.l0 k (z : Int) (strOfNums (cat (l.take i) z)) l (l.length : Int) (i : Int)) (· = strOfNums (cat l z)) := by
  induction d with
  | zero =>
    intro i hi
    refine Ok.succ ?_
    simp only [impl_numbers.l0]
    exact Ok.no (by omega) (Ok.now _ (by rw [List.take_of_length_le (by omega)]))
  | succ d ih =>
    intro i hi
    refine Ok.succ ?_
    simp only [impl_numbers.l0]
    rw [pinc3 i (by omega)]
    refine Ok.yes (by omega) (Ok.yes (by omega) (Ok.yes (by omega) ((inum_ok _ z false h1 hz (fits_at hf i (by omega))).bind fun t ht => ?_)))
    subst ht
    have hs := sz_cat l z i hz hl
    rw [numv_size, cat_step l z i (by omega)]
    exact Ok.yes (by omega) (ih (i + 1) (by omega))
theorem numbers_ok (l : List Int) (z : Nat) (h1 : 1 ≤ z) (hz : z ≤ 4) (hl : l.length ≤ 1000000) (hf : fits l z) : Ok (fun k => impl_numbers.f k (z : Int) l) (· = strOfNums (cat l z)) := by
  unfold impl_numbers.f
  exact numbers_l l z h1 hz hl hf l.length 0 (by omega)
theorem colorsPut_l (l : List Int) (z : Nat) (h1 : 1 ≤ z) (hz : z ≤ 4) (hl : l.length ≤ 1000000) (hf : fits l z) (d : Nat) : ∀ i : Nat, i + d = l.length → Ok (fun k => impl_colorsPut.l0 k (z : Int) false (strOfNums (cat (l.take i) z)) l (l.length : Int) (i : Int)) (· = strOfNums (cat l z)) := by
  induction d with
  | zero =>
    intro i hi
    refine Ok.succ ?_
    simp only [impl_colorsPut.l0]
    exact Ok.no (by omega) (Ok.now _ (by rw [List.take_of_length_le (by omega)]))
  | succ d ih =>
    intro i hi
    refine Ok.succ ?_
    simp only [impl_colorsPut.l0]
    rw [pinc3 i (by omega)]
    refine Ok.yes (by omega) (Ok.yes (by omega) (Ok.yes (by omega) ((inum_ok _ z false h1 hz (fits_at hf i (by omega))).bind fun t ht => ?_)))
    subst ht
    have hs := sz_cat l z i hz hl
    rw [numv_size, cat_step l z i (by omega)]
    exact Ok.yes (by omega) (ih (i + 1) (by omega))
theorem colorsPut_ok (l : List Int) (z : Nat) (h1 : 1 ≤ z) (hz : z ≤ 4) (hl : l.length ≤ 1000000) (hf : fits l z) : Ok (fun k => impl_colorsPut.f k l (z : Int) false) (· = strOfNums (cat l z)) := by
  unfold impl_colorsPut.f
  exact colorsPut_l l z h1 hz hl hf l.length 0 (by omega)
theorem l11Colors_l (l : List Int) (z : Nat) (hz : z ≤ 4) (hl : l.length ≤ 1000000) (hf : fits l z) (d : Nat) : ∀ i : Nat, i + d = l.length → Ok (fun k => spec_l11Colors.l0 k l (z : Int) (strOfNums (cat (l.take i) z)) (i : Int)) (· = strOfNums (cat l z)) := by
  induction d with
  | zero =>
    intro i hi
    refine Ok.succ ?_
    simp only [spec_l11Colors.l0]
    exact Ok.no (by omega) (Ok.now _ (by rw [List.take_of_length_le (by omega)]))
  | succ d ih =>
    intro i hi
    have hb := fits_at hf i (by omega)
    have := pow4 hz
    refine Ok.succ ?_
    simp only [spec_l11Colors.l0]
    rw [pinc3 i (by omega)]
    refine Ok.yes (by omega) (Ok.yes (by omega) ((snum_ok _ z false (by omega) ⟨hb.1, by omega⟩).bind fun t ht => ?_))
    subst ht
    have hs := sz_cat l z i hz hl
    rw [numv_size, cat_step l z i (by omega)]
    exact Ok.yes (by omega) (ih (i + 1) (by omega))
theorem l11Colors_ok (l : List Int) (z : Nat) (hz : z ≤ 4) (hl : l.length ≤ 1000000) (hf : fits l z) : Ok (fun k => spec_l11Colors.f k l (z : Int)) (· = strOfNums (cat l z)) := by
  unfold spec_l11Colors.f
  exact l11Colors_l l z hz hl hf l.length 0 (by omega)
end Go.Proofs.Ytgdbinifnhfcjaa.Pic
namespace Go.Proofs.Ytgdbinifnhfcjaa.P
open Go.RowKit Go.Proofs.YtgdbinifnhfcjaaW.PrintWords Go.Proofs.YtgdbinifnhfcjaaW.PrintLast Go.Proofs.YtgdbinifnhfcjaaW.PrintMore
attribute [local go_sem] max2_int min2_int max_two min_two max_three min_three max_four min_four   -- for this text's walks alone
set_option linter.unusedVariables false
set_option linter.unusedSimpArgs false
/-! ### impl_same_int: function 54 -/
def impl_same_int.l0 : Nat → List Int → Int → Int → Option (Int)
 | 0, _, _, _ => none
 | k + 1, x0, x1, x5 => if (wrap64 (x1 + x5)) < (x0.length : Int) then (if 0 ≤ (wrap64 (x1 + x5)) then (if 0 ≤ x1 then (if x1 < (x0.length : Int) then (if (rd x0 (wrap64 (x1 + x5))) = (rd x0 x1) then (impl_same_int.l0 k x0 x1 (wrap64 (x5 + 1))) else (some x5)) else (none)) else (none)) else (none)) else (some x5)
def impl_same_int.f (k : Nat) (l0 : List Int) (a1 : Int) : Option (Int) := impl_same_int.l0 k l0 a1 1
theorem impl_same_int.mono_l : ∀ k, (∀ y0 y1 y2, LeO (impl_same_int.l0 k y0 y1 y2) (impl_same_int.l0 (k + 1) y0 y1 y2))
 | 0 => fun _ _ _ r h => by simp [impl_same_int.l0] at h
 | k + 1 => by
  have ih0 := impl_same_int.mono_l k
  ·intro y0 y1 y2; unfold impl_same_int.l0
   repeat' first
   | (with_reducible exact ih0 _ _ _)
   | (with_reducible exact LeO.refl _)
   | (with_reducible exact LeO.none _)
   | (with_reducible refine LeO.ite ?_ ?_)
   | (with_reducible refine LeO.bind ?_ (fun _ => ?_))
   | exact ih0 _ _ _
   | exact LeO.none _
   | refine LeO.ite ?_ ?_
   | refine LeO.bind ?_ (fun _ => ?_)
theorem impl_same_int.mono : ∀ a0 a1 k, LeO (impl_same_int.f k a0 a1) (impl_same_int.f (k + 1) a0 a1) := by
 intro a0 a1 k; have ih0 := impl_same_int.mono_l k; unfold impl_same_int.f
 repeat' first
  | (with_reducible exact ih0 _ _ _)
  | (with_reducible exact LeO.refl _)
  | (with_reducible exact LeO.none _)
  | (with_reducible refine LeO.ite ?_ ?_)
  | (with_reducible refine LeO.bind ?_ (fun _ => ?_))
  | exact ih0 _ _ _
  | exact LeO.none _
  | refine LeO.ite ?_ ?_
  | refine LeO.bind ?_ (fun _ => ?_)
set_option maxHeartbeats 8000000 in
set_option maxRecDepth 100000 in
theorem impl_same_int.calls (k : Nat) (A0 : Option Addr) (c0 : Nat) (l0 : List Int) (a1 : Int) (r : Int) (w : World) (hr0 : Kd.C (Kd.int .i64) w A0 l0.length l0) (hc0 : l0.length ≤ c0) (h : impl_same_int.f k l0 a1 = some r) :
 Calls Try.prog 54 #[.slice A0 l0.length c0, .int .i64 a1] w fun e w' => e = .returned (.int .i64 r) ∧ Drawn0 w w' := by
 have HR0 := Aside0.mk hr0; have HC0 := Aside0.mk hc0; clear hr0 hc0; have H : (impl_same_int.l0 k l0 a1 1) = some r := h; clear h; have H' := Aside0.mk H; clear H; go_enter Try.func54, Try.ntmps54
 go_wp2
 repeat (go_quiet (fail); try go_wp2)
 go_loopg [5] k (fun kq v5 w' => ∃ (x5_1 : Int), v5 = .int .i64 x5_1 ∧ Aside0 (impl_same_int.l0 kq l0 a1 x5_1 = some r) ∧ Aside0 (kq ≤ k) ∧ Drawn0 w w')
 case atStart => exact ⟨(1), (by first | rfl | (simp; done) | (simp [*]; done)), H', ⟨Nat.le_refl _⟩, by repeat (first | exact Drawn0.refl _ | apply Drawn0.step)⟩
 case round =>
  clear H'; try clear p2
  obtain ⟨x5_1, rfl, HA, HK1, ⟨m1, rfl⟩⟩ := hrel; cases gk with
  | zero => exact absurd HA.out (by simp [impl_same_int.l0])
  | succ k1 =>
   have H := HA.out; clear HA; simp only [impl_same_int.l0] at H
   by_cases c3 : (wrap64 (a1 + x5_1)) < (l0.length : Int)
   ·rw [if_pos c3] at H; have c3b0 : decide ((wrap64 (a1 + x5_1)) < (l0.length : Int)) = true := decide_eq_true c3; clear c3; obtain ⟨ji4, hji4⟩ : ∃ j_ : Int, (wrap64 (a1 + x5_1)) = j_ := ⟨_, rfl⟩; replace H : (if 0 ≤ (ji4) then (if 0 ≤ a1 then (if a1 < (l0.length : Int) then (if (rd l0 (ji4)) = (rd l0 a1) then (impl_same_int.l0 k1 l0 a1 (wrap64 (x5_1 + 1))) else (some x5_1)) else (none)) else (none)) else (none)) = some r := by first | (rw [hji4] at H; exact H) | (simp only [hji4] at H ⊢; exact H)
    (try rw [hji4] at c3b0)
    have hji4w : (IntKind.i64.wrap (a1 + x5_1)) = ji4 := (i64_w _).trans hji4
    by_cases c5 : 0 ≤ (ji4)
    ·rw [if_pos c5] at H; have c5b0 : decide (0 ≤ (ji4)) = true := decide_eq_true c5; clear c5
     by_cases c6 : 0 ≤ a1
     ·rw [if_pos c6] at H; have c6b0 : decide (0 ≤ a1) = true := decide_eq_true c6; clear c6
      by_cases c7 : a1 < (l0.length : Int)
      ·rw [if_pos c7] at H; have c7b0 : decide (a1 < (l0.length : Int)) = true := decide_eq_true c7; clear c7
       by_cases c8 : (rd l0 (ji4)) = (rd l0 a1)
       ·rw [if_pos c8] at H; have c8b0 : ((rd l0 (ji4)) == (rd l0 a1)) = true := beq_iff_eq.mpr c8; have c8b1 : ((rd l0 (ji4)) != (rd l0 a1)) = false := bne_eq_false_iff_eq.mpr c8; clear c8; have H' := Aside0.mk H; clear H; have p297 : 0 ≤ ((ji4) : Int) := of_decide_eq_true (by first | (with_reducible assumption) | assumption); have q297 : (ji4) < (l0.length : Int) := of_decide_eq_true (by first | (with_reducible assumption) | assumption); obtain ⟨ad297, e297, hx297_0⟩ := Kd.at_int HR0.out (ji4) p297 q297; cases e297; replace p297 := eq_true p297; replace q297 := eq_true q297; have p298 : 0 ≤ (a1 : Int) := of_decide_eq_true (by first | (with_reducible assumption) | assumption); have q298 : a1 < (l0.length : Int) := of_decide_eq_true (by first | (with_reducible assumption) | assumption); obtain ⟨ad298, e298, hx298_0⟩ := Kd.at_int HR0.out a1 p298 q298; obtain rfl : ad297 = ad298 := (by injection e298); replace p298 := eq_true p298; replace q298 := eq_true q298; go_wp2
        repeat (go_quiet (fail); try go_wp2)
        go_roundg k1
        case measure => have := HK1.out; omega
        case rel => exact ⟨(wrap64 (x5_1 + 1)), (by first | rfl | (simp; done) | (simp [*]; done)), H', ⟨by have := HK1.out; omega⟩, by repeat (first | exact Drawn0.refl _ | apply Drawn0.step)⟩
       ·rw [if_neg c8] at H; have c8b0 : ((rd l0 (ji4)) == (rd l0 a1)) = false := beq_eq_false_iff_ne.mpr c8; have c8b1 : ((rd l0 (ji4)) != (rd l0 a1)) = true := bne_iff_ne.mpr c8; obtain rfl := Option.some.inj H; have p297 : 0 ≤ ((ji4) : Int) := of_decide_eq_true (by first | (with_reducible assumption) | assumption); have q297 : (ji4) < (l0.length : Int) := of_decide_eq_true (by first | (with_reducible assumption) | assumption); obtain ⟨ad297, e297, hx297_0⟩ := Kd.at_int HR0.out (ji4) p297 q297; cases e297; replace p297 := eq_true p297; replace q297 := eq_true q297; have p298 : 0 ≤ (a1 : Int) := of_decide_eq_true (by first | (with_reducible assumption) | assumption); have q298 : a1 < (l0.length : Int) := of_decide_eq_true (by first | (with_reducible assumption) | assumption); obtain ⟨ad298, e298, hx298_0⟩ := Kd.at_int HR0.out a1 p298 q298; obtain rfl : ad297 = ad298 := (by injection e298); replace p298 := eq_true p298; replace q298 := eq_true q298; go_wp2
        repeat (go_quiet (fail); try go_wp2)
        go_ret
        exact ⟨by first | rfl | (simp; done) | (simp only [← hji4] <;> (first | rfl | simp)) | (simp [*]; done), by repeat (first | exact Drawn0.refl _ | apply Drawn0.step)⟩
      ·rw [if_neg c7] at H; exact absurd H (by simp)
     ·rw [if_neg c6] at H; exact absurd H (by simp)
    ·rw [if_neg c5] at H; exact absurd H (by simp)
   ·rw [if_neg c3] at H; have c3b0 : decide ((wrap64 (a1 + x5_1)) < (l0.length : Int)) = false := decide_eq_false c3; clear c3; obtain rfl := Option.some.inj H; go_wp2
    repeat (go_quiet (fail); try go_wp2)
    go_ret
    exact ⟨by first | rfl | (simp; done) | (simp [*]; done), by repeat (first | exact Drawn0.refl _ | apply Drawn0.step)⟩
end Go.Proofs.Ytgdbinifnhfcjaa.P
