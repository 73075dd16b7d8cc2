/- laws.FnChunksByte: at all code, a drawn piece that was written, and of which one bit behind its length is another one, is none. -/
import Derived.Test.YtdhpekdfpoeboaaDoorWWords
import Derived.Test.YtdhpekdfpoeboaaDoorWMore
import Derived.Test.YtdhpekdfpoeboaaDoorGFnChunksByteF29
import Derived.Test.YtdhpekdfpoeboaaDoorGFnChunksByteF42
import Derived.Test.YtdhpekdfpoeboaaDoorGFnChunksByteF40
import Derived.Test.YtdhpekdfpoeboaaDoorGFnChunksByte1
import Derived.Test.YtdhpekdfpoeboaaDoorGFnChunksByte6
import Derived.Test.YtdhpekdfpoeboaaDoorGFnChunksByte2
import Derived.Test.YtdhpekdfpoeboaaDoorGFnChunksByte4
import Derived.Test.YtdhpekdfpoeboaaDoorGFnChunksByte0
import Derived.Test.YtdhpekdfpoeboaaDoorGFnChunksByteF25
import Derived.Test.YtdhpekdfpoeboaaDoorGFnChunksByteF10
import Derived.Test.YtdhpekdfpoeboaaDoorGFnChunksByteF13
import Derived.Test.YtdhpekdfpoeboaaDoorGFnChunksByte22
import Derived.Test.YtdhpekdfpoeboaaDoorGFnChunksByteF31
import Derived.Test.YtdhpekdfpoeboaaDoorGFnChunksByteF33
import Derived.Test.YtdhpekdfpoeboaaDoorGFnChunksByte14
import Derived.Test.YtdhpekdfpoeboaaDoorGFnChunksByteF45
import Derived.Test.YtdhpekdfpoeboaaDoorGFnChunksByte18
import Derived.OpenShut
import Derived.Test.YtdhpekdfpoeboaaDoorGFnChunksByteF5
import Derived.Test.YtdhpekdfpoeboaaDoorGFnChunksByteF18
/- Small words for functions with a number of rounds: 'Ok g P': with enough rounds g answers some r of which P holds. -/
namespace Go.Proofs.YtdhpekdfpoeboaaDoor.Lib
open Go.RowKit Go.Proofs.YtdhpekdfpoeboaaDoorW.PrintWords Go.Proofs.YtdhpekdfpoeboaaDoorW.PrintLast Go.Proofs.YtdhpekdfpoeboaaDoorW.PrintMore

def Ok {α : Type} (g : Nat → Option α) (P : α → Prop) : Prop := ∃ r, Ev g r ∧ P r
theorem Ok.bind {α β : Type} {g : Nat → Option α} {f : Nat → α → Option β} {P : α → Prop} {Q : β → Prop} (h : Ok g P) (k : ∀ a, P a → Ok (fun n => f n a) Q) : Ok (fun n => (g n).bind (f n)) Q := by
  obtain ⟨a, ha, pa⟩ := h
  obtain ⟨b, hb, qb⟩ := k a pa
  exact ⟨b, Ev.bind ha hb, qb⟩
theorem Ok.now {α : Type} {P : α → Prop} (r : α) (h : P r) : Ok (fun _ => some r) P := ⟨r, Ev.now r, h⟩
theorem Ok.step {α : Type} {g f : Nat → Option α} {P : α → Prop} (h : ∀ k, g (k + 1) = f k) (k : Ok f P) : Ok g P := by
  obtain ⟨r, hr, pr⟩ := k
  exact ⟨r, Ev.step h hr, pr⟩
theorem Ok.succ {α : Type} {g : Nat → Option α} {P : α → Prop} (k : Ok (fun n => g (n + 1)) P) : Ok g P := Ok.step (fun _ => rfl) k
theorem Ok.congr {α : Type} {g f : Nat → Option α} {P : α → Prop} (h : ∀ k, g k = f k) (k : Ok f P) : Ok g P := by
  obtain ⟨r, hr, pr⟩ := k
  exact ⟨r, Ev.congr h hr, pr⟩
theorem Ok.mono {α : Type} {g : Nat → Option α} {P Q : α → Prop} (h : Ok g P) (k : ∀ r, P r → Q r) : Ok g Q := by
  obtain ⟨r, hr, pr⟩ := h
  exact ⟨r, hr, k r pr⟩
theorem Ok.yes {α : Type} {g f : Nat → Option α} {c : Prop} [Decidable c] {P : α → Prop} (hc : c) (h : Ok g P) : Ok (fun n => if c then g n else f n) P := by
  simp only [if_pos hc]; exact h
theorem Ok.no {α : Type} {g f : Nat → Option α} {c : Prop} [Decidable c] {P : α → Prop} (hc : ¬ c) (h : Ok f P) : Ok (fun n => if c then g n else f n) P := by
  simp only [if_neg hc]; exact h
theorem Ok.ite {α : Type} {g f : Nat → Option α} {c : Prop} [Decidable c] {P : α → Prop} (h : c → Ok g P) (k : ¬ c → Ok f P) : Ok (fun n => if c then g n else f n) P := by
  by_cases hc : c
  · exact Ok.yes hc (h hc)
  · exact Ok.no hc (k hc)
theorem Ok.ev {α : Type} {g : Nat → Option α} {r : α} (h : Ok g (· = r)) : Ev g r := by
  obtain ⟨_, hr, rfl⟩ := h
  exact hr
theorem Ok.of_ev {α : Type} {g : Nat → Option α} {r : α} {P : α → Prop} (h : Ev g r) (hp : P r) : Ok g P := ⟨r, h, hp⟩
theorem Ok.rounds {α : Type} {g : Nat → Option α} {r : α} (h : Ok g (· = r)) : ∃ k, g k = some r := h.ev.rounds
theorem Ok.const {α : Type} {o : Option α} {P : α → Prop} {r : α} (h : o = some r) (hp : P r) : Ok (fun _ => o) P := by
  subst h; exact Ok.now r hp
theorem Ok.binds {α β : Type} {o : Option α} {f : Nat → α → Option β} {Q : β → Prop} {a : α} (h : o = some a) (k : Ok (fun n => f n a) Q) : Ok (fun n => o.bind (f n)) Q := by
  subst h; exact k

theorem w64 {x : Int} (h : -9223372036854775808 ≤ x) (h' : x ≤ 9223372036854775807) : wrap64 x = x := by unfold wrap64; omega
theorem tmod_nn {x n : Int} (h : 0 ≤ x) : Int.tmod x n = x % n := Int.tmod_eq_emod_of_nonneg h
theorem tdiv_nn {x n : Int} (h : 0 ≤ x) : Int.tdiv x n = x / n := Int.tdiv_eq_ediv_of_nonneg h
theorem rd_mem {b : List Int} {i : Int} (h0 : 0 ≤ i) (h1 : i < b.length) : rd b i ∈ b := by
  unfold rd
  have h : i.toNat < b.length := by omega
  rw [List.getD_eq_getElem?_getD, List.getElem?_eq_getElem h]
  exact List.getElem_mem h

/-! exclusive or of numbers that are not below 0 -/
theorem ofInt_i64 (a : Nat) (ha : a < 9223372036854775808) : (BitVec.ofInt 64 (a : Int)).toNat = a := by
  rw [BitVec.ofInt_natCast, BitVec.toNat_ofNat]; exact Nat.mod_eq_of_lt (by omega)
theorem i64_xor_nat (a b : Nat) (ha : a < 9223372036854775808) (hb : b < 9223372036854775808) : bits .xor .i64 (a : Int) (b : Int) = ((a ^^^ b : Nat) : Int) := by
  have hx : a ^^^ b < 2 ^ 63 := Nat.xor_lt_two_pow (by omega) (by omega)
  show IntKind.i64.wrap ((BitVec.ofInt 64 (a : Int) ^^^ BitVec.ofInt 64 (b : Int)).toNat : Int) = _
  rw [BitVec.toNat_xor, ofInt_i64 a ha, ofInt_i64 b hb, IntKind.wrap_i64]
  omega
theorem xor_nonneg {x y : Int} (hx : 0 ≤ x) (hx' : x ≤ 9223372036854775807) (hy : 0 ≤ y) (hy' : y ≤ 9223372036854775807) : 0 ≤ bits .xor .i64 x y ∧ bits .xor .i64 x y ≤ 9223372036854775807 := by
  obtain ⟨a, rfl⟩ := Int.eq_ofNat_of_zero_le hx
  obtain ⟨b, rfl⟩ := Int.eq_ofNat_of_zero_le hy
  rw [i64_xor_nat a b (by omega) (by omega)]
  have h : a ^^^ b < 2 ^ 63 := Nat.xor_lt_two_pow (by omega) (by omega)
  omega

/-! texts and lists of bytes -/
theorem size_empty : (⟨#[]⟩ : ByteArray).size = 0 := rfl
theorem text_nil (s : ByteArray) : s.toList = ([] : List UInt8) ↔ s.size = 0 := by
  rw [ByteArray.toList_eq]
  constructor
  · intro h
    have := congrArg List.length h
    simpa using this
  · intro h
    apply List.eq_nil_of_length_eq_zero
    simpa using h
theorem strOfNums_at (xs : List Int) (i : Nat) (h : i < xs.length) (h0 : 0 ≤ xs[i]) (h1 : xs[i] ≤ 255) : bt (strOfNums xs) (i : Int) = xs[i] := by
  unfold bt
  have hs : (i : Int).toNat < (strOfNums xs).size := by rw [strOfNums_size]; simpa using h
  rw [dif_pos hs]
  have e : (strOfNums xs)[(i : Int).toNat]'hs = UInt8.ofNat (xs[i]).toNat := by
    show (xs.map fun n => UInt8.ofNat n.toNat).toArray[(i : Int).toNat]'(by simpa using h) = _
    simp
  rw [e, UInt8.toNat_ofNat']
  omega
theorem strOfNums_self (s : ByteArray) : strOfNums ((List.range s.size).map fun (i : Nat) => bt s (i : Int)) = s := by
  apply ByteArray.ext
  unfold strOfNums
  apply Array.ext
  · simp
  · intro i h1 h2
    have hs : i < s.size := h2
    have e : bt s (i : Int) = ((s[i]'hs).toNat : Int) := by
      unfold bt
      have : (i : Int).toNat < s.size := by simpa using hs
      rw [dif_pos this]
      simp
    simp only [List.getElem_toArray, List.getElem_map, List.getElem_range, e]
    simp
    rfl
theorem bt_nat (s : ByteArray) (i : Nat) (h : i < s.size) : bt s (i : Int) = ((s[i]'h).toNat : Int) := by
  unfold bt
  have : (i : Int).toNat < s.size := by simpa using h
  rw [dif_pos this]
  simp
end Go.Proofs.YtdhpekdfpoeboaaDoor.Lib
/- Numbers of one to four bytes, as the program and the reference read and write them. -/
set_option linter.unusedVariables false
set_option linter.unusedSimpArgs false
namespace Go.Proofs.YtdhpekdfpoeboaaDoor.Pure
open Go.RowKit Go.Proofs.YtdhpekdfpoeboaaDoor.P Go.Proofs.YtdhpekdfpoeboaaDoor.Lib Go.Proofs.YtdhpekdfpoeboaaDoorW.PrintWords Go.Proofs.YtdhpekdfpoeboaaDoorW.PrintLast Go.Proofs.YtdhpekdfpoeboaaDoorW.PrintMore
/-! ### numbers of one to four bytes, written -/
/-- The bytes of a number, the lowest first. -/
def le (n : Int) : Nat → List Int
  | 0 => []
  | k + 1 => n % 256 :: le (n / 256) k
theorem le_length (k : Nat) : ∀ n, (le n k).length = k := by
  induction k with
  | zero => intro n; rfl
  | succ k ih => intro n; simp only [le, List.length_cons, ih]
theorem le_byte (k : Nat) : ∀ n, ∀ x ∈ le n k, 0 ≤ x ∧ x ≤ 255 := by
  induction k with
  | zero => intro n x h; cases h
  | succ k ih =>
    intro n x h
    simp only [le, List.mem_cons] at h
    rcases h with rfl | h
    · omega
    · exact ih _ x h
theorem le_snoc (k : Nat) : ∀ n : Int, le n (k + 1) = le n k ++ [n / 256 ^ k % 256] := by
  induction k with
  | zero => intro n; simp [le]
  | succ k ih =>
    intro n
    have e : n / 256 / 256 ^ k = n / 256 ^ (k + 1) := by
      rw [Int.ediv_ediv_of_nonneg (by omega), Int.pow_succ, Int.mul_comm]
    rw [show le n (k + 1 + 1) = n % 256 :: le (n / 256) (k + 1) from rfl, ih, e]
    rfl
def numv (n : Int) (z : Nat) (big : Bool) : ByteArray := strOfNums (if big = true then (le n z).reverse else le n z)
theorem numv_size (n : Int) (z : Nat) (big : Bool) : (numv n z big).size = z := by
  unfold numv
  rw [strOfNums_size]
  cases big
  · rw [if_neg (by simp), le_length]
  · rw [if_pos rfl, List.length_reverse, le_length]
theorem nums_app (a b : List Int) : strOfNums a ++ strOfNums b = strOfNums (a ++ b) := by
  apply ByteArray.ext
  simp only [ByteArray.data_append]
  unfold strOfNums
  simp
theorem append_nil' (s : ByteArray) : s ++ (⟨#[]⟩ : ByteArray) = s := ByteArray.append_empty
theorem nil_append' (s : ByteArray) : (⟨#[]⟩ : ByteArray) ++ s = s := ByteArray.empty_append
theorem pinc' (j : Nat) (hj : j ≤ 100000) : wrap64 ((j : Int) + 1) = ((j + 1 : Nat) : Int) := by rw [w64 (by omega) (by omega)]; omega
theorem snum_l0 (z : Nat) (hz : z ≤ 8) (big : Bool) (d : Nat) : ∀ (j : Nat) (n : Int) (out : ByteArray), j + d = z → 0 ≤ n → n ≤ 4294967295 → out.size ≤ j →
    Ok (fun k => spec_l1Num.l0 k n (z : Int) big out (j : Int)) (· = if big = true then strOfNums (le n d).reverse ++ out else out ++ strOfNums (le n d)) := by
  induction d with
  | zero =>
    intro j n out hj hn hn2 ho
    refine Ok.succ ?_
    simp only [spec_l1Num.l0]
    refine Ok.no (by omega) (Ok.now _ ?_)
    cases big
    · rw [if_neg (by simp)]; exact (append_nil' out).symm
    · rw [if_pos rfl]; exact (nil_append' out).symm
  | succ d ih =>
    intro j n out hj hn hn2 ho
    have e1 : Int.tmod n 256 % 256 = n % 256 := by rw [tmod_nn hn]; omega
    have e2 : wrap64 (Int.tdiv n 256) = n / 256 := by rw [tdiv_nn hn, w64 (by omega) (by omega)]
    have e3 := pinc' j (by omega)
    have z1 : (strOfNums [n % 256]).size = 1 := by rw [strOfNums_size]; rfl
    refine Ok.succ ?_
    simp only [spec_l1Num.l0]
    rw [e1, e2, e3]
    refine Ok.yes (by omega) (Ok.binds rfl ?_)
    cases big with
    | true =>
      refine Ok.yes rfl (Ok.yes (by rw [z1]; omega) ?_)
      have h := ih (j + 1) (n / 256) (strOfNums [n % 256] ++ out) (by omega) (by omega) (by omega) (by clear e1 e2 e3 ih; rw [ByteArray.size_append, z1]; omega)
      rw [if_pos rfl, ← ByteArray.append_assoc, nums_app] at h
      rw [if_pos rfl]
      simpa only [le, List.reverse_cons] using h
    | false =>
      refine Ok.no (by simp) (Ok.yes (by rw [z1]; omega) ?_)
      have h := ih (j + 1) (n / 256) (out ++ strOfNums [n % 256]) (by omega) (by omega) (by omega) (by clear e1 e2 e3 ih; rw [ByteArray.size_append, z1]; omega)
      rw [if_neg (by simp), ByteArray.append_assoc, nums_app] at h
      rw [if_neg (by simp)]
      simpa only [le, List.singleton_append] using h
theorem snum_ok (n : Int) (z : Nat) (big : Bool) (hz : z ≤ 8) (h : 0 ≤ n ∧ n ≤ 4294967295) : Ok (fun k => spec_l1Num.f k n (z : Int) big) (· = numv n z big) := by
  unfold spec_l1Num.f numv
  have h := snum_l0 z hz big z 0 n (⟨#[]⟩ : ByteArray) (by omega) h.1 h.2 (Nat.le_refl 0)
  rw [append_nil', nil_append'] at h
  cases big
  · exact h
  · exact h
theorem shr8 (n : Int) (j : Nat) (h : j ≤ 7) : shr .i64 n (8 * (j : Int)) = n / 256 ^ j := by
  unfold shr
  show n / 2 ^ min (8 * (j : Int)).toNat 64 = _
  rw [Nat.min_eq_left (by omega), show (8 * (j : Int)).toNat = 8 * j by omega, Int.pow_mul]
  rfl
theorem shl8 (z : Nat) (h1 : 1 ≤ z) (h : z ≤ 4) : wrap64 (8 * (z : Int)) = 8 * (z : Int) ∧ wrap64 ((shl .i64 1 (8 * (z : Int))) - 1) = 256 ^ z - 1 := by
  match z, h1, h with
  | 1, _, _ => decide +kernel
  | 2, _, _ => decide +kernel
  | 3, _, _ => decide +kernel
  | 4, _, _ => decide +kernel
theorem set_mid {α : Type} (a b : List α) (x v : α) (m : Nat) (h : a.length = m) : (a ++ x :: b).set m v = a ++ v :: b := by
  subst h
  rw [List.set_append_right _ _ (Nat.le_refl _), Nat.sub_self]
  rfl
theorem rep_snoc (m : Nat) : List.replicate (m + 1) (0 : Int) = List.replicate m 0 ++ [0] := List.replicate_succ'
/-- What stands in the bytes when k of them have been written. -/
def mid (n : Int) (z : Nat) (big : Bool) (k : Nat) : List Int := if big = true then List.replicate (z - k) 0 ++ (le n k).reverse else le n k ++ List.replicate (z - k) 0
theorem mid_length (n : Int) (z : Nat) (big : Bool) (k : Nat) (h : k ≤ z) : (mid n z big k).length = z := by
  unfold mid
  cases big
  · rw [if_neg (by simp), List.length_append, le_length, List.length_replicate]; omega
  · rw [if_pos rfl, List.length_append, List.length_reverse, le_length, List.length_replicate]; omega
theorem mid_step (n : Int) (z : Nat) (big : Bool) (k : Nat) (h : k < z) : (mid n z big k).set (if big = true then z - 1 - k else k) (n / 256 ^ k % 256) = mid n z big (k + 1) := by
  unfold mid
  obtain ⟨m, hm⟩ : ∃ m, z - k = m + 1 := ⟨z - k - 1, by omega⟩
  rw [hm, show z - (k + 1) = m by omega, show z - 1 - k = m by omega, le_snoc]
  cases big
  · rw [if_neg (by simp), if_neg (by simp), if_neg (by simp), List.replicate_succ, set_mid _ _ _ _ _ (le_length k n), List.append_assoc]; rfl
  · rw [if_pos rfl, if_pos rfl, if_pos rfl, rep_snoc, List.append_assoc, List.singleton_append, set_mid _ _ _ _ _ (by simp), List.reverse_append]; rfl
theorem inum_l0 (n : Int) (z : Nat) (big : Bool) (hz : z ≤ 4) (d : Nat) : ∀ j : Nat, j + d = z →
    Ok (fun k => impl_NumPut.l0 k n (z : Int) big (mid n z big j) (z : Int) (j : Int)) (· = numv n z big) := by
  induction d with
  | zero =>
    intro j hj
    obtain rfl : j = z := by omega
    refine Ok.succ ?_
    simp only [impl_NumPut.l0]
    refine Ok.no (by omega) (Ok.now _ ?_)
    unfold numv mid
    rw [Nat.sub_self]
    cases big
    · simp
    · simp
  | succ d ih =>
    intro j hj
    have h := ih (j + 1) (by omega)
    clear ih
    have e1 := pinc' j (by omega)
    have e8 : wrap64 (8 * (j : Int)) = 8 * (j : Int) := w64 (by omega) (by omega)
    have es := shr8 n j (by omega)
    have hl := mid_length n z big j (by omega)
    have hm := mid_step n z big j (by omega)
    refine Ok.succ ?_
    simp only [impl_NumPut.l0]
    rw [e1, e8, es, hl]
    cases big with
    | true =>
      have eb : wrap64 (wrap64 ((z : Int) - 1) - (j : Int)) = ((z - 1 - j : Nat) : Int) := by rw [w64 (x := (z : Int) - 1) (by omega) (by omega), w64 (by omega) (by omega)]; omega
      rw [eb]
      refine Ok.yes (by omega) (Ok.yes rfl (Ok.yes (by omega) (Ok.yes (by omega) (Ok.yes (by omega) ?_))))
      rw [if_pos rfl] at hm
      rw [Int.toNat_natCast, hm]
      exact h
    | false =>
      refine Ok.yes (by omega) (Ok.no (by simp) (Ok.yes (by omega) (Ok.yes (by omega) (Ok.yes (by omega) ?_))))
      rw [if_neg (by simp)] at hm
      rw [Int.toNat_natCast, hm]
      exact h
theorem inum_ok (n : Int) (z : Nat) (big : Bool) (h1 : 1 ≤ z) (hz : z ≤ 4) (h : 0 ≤ n ∧ n ≤ 256 ^ z - 1) : Ok (fun k => impl_NumPut.f k n (z : Int) big) (· = numv n z big) := by
  have hin : impl_in.f (z : Int) 1 4 = some true := by unfold impl_in.f; rw [if_pos (by omega), decide_eq_true (by omega)]
  have hin2 : impl_in.f n 0 (256 ^ z - 1) = some true := by unfold impl_in.f; rw [if_pos h.1, decide_eq_true h.2]
  obtain ⟨s1, s2⟩ := shl8 z h1 hz
  unfold impl_NumPut.f
  rw [s1, s2]
  refine Ok.binds hin (Ok.yes rfl (Ok.yes (by omega) (Ok.binds hin2 (Ok.succ ?_))))
  simp only [impl_NumPut.j0]
  refine Ok.no (by simp) (Ok.yes (by omega) (Ok.yes (by omega) (Ok.binds rfl ?_)))
  have e : (List.replicate ((z : Int)).toNat 0 : List Int) = mid n z big 0 := by
    unfold mid
    rw [Int.toNat_natCast]
    cases big
    · simp [le]
    · simp [le]
  rw [e, mid_length n z big 0 (by omega)]
  exact inum_l0 n z big hz z 0 (by omega)

/-! ### numbers of one to four bytes, read -/
theorem or_nat (a b : Nat) (ha : a ≤ 16777215) (hb : b ≤ 255) : Go.bits .or .i64 ((a * 256 : Nat) : Int) (b : Int) = ((a * 256 + b : Nat) : Int) := by
  show IntKind.i64.wrap ((BitVec.ofInt 64 ((a * 256 : Nat) : Int) ||| BitVec.ofInt 64 (b : Int)).toNat : Int) = _
  rw [BitVec.toNat_or, ofInt_i64 _ (by omega), ofInt_i64 _ (by omega), IntKind.wrap_i64]
  have h := Nat.shiftLeft_add_eq_or_of_lt (i := 8) (b := b) (by omega) a
  rw [Nat.shiftLeft_eq, show (2 : Nat) ^ 8 = 256 from rfl] at h
  rw [← h]
  generalize a * 256 + b = z at h
  have hz : z = a * 256 ||| b := h
  clear h
  have : z ≤ 4294967295 := by
    rw [hz]
    have := Nat.or_lt_two_pow (x := a * 256) (y := b) (n := 32) (by omega) (by omega)
    exact Nat.le_of_lt_succ this
  clear hz
  omega
theorem num_step {x b : Int} (hx : 0 ≤ x ∧ x ≤ 16777215) (hb : 0 ≤ b ∧ b ≤ 255) : Go.bits .or .i64 (wrap64 (x * 256)) (wrap64 b) = x * 256 + b := by
  rw [w64 (x := x * 256) (by omega) (by omega), w64 (x := b) (by omega) (by omega)]
  obtain ⟨m, rfl⟩ := Int.eq_ofNat_of_zero_le hx.1
  obtain ⟨n, rfl⟩ := Int.eq_ofNat_of_zero_le hb.1
  have h := or_nat m n (by omega) (by omega)
  rw [Int.natCast_mul] at h
  refine h.trans ?_
  omega
theorem num_step2 {x b : Int} (hx : 0 ≤ x ∧ x ≤ 16777215) (hb : 0 ≤ b ∧ b ≤ 255) : wrap64 (wrap64 (256 * x) + wrap64 b) = x * 256 + b := by
  rw [w64 (x := 256 * x) (by omega) (by omega), w64 (x := b) (by omega) (by omega), w64 (by omega) (by omega)]
  omega
/-- The number of n bytes from p on, of which j have been read. -/
def fv (s : ByteArray) (p n : Nat) (big : Bool) : Nat → Int
  | 0 => 0
  | j + 1 => fv s p n big j * 256 + bt s ((if big = true then p + j else p + n - 1 - j : Nat) : Int)
theorem fv_lt (s : ByteArray) (p n : Nat) (big : Bool) : ∀ j, 0 ≤ fv s p n big j ∧ fv s p n big j ≤ 256 ^ j - 1
  | 0 => by simp [fv]
  | j + 1 => by
    have h := fv_lt s p n big j
    simp only [fv]
    have b := bt_range s ((if big = true then p + j else p + n - 1 - j : Nat) : Int)
    rw [Int.pow_succ]
    generalize bt s ((if big = true then p + j else p + n - 1 - j : Nat) : Int) = x at b ⊢
    generalize fv s p n big j = y at h ⊢
    generalize (256 : Int) ^ j = z at h ⊢
    omega
theorem p256 {j : Nat} (h : j ≤ 3) : (256 : Int) ^ j ≤ 16777216 := by
  match j, h with
  | 0, _ => decide
  | 1, _ => decide
  | 2, _ => decide
  | 3, _ => decide
theorem fv_step (s : ByteArray) (p n : Nat) (big : Bool) {j : Nat} (h : j ≤ 3) : 0 ≤ fv s p n big j ∧ fv s p n big j ≤ 16777215 := by
  have h1 := fv_lt s p n big j
  have h2 := p256 h
  omega
theorem fv_range (s : ByteArray) (p n : Nat) (big : Bool) {j : Nat} (h : j ≤ 4) : 0 ≤ fv s p n big j ∧ fv s p n big j ≤ 4294967295 := by
  match j, h with
  | 0, _ => simp [fv]
  | j + 1, h =>
    have h1 := fv_step s p n big (j := j) (by omega)
    have b := bt_range s ((if big = true then p + j else p + n - 1 - j : Nat) : Int)
    simp only [fv]
    omega
theorem pw (p i : Nat) (hp : p ≤ 100000) (hi : i ≤ 100000) : wrap64 ((p : Int) + (i : Int)) = ((p + i : Nat) : Int) := by rw [w64 (by omega) (by omega)]; omega
theorem pback (p n j : Nat) (hp : p ≤ 100000) (hn : n ≤ 100000) (hj : j < n) : wrap64 (wrap64 (wrap64 ((p : Int) + (n : Int)) - 1) - (j : Int)) = ((p + n - 1 - j : Nat) : Int) := by
  rw [pw p n hp hn, w64 (x := ((p + n : Nat) : Int) - 1) (by omega) (by omega), w64 (by omega) (by omega)]
  omega
theorem pinc (j : Nat) (hj : j ≤ 100000) : wrap64 ((j : Int) + 1) = ((j + 1 : Nat) : Int) := by rw [w64 (by omega) (by omega)]; omega
theorem ig_l0 (s : ByteArray) (p n : Nat) (big : Bool) (hn : n ≤ 4) (hp : p + n ≤ s.size) (hs : s.size ≤ 90000) (d : Nat) : ∀ j : Nat, j + d = n → Ok (fun k => impl_NumGet.l0 k s (p : Int) (n : Int) big (fv s p n big j) (n : Int) (j : Int)) (· = (fv s p n big n, true)) := by
  induction d with
  | zero =>
    intro j hj
    obtain rfl : j = n := by omega
    refine Ok.succ ?_
    simp only [impl_NumGet.l0]
    exact Ok.no (by omega) (Ok.now _ rfl)
  | succ d ih =>
    intro j hj
    have h := ih (j + 1) (by omega)
    clear ih
    have e1 := pinc j (by omega)
    have f := fv_step s p n big (j := j) (by omega)
    simp only [fv] at h
    refine Ok.succ ?_
    simp only [impl_NumGet.l0]
    cases big with
    | true =>
      rw [if_pos rfl] at h
      rw [pw p j (by omega) (by omega), e1, num_step f (bt_range s _)]
      exact Ok.yes (by omega) (Ok.yes rfl (Ok.yes (by omega) (Ok.yes (by omega) h)))
    | false =>
      rw [if_neg (by simp)] at h
      rw [pback p n j (by omega) (by omega) (by omega), e1, num_step f (bt_range s ((p + n - 1 - j : Nat) : Int))]
      exact Ok.yes (by omega) (Ok.no (by simp) (Ok.yes (by omega) (Ok.yes (by omega) h)))
theorem sf_l0 (s : ByteArray) (p n : Nat) (big : Bool) (hn : n ≤ 4) (hp : p + n ≤ s.size) (hs : s.size ≤ 90000) (d : Nat) : ∀ j : Nat, j + d = n → Ok (fun k => spec_l1Field.l0 k s (p : Int) (n : Int) big (fv s p n big j) (j : Int)) (· = fv s p n big n) := by
  induction d with
  | zero =>
    intro j hj
    obtain rfl : j = n := by omega
    refine Ok.succ ?_
    simp only [spec_l1Field.l0]
    exact Ok.no (by omega) (Ok.now _ rfl)
  | succ d ih =>
    intro j hj
    have h := ih (j + 1) (by omega)
    clear ih
    have e1 := pinc j (by omega)
    have f := fv_step s p n big (j := j) (by omega)
    simp only [fv] at h
    refine Ok.succ ?_
    simp only [spec_l1Field.l0]
    cases big with
    | true =>
      rw [if_pos rfl] at h
      rw [pw p j (by omega) (by omega), e1, num_step2 f (bt_range s _)]
      exact Ok.yes (by omega) (Ok.yes rfl (Ok.yes (by omega) (Ok.yes (by omega) h)))
    | false =>
      rw [if_neg (by simp)] at h
      rw [pback p n j (by omega) (by omega) (by omega), e1, num_step2 f (bt_range s ((p + n - 1 - j : Nat) : Int))]
      exact Ok.yes (by omega) (Ok.no (by simp) (Ok.yes (by omega) (Ok.yes (by omega) h)))
/-- NumGet at a place that is a number of Nat. -/
theorem inumget_ok (s : ByteArray) (p n : Nat) (big : Bool) (h1 : 1 ≤ n) (hn : n ≤ 4) (hs : s.size ≤ 9000) (hp : p ≤ 100000) : Ok (fun k => impl_NumGet.f k s (p : Int) (n : Int) big) (· = if p + n ≤ s.size then (fv s p n big n, true) else (0, false)) := by
  have hin : impl_in.f (n : Int) 1 4 = some true := by unfold impl_in.f; rw [if_pos (by omega), decide_eq_true (by omega)]
  unfold impl_NumGet.f
  have e : wrap64 ((s.size : Int) - (n : Int)) = (s.size : Int) - (n : Int) := w64 (by omega) (by omega)
  rw [e]
  refine Ok.binds hin (Ok.yes rfl (Ok.no (by omega) ?_))
  by_cases h4 : p + n ≤ s.size
  · have hin2 : impl_in.f (p : Int) 0 ((s.size : Int) - (n : Int)) = some true := by unfold impl_in.f; rw [if_pos (by omega), decide_eq_true (by omega)]
    rw [if_pos h4]
    refine Ok.binds hin2 (Ok.succ ?_)
    simp only [impl_NumGet.j0]
    exact Ok.no (by simp) (ig_l0 s p n big hn h4 (by omega) n 0 (by omega))
  · have hin2 : impl_in.f (p : Int) 0 ((s.size : Int) - (n : Int)) = some false := by unfold impl_in.f; rw [if_pos (by omega), decide_eq_false (by omega)]
    rw [if_neg h4]
    refine Ok.binds hin2 (Ok.succ ?_)
    simp only [impl_NumGet.j0]
    exact Ok.yes (by simp) (Ok.now _ rfl)
theorem sfield_ok (s : ByteArray) (p n : Nat) (big : Bool) (hn : n ≤ 4) (hs : s.size ≤ 90000) (hp : p ≤ 100000) : Ok (fun k => spec_l1Field.f k s (p : Int) (n : Int) big) (· = if p + n ≤ s.size then fv s p n big n else 0) := by
  unfold spec_l1Field.f
  rw [pw p n hp (by omega)]
  refine Ok.no (by omega) ?_
  by_cases h4 : p + n ≤ s.size
  · rw [if_pos h4, decide_eq_false (by omega)]
    refine Ok.succ ?_
    simp only [spec_l1Field.j0]
    exact Ok.no (by simp) (sf_l0 s p n big hn h4 hs n 0 (by omega))
  · rw [if_neg h4, decide_eq_true (by omega)]
    refine Ok.succ ?_
    simp only [spec_l1Field.j0]
    exact Ok.yes (by simp) (Ok.now _ rfl)

/-! ### numbers and their bytes, both ways -/
theorem fv_zero (s : ByteArray) (p n : Nat) (big : Bool) : fv s p n big 0 = 0 := rfl
theorem le_cons (x b : Int) (k : Nat) (hb : 0 ≤ b ∧ b ≤ 255) : le (x * 256 + b) (k + 1) = b :: le x k := by
  simp only [le]
  rw [show (x * 256 + b) % 256 = b by omega, show (x * 256 + b) / 256 = x by omega]
theorem le_fv_big (s : ByteArray) (p n : Nat) (k : Nat) : (le (fv s p n true k) k).reverse = (List.range k).map fun i => bt s ((p + i : Nat) : Int) := by
  induction k with
  | zero => rfl
  | succ k ih =>
    rw [show fv s p n true (k + 1) = fv s p n true k * 256 + bt s ((p + k : Nat) : Int) from rfl, le_cons _ _ _ (bt_range s _), List.reverse_cons, ih, List.range_succ, List.map_append]
    rfl
theorem le_fv_small (s : ByteArray) (p n : Nat) (k : Nat) (hk : k ≤ n) : le (fv s p n false k) k = (List.range k).map fun i => bt s ((p + n - k + i : Nat) : Int) := by
  induction k with
  | zero => rfl
  | succ k ih =>
    have h := ih (by omega)
    rw [show fv s p n false (k + 1) = fv s p n false k * 256 + bt s ((p + n - 1 - k : Nat) : Int) from rfl, le_cons _ _ _ (bt_range s _), h, List.range_succ_eq_map, List.map_cons, List.map_map]
    congr 1
    · congr 2; omega
    · apply List.map_congr_left
      intro i _
      simp only [Function.comp]
      congr 2
      omega
theorem bt_ext (s : ByteArray) (p q i : Nat) (h : p + i < q) (hq : q ≤ s.size) : bt (s.extract p q) (i : Int) = bt s ((p + i : Nat) : Int) := by
  rw [bt_nat _ i (by rw [ByteArray.size_extract]; omega), bt_nat s (p + i) (by omega), ByteArray.getElem_extract]
theorem ext_nums (s : ByteArray) (p n : Nat) (h : p + n ≤ s.size) : strOfNums ((List.range n).map fun i => bt s ((p + i : Nat) : Int)) = s.extract p (p + n) := by
  have hz : (s.extract p (p + n)).size = n := by rw [ByteArray.size_extract]; omega
  have e := strOfNums_self (s.extract p (p + n))
  rw [hz] at e
  rw [← e]
  congr 1
  apply List.map_congr_left
  intro i hi
  exact (bt_ext s p (p + n) i (by have := List.mem_range.1 hi; omega) h).symm
/-- A number that was read, written again: the bytes that stood there. -/
theorem numv_fv (s : ByteArray) (p n : Nat) (big : Bool) (h : p + n ≤ s.size) : numv (fv s p n big n) n big = s.extract p (p + n) := by
  rw [← ext_nums s p n h]
  unfold numv
  cases big
  · rw [if_neg (by simp), le_fv_small s p n n (Nat.le_refl _), show p + n - n = p by omega]
  · rw [if_pos rfl, le_fv_big]
theorem le_inj (k : Nat) : ∀ a b : Int, 0 ≤ a → a ≤ 256 ^ k - 1 → 0 ≤ b → b ≤ 256 ^ k - 1 → le a k = le b k → a = b := by
  induction k with
  | zero => intro a b h1 h2 h3 h4 _; simp at h2 h4; omega
  | succ k ih =>
    intro a b h1 h2 h3 h4 h
    simp only [le, List.cons.injEq] at h
    rw [Int.pow_succ] at h2 h4
    have := ih (a / 256) (b / 256) (by omega) (by omega) (by omega) (by omega) h.2
    omega
theorem nums_inj : ∀ (a b : List Int), (∀ x ∈ a, 0 ≤ x ∧ x ≤ 255) → (∀ x ∈ b, 0 ≤ x ∧ x ≤ 255) → strOfNums a = strOfNums b → a = b := by
  intro a b ha hb h
  have hl : a.length = b.length := by rw [← strOfNums_size, h, strOfNums_size]
  apply List.ext_getElem hl
  intro i h1 h2
  have e1 := strOfNums_at a i h1 (ha _ (List.getElem_mem h1)).1 (ha _ (List.getElem_mem h1)).2
  have e2 := strOfNums_at b i h2 (hb _ (List.getElem_mem h2)).1 (hb _ (List.getElem_mem h2)).2
  rw [← e1, ← e2, h]
theorem numv_inj {a b : Int} {z : Nat} {big : Bool} (ha : 0 ≤ a ∧ a ≤ 256 ^ z - 1) (hb : 0 ≤ b ∧ b ≤ 256 ^ z - 1) (h : numv a z big = numv b z big) : a = b := by
  unfold numv at h
  cases big
  · rw [if_neg (by simp), if_neg (by simp)] at h
    exact le_inj z a b ha.1 ha.2 hb.1 hb.2 (nums_inj _ _ (le_byte z a) (le_byte z b) h)
  · rw [if_pos rfl, if_pos rfl] at h
    have h2 := nums_inj _ _ (fun x hx => le_byte z a x (List.mem_reverse.1 hx)) (fun x hx => le_byte z b x (List.mem_reverse.1 hx)) h
    exact le_inj z a b ha.1 ha.2 hb.1 hb.2 (by have h3 := congrArg List.reverse h2; rwa [List.reverse_reverse, List.reverse_reverse] at h3)
/-- A number that was written is read. -/
theorem fv_numv {s : ByteArray} {p z : Nat} {big : Bool} {n : Int} (hn : 0 ≤ n ∧ n ≤ 256 ^ z - 1) (h : p + z ≤ s.size) (e : s.extract p (p + z) = numv n z big) : fv s p z big z = n :=
  numv_inj (fv_lt s p z big z) hn ((numv_fv s p z big h).trans e)
theorem fv_ext (s : ByteArray) (p q i n : Nat) (big : Bool) (hq : q ≤ s.size) (h : p + i + n ≤ q) (k : Nat) (hk : k ≤ n) : fv (s.extract p q) i n big k = fv s (p + i) n big k := by
  induction k with
  | zero => rfl
  | succ k ih =>
    simp only [fv]
    rw [ih (by omega)]
    cases big
    · rw [if_neg (by simp), if_neg (by simp), bt_ext s p q _ (by omega) hq, show p + (i + n - 1 - k) = p + i + n - 1 - k by omega]
    · rw [if_pos rfl, if_pos rfl, bt_ext s p q _ (by omega) hq, show p + (i + k) = p + i + k by omega]

end Go.Proofs.YtdhpekdfpoeboaaDoor.Pure
/- Sums, names, and pieces as they are written. -/
set_option linter.unusedVariables false
set_option linter.unusedSimpArgs false
namespace Go.Proofs.YtdhpekdfpoeboaaDoor.Pure
open Go.RowKit Go.Proofs.YtdhpekdfpoeboaaDoor.P Go.Proofs.YtdhpekdfpoeboaaDoor.Lib Go.Proofs.YtdhpekdfpoeboaaDoorW.PrintWords Go.Proofs.YtdhpekdfpoeboaaDoorW.PrintLast Go.Proofs.YtdhpekdfpoeboaaDoorW.PrintMore
/-! ### sums -/
theorem land1' (n : Int) : Go.bits .and .i64 n 1 = n % 2 := by
  have h1 : (BitVec.ofInt 64 1).toNat = 2 ^ 1 - 1 := by decide
  have key : (BitVec.ofInt 64 n &&& BitVec.ofInt 64 1).toNat = (n % ((2 ^ 64 : Nat) : Int)).toNat % 2 ^ 1 := by
    rw [BitVec.toNat_and, BitVec.toNat_ofInt, h1, Nat.and_two_pow_sub_one_eq_mod]
  show IntKind.i64.wrap ((BitVec.ofInt 64 n &&& BitVec.ofInt 64 1).toNat : Int) = _
  rw [key, IntKind.wrap_i64]
  omega
theorem xor_range {a b : Int} (ha : 0 ≤ a ∧ a ≤ 4294967295) (hb : 0 ≤ b ∧ b ≤ 4294967295) : 0 ≤ Go.bits .xor .i64 a b ∧ Go.bits .xor .i64 a b ≤ 4294967295 := by
  obtain ⟨x, rfl⟩ := Int.eq_ofNat_of_zero_le ha.1
  obtain ⟨y, rfl⟩ := Int.eq_ofNat_of_zero_le hb.1
  rw [i64_xor_nat x y (by omega) (by omega)]
  have h : x ^^^ y < 2 ^ 32 := Nat.xor_lt_two_pow (by omega) (by omega)
  generalize x ^^^ y = z at h
  omega
theorem crc1_range {c : Int} (h : 0 ≤ c ∧ c ≤ 4294967295) : 0 ≤ crc1 c ∧ crc1 c ≤ 4294967295 := by
  unfold crc1
  have h2 : 0 ≤ c / 2 ∧ c / 2 ≤ 4294967295 := by omega
  split
  · exact xor_range h2 (by omega)
  · exact h2
theorem crcn_range (d : Nat) : ∀ {c : Int}, (0 ≤ c ∧ c ≤ 4294967295) → 0 ≤ crcn d c ∧ crcn d c ≤ 4294967295 := by
  induction d with
  | zero => intro c h; exact h
  | succ d ih => intro c h; exact ih (crc1_range h)
theorem crcl_range (l : List Int) : ∀ {c : Int}, (∀ x ∈ l, 0 ≤ x ∧ x ≤ 255) → (0 ≤ c ∧ c ≤ 4294967295) → 0 ≤ crcl l c ∧ crcl l c ≤ 4294967295 := by
  induction l with
  | nil => intro c _ h; exact h
  | cons b l ih =>
    intro c hb h
    have h1 := hb b List.mem_cons_self
    exact ih (fun x hx => hb x (List.mem_cons_of_mem _ hx)) (crcn_range 8 (xor_range h ⟨h1.1, by omega⟩))
theorem bytes_range (s : ByteArray) : ∀ x ∈ bytesOf s, 0 ≤ x ∧ x ≤ 255 := by
  intro x hx
  unfold bytesOf at hx
  obtain ⟨b, _, rfl⟩ := List.mem_map.1 hx
  have := UInt8.toNat_lt b
  omega
def crcv (s : ByteArray) : Int := if s.size ≤ 9000 then Go.bits .xor .i64 (crcl (bytesOf s) (Go.bits .xor .i64 0 4294967295)) 4294967295 else 0
theorem crcv_range (s : ByteArray) : 0 ≤ crcv s ∧ crcv s ≤ 4294967295 := by
  unfold crcv
  split
  · exact xor_range (crcl_range _ (bytes_range s) (xor_range (by omega) (by omega))) (by omega)
  · omega
theorem icrc_eq (s : ByteArray) : impl_Crc32.f s = some (crcv s) := by
  unfold impl_Crc32.f impl_CrcMore.f crcv
  by_cases h : s.size ≤ 9000
  · rw [if_pos h, if_pos (show crcOk 0 s from ⟨by omega, h⟩)]; rfl
  · rw [if_neg h, if_neg (show ¬ crcOk 0 s from fun z => h z.2)]; rfl
theorem scrc_l1 {P : Int → Prop} (s : ByteArray) (i : Nat) (d : Nat) : ∀ (j : Nat) (c : Int), j + d = 8 → (0 ≤ c ∧ c ≤ 4294967295) → i ≤ 9000 →
    Ok (fun k => spec_l2Crc.l0 k (crcn d c) s ((i + 1 : Nat) : Int)) P → Ok (fun k => spec_l2Crc.l1 k c s (i : Int) (j : Int)) P := by
  induction d with
  | zero =>
    intro j c hj hc hi k
    refine Ok.succ ?_
    simp only [spec_l2Crc.l1]
    rw [k_w i hi]
    exact Ok.no (by omega) k
  | succ d ih =>
    intro j c hj hc hi k
    have c1 : (j : Int) < 8 := by omega
    have e1 : wrap64 ((j : Int) + 1) = ((j + 1 : Nat) : Int) := k_w j (by omega)
    have e2 : wrap64 (Int.tdiv c 2) = c / 2 := by rw [tdiv_nn hc.1, w64 (by omega) (by omega)]
    have e3 : Int.tmod c 2 = c % 2 := tmod_nn hc.1
    have hr := crc1_range hc
    have hstep := ih (j + 1) (crc1 c) (by omega) hr hi k
    refine Ok.succ ?_
    simp only [spec_l2Crc.l1]
    refine Ok.yes c1 ?_
    rw [e1, e2, e3]
    unfold spec_l2Xor.f
    unfold crc1 at hstep
    rw [land1'] at hstep
    clear hr ih k e2 e3
    by_cases ho : c % 2 = 1
    · rw [if_pos ho] at hstep
      exact Ok.yes ho (Ok.binds rfl hstep)
    · rw [if_neg ho] at hstep
      exact Ok.no ho hstep
theorem scrc_l0 (s : ByteArray) (hs : s.size ≤ 9000) (d : Nat) : ∀ (i : Nat) (c : Int), i + d = s.size → (0 ≤ c ∧ c ≤ 4294967295) → Ok (fun k => spec_l2Crc.l0 k c s (i : Int)) (· = crcl ((bytesOf s).drop i) c) := by
  induction d with
  | zero =>
    intro i c hi hc
    rw [List.drop_eq_nil_of_le (by rw [bytesOf_length]; omega)]
    refine Ok.succ ?_
    simp only [spec_l2Crc.l0]
    exact Ok.no (by omega) (Ok.now _ rfl)
  | succ d ih =>
    intro i c hi hc
    have hl : i < (bytesOf s).length := by rw [bytesOf_length]; omega
    have e : (bytesOf s)[i] = bt s (i : Int) := by
      rw [← rd_bytesOf]
      unfold rd
      rw [Int.toNat_natCast, List.getD_eq_getElem?_getD, List.getElem?_eq_getElem hl, Option.getD_some]
    have hb := bt_range s (i : Int)
    have hx := xor_range hc (show 0 ≤ bt s (i : Int) ∧ bt s (i : Int) ≤ 4294967295 by omega)
    have h := ih (i + 1) (crcn 8 (Go.bits .xor .i64 c (bt s (i : Int)))) (by omega) (crcn_range 8 hx)
    rw [List.drop_eq_getElem_cons hl, e]
    simp only [crcl]
    refine Ok.succ ?_
    simp only [spec_l2Crc.l0]
    rw [bt_w]
    unfold spec_l2Xor.f
    exact Ok.yes (by clear hx h; omega) (Ok.yes (by clear hx h; omega) (Ok.binds rfl (scrc_l1 s i 8 0 _ rfl hx (by clear hx h; omega) h)))
theorem scrc_ok (s : ByteArray) : Ok (fun k => spec_Crc32.f k s) (· = crcv s) := by
  unfold spec_Crc32.f
  refine Ok.bind (P := (· = crcv s)) ?_ fun x hx => Ok.now _ hx
  unfold spec_CrcMore.f
  have hin : spec_l1In.f 0 0 4294967295 = some true := by unfold spec_l1In.f; rfl
  refine Ok.binds hin (Ok.yes rfl ?_)
  unfold crcv
  by_cases h : s.size ≤ 9000
  · rw [if_pos h, decide_eq_false (show ¬ (s.size : Int) > 9000 by omega)]
    refine Ok.succ ?_
    simp only [spec_CrcMore.j0]
    unfold spec_l2Xor.f
    refine Ok.no (by simp) (Ok.binds rfl ?_)
    refine Ok.bind (P := (· = crcl (bytesOf s) (Go.bits .xor .i64 0 4294967295))) ?_ fun x hx => ?_
    · unfold spec_l2Crc.f
      have h0 := scrc_l0 s h s.size 0 (Go.bits .xor .i64 0 4294967295) (by omega) (xor_range (by omega) (by omega))
      rw [List.drop_zero] at h0
      exact h0
    · subst hx
      exact Ok.binds rfl (Ok.now _ rfl)
  · rw [if_neg h, decide_eq_true (show (s.size : Int) > 9000 by omega)]
    refine Ok.succ ?_
    simp only [spec_CrcMore.j0]
    exact Ok.yes (by simp) (Ok.now _ rfl)
/-! ### names -/
theorem letter_iff : ∀ b : Fin 256, letters.data.toList.contains (UInt8.ofNat b.val) = (decide (97 ≤ b.val ∧ b.val ≤ 122) || decide (65 ≤ b.val ∧ b.val ≤ 90)) := by decide +kernel
theorem letter_of (b : UInt8) : letters.data.toList.contains b = (decide (97 ≤ b.toNat ∧ b.toNat ≤ 122) || decide (65 ≤ b.toNat ∧ b.toNat ≤ 90)) := by
  have h := letter_iff ⟨b.toNat, UInt8.toNat_lt b⟩
  simp only [UInt8.ofNat_toNat] at h
  exact h
def nameV (s : ByteArray) : Bool := decide (s.size = 4) && nameB s
theorem sname_l (s : ByteArray) (hs : s.size ≤ 9223372036854775000) (d : Nat) : ∀ i : Nat, i + d = s.size → Ok (fun k => spec_l9Name.l0 k s (i : Int)) (· = (((s.data.toList.drop i).all fun b => letters.data.toList.contains b) && decide (s.size = 4))) := by
  have hl : s.data.toList.length = s.size := by simp
  induction d with
  | zero =>
    intro i hi
    rw [List.drop_eq_nil_of_le (by omega)]
    refine Ok.succ ?_
    simp only [spec_l9Name.l0]
    refine Ok.no (by omega) (Ok.now _ ?_)
    by_cases h4 : s.size = 4
    · rw [h4]; rfl
    · rw [decide_eq_false h4, beq_eq_false_iff_ne.2 (show ¬ (s.size : Int) = 4 by omega)]; rfl
  | succ d ih =>
    intro i hi
    have hlt : i < s.size := by omega
    have hltl : i < s.data.toList.length := by omega
    have e1 : wrap64 ((i : Int) + 1) = ((i + 1 : Nat) : Int) := by rw [w64 (by omega) (by omega)] <;> omega
    have hb : bt s (i : Int) = ((s.data.toList[i]).toNat : Int) := by
      rw [bt_nat s i hlt]
      congr 1
    rw [List.drop_eq_getElem_cons hltl, List.all_cons, letter_of]
    obtain ⟨n, hn⟩ : ∃ n, (s.data.toList[i]).toNat = n := ⟨_, rfl⟩
    rw [hn] at hb ⊢
    have h := ih (i + 1) (by omega)
    clear ih hn
    have k1 : (i : Int) < (s.size : Int) := by omega
    have k2 : (0 : Int) ≤ (i : Int) := by omega
    refine Ok.succ ?_
    simp only [spec_l9Name.l0]
    refine Ok.yes k1 (Ok.yes k2 ?_)
    rw [hb, e1]
    clear hb e1 hltl hlt hl hs hi
    by_cases a1 : 97 ≤ n ∧ n ≤ 122
    · rw [decide_eq_true a1, Bool.true_or, Bool.true_and]
      exact Ok.yes (by omega) (Ok.yes (by omega) h)
    · rw [decide_eq_false a1, Bool.false_or]
      by_cases a2 : 65 ≤ n ∧ n ≤ 90
      · rw [decide_eq_true a2, Bool.true_and]
        exact Ok.no (by omega) (Ok.yes (by omega) (Ok.yes (by omega) h))
      · rw [decide_eq_false a2, Bool.false_and, Bool.false_and]
        refine Ok.ite (fun b1 => Ok.no (by omega) ?_) (fun b1 => ?_)
        · exact Ok.ite (fun b2 => Ok.no (by omega) (Ok.now _ rfl)) (fun b2 => Ok.now _ rfl)
        · exact Ok.ite (fun b2 => Ok.no (by omega) (Ok.now _ rfl)) (fun b2 => Ok.now _ rfl)
theorem sname_ok (s : ByteArray) (hs : s.size ≤ 9223372036854775000) : Ok (fun k => spec_l9Name.f k s) (· = nameV s) := by
  unfold spec_l9Name.f nameV
  refine (sname_l s hs s.size 0 (by omega)).mono fun r hr => ?_
  rw [hr, List.drop_zero, Bool.and_comm]
  rfl
theorem iname_eq (s : ByteArray) : impl_nameOk.f s = some (nameV s) := rfl
/-! ### numbers of four bytes -/
def num4 (n : Int) : ByteArray := numv n 4 true
theorem num4_size (n : Int) : (num4 n).size = 4 := numv_size n 4 true
theorem snum4_ok (n : Int) (h : 0 ≤ n ∧ n ≤ 4294967295) : Ok (fun k => spec_l1Num.f k n 4 true) (· = num4 n) := snum_ok n 4 true (by omega) h
theorem inum4_ok (n : Int) (h : 0 ≤ n ∧ n ≤ 4294967295) : Ok (fun k => impl_NumPut.f k n 4 true) (· = num4 n) := inum_ok n 4 true (by omega) (by omega) ⟨h.1, h.2⟩

/-! ### pieces -/
def pieceT (c : S41) : ByteArray := num4 (c.f1.size : Int) ++ c.f0 ++ c.f1 ++ num4 (crcv (c.f0 ++ c.f1))
theorem pieceT_size (c : S41) : (pieceT c).size = 8 + c.f0.size + c.f1.size := by
  unfold pieceT
  rw [ByteArray.size_append, ByteArray.size_append, ByteArray.size_append, num4_size, num4_size]
  omega
theorem itext_ok (c : S41) (h0 : c.f0.size ≤ 1048576) (h1 : c.f1.size ≤ 1048576) : Ok (fun k => impl_Chunk_text.f k c.f0 c.f1) (· = pieceT c) := by
  unfold impl_Chunk_text.f
  refine (inum4_ok (c.f1.size : Int) (by omega)).bind fun x hx => ?_
  subst hx
  have z1 := num4_size (c.f1.size : Int)
  refine Ok.yes (by rw [z1]; omega) (Ok.yes (by rw [ByteArray.size_append, z1]; omega) (Ok.yes (by omega) (Ok.binds (icrc_eq _) ?_)))
  refine (inum4_ok _ (crcv_range _)).bind fun x hx => ?_
  subst hx
  exact Ok.yes (by rw [ByteArray.size_append, ByteArray.size_append, z1, num4_size]; omega) (Ok.now _ rfl)
def sign8 : ByteArray := strOfNums [137, 80, 78, 71, 13, 10, 26, 10]
/-- The pieces' texts behind a text. -/
def piecesT : List S41 → ByteArray → ByteArray
  | [], x => x
  | c :: l, x => piecesT l (x ++ pieceT c)
/-- May pieces be written, n bytes being told already? -/
def piecesOk : List S41 → Nat → Bool
  | [], _ => true
  | c :: l, n => nameV c.f0 && (decide (n + 12 + c.f1.size ≤ 9000) && piecesOk l (n + 12 + c.f1.size))
def putV (l : List S41) : ByteArray := if piecesOk l 8 = true then piecesT l sign8 else ⟨#[]⟩
theorem rd_at {l : List S41} {i : Nat} (h : i < l.length) : l.drop i = rd_T41 l (i : Int) :: l.drop (i + 1) := by
  rw [List.drop_eq_getElem_cons h]
  show _ = l.getD (i : Int).toNat z41 :: _
  rw [Int.toNat_natCast, List.getD_eq_getElem?_getD, List.getElem?_eq_getElem h, Option.getD_some]
theorem rd_in {l : List S41} {i : Nat} (h : i < l.length) : rd_T41 l (i : Int) ∈ l := by
  show l.getD (i : Int).toNat z41 ∈ l
  rw [Int.toNat_natCast, List.getD_eq_getElem?_getD, List.getElem?_eq_getElem h, Option.getD_some]
  exact List.getElem_mem h
section
variable (l : List S41) (hl : l.length ≤ 1048576) (hb : ∀ c ∈ l, c.f0.size ≤ 1048576 ∧ c.f1.size ≤ 1048576)
include hl hb
theorem swrite_l (d : Nat) : ∀ (i : Nat) (x : ByteArray), i + d = l.length → x.size ≤ 3000000 * i + 100 → Ok (fun k => spec_l9Chunks.l0 k l x (i : Int)) (· = piecesT (l.drop i) x) := by
  induction d with
  | zero =>
    intro i x hi hx
    rw [List.drop_eq_nil_of_le (by omega)]
    refine Ok.succ ?_
    simp only [spec_l9Chunks.l0]
    exact Ok.no (by omega) (Ok.now _ rfl)
  | succ d ih =>
    intro i x hi hx
    have hlt : i < l.length := by omega
    rw [rd_at hlt]
    have hbc := hb _ (rd_in hlt)
    have e1 : wrap64 ((i : Int) + 1) = ((i + 1 : Nat) : Int) := by rw [w64 (by omega) (by omega)] <;> omega
    obtain ⟨c, hc⟩ : ∃ c, rd_T41 l (i : Int) = c := ⟨_, rfl⟩
    rw [hc] at hbc ⊢
    have z1 := num4_size (c.f1.size : Int)
    have z2 := num4_size (crcv (c.f0 ++ c.f1))
    have zp := pieceT_size c
    refine Ok.succ ?_
    simp only [spec_l9Chunks.l0]
    refine Ok.yes (by omega) (Ok.yes (by omega) ?_)
    rw [hc, e1]
    refine Ok.yes (by omega) ?_
    refine (snum4_ok (c.f1.size : Int) (by omega)).bind fun y hy => ?_
    subst hy
    refine Ok.yes (by rw [z1]; omega) (Ok.yes (by rw [ByteArray.size_append, ByteArray.size_append, z1]; omega) ?_)
    refine (scrc_ok _).bind fun y hy => ?_
    subst hy
    refine (snum4_ok _ (crcv_range _)).bind fun y hy => ?_
    subst hy
    refine Ok.yes (by rw [ByteArray.size_append, ByteArray.size_append, ByteArray.size_append, z1, z2]; omega) ?_
    have h := ih (i + 1) (x ++ pieceT c) (by omega) (by rw [ByteArray.size_append, zp]; omega)
    have ea : x ++ num4 (c.f1.size : Int) ++ (c.f0 ++ c.f1) ++ num4 (crcv (c.f0 ++ c.f1)) = x ++ pieceT c := by
      unfold pieceT
      simp only [ByteArray.append_assoc]
    rw [ea]
    exact h
theorem iwrite_l (d : Nat) : ∀ (i : Nat) (x : ByteArray), i + d = l.length → x.size ≤ 3000000 * i + 100 → Ok (fun k => impl_ChunksPut.l1 k x l (l.length : Int) (i : Int)) (· = piecesT (l.drop i) x) := by
  induction d with
  | zero =>
    intro i x hi hx
    rw [List.drop_eq_nil_of_le (by omega)]
    refine Ok.succ ?_
    simp only [impl_ChunksPut.l1]
    exact Ok.no (by omega) (Ok.now _ rfl)
  | succ d ih =>
    intro i x hi hx
    have hlt : i < l.length := by omega
    rw [rd_at hlt]
    have hbc := hb _ (rd_in hlt)
    have e1 : wrap64 ((i : Int) + 1) = ((i + 1 : Nat) : Int) := by rw [w64 (by omega) (by omega)] <;> omega
    obtain ⟨c, hc⟩ : ∃ c, rd_T41 l (i : Int) = c := ⟨_, rfl⟩
    rw [hc] at hbc ⊢
    have zp := pieceT_size c
    refine Ok.succ ?_
    simp only [impl_ChunksPut.l1]
    refine Ok.yes (by omega) (Ok.yes (by omega) (Ok.yes (by omega) ?_))
    rw [hc, e1]
    refine (itext_ok c hbc.1 hbc.2).bind fun y hy => ?_
    subst hy
    refine Ok.yes (by rw [zp]; omega) ?_
    exact ih (i + 1) (x ++ pieceT c) (by omega) (by rw [ByteArray.size_append, zp]; omega)
theorem sput_l (d : Nat) : ∀ (i n : Nat), i + d = l.length → n ≤ 9000 → (piecesOk l 8 = piecesOk (l.drop i) n) → Ok (fun k => spec_ChunksPut.l0 k l (n : Int) (i : Int)) (· = putV l) := by
  induction d with
  | zero =>
    intro i n hi hn ha
    rw [List.drop_eq_nil_of_le (by omega)] at ha
    refine Ok.succ ?_
    simp only [spec_ChunksPut.l0]
    refine Ok.no (by omega) ?_
    unfold putV
    rw [if_pos (show piecesOk l 8 = true from ha)]
    refine Ok.bind (P := (· = piecesT l sign8)) ?_ fun x hx => Ok.now _ hx
    unfold spec_l9Chunks.f spec_l9Sign.f
    refine Ok.binds rfl ?_
    have h := swrite_l l hl hb l.length 0 sign8 (by omega) (by decide)
    rw [List.drop_zero] at h
    exact h
  | succ d ih =>
    intro i n hi hn ha
    have hlt : i < l.length := by omega
    rw [rd_at hlt] at ha
    have hbc := hb _ (rd_in hlt)
    have e1 : wrap64 ((i : Int) + 1) = ((i + 1 : Nat) : Int) := by rw [w64 (by omega) (by omega)] <;> omega
    obtain ⟨c, hc⟩ : ∃ c, rd_T41 l (i : Int) = c := ⟨_, rfl⟩
    rw [hc] at hbc ha
    simp only [piecesOk] at ha
    have e2 : wrap64 (wrap64 ((n : Int) + 12) + (c.f1.size : Int)) = ((n + 12 + c.f1.size : Nat) : Int) := by rw [w64 (x := (n : Int) + 12) (by omega) (by omega), w64 (by omega) (by omega)]; omega
    refine Ok.succ ?_
    simp only [spec_ChunksPut.l0]
    refine Ok.yes (by omega) (Ok.yes (by omega) ?_)
    rw [hc, e1, e2]
    refine (sname_ok c.f0 (by omega)).bind fun y hy => ?_
    subst hy
    cases hnm : nameV c.f0 with
    | false =>
      rw [hnm, Bool.false_and] at ha
      refine Ok.no (by simp) (Ok.now _ ?_)
      unfold putV
      rw [if_neg (by rw [ha]; exact Bool.false_ne_true)]
    | true =>
      rw [hnm, Bool.true_and] at ha
      refine Ok.yes rfl (Ok.ite (fun g => Ok.now _ ?_) (fun g => ?_))
      · rw [decide_eq_false (by omega), Bool.false_and] at ha
        unfold putV
        rw [if_neg (by rw [ha]; exact Bool.false_ne_true)]
      · rw [decide_eq_true (by omega), Bool.true_and] at ha
        exact ih (i + 1) _ (by omega) (by omega) ha
theorem iput_l (d : Nat) : ∀ (i n : Nat), i + d = l.length → n ≤ 9000 → (piecesOk l 8 = piecesOk (l.drop i) n) → Ok (fun k => impl_ChunksPut.l0 k l (n : Int) l (l.length : Int) (i : Int)) (· = putV l) := by
  induction d with
  | zero =>
    intro i n hi hn ha
    rw [List.drop_eq_nil_of_le (by omega)] at ha
    refine Ok.succ ?_
    simp only [impl_ChunksPut.l0]
    refine Ok.no (by omega) ?_
    unfold putV
    rw [if_pos (show piecesOk l 8 = true from ha)]
    have h := iwrite_l l hl hb l.length 0 sign8 (by omega) (by decide)
    rw [List.drop_zero] at h
    exact h
  | succ d ih =>
    intro i n hi hn ha
    have hlt : i < l.length := by omega
    rw [rd_at hlt] at ha
    have hbc := hb _ (rd_in hlt)
    have e1 : wrap64 ((i : Int) + 1) = ((i + 1 : Nat) : Int) := by rw [w64 (by omega) (by omega)] <;> omega
    obtain ⟨c, hc⟩ : ∃ c, rd_T41 l (i : Int) = c := ⟨_, rfl⟩
    rw [hc] at hbc ha
    simp only [piecesOk] at ha
    have e2 : wrap64 ((n : Int) + wrap64 (12 + (c.f1.size : Int))) = ((n + 12 + c.f1.size : Nat) : Int) := by rw [w64 (x := 12 + (c.f1.size : Int)) (by omega) (by omega), w64 (by omega) (by omega)]; omega
    refine Ok.succ ?_
    simp only [impl_ChunksPut.l0]
    refine Ok.yes (by omega) (Ok.yes (by omega) (Ok.yes (by omega) ?_))
    rw [hc, e1, e2]
    refine Ok.binds (iname_eq c.f0) ?_
    cases hnm : nameV c.f0 with
    | false =>
      rw [hnm, Bool.false_and] at ha
      refine Ok.no (by simp) (Ok.now _ ?_)
      unfold putV
      rw [if_neg (by rw [ha]; exact Bool.false_ne_true)]
    | true =>
      rw [hnm, Bool.true_and] at ha
      refine Ok.yes rfl (Ok.ite (fun g => Ok.now _ ?_) (fun g => ?_))
      · rw [decide_eq_false (by omega), Bool.false_and] at ha
        unfold putV
        rw [if_neg (by rw [ha]; exact Bool.false_ne_true)]
      · rw [decide_eq_true (by omega), Bool.true_and] at ha
        exact ih (i + 1) _ (by omega) (by omega) ha
theorem sput_ok : Ok (fun k => spec_ChunksPut.f k l) (· = putV l) := by
  unfold spec_ChunksPut.f
  exact sput_l l hl hb l.length 0 8 (by omega) (by omega) (by rw [List.drop_zero])
theorem iput_ok : Ok (fun k => impl_ChunksPut.f k l) (· = putV l) := by
  unfold impl_ChunksPut.f
  exact iput_l l hl hb l.length 0 8 (by omega) (by omega) (by rw [List.drop_zero])
end

end Go.Proofs.YtdhpekdfpoeboaaDoor.Pure
/- Pieces, as the program and the reference read them. -/
set_option linter.unusedVariables false
set_option linter.unusedSimpArgs false
namespace Go.Proofs.YtdhpekdfpoeboaaDoor.Pure
open Go.RowKit Go.Proofs.YtdhpekdfpoeboaaDoor.P Go.Proofs.YtdhpekdfpoeboaaDoor.Lib Go.Proofs.YtdhpekdfpoeboaaDoorW.PrintWords Go.Proofs.YtdhpekdfpoeboaaDoorW.PrintLast Go.Proofs.YtdhpekdfpoeboaaDoorW.PrintMore
/-! ### numbers of four bytes, read -/
theorem toList_iff (a b : ByteArray) : a.toList = b.toList ↔ a = b := by
  constructor
  · intro h
    rw [ByteArray.toList_eq, ByteArray.toList_eq] at h
    exact ByteArray.ext (Array.toList_inj.mp h)
  · intro h; rw [h]
def f4 (s : ByteArray) (p : Nat) : Int := fv s p 4 true 4
theorem f4_range (s : ByteArray) (p : Nat) : 0 ≤ f4 s p ∧ f4 s p ≤ 4294967295 := fv_range s p 4 true (by omega)
theorem num4_f4 (s : ByteArray) (p : Nat) (h : p + 4 ≤ s.size) : num4 (f4 s p) = s.extract p (p + 4) := numv_fv s p 4 true h
theorem num4_inj {a b : Int} (ha : 0 ≤ a ∧ a ≤ 4294967295) (hb : 0 ≤ b ∧ b ≤ 4294967295) (h : num4 a = num4 b) : a = b := numv_inj (z := 4) ⟨ha.1, ha.2⟩ ⟨hb.1, hb.2⟩ h
theorem f4_ext (s : ByteArray) (p q i : Nat) (h : p + i + 4 ≤ q) (hq : q ≤ s.size) : f4 (s.extract p q) i = f4 s (p + i) := fv_ext s p q i 4 true hq h 4 (by omega)
theorem inumget (t : ByteArray) (h : t.size ≤ 9000) : Ok (fun k => impl_NumGet.f k t 0 4 true) (· = if 4 ≤ t.size then (f4 t 0, true) else (0, false)) := by
  have e := inumget_ok t 0 4 true (by omega) (by omega) h (by omega)
  rw [Nat.zero_add] at e
  exact e
theorem sfield (s : ByteArray) (p : Nat) (hp : p ≤ 50000) (hs : s.size ≤ 50000) : Ok (fun k => spec_l1Field.f k s (p : Int) 4 true) (· = if p + 4 ≤ s.size then f4 s p else 0) := sfield_ok s p 4 true (by omega) (by omega) (by omega)
theorem pw3 (p a m : Nat) (hp : p ≤ 30000) (ha : a ≤ 30000) (hm : m ≤ 30000) : wrap64 (wrap64 ((p : Int) + (a : Int)) + (m : Int)) = ((p + (a + m) : Nat) : Int) := by
  rw [pw p a (by omega) (by omega), pw (p + a) m (by omega) (by omega), Nat.add_assoc]
theorem pw4 (p : Nat) (h : p ≤ 9000) : wrap64 ((p : Int) + 4) = ((p + 4 : Nat) : Int) := pw p 4 (by omega) (by omega)
theorem pw8 (p : Nat) (h : p ≤ 9000) : wrap64 ((p : Int) + 8) = ((p + 8 : Nat) : Int) := pw p 8 (by omega) (by omega)
theorem pw12 (p : Nat) (h : p ≤ 9000) : wrap64 ((p : Int) + 12) = ((p + 12 : Nat) : Int) := pw p 12 (by omega) (by omega)
theorem pw8m (p m : Nat) (h : p ≤ 9000) (hm : m ≤ 9000) : wrap64 (wrap64 ((p : Int) + 8) + (m : Int)) = ((p + (8 + m) : Nat) : Int) := pw3 p 8 m (by omega) (by omega) (by omega)
theorem pw12m (p m : Nat) (h : p ≤ 9000) (hm : m ≤ 9000) : wrap64 (wrap64 ((p : Int) + 12) + (m : Int)) = ((p + (12 + m) : Nat) : Int) := pw3 p 12 m (by omega) (by omega) (by omega)
theorem pd12 (z p : Nat) (hz : z ≤ 9000) (hp : p ≤ 9000) : wrap64 (wrap64 ((z : Int) - (p : Int)) - 12) = (z : Int) - p - 12 := by rw [w64 (x := (z : Int) - p) (by omega) (by omega), w64 (by omega) (by omega)]
theorem ext_ext (s : ByteArray) (a b c d : Nat) (h : a + d ≤ b) : (s.extract a b).extract c d = s.extract (a + c) (a + d) := by
  rw [ByteArray.extract_extract, Nat.min_eq_left h]
/-! ### pieces, read -/
def headC (t : ByteArray) : S41 := ⟨t.extract 4 8, t.extract 8 (8 + (f4 t 0).toNat)⟩
/-- Does a text begin with a piece? -/
def good (t : ByteArray) : Bool := decide (f4 t 0 + 12 ≤ (t.size : Int)) && (nameV (t.extract 4 8) && decide (pieceT (headC t) = t.extract 0 (12 + (f4 t 0).toNat)))
def getR : Nat → ByteArray → List S41 → Option (List S41)
  | 0, t, xs => if t.size = 0 then some xs else none
  | d + 1, t, xs => if t.size = 0 then some xs else if good t = true then getR d (t.extract (12 + (f4 t 0).toNat) t.size) (xs ++ [headC t]) else none
def fin : Option (List S41) → List S41 × Bool
  | some ys => (ys, true)
  | none => ([], false)
def getV (s : ByteArray) : List S41 × Bool := if s.size ≤ 9000 ∧ 8 ≤ s.size ∧ s.extract 0 8 = sign8 then fin (getR s.size (s.extract 8 s.size) []) else ([], false)
theorem piece_iff (t : ByteArray) (m : Nat) (hm : f4 t 0 = (m : Int)) (hl : m + 12 ≤ t.size) : pieceT ⟨t.extract 4 8, t.extract 8 (8 + m)⟩ = t.extract 0 (12 + m) ↔ crcv (t.extract 4 (8 + m)) = f4 t (8 + m) := by
  have e1 : t.extract 4 8 ++ t.extract 8 (8 + m) = t.extract 4 (8 + m) := by rw [ByteArray.extract_append_extract, Nat.min_eq_left (by omega), Nat.max_eq_right (by omega)]
  have z : (t.extract 8 (8 + m)).size = m := by rw [ByteArray.size_extract]; omega
  have e4 : num4 (m : Int) = t.extract 0 4 := by rw [← hm, num4_f4 t 0 (by omega)]
  have e5 : t.extract 0 4 ++ t.extract 4 8 ++ t.extract 8 (8 + m) ++ t.extract (8 + m) (8 + m + 4) = t.extract 0 (12 + m) := by
    have j : ∀ a b c : Nat, a ≤ b → b ≤ c → t.extract a b ++ t.extract b c = t.extract a c := fun a b c h1 h2 => by rw [ByteArray.extract_append_extract, Nat.min_eq_left h1, Nat.max_eq_right h2]
    rw [j 0 4 8 (by omega) (by omega), j 0 8 (8 + m) (by omega) (by omega), j 0 (8 + m) (8 + m + 4) (by omega) (by omega), show 8 + m + 4 = 12 + m by omega]
  have e6 := num4_f4 t (8 + m) (by omega)
  unfold pieceT
  simp only
  rw [z, e4, e1, ← e5, ByteArray.append_right_inj, ← e6]
  exact ⟨fun h => num4_inj (crcv_range _) (f4_range _ _) h, fun h => by rw [h]⟩
theorem iget_l (d : Nat) : ∀ (t : ByteArray) (xs : List S41), t.size ≤ 9000 → t.size ≤ d → xs.length + t.size ≤ 20000 → Ok (fun k => impl_ChunksGet.l0 k t xs) (· = fin (getR d t xs)) := by
  induction d with
  | zero =>
    intro t xs h9 hd hx
    have h0 : t.size = 0 := by omega
    refine Ok.succ ?_
    simp only [impl_ChunksGet.l0, getR]
    rw [if_pos h0]
    exact Ok.yes ((Lib.text_nil t).2 h0) (Ok.now _ rfl)
  | succ d ih =>
    intro t xs h9 hd hx
    by_cases h0 : t.size = 0
    · refine Ok.succ ?_
      simp only [impl_ChunksGet.l0, getR]
      rw [if_pos h0]
      exact Ok.yes ((Lib.text_nil t).2 h0) (Ok.now _ rfl)
    have h0' : ¬ t.toList = ([] : List UInt8) := fun h => h0 ((Lib.text_nil t).1 h)
    have bad : good t = false → fin (getR (d + 1) t xs) = ([], false) := fun h => by
      simp only [getR]
      rw [if_neg h0, h, if_neg (by simp)]; rfl
    refine Ok.succ ?_
    simp only [impl_ChunksGet.l0]
    refine Ok.no h0' ((inumget t h9).bind fun x hx2 => ?_)
    subst hx2
    have hf := f4_range t 0
    have e12 : wrap64 ((t.size : Int) - 12) = (t.size : Int) - 12 := w64 (by omega) (by omega)
    by_cases h4 : 4 ≤ t.size
    · rw [if_pos h4, e12]
      refine Ok.yes (by simp) (Ok.succ ?_)
      simp only [impl_ChunksGet.j2]
      by_cases hg : f4 t 0 > (t.size : Int) - 12
      · rw [decide_eq_true hg]
        refine Ok.yes (by simp) (Ok.now _ ?_)
        rw [bad (by unfold good; rw [decide_eq_false (by omega), Bool.false_and])]
      · rw [decide_eq_false hg]
        refine Ok.no (by simp) ?_
        obtain ⟨m, hm⟩ := Int.eq_ofNat_of_zero_le hf.1
        have hl : m + 12 ≤ t.size := by omega
        have e8 : wrap64 (8 + (m : Int)) = ((8 + m : Nat) : Int) := by rw [w64 (by omega) (by omega)]; omega
        have e9 : wrap64 (12 + (m : Int)) = ((12 + m : Nat) : Int) := by rw [w64 (by omega) (by omega)]; omega
        have hh : headC t = ⟨t.extract 4 8, t.extract 8 (8 + m)⟩ := by unfold headC; rw [hm, Int.toNat_natCast]
        have gd : good t = (nameV (t.extract 4 8) && decide (pieceT (headC t) = t.extract 0 (12 + m))) := by
          unfold good
          rw [hm, Int.toNat_natCast, decide_eq_true (by omega), Bool.true_and]
        rw [hm, e8, e9, Int.toNat_natCast, Int.toNat_natCast]
        refine Ok.yes (by omega) (Ok.yes (by omega) (Ok.yes (by omega) (Ok.yes (by omega) ?_)))
        refine Ok.binds (iname_eq _) ?_
        cases hn : nameV (t.extract 4 8) with
        | false =>
          refine Ok.no (by simp) (Ok.now _ ?_)
          rw [bad (by rw [gd, hn, Bool.false_and])]
        | true =>
          rw [hn, Bool.true_and] at gd
          refine Ok.yes rfl ?_
          refine (itext_ok ⟨t.extract 4 8, t.extract 8 (8 + m)⟩ (by simp only [ByteArray.size_extract]; omega) (by simp only [ByteArray.size_extract]; omega)).bind fun y hy => ?_
          subst hy
          refine Ok.yes (by omega) (Ok.yes (by omega) ?_)
          rw [hh] at gd
          by_cases hp : pieceT ⟨t.extract 4 8, t.extract 8 (8 + m)⟩ = t.extract 0 (12 + m)
          · rw [decide_eq_true hp] at gd
            refine Ok.yes ((toList_iff _ _).2 hp) (Ok.yes (by omega) ?_)
            have ht : (t.extract (12 + m) t.size).size = t.size - (12 + m) := by rw [ByteArray.size_extract]; omega
            have h := ih (t.extract (12 + m) t.size) (xs ++ [⟨t.extract 4 8, t.extract 8 (8 + m)⟩]) (by omega) (by omega) (by rw [List.length_append, ht]; simp; omega)
            have eg : getR (d + 1) t xs = getR d (t.extract (12 + m) t.size) (xs ++ [⟨t.extract 4 8, t.extract 8 (8 + m)⟩]) := by
              show (if t.size = 0 then some xs else if good t = true then getR d (t.extract (12 + (f4 t 0).toNat) t.size) (xs ++ [headC t]) else none) = _
              rw [if_neg h0, if_pos gd, hh, hm, Int.toNat_natCast]
            rw [eg]
            exact h
          · rw [decide_eq_false hp] at gd
            refine Ok.no (fun h => hp ((toList_iff _ _).1 h)) (Ok.now _ ?_)
            rw [bad gd]
    · rw [if_neg h4]
      refine Ok.no (by simp) (Ok.succ ?_)
      simp only [impl_ChunksGet.j2]
      refine Ok.yes (by simp) (Ok.now _ ?_)
      rw [bad (by unfold good; rw [decide_eq_false (by omega), Bool.false_and])]
set_option maxHeartbeats 2000000 in
theorem sget_l (s : ByteArray) (hs : s.size ≤ 9000) (d : Nat) : ∀ (p : Nat) (xs : List S41), p ≤ s.size → s.size - p ≤ d → xs.length ≤ p →
    Ok (fun k => spec_l9Split.l0 k s xs (p : Int)) (fun r => match getR d (s.extract p s.size) xs with | some ys => r = (ys, true) | none => r.2 = false) := by
  induction d with
  | zero =>
    intro p xs hp hd hx
    have h0 : (s.extract p s.size).size = 0 := by rw [ByteArray.size_extract]; omega
    refine Ok.succ ?_
    simp only [spec_l9Split.l0, getR]
    rw [if_pos h0]
    exact Ok.no (by omega) (Ok.now _ rfl)
  | succ d ih =>
    intro p xs hp hd hx
    by_cases h0 : p = s.size
    · have h1 : (s.extract p s.size).size = 0 := by rw [ByteArray.size_extract]; omega
      refine Ok.succ ?_
      simp only [spec_l9Split.l0, getR]
      rw [if_pos h1]
      exact Ok.no (by omega) (Ok.now _ rfl)
    obtain ⟨t, ht⟩ : ∃ t, s.extract p s.size = t := ⟨_, rfl⟩
    have hz : t.size = s.size - p := by rw [← ht, ByteArray.size_extract]; omega
    have hz0 : ¬ t.size = 0 := by omega
    rw [ht]
    have bad : good t = false → ∀ r : List S41 × Bool, r.2 = false → (match getR (d + 1) t xs with | some ys => r = (ys, true) | none => r.2 = false) := fun h r hr => by
      simp only [getR]
      rw [if_neg hz0, h, if_neg (by simp)]
      exact hr
    have cut : ∀ a b : Nat, p + b ≤ s.size → t.extract a b = s.extract (p + a) (p + b) := fun a b hb => by rw [← ht, ByteArray.extract_extract, Nat.min_eq_left hb]
    have hf := f4_range s p
    have hft : p + 4 ≤ s.size → f4 t 0 = f4 s p := fun h => by rw [← ht, f4_ext s p s.size 0 (by omega) (by omega)]; rfl
    refine Ok.succ ?_
    simp only [spec_l9Split.l0]
    refine Ok.yes (by omega) ((sfield s p (by omega) (by omega)).bind fun x hx2 => ?_)
    subst hx2
    have hp9 : p ≤ 9000 := Nat.le_trans hp hs
    rw [pw4 p hp9, pw8 p hp9, pw12 p hp9, pd12 s.size p hs hp9, Int.toNat_natCast, Int.toNat_natCast]
    refine Ok.ite (fun c => Ok.succ ?_) (fun c => ?_)
    · simp only [spec_l9Split.j2]
      refine Ok.yes (by simp) (Ok.now _ (bad ?_ _ rfl))
      have hft2 := f4_range t 0
      unfold good
      rw [decide_eq_false (by omega), Bool.false_and]
    have hft := hft (by omega)
    rw [if_pos (show p + 4 ≤ s.size by omega)]
    refine Ok.ite (fun c2 => Ok.succ ?_) (fun c2 => ?_)
    · simp only [spec_l9Split.j2]
      refine Ok.yes (by simp) (Ok.now _ (bad ?_ _ rfl))
      unfold good
      rw [hft, decide_eq_false (by omega), Bool.false_and]
    obtain ⟨m, hm⟩ := Int.eq_ofNat_of_zero_le hf.1
    rw [hm] at hft c2 ⊢
    have hl : p + m + 12 ≤ s.size := by omega
    have hh : headC t = ⟨t.extract 4 8, t.extract 8 (8 + m)⟩ := by unfold headC; rw [hft, Int.toNat_natCast]
    have gd : good t = (nameV (t.extract 4 8) && decide (pieceT (headC t) = t.extract 0 (12 + m))) := by
      unfold good
      rw [hft, Int.toNat_natCast, decide_eq_true (by omega), Bool.true_and]
    rw [hh] at gd
    have hpi := piece_iff t m hft (by omega)
    refine Ok.yes (by omega) (Ok.yes (by omega) (Ok.yes (by omega) ?_))
    refine (sname_ok _ (by rw [ByteArray.size_extract]; omega)).bind fun y hy => ?_
    subst hy
    rw [← cut 4 8 (by omega)]
    refine Ok.succ ?_
    simp only [spec_l9Split.j2]
    cases hn : nameV (t.extract 4 8) with
    | false =>
      refine Ok.yes (by simp) (Ok.now _ (bad ?_ _ rfl))
      rw [gd, hn, Bool.false_and]
    | true =>
      rw [hn, Bool.true_and] at gd
      refine Ok.no (by simp) ?_
      have hm9 : m ≤ 9000 := by omega
      rw [pw4 p hp9, pw8m p m hp9 hm9, pw12m p m hp9 hm9, Int.toNat_natCast, Int.toNat_natCast, ← cut 4 (8 + m) (by omega)]
      refine Ok.yes (by omega) (Ok.yes (by omega) (Ok.yes (by omega) ?_))
      refine (scrc_ok _).bind fun y hy => ?_
      subst hy
      refine (sfield s (p + (8 + m)) (by omega) (by omega)).bind fun y hy => ?_
      subst hy
      rw [if_pos (show p + (8 + m) + 4 ≤ s.size by omega)]
      have hf8 : f4 t (8 + m) = f4 s (p + (8 + m)) := by rw [← ht, f4_ext s p s.size (8 + m) (by omega) (by omega)]
      rw [hf8] at hpi
      by_cases hc : crcv (t.extract 4 (8 + m)) = f4 s (p + (8 + m))
      · rw [decide_eq_true (hpi.2 hc)] at gd
        have hsz : (t.extract 4 (8 + m)).size = 4 + m := by rw [ByteArray.size_extract]; omega
        refine Ok.yes hc (Ok.yes (by omega) (Ok.yes (by omega) (Ok.yes (by omega) ?_)))
        have x1 : (t.extract 4 (8 + m)).extract 0 4 = t.extract 4 8 := ext_ext t 4 (8 + m) 0 4 (by omega)
        have x2 : (t.extract 4 (8 + m)).extract 4 (t.extract 4 (8 + m)).size = t.extract 8 (8 + m) := by rw [hsz, ext_ext t 4 (8 + m) 4 (4 + m) (by omega), show 4 + (4 + m) = 8 + m by omega]
        have x3 : t.extract (12 + m) t.size = s.extract (p + (12 + m)) s.size := by rw [hz, cut _ _ (by omega), show p + (s.size - p) = s.size by omega]
        rw [x1, x2]
        have h := ih (p + (12 + m)) (xs ++ [⟨t.extract 4 8, t.extract 8 (8 + m)⟩]) (by omega) (by omega) (by rw [List.length_append]; simp; omega)
        have eg : getR (d + 1) t xs = getR d (s.extract (p + (12 + m)) s.size) (xs ++ [⟨t.extract 4 8, t.extract 8 (8 + m)⟩]) := by
          show (if t.size = 0 then some xs else if good t = true then getR d (t.extract (12 + (f4 t 0).toNat) t.size) (xs ++ [headC t]) else none) = _
          rw [if_neg hz0, if_pos gd, hh, hft, Int.toNat_natCast, x3]
        rw [eg]
        exact h
      · rw [decide_eq_false (fun h => hc (hpi.1 h))] at gd
        exact Ok.no hc (Ok.now _ (bad gd _ rfl))
def cutB (r : List S41 × Bool) : List S41 × Bool := if r.2 = true then (r.1, true) else ([], false)
theorem ssplit_ok (s : ByteArray) (h9 : s.size ≤ 9000) : Ok (fun k => spec_l9Split.f k s) (fun r => cutB r = getV s) := by
  unfold spec_l9Split.f
  refine Ok.binds rfl ?_
  by_cases h8 : 8 ≤ s.size
  · refine Ok.no (by omega) (Ok.yes (by omega) (Ok.yes (by omega) ?_))
    unfold spec_l9Sign.f
    refine Ok.binds rfl (Ok.succ ?_)
    simp only [spec_l9Split.j0]
    by_cases hg : s.extract 0 8 = sign8
    · have e : getV s = fin (getR s.size (s.extract 8 s.size) []) := by unfold getV; rw [if_pos ⟨h9, h8, hg⟩]
      rw [e]
      refine Ok.no (by rw [bne_iff_ne]; exact fun h => h ((toList_iff _ _).2 hg)) ?_
      have h := sget_l s h9 s.size 8 [] h8 (by omega) (by simp)
      refine h.mono fun r hr => ?_
      cases he : getR s.size (s.extract 8 s.size) [] with
      | none =>
        rw [he] at hr
        simp only at hr
        unfold cutB
        rw [if_neg (by rw [hr]; simp)]; rfl
      | some ys =>
        rw [he] at hr
        simp only at hr
        rw [hr]; rfl
    · have e : getV s = ([], false) := by unfold getV; exact if_neg (fun h => hg h.2.2)
      rw [e]
      refine Ok.yes (by rw [bne_iff_ne]; exact fun h => hg ((toList_iff _ _).1 h)) (Ok.now _ rfl)
  · have e : getV s = ([], false) := by unfold getV; exact if_neg (fun h => h8 h.2.1)
    rw [e]
    refine Ok.yes (by omega) (Ok.succ ?_)
    simp only [spec_l9Split.j0]
    exact Ok.yes (by simp) (Ok.now _ rfl)
theorem sget_ok (s : ByteArray) : Ok (fun k => spec_ChunksGet.f k s) (· = getV s) := by
  unfold spec_ChunksGet.f
  by_cases h9 : s.size ≤ 9000
  · refine Ok.no (by omega) ((ssplit_ok s h9).bind fun x hx => ?_)
    rw [← hx]
    unfold cutB
    exact Ok.ite (fun hb => Ok.now _ (by rw [if_pos hb])) (fun hb => Ok.now _ (by rw [if_neg hb]))
  · have e : getV s = ([], false) := by unfold getV; exact if_neg (fun h => h9 h.1)
    rw [e]
    exact Ok.yes (by omega) (Ok.now _ rfl)
theorem iget_ok (s : ByteArray) : Ok (fun k => impl_ChunksGet.f k s) (· = getV s) := by
  unfold impl_ChunksGet.f getV
  have hcp : strings_CutPrefix.f s (⟨#[137, 80, 78, 71, 13, 10, 26, 10]⟩ : ByteArray) = some (if 8 ≤ s.size ∧ s.extract 0 8 = sign8 then (s.extract 8 s.size, true) else (s, false)) := by
    unfold strings_CutPrefix.f stringslite_CutPrefix.f stringslite_HasPrefix.f
    have hz : (⟨#[137, 80, 78, 71, 13, 10, 26, 10]⟩ : ByteArray).size = 8 := rfl
    rw [hz]
    by_cases h8 : 8 ≤ s.size
    · rw [if_pos (by omega), if_pos (by omega), if_pos (by omega)]
      simp only [Option.bind_some]
      by_cases hg : s.extract 0 8 = sign8
      · have e : ((s.extract 0 ((8 : Nat) : Int).toNat).toList == (⟨#[137, 80, 78, 71, 13, 10, 26, 10]⟩ : ByteArray).toList) = true := by
          rw [beq_iff_eq]; exact (toList_iff _ _).2 hg
        rw [e, if_pos rfl, if_pos (by omega), if_pos (by omega), if_pos ⟨h8, hg⟩]
        rfl
      · have e : ((s.extract 0 ((8 : Nat) : Int).toNat).toList == (⟨#[137, 80, 78, 71, 13, 10, 26, 10]⟩ : ByteArray).toList) = false := by
          rw [beq_eq_false_iff_ne]; exact fun h => hg ((toList_iff _ _).1 h)
        rw [e, if_neg (by simp), if_neg (fun h => hg h.2)]
        rfl
    · rw [if_neg (by omega), if_neg (show ¬ (8 ≤ s.size ∧ s.extract 0 8 = sign8) from fun h => h8 h.1)]
      rfl
  refine Ok.binds hcp ?_
  by_cases h : 8 ≤ s.size ∧ s.extract 0 8 = sign8
  · rw [if_pos h]
    refine Ok.yes (by simp) (Ok.succ ?_)
    simp only [impl_ChunksGet.j0]
    by_cases h9 : s.size ≤ 9000
    · rw [decide_eq_false (by omega), if_pos ⟨h9, h⟩]
      have hz : (s.extract 8 s.size).size = s.size - 8 := by rw [ByteArray.size_extract]; omega
      exact Ok.no (by simp) (iget_l s.size (s.extract 8 s.size) [] (by omega) (by omega) (by simp; omega))
    · rw [decide_eq_true (by omega), if_neg (fun g => h9 g.1)]
      exact Ok.yes (by simp) (Ok.now _ rfl)
  · rw [if_neg h, if_neg (fun g => h g.2)]
    refine Ok.no (by simp) (Ok.succ ?_)
    simp only [impl_ChunksGet.j0]
    exact Ok.yes (by simp) (Ok.now _ rfl)
theorem getR_len (d : Nat) : ∀ (t : ByteArray) (xs ys : List S41), getR d t xs = some ys → ys.length ≤ xs.length + d := by
  induction d with
  | zero =>
    intro t xs ys h
    simp only [getR] at h
    split at h
    · rw [← Option.some.inj h]; omega
    · cases h
  | succ d ih =>
    intro t xs ys h
    simp only [getR] at h
    split at h
    · rw [← Option.some.inj h]; omega
    · split at h
      · have h2 := ih _ _ _ h
        rw [List.length_append] at h2
        simp at h2
        omega
      · cases h
theorem getV_len (s : ByteArray) : (getV s).1.length ≤ 9000 := by
  unfold getV
  split
  · rename_i h
    cases he : getR s.size (s.extract 8 s.size) [] with
    | none => simp [fin]
    | some ys =>
      have := getR_len _ _ _ _ he
      simp only [fin]
      simp at this
      omega
  · simp

end Go.Proofs.YtdhpekdfpoeboaaDoor.Pure
/- Pieces: what was written is read, and what was read is written again. -/
set_option linter.unusedVariables false
set_option linter.unusedSimpArgs false
namespace Go.Proofs.YtdhpekdfpoeboaaDoor.Pure
open Go.RowKit Go.Proofs.YtdhpekdfpoeboaaDoor.P Go.Proofs.YtdhpekdfpoeboaaDoor.Lib Go.Proofs.YtdhpekdfpoeboaaDoorW.PrintWords Go.Proofs.YtdhpekdfpoeboaaDoorW.PrintLast Go.Proofs.YtdhpekdfpoeboaaDoorW.PrintMore
/-! ### pieces, written and read -/
def joinT : List S41 → ByteArray
  | [] => ByteArray.empty
  | c :: l => pieceT c ++ joinT l
theorem piecesT_join (l : List S41) : ∀ x, piecesT l x = x ++ joinT l := by
  induction l with
  | nil => intro x; simp [piecesT, joinT]
  | cons c l ih => intro x; simp only [piecesT, joinT]; rw [ih, ByteArray.append_assoc]
theorem nameV_size {s : ByteArray} (h : nameV s = true) : s.size = 4 := by
  unfold nameV at h
  simp only [Bool.and_eq_true, decide_eq_true_eq] at h
  exact h.1
theorem extract_all (s : ByteArray) (n : Nat) (h : n = s.size) : s.extract 0 n = s := by subst h; exact ByteArray.extract_zero_size
theorem good_head (t : ByteArray) (h : good t = true) : f4 t 0 + 12 ≤ (t.size : Int) ∧ nameV (headC t).f0 = true ∧ t = pieceT (headC t) ++ t.extract (12 + (f4 t 0).toNat) t.size ∧ (pieceT (headC t)).size = 12 + (f4 t 0).toNat ∧ (headC t).f1.size = (f4 t 0).toNat := by
  unfold good at h
  simp only [Bool.and_eq_true, decide_eq_true_eq] at h
  obtain ⟨h1, h2, h3⟩ := h
  have hf := f4_range t 0
  refine ⟨h1, h2, ?_, ?_, ?_⟩
  · rw [h3, ByteArray.extract_append_extract, Nat.min_eq_left (by omega), Nat.max_eq_right (by omega), ByteArray.extract_zero_size]
  · rw [h3, ByteArray.size_extract]; omega
  · unfold headC
    rw [ByteArray.size_extract]
    omega
theorem getR_join (d : Nat) : ∀ (t : ByteArray) (xs ys : List S41), getR d t xs = some ys → ∃ l, ys = xs ++ l ∧ t = joinT l ∧ (∀ c ∈ l, nameV c.f0 = true) := by
  induction d with
  | zero =>
    intro t xs ys h
    simp only [getR] at h
    split at h
    · rename_i hz
      exact ⟨[], by rw [← Option.some.inj h]; simp, by simp only [joinT]; exact ByteArray.size_eq_zero_iff.1 hz, fun c hc => by cases hc⟩
    · cases h
  | succ d ih =>
    intro t xs ys h
    simp only [getR] at h
    split at h
    · rename_i hz
      exact ⟨[], by rw [← Option.some.inj h]; simp, by simp only [joinT]; exact ByteArray.size_eq_zero_iff.1 hz, fun c hc => by cases hc⟩
    · split at h
      · rename_i hg
        obtain ⟨l, h1, h2, h3⟩ := ih _ _ _ h
        obtain ⟨_, g1, g2, _, _⟩ := good_head t hg
        refine ⟨headC t :: l, by rw [h1]; simp, ?_, fun c hc => ?_⟩
        · simp only [joinT]
          rw [← h2]
          exact g2
        · rcases List.mem_cons.1 hc with rfl | hc
          · exact g1
          · exact h3 c hc
      · cases h
theorem join_ok (l : List S41) : ∀ n, (∀ c ∈ l, nameV c.f0 = true) → n + (joinT l).size ≤ 9000 → piecesOk l n = true := by
  induction l with
  | nil => intro n _ _; rfl
  | cons c l ih =>
    intro n hn hs
    have h1 := hn c List.mem_cons_self
    have z := nameV_size h1
    have zp := pieceT_size c
    simp only [joinT] at hs
    rw [ByteArray.size_append] at hs
    simp only [piecesOk]
    rw [h1, Bool.true_and, decide_eq_true (by omega), Bool.true_and]
    exact ih _ (fun x hx => hn x (List.mem_cons_of_mem _ hx)) (by omega)
theorem ok_join (l : List S41) : ∀ n, piecesOk l n = true → n ≤ 9000 → n + (joinT l).size ≤ 9000 ∧ (∀ c ∈ l, nameV c.f0 = true) := by
  induction l with
  | nil => intro n _ h; exact ⟨by simpa [joinT] using h, fun c hc => by cases hc⟩
  | cons c l ih =>
    intro n h hn
    simp only [piecesOk, Bool.and_eq_true, decide_eq_true_eq] at h
    obtain ⟨h1, h2, h3⟩ := h
    have z := nameV_size h1
    have zp := pieceT_size c
    obtain ⟨g1, g2⟩ := ih _ h3 h2
    refine ⟨?_, fun x hx => ?_⟩
    · simp only [joinT]
      rw [ByteArray.size_append]
      omega
    · rcases List.mem_cons.1 hx with rfl | hx
      · exact h1
      · exact g2 x hx
theorem sign8_size : sign8.size = 8 := rfl
/-- What was read, written again, is the text. -/
theorem put_get (s : ByteArray) (l : List S41) (h : getV s = (l, true)) : putV l = s := by
  unfold getV at h
  split at h
  · rename_i hc
    obtain ⟨h9, h8, hg⟩ := hc
    cases he : getR s.size (s.extract 8 s.size) [] with
    | none => rw [he] at h; simp [fin] at h
    | some ys =>
      rw [he] at h
      simp only [fin, Prod.mk.injEq, and_true] at h
      subst h
      obtain ⟨m, h1, h2, h3⟩ := getR_join _ _ _ _ he
      rw [List.nil_append] at h1
      subst h1
      have hz : 8 + (joinT ys).size ≤ 9000 := by rw [← h2, ByteArray.size_extract]; omega
      unfold putV
      rw [if_pos (join_ok ys 8 h3 hz), piecesT_join, ← h2, ← hg, ByteArray.extract_append_extract, Nat.min_eq_left (by omega), Nat.max_eq_right (by omega), ByteArray.extract_zero_size]
  · simp at h
theorem f4_piece (c : S41) (r : ByteArray) (hb : c.f1.size ≤ 9000) : f4 (pieceT c ++ r) 0 = (c.f1.size : Int) := by
  refine fv_numv (z := 4) ⟨by omega, by show (c.f1.size : Int) ≤ 4294967295; omega⟩ ?_ ?_
  · rw [ByteArray.size_append, pieceT_size]; omega
  · unfold pieceT
    rw [ByteArray.append_assoc, ByteArray.append_assoc, ByteArray.append_assoc]
    exact ByteArray.extract_append_eq_left (num4_size _).symm
theorem head_piece (c : S41) (r : ByteArray) (hn : nameV c.f0 = true) (hb : c.f1.size ≤ 9000) : headC (pieceT c ++ r) = c := by
  have z := nameV_size hn
  have zn := num4_size (c.f1.size : Int)
  unfold headC
  rw [f4_piece c r hb, Int.toNat_natCast]
  have e1 : (pieceT c ++ r).extract 4 8 = c.f0 := by
    unfold pieceT
    rw [ByteArray.append_assoc, ByteArray.append_assoc, ByteArray.append_assoc, show (4 : Nat) = (num4 (c.f1.size : Int)).size + 0 by omega, show (8 : Nat) = (num4 (c.f1.size : Int)).size + 4 by omega, ByteArray.extract_append_size_add]
    exact ByteArray.extract_append_eq_left z.symm
  have e2 : (pieceT c ++ r).extract 8 (8 + c.f1.size) = c.f1 := by
    unfold pieceT
    rw [ByteArray.append_assoc, ByteArray.append_assoc]
    have zq : (num4 (c.f1.size : Int) ++ c.f0).size = 8 := by rw [ByteArray.size_append, zn, z]
    rw [show (8 : Nat) = (num4 (c.f1.size : Int) ++ c.f0).size + 0 by omega, show (num4 (c.f1.size : Int) ++ c.f0).size + 0 + c.f1.size = (num4 (c.f1.size : Int) ++ c.f0).size + c.f1.size by omega, ByteArray.extract_append_size_add]
    exact ByteArray.extract_append_eq_left rfl
  rw [e1, e2]
theorem headC_f0 (t : ByteArray) : (headC t).f0 = t.extract 4 8 := by unfold headC; rfl
theorem good_piece (c : S41) (r : ByteArray) (hn : nameV c.f0 = true) (hb : c.f1.size ≤ 9000) : good (pieceT c ++ r) = true := by
  have z := nameV_size hn
  have zp := pieceT_size c
  have hh := head_piece c r hn hb
  have hf := f4_piece c r hb
  unfold good
  rw [hf, Int.toNat_natCast, hh, decide_eq_true (by rw [ByteArray.size_append]; omega), Bool.true_and]
  have e1 : (pieceT c ++ r).extract 4 8 = c.f0 := by rw [← headC_f0, hh]
  rw [e1, hn, Bool.true_and, decide_eq_true]
  exact (ByteArray.extract_append_eq_left (by omega)).symm
theorem get_join (l : List S41) : ∀ (d : Nat) (xs : List S41), (∀ c ∈ l, nameV c.f0 = true) → (joinT l).size ≤ 9000 → (joinT l).size ≤ d → getR d (joinT l) xs = some (xs ++ l) := by
  induction l with
  | nil =>
    intro d xs _ _ _
    have hz : (joinT []).size = 0 := rfl
    cases d with
    | zero => simp only [getR]; rw [if_pos hz]; simp
    | succ d => simp only [getR]; rw [if_pos hz]; simp
  | cons c l ih =>
    intro d xs hn h9 hd
    have h1 := hn c List.mem_cons_self
    have zp := pieceT_size c
    have z := nameV_size h1
    have hs : (joinT (c :: l)).size = (pieceT c).size + (joinT l).size := by simp only [joinT]; rw [ByteArray.size_append]
    obtain ⟨d, rfl⟩ : ∃ m, d = m + 1 := ⟨d - 1, by omega⟩
    have hb : c.f1.size ≤ 9000 := by omega
    have hr : (joinT (c :: l)).extract (12 + (f4 (joinT (c :: l)) 0).toNat) (joinT (c :: l)).size = joinT l := by
      rw [hs]
      simp only [joinT]
      rw [f4_piece c _ hb, Int.toNat_natCast]
      exact ByteArray.extract_append_eq_right (by omega) rfl
    have hg : good (joinT (c :: l)) = true := good_piece c _ h1 hb
    have hh : headC (joinT (c :: l)) = c := head_piece c _ h1 hb
    simp only [getR]
    rw [if_neg (by omega), if_pos hg, hr, hh, ih d _ (fun x hx => hn x (List.mem_cons_of_mem _ hx)) (by omega) (by omega), List.append_assoc]
    rfl
/-- What was written is read. -/
theorem get_put (l : List S41) (h : piecesOk l 8 = true) : getV (piecesT l sign8) = (l, true) := by
  obtain ⟨h1, h2⟩ := ok_join l 8 h (by omega)
  rw [piecesT_join]
  unfold getV
  have hs : (sign8 ++ joinT l).size = 8 + (joinT l).size := by rw [ByteArray.size_append, sign8_size]
  rw [if_pos ⟨by omega, by omega, ByteArray.extract_append_eq_left sign8_size.symm⟩, ByteArray.extract_append_eq_right sign8_size.symm (by rw [hs, sign8_size]), get_join l _ [] h2 (by omega) (by omega)]
  rfl
theorem get_empty : getV ⟨#[]⟩ = ([], false) := by
  unfold getV
  rw [if_neg (fun h => by have h2 : 8 ≤ (⟨#[]⟩ : ByteArray).size := h.2.1; rw [size_empty] at h2; omega)]
theorem putV_nil (l : List S41) (h : piecesOk l 8 = true) : putV l ≠ ⟨#[]⟩ := by
  unfold putV
  rw [if_pos h, piecesT_join]
  intro h2
  have h3 := congrArg ByteArray.size h2
  rw [ByteArray.size_append, sign8_size, size_empty] at h3
  omega

end Go.Proofs.YtdhpekdfpoeboaaDoor.Pure
/- What is drawn: numbers, texts, and a text of which a byte is another one: of what size. -/
set_option linter.unusedVariables false
set_option linter.unusedSimpArgs false
namespace Go.Proofs.YtdhpekdfpoeboaaDoor.Pure
open Go.RowKit Go.Proofs.YtdhpekdfpoeboaaDoor.P Go.Proofs.YtdhpekdfpoeboaaDoor.Lib Go.Proofs.YtdhpekdfpoeboaaDoorW.PrintWords Go.Proofs.YtdhpekdfpoeboaaDoorW.PrintLast Go.Proofs.YtdhpekdfpoeboaaDoorW.PrintMore
/-! ### what is drawn: pick, of, l1Many, l14Text -/
open Go.Proofs.YtdhpekdfpoeboaaDoor.Lib
theorem pick_ok (b : List Int) (hb : ∀ x ∈ b, 0 ≤ x ∧ x ≤ 255) (p n : Int) (hp : 0 ≤ p) (hp' : p ≤ 1099511627776) (hn : n ≤ 9223372036854775807) :
    Ok (fun k => spec_l1Rd_pick.f k b p n) (fun r => 0 ≤ r.1 ∧ (1 ≤ n → r.1 < n) ∧ (n < 1 → r.1 = 0) ∧ r.2 = p + 1) := by
  have e1 : wrap64 (p + 1) = p + 1 := w64 (by omega) (by omega)
  unfold spec_l1Rd_pick.f
  by_cases h1 : n < 1
  · refine Ok.yes h1 (Ok.succ ?_)
    simp only [spec_l1Rd_pick.j0, e1, if_true]
    exact Ok.now _ ⟨by simp, fun h => by omega, fun _ => rfl, rfl⟩
  refine Ok.no h1 (Ok.succ ?_)
  simp only [spec_l1Rd_pick.j0, e1]
  by_cases h2 : (b.length : Int) = 0
  · have hbq : ((b.length : Int) == 0) = true := beq_iff_eq.2 h2
    exact Ok.yes hbq (Ok.now _ ⟨by omega, fun _ => by show (0 : Int) < n; omega, fun h => absurd h h1, rfl⟩)
  have hbq : ¬ ((b.length : Int) == 0) = true := by simpa using h2
  have e2 : wrap64 (p + 1 - 1) = p := by rw [w64 (by omega) (by omega)]; omega
  simp only [e2]
  refine Ok.no hbq ?_
  have hn0 : ¬ n = 0 := by omega
  refine Ok.ite (fun h3 => Ok.yes hp (Ok.no hn0 ?_)) (fun h3 => Ok.no h2 ?_)
  · have hm := hb _ (rd_mem hp h3)
    have e3 : wrap64 (rd b p) = rd b p := w64 (by omega) (by omega)
    rw [e3, tmod_nn hm.1]
    exact Ok.now _ ⟨Int.emod_nonneg _ hn0, fun _ => Int.emod_lt_of_pos _ (by omega), fun h => absurd h h1, rfl⟩
  · have hl : 0 < (b.length : Int) := by omega
    rw [tmod_nn hp]
    have a0 : 0 ≤ p % (b.length : Int) := Int.emod_nonneg _ h2
    have a1 : p % (b.length : Int) < (b.length : Int) := Int.emod_lt_of_pos _ hl
    have e4 : wrap64 (p * 7) = p * 7 := w64 (by omega) (by omega)
    have e5 : wrap64 (p * 7 + 3) = p * 7 + 3 := w64 (by omega) (by omega)
    simp only [e4, e5]
    rw [tmod_nn (show 0 ≤ p * 7 + 3 by omega)]
    have b0 : 0 ≤ (p * 7 + 3) % (b.length : Int) := Int.emod_nonneg _ h2
    have b1 : (p * 7 + 3) % (b.length : Int) < (b.length : Int) := Int.emod_lt_of_pos _ hl
    refine Ok.yes a0 (Ok.yes a1 (Ok.yes b0 (Ok.yes b1 (Ok.no hn0 ?_))))
    have c0 := hb _ (rd_mem a0 a1)
    have c1 := hb _ (rd_mem b0 b1)
    generalize rd b (p % (b.length : Int)) = x at c0 ⊢
    generalize rd b ((p * 7 + 3) % (b.length : Int)) = y at c1 ⊢
    rw [tdiv_nn hp]
    have d0 : 0 ≤ p / (b.length : Int) := Int.ediv_nonneg hp (by omega)
    have d1 : p / (b.length : Int) ≤ p := Int.ediv_le_self _ hp
    generalize p / (b.length : Int) = q at d0 d1 ⊢
    have f1 : wrap64 x = x := w64 (by omega) (by omega)
    have f2 : wrap64 y = y := w64 (by omega) (by omega)
    have f3 : wrap64 q = q := w64 (by omega) (by omega)
    have f4 : wrap64 (x * 131) = x * 131 := w64 (by omega) (by omega)
    have f5 : wrap64 (y * 1117) = y * 1117 := w64 (by omega) (by omega)
    have f6 : wrap64 (p * 29) = p * 29 := w64 (by omega) (by omega)
    have f7 : wrap64 (q * 53) = q * 53 := w64 (by omega) (by omega)
    simp only [f1, f2, f3, f4, f5, f6, f7]
    have f8 : wrap64 (x * 131 + y * 1117) = x * 131 + y * 1117 := w64 (by omega) (by omega)
    simp only [f8]
    have f9 : wrap64 (x * 131 + y * 1117 + p * 29) = x * 131 + y * 1117 + p * 29 := w64 (by omega) (by omega)
    simp only [f9]
    have f10 : wrap64 (x * 131 + y * 1117 + p * 29 + q * 53) = x * 131 + y * 1117 + p * 29 + q * 53 := w64 (by omega) (by omega)
    simp only [f10]
    have g0 : 0 ≤ x * 131 + y * 1117 + p * 29 + q * 53 := by omega
    have g1 : x * 131 + y * 1117 + p * 29 + q * 53 ≤ 9223372036854775807 := by omega
    generalize x * 131 + y * 1117 + p * 29 + q * 53 = z at g0 g1 ⊢
    rw [tdiv_nn g0]
    have f11 : wrap64 (z / 64) = z / 64 := w64 (by omega) (by omega)
    rw [f11]
    have hx := xor_nonneg g0 g1 (show 0 ≤ z / 64 by omega) (by omega)
    rw [tmod_nn hx.1]
    exact Ok.now _ ⟨Int.emod_nonneg _ hn0, fun _ => Int.emod_lt_of_pos _ (by omega), fun h => absurd h h1, rfl⟩

theorem pick_at (b : List Int) (hb : ∀ x ∈ b, 0 ≤ x ∧ x ≤ 255) (p n : Int) (hp : 0 ≤ p ∧ p ≤ 1099511627776) (hn : 1 ≤ n ∧ n ≤ 9223372036854775807) :
    Ok (fun k => spec_l1Rd_pick.f k b p n) (fun r => (0 ≤ r.1 ∧ r.1 < n) ∧ r.2 = p + 1) :=
  (pick_ok b hb p n hp.1 hp.2 hn.2).mono fun _ h => ⟨⟨h.1, h.2.1 hn.1⟩, h.2.2.2⟩
theorem open_ok (l : List Int) : Ok (fun _ => spec_l1Open.f l) (fun r => r.1 = l.take 2000 ∧ r.2 = 0) := by
  unfold spec_l1Open.f
  refine Ok.ite (fun h => Ok.yes (by omega) (Ok.now _ ⟨rfl, rfl⟩)) (fun h => Ok.now _ ⟨?_, rfl⟩)
  rw [List.take_of_length_le (by omega)]
theorem byte_wf {l : List Int} (h : ∀ x ∈ l, (Lit.int .u8 x).wf = true) : ∀ x ∈ l, 0 ≤ x ∧ x ≤ 255 := fun x hx => bounds_u8 (h x hx)
theorem byte_take {l : List Int} (h : ∀ x ∈ l, 0 ≤ x ∧ x ≤ 255) (n : Nat) : ∀ x ∈ l.take n, 0 ≤ x ∧ x ≤ 255 := fun x hx => h x (List.mem_of_mem_take hx)

theorem of_ok (b : List Int) (hb : ∀ x ∈ b, 0 ≤ x ∧ x ≤ 255) (p : Int) (l : List ByteArray) (hp : 0 ≤ p ∧ p ≤ 1099511627776) (hl : 1 ≤ l.length ∧ l.length ≤ 1000) (m : Nat) (hm : ∀ s ∈ l, s.size ≤ m) :
    Ok (fun k => spec_l1Rd_of.f k b p l) (fun r => r.1.size ≤ m ∧ r.2 = p + 1) := by
  unfold spec_l1Rd_of.f
  refine (pick_at b hb p l.length hp (by omega)).bind fun a ha => ?_
  obtain ⟨v, q⟩ := a
  obtain ⟨⟨h0, h1⟩, rfl⟩ := ha
  refine Ok.yes h0 (Ok.yes h1 (Ok.now _ ⟨?_, rfl⟩))
  apply hm
  have hv : v.toNat < l.length := by simp only at h0 h1; omega
  show rdOf ByteArray.empty l v ∈ l
  unfold rdOf
  rw [List.getD_eq_getElem?_getD, List.getElem?_eq_getElem hv]
  exact List.getElem_mem hv

theorem many_l (s : ByteArray) (n : Int) (hs : s.size ≤ 65536) (hn : n ≤ 65536) (d : Nat) : ∀ (o : ByteArray) (i : Int), 0 ≤ i → n - i ≤ d → (o.size : Int) ≤ 65536 * i →
    Ok (fun k => spec_l1Many.l0 k s n o i) (fun r => r.size ≤ o.size + s.size * d) := by
  induction d with
  | zero =>
    intro o i h0 hd ho
    have h : ¬ i < n := by omega
    refine Ok.succ ?_
    simp only [spec_l1Many.l0]
    exact Ok.no h (Ok.now _ (by omega))
  | succ d ih =>
    intro o i h0 hd ho
    refine Ok.succ ?_
    simp only [spec_l1Many.l0]
    refine Ok.ite (fun h => ?_) (fun h => Ok.now _ (by omega))
    have c : o.size + s.size ≤ 9223372036854775807 := by omega
    have e : wrap64 (i + 1) = i + 1 := w64 (by omega) (by omega)
    rw [e]
    refine Ok.yes c ((ih (o ++ s) (i + 1) (by omega) (by omega) (by rw [ByteArray.size_append]; omega)).mono fun r hr => ?_)
    rw [ByteArray.size_append] at hr
    rw [Nat.mul_succ]
    omega
theorem many_ok (s : ByteArray) (n : Int) (hs : s.size ≤ 65536) (hn : n ≤ 65536) : Ok (fun k => spec_l1Many.f k s n) (fun r => r.size ≤ s.size * n.toNat) := by
  unfold spec_l1Many.f
  refine (many_l s n hs hn n.toNat (⟨#[]⟩ : ByteArray) 0 (by omega) (by omega) (by rw [size_empty]; omega)).mono fun r hr => ?_
  have : (⟨#[]⟩ : ByteArray).size = 0 := rfl
  omega

/-- The inner loop of l14Text, by what follows it. -/
theorem text_l1 (b : List Int) (hb : ∀ x ∈ b, 0 ≤ x ∧ x ≤ 255) (P : ByteArray × Int → Prop) (n : Int) (m : Nat) : ∀ (s : ByteArray) (p : Int), 0 ≤ p → p + m ≤ 1099511627776 → s.size + m ≤ 65536 →
    (∀ (s' : ByteArray) (p' : Int), s'.size ≤ s.size + m → p ≤ p' → p' ≤ p + m → Ok (fun k => spec_l14Text.l0 k s' (wrap64 (n - 1)) b p') P) →
    Ok (fun k => spec_l14Text.l1 k s n (m : Int) b p) P := by
  induction m with
  | zero =>
    intro s p h0 hp hs K
    have h : ¬ ((0 : Nat) : Int) > 0 := by omega
    refine Ok.succ ?_
    simp only [spec_l14Text.l1]
    exact Ok.no h (K s p (by omega) (by omega) (by omega))
  | succ m ih =>
    intro s p h0 hp hs K
    have h : ((m + 1 : Nat) : Int) > 0 := by omega
    refine Ok.succ ?_
    simp only [spec_l14Text.l1]
    refine Ok.yes h ?_
    refine (pick_at b hb p 256 ⟨h0, by omega⟩ ⟨by omega, by omega⟩).bind fun a ha => ?_
    obtain ⟨v, q⟩ := a
    obtain ⟨_, rfl⟩ := ha
    refine Ok.binds rfl ?_
    have hz : (strOfNums [(v, p + 1).1 % 256]).size = 1 := by rw [strOfNums_size]; rfl
    have c : s.size + (strOfNums [(v, p + 1).1 % 256]).size ≤ 9223372036854775807 := by omega
    have e : wrap64 (((m + 1 : Nat) : Int) - 1) = (m : Int) := by rw [w64 (by omega) (by omega)]; omega
    refine Ok.yes c ?_
    rw [e]
    refine ih _ _ (by omega) (by omega) (by rw [ByteArray.size_append]; omega) fun s' p' h1 h2 h3 => ?_
    rw [ByteArray.size_append] at h1
    exact K s' p' (by omega) (by omega) (by omega)

theorem text_l0 (b : List Int) (hb : ∀ x ∈ b, 0 ≤ x ∧ x ≤ 255) (d : Nat) : ∀ (s : ByteArray) (p : Int), d ≤ 100 → 0 ≤ p → p + 20 * d ≤ 1099511627776 → s.size + 40 * d ≤ 65536 →
    Ok (fun k => spec_l14Text.l0 k s (d : Int) b p) (fun r => r.1.size ≤ s.size + 40 * d ∧ p ≤ r.2 ∧ r.2 ≤ p + 20 * d) := by
  induction d with
  | zero =>
    intro s p hd h0 hp hs
    have h : ¬ ((0 : Nat) : Int) > 0 := by omega
    refine Ok.succ ?_
    simp only [spec_l14Text.l0]
    exact Ok.no h (Ok.now _ ⟨by simp, by simp, by simp⟩)
  | succ d ih =>
    intro s p hd h0 hp hs
    have h : ((d + 1 : Nat) : Int) > 0 := by omega
    have e : wrap64 (((d + 1 : Nat) : Int) - 1) = (d : Int) := by rw [w64 (by omega) (by omega)]; omega
    have go : ∀ (t : ByteArray) (q : Int), t.size ≤ 40 → p ≤ q → q ≤ p + 20 → Ok (fun k => spec_l14Text.l0 k (s ++ t) (d : Int) b q) (fun r => r.1.size ≤ s.size + 40 * (d + 1) ∧ p ≤ r.2 ∧ r.2 ≤ p + 20 * ((d + 1 : Nat) : Int)) := by
      intro t q ht h1 h2
      refine (ih (s ++ t) q (by omega) (by omega) (by omega) (by rw [ByteArray.size_append]; omega)).mono fun r hr => ?_
      rw [ByteArray.size_append] at hr
      exact ⟨by omega, by omega, by omega⟩
    refine Ok.succ ?_
    simp only [spec_l14Text.l0]
    refine Ok.yes h ?_
    refine (pick_at b hb p 5 ⟨h0, by omega⟩ ⟨by omega, by omega⟩).bind fun a ha => ?_
    obtain ⟨v, q⟩ := a
    obtain ⟨hv, rfl⟩ := ha
    rw [e]
    refine Ok.ite (fun h1 => ?_) (fun h1 => Ok.ite (fun h2 => ?_) (fun h2 => Ok.ite (fun h3 => ?_) (fun h3 => ?_)))
    · refine (of_ok b hb (p + 1) _ ⟨by omega, by omega⟩ ⟨by decide, by decide⟩ 1 (by decide)).bind fun a ha => ?_
      obtain ⟨t, q⟩ := a
      obtain ⟨ht, rfl⟩ := ha
      refine (pick_at b hb (p + 1 + 1) 40 ⟨by omega, by omega⟩ ⟨by omega, by omega⟩).bind fun a ha => ?_
      obtain ⟨v2, q⟩ := a
      obtain ⟨hv2, rfl⟩ := ha
      refine (many_ok t v2 (by simp only at ht; omega) (by simp only at hv2; omega)).bind fun u hu => ?_
      simp only at ht hv2
      have hu' : u.size ≤ 40 := by
        have : t.size * v2.toNat ≤ 1 * v2.toNat := Nat.mul_le_mul_right _ ht
        omega
      exact Ok.yes (by omega) (go u _ hu' (by omega) (by omega))
    · exact Ok.yes (by omega) (go _ _ (by decide) (by omega) (by omega))
    · refine (pick_at b hb (p + 1) 12 ⟨by omega, by omega⟩ ⟨by omega, by omega⟩).bind fun a ha => ?_
      obtain ⟨v2, q⟩ := a
      obtain ⟨hv2, rfl⟩ := ha
      simp only at hv2
      obtain ⟨m, hm⟩ := Int.eq_ofNat_of_zero_le hv2.1
      subst hm
      refine text_l1 b hb _ ((d + 1 : Nat) : Int) m s (p + 1 + 1) (by omega) (by omega) (by omega) fun s' p' g1 g2 g3 => ?_
      rw [e]
      refine (ih s' p' (by omega) (by omega) (by omega) (by omega)).mono fun r hr => ⟨by omega, by omega, by omega⟩
    · refine (of_ok b hb (p + 1) _ ⟨by omega, by omega⟩ ⟨by decide, by decide⟩ 10 (by decide)).bind fun a ha => ?_
      obtain ⟨t, q⟩ := a
      obtain ⟨ht, rfl⟩ := ha
      simp only at ht
      exact Ok.yes (by simp only; omega) (go t _ (by omega) (by omega) (by omega))

theorem text_ok (b : List Int) (hb : ∀ x ∈ b, 0 ≤ x ∧ x ≤ 255) (p : Int) (hp : 0 ≤ p ∧ p ≤ 1000000000) :
    Ok (fun k => spec_l14Text.f k b p) (fun r => r.1.size ≤ 9001 ∧ p ≤ r.2 ∧ r.2 ≤ p + 200) := by
  unfold spec_l14Text.f
  refine (pick_at b hb p 150 ⟨by omega, by omega⟩ ⟨by omega, by omega⟩).bind fun a ha => ?_
  obtain ⟨v, q⟩ := a
  obtain ⟨hv, rfl⟩ := ha
  refine Ok.ite (fun h1 => ?_) (fun h1 => ?_)
  · refine (pick_at b hb (p + 1) 2 ⟨by omega, by omega⟩ ⟨by omega, by omega⟩).bind fun a ha => ?_
    obtain ⟨v2, q⟩ := a
    obtain ⟨hv2, rfl⟩ := ha
    simp only at hv2
    have e : wrap64 (9000 + v2) = 9000 + v2 := w64 (by omega) (by omega)
    simp only [e]
    refine (many_ok (⟨#[116]⟩ : ByteArray) (9000 + v2) (by decide) (by omega)).bind fun u hu => ?_
    have h1 : (⟨#[116]⟩ : ByteArray).size = 1 := rfl
    rw [h1] at hu
    exact Ok.now _ ⟨by simp only; omega, by simp only; omega, by simp only; omega⟩
  · refine (pick_at b hb (p + 1) 7 ⟨by omega, by omega⟩ ⟨by omega, by omega⟩).bind fun a ha => ?_
    obtain ⟨v2, q⟩ := a
    obtain ⟨hv2, rfl⟩ := ha
    simp only at hv2
    obtain ⟨m, hm⟩ := Int.eq_ofNat_of_zero_le hv2.1
    subst hm
    refine (text_l0 b hb m (⟨#[]⟩ : ByteArray) (p + 1 + 1) (by omega) (by omega) (by omega) (by rw [size_empty]; omega)).mono fun r hr => ?_
    have h1 : (⟨#[]⟩ : ByteArray).size = 0 := rfl
    exact ⟨by omega, by omega, by omega⟩

theorem bendAt_size (s : ByteArray) (v x : Int) : (bendAt s v x).size = s.size := by
  unfold bendAt
  rw [strOfNums_size, List.length_set, bytesOf_length]
theorem bend_ok (b : List Int) (hb : ∀ x ∈ b, 0 ≤ x ∧ x ≤ 255) (p : Int) (hp : 0 ≤ p ∧ p ≤ 1000000000) (s : ByteArray) (hs : s.size ≤ 10000000) : Ok (fun k => spec_l14Bend.f k b p s) (fun r => r.1.size = s.size ∧ p ≤ r.2 ∧ r.2 ≤ p + 2) := by
  unfold spec_l14Bend.f
  refine Ok.ite (fun h => Ok.now _ ⟨rfl, by simp only; omega, by simp only; omega⟩) (fun h => ?_)
  have h1 : 1 ≤ (s.size : Int) := by
    by_cases hz : s.size = 0
    · exact absurd ((Go.Proofs.YtdhpekdfpoeboaaDoor.Lib.text_nil s).2 hz) h
    · omega
  refine (pick_at b hb p (s.size : Int) ⟨hp.1, by omega⟩ ⟨h1, by omega⟩).bind fun x hx => ?_
  obtain ⟨v, q⟩ := x
  obtain ⟨hv, rfl⟩ := hx
  refine Ok.yes hv.1 (Ok.yes hv.2 ?_)
  refine (pick_at b hb (p + 1) 255 ⟨by omega, by omega⟩ ⟨by omega, by omega⟩).bind fun x hx => Ok.now _ ⟨bendAt_size _ _ _, ?_, ?_⟩
  · have := hx.2; simp only at this ⊢; omega
  · have := hx.2; simp only at this ⊢; omega

end Go.Proofs.YtdhpekdfpoeboaaDoor.Pure
/- laws.FnChunksByte: at all code, a drawn piece that was written, and of which one bit behind its length is another one, is none. -/
set_option linter.unusedVariables false
set_option linter.unusedSimpArgs false
namespace Go.Proofs.YtdhpekdfpoeboaaDoor.Pure
open Go.RowKit Go.Proofs.YtdhpekdfpoeboaaDoor.P Go.Proofs.YtdhpekdfpoeboaaDoor.Lib Go.Proofs.YtdhpekdfpoeboaaDoorW.PrintWords Go.Proofs.YtdhpekdfpoeboaaDoorW.PrintLast Go.Proofs.YtdhpekdfpoeboaaDoorW.PrintMore
/-! ### pieces that are drawn -/
def smallC (l : List S41) : Prop := ∀ c ∈ l, c.f0.size ≤ 10 ∧ c.f1.size ≤ 9001
theorem chunks_l (b : List Int) (hb : ∀ x ∈ b, 0 ≤ x ∧ x ≤ 255) (d : Nat) : ∀ (xs : List S41) (p : Int), xs.length + d ≤ 100 → 0 ≤ p → p + 300 * d ≤ 1000000 → smallC xs →
    Ok (fun k => spec_l14Chunks.l0 k xs (d : Int) b p) (fun r => smallC r.1 ∧ r.1.length ≤ 100 ∧ p ≤ r.2 ∧ r.2 ≤ p + 300 * d) := by
  induction d with
  | zero =>
    intro xs p hx h0 hp hs
    refine Ok.succ ?_
    simp only [spec_l14Chunks.l0]
    exact Ok.no (by omega) (Ok.now _ ⟨hs, by simp only; omega, by simp only; omega, by simp only; omega⟩)
  | succ d ih =>
    intro xs p hx h0 hp hs
    have e : wrap64 (((d + 1 : Nat) : Int) - 1) = (d : Int) := by rw [w64 (by omega) (by omega)]; omega
    refine Ok.succ ?_
    simp only [spec_l14Chunks.l0]
    rw [e]
    clear e
    refine Ok.yes (by omega) ?_
    refine (of_ok b hb p _ ⟨by omega, by omega⟩ ⟨by decide, by decide⟩ 4 (by decide)).bind fun a ha => ?_
    obtain ⟨t, q⟩ := a
    obtain ⟨ht, rfl⟩ := ha
    refine (text_ok b hb (p + 1) ⟨by omega, by omega⟩).bind fun a ha => ?_
    obtain ⟨u, q⟩ := a
    simp only at ha ht ⊢
    refine Ok.yes (by omega) ?_
    refine (ih (xs ++ [⟨t, u⟩]) q (by rw [List.length_append]; simp only [List.length_cons, List.length_nil]; omega) (by omega) (by omega) ?_).mono ?_
    rotate_left
    · intro r hr
      exact ⟨hr.1, hr.2.1, by omega, by omega⟩
    intro c hc
    rcases List.mem_append.1 hc with hc | hc
    · exact hs c hc
    · obtain rfl := List.mem_singleton.1 hc
      exact ⟨by simp only; omega, ha.1⟩
theorem chunks_ok (b : List Int) (hb : ∀ x ∈ b, 0 ≤ x ∧ x ≤ 255) (p : Int) (hp : 0 ≤ p ∧ p ≤ 1000) :
    Ok (fun k => spec_l14Chunks.f k b p) (fun r => smallC r.1 ∧ r.1.length ≤ 100 ∧ p ≤ r.2 ∧ r.2 ≤ p + 2000) := by
  unfold spec_l14Chunks.f
  refine (pick_at b hb p 5 ⟨by omega, by omega⟩ ⟨by omega, by omega⟩).bind fun a ha => ?_
  obtain ⟨v, q⟩ := a
  obtain ⟨hv, rfl⟩ := ha
  simp only at hv ⊢
  obtain ⟨m, rfl⟩ := Int.eq_ofNat_of_zero_le hv.1
  exact (chunks_l b hb m [] (p + 1) (by simp only [List.length_nil]; omega) (by omega) (by omega) (fun c hc => by cases hc)).mono fun r hr => ⟨hr.1, hr.2.1, by omega, by omega⟩
theorem drawChunksPut_ok (l : List Int) (hl : ∀ x ∈ l, 0 ≤ x ∧ x ≤ 255) : Ok (fun k => spec_DrawChunksPut.f k l) (fun r => smallC r ∧ r.length ≤ 100) := by
  unfold spec_DrawChunksPut.f
  refine (open_ok l).bind fun a ha => ?_
  obtain ⟨b, p⟩ := a
  obtain ⟨e1, e2⟩ := ha
  simp only at e1 e2
  subst e2
  have hb : ∀ x ∈ b, 0 ≤ x ∧ x ≤ 255 := by subst e1; exact byte_take hl 2000
  clear e1
  refine (chunks_ok b hb 0 ⟨by omega, by omega⟩).bind fun a ha => ?_
  obtain ⟨xs, q⟩ := a
  obtain ⟨h1, h2, h3, h4⟩ := ha
  simp only at h1 h2 h3 h4 ⊢
  refine Ok.ite (fun h => ?_) (fun h => Ok.now _ ⟨h1, h2⟩)
  refine (pick_at b hb q 10 ⟨by omega, by omega⟩ ⟨by omega, by omega⟩).bind fun a ha => ?_
  obtain ⟨v, q⟩ := a
  obtain ⟨hv, rfl⟩ := ha
  refine Ok.ite (fun h => ?_) (fun h => Ok.now _ ⟨h1, h2⟩)
  refine (of_ok b hb _ _ ⟨by omega, by omega⟩ ⟨by decide, by decide⟩ 5 (by decide)).bind fun a ha => ?_
  obtain ⟨t, q⟩ := a
  obtain ⟨ht, rfl⟩ := ha
  simp only at ht ⊢
  refine Ok.yes (by omega) (Ok.now _ ⟨fun c hc => ?_, by rw [List.length_set]; exact h2⟩)
  rcases List.mem_or_eq_of_mem_set hc with hc | rfl
  · exact h1 c hc
  · exact ⟨by simp only; omega, (h1 _ (rd_in (i := 0) (by omega))).2⟩
theorem putV_size (l : List S41) : (putV l).size ≤ 9000 := by
  unfold putV
  split
  · rename_i h
    obtain ⟨h1, _⟩ := ok_join l 8 h (by omega)
    rw [piecesT_join, ByteArray.size_append, sign8_size]
    exact h1
  · rw [size_empty]; omega
theorem drawChunksGet_ok (l : List Int) (hl : ∀ x ∈ l, 0 ≤ x ∧ x ≤ 255) : Ok (fun k => spec_DrawChunksGet.f k l) (fun r => r.size ≤ 9000) := by
  unfold spec_DrawChunksGet.f
  refine (open_ok l).bind fun a ha => ?_
  obtain ⟨b, p⟩ := a
  obtain ⟨e1, e2⟩ := ha
  simp only at e1 e2
  subst e2
  have hb : ∀ x ∈ b, 0 ≤ x ∧ x ≤ 255 := by subst e1; exact byte_take hl 2000
  clear e1
  refine (chunks_ok b hb 0 ⟨by omega, by omega⟩).bind fun a ha => ?_
  obtain ⟨xs, q⟩ := a
  obtain ⟨h1, h2, h3, h4⟩ := ha
  simp only at h1 h2 h3 h4 ⊢
  refine (sput_ok xs (by omega) (fun c hc => ⟨by have := h1 c hc; omega, by have := h1 c hc; omega⟩)).bind fun s hs => ?_
  have hz : s.size ≤ 9000 := by rw [hs]; exact putV_size xs
  refine (pick_at b hb q 5 ⟨by omega, by omega⟩ ⟨by omega, by omega⟩).bind fun a ha => ?_
  obtain ⟨v, q⟩ := a
  obtain ⟨hv, rfl⟩ := ha
  simp only
  refine Ok.ite (fun h => ?_) (fun h => Ok.ite (fun h => ?_) (fun h => Ok.now _ hz))
  · exact (bend_ok b hb _ ⟨by omega, by omega⟩ s (by omega)).bind fun x hx => Ok.now _ (by rw [hx.1]; exact hz)
  · have e3 : wrap64 ((s.size : Int) + 1) = (s.size : Int) + 1 := w64 (by omega) (by omega)
    rw [e3]
    clear e3
    refine (pick_at b hb _ ((s.size : Int) + 1) ⟨by omega, by omega⟩ ⟨by omega, by omega⟩).bind fun x hx => ?_
    obtain ⟨v2, q2⟩ := x
    obtain ⟨hv2, rfl⟩ := hx
    simp only at hv2 ⊢
    exact Ok.yes hv2.1 (Ok.yes (by omega) (Ok.now _ (by rw [ByteArray.size_extract]; omega)))
/-- Are two lists of pieces the same? -/
theorem wich_l (l m : List S41) (h : l.length = m.length) (hl : l.length ≤ 100000) (d : Nat) : ∀ i : Nat, i + d = l.length → Ok (fun k => laws_wiChunks.l0 k l m (i : Int)) (fun r => r = true ↔ l.drop i = m.drop i) := by
  induction d with
  | zero =>
    intro i hi
    refine Ok.succ ?_
    simp only [laws_wiChunks.l0]
    refine Ok.no (by omega) (Ok.now _ ?_)
    rw [List.drop_eq_nil_of_le (by omega), List.drop_eq_nil_of_le (by omega)]
    simp
  | succ d ih =>
    intro i hi
    have e1 : wrap64 ((i : Int) + 1) = ((i + 1 : Nat) : Int) := pinc i (by omega)
    rw [rd_at (l := l) (i := i) (by omega), rd_at (l := m) (i := i) (by omega)]
    refine Ok.succ ?_
    simp only [laws_wiChunks.l0]
    rw [e1]
    clear e1
    refine Ok.yes (by omega) (Ok.yes (by omega) (Ok.yes (by omega) ?_))
    generalize rd_T41 l (i : Int) = a
    generalize rd_T41 m (i : Int) = c
    obtain ⟨a0, a1⟩ := a
    obtain ⟨c0, c1⟩ := c
    simp only [List.cons.injEq]
    refine Ok.ite (fun hc => Ok.now _ ?_) (fun hc => (ih (i + 1) (by omega)).mono fun r hr => ?_)
    · refine ⟨fun h => absurd h (by simp), fun h => ?_⟩
      obtain ⟨h, _⟩ := h
      injection h with h3 h4
      subst h3 h4
      simp at hc
    · rw [hr]
      have hc2 : a0 = c0 ∧ a1 = c1 := by
        simp only [Bool.or_eq_true, Bool.not_eq_true', beq_eq_false_iff_ne, ne_eq, not_or, Decidable.not_not, toList_iff] at hc
        exact hc
      rw [hc2.1, hc2.2]
      simp
theorem wich_ok (l m : List S41) (hl : l.length ≤ 100000) : Ok (fun k => laws_wiChunks.f k l m) (fun r => r = true ↔ l = m) := by
  unfold laws_wiChunks.f
  refine Ok.ite (fun h => ?_) (fun h => Ok.now _ ?_)
  · have := wich_l l m (by omega) hl l.length 0 (by omega)
    rw [List.drop_zero, List.drop_zero] at this
    exact this
  · refine ⟨fun h => absurd h (by simp), fun e => ?_⟩
    subst e
    exact absurd rfl h

/-! ### a sum tells one byte from another -/
theorem xor_eq_of {a b c : Nat} (h : a ^^^ c = b ^^^ c) : a = b := by
  have h2 := congrArg (· ^^^ c) h
  simpa only [Nat.xor_assoc, Nat.xor_self, Nat.xor_zero] using h2
theorem ixor_inj {a b c : Int} (ha : 0 ≤ a ∧ a ≤ 4294967295) (hb : 0 ≤ b ∧ b ≤ 4294967295) (hc : 0 ≤ c ∧ c ≤ 4294967295) (h : Go.bits .xor .i64 a c = Go.bits .xor .i64 b c) : a = b := by
  obtain ⟨x, rfl⟩ := Int.eq_ofNat_of_zero_le ha.1
  obtain ⟨y, rfl⟩ := Int.eq_ofNat_of_zero_le hb.1
  obtain ⟨z, rfl⟩ := Int.eq_ofNat_of_zero_le hc.1
  rw [i64_xor_nat x z (by omega) (by omega), i64_xor_nat y z (by omega) (by omega)] at h
  rw [xor_eq_of (Int.ofNat.inj h)]
theorem ixor_inj2 {a b c : Int} (ha : 0 ≤ a ∧ a ≤ 4294967295) (hb : 0 ≤ b ∧ b ≤ 4294967295) (hc : 0 ≤ c ∧ c ≤ 4294967295) (h : Go.bits .xor .i64 c a = Go.bits .xor .i64 c b) : a = b := by
  obtain ⟨x, rfl⟩ := Int.eq_ofNat_of_zero_le ha.1
  obtain ⟨y, rfl⟩ := Int.eq_ofNat_of_zero_le hb.1
  obtain ⟨z, rfl⟩ := Int.eq_ofNat_of_zero_le hc.1
  rw [i64_xor_nat z x (by omega) (by omega), i64_xor_nat z y (by omega) (by omega), Nat.xor_comm z x, Nat.xor_comm z y] at h
  rw [xor_eq_of (Int.ofNat.inj h)]
theorem poly_high (x : Nat) (h : x < 2147483648) : 2147483648 ≤ x ^^^ 3988292384 := by
  have h1 : (x ^^^ 3988292384).testBit 31 = true := by
    rw [Nat.testBit_xor, Nat.testBit_lt_two_pow (x := x) (i := 31) (by omega)]
    decide +kernel
  exact Nat.ge_two_pow_of_testBit h1
theorem crc1_inj {a b : Int} (ha : 0 ≤ a ∧ a ≤ 4294967295) (hb : 0 ≤ b ∧ b ≤ 4294967295) (h : crc1 a = crc1 b) : a = b := by
  obtain ⟨x, rfl⟩ := Int.eq_ofNat_of_zero_le ha.1
  obtain ⟨y, rfl⟩ := Int.eq_ofNat_of_zero_le hb.1
  unfold crc1 at h
  rw [land1', land1'] at h
  have e1 : (x : Int) / 2 = ((x / 2 : Nat) : Int) := rfl
  have e2 : (y : Int) / 2 = ((y / 2 : Nat) : Int) := rfl
  have ex : Go.bits .xor .i64 ((x / 2 : Nat) : Int) 3988292384 = ((x / 2 ^^^ 3988292384 : Nat) : Int) := i64_xor_nat (x / 2) 3988292384 (by omega) (by omega)
  have ey : Go.bits .xor .i64 ((y / 2 : Nat) : Int) 3988292384 = ((y / 2 ^^^ 3988292384 : Nat) : Int) := i64_xor_nat (y / 2) 3988292384 (by omega) (by omega)
  rw [e1, e2, ex, ey] at h
  have px := poly_high (x / 2) (by omega)
  have py := poly_high (y / 2) (by omega)
  have key : x / 2 ^^^ 3988292384 = y / 2 ^^^ 3988292384 → x / 2 = y / 2 := xor_eq_of
  generalize x / 2 ^^^ 3988292384 = u at h px key
  generalize y / 2 ^^^ 3988292384 = v at h py key
  clear e1 e2 ex ey
  by_cases h1 : (x : Int) % 2 = 1
  · rw [if_pos h1] at h
    by_cases h2 : (y : Int) % 2 = 1
    · rw [if_pos h2] at h
      have := key (by omega)
      omega
    · rw [if_neg h2] at h
      omega
  · rw [if_neg h1] at h
    by_cases h2 : (y : Int) % 2 = 1
    · rw [if_pos h2] at h
      omega
    · rw [if_neg h2] at h
      omega
theorem crcn_inj (d : Nat) : ∀ {a b : Int}, (0 ≤ a ∧ a ≤ 4294967295) → (0 ≤ b ∧ b ≤ 4294967295) → crcn d a = crcn d b → a = b := by
  induction d with
  | zero => intro a b _ _ h; exact h
  | succ d ih => intro a b ha hb h; exact crc1_inj ha hb (ih (crc1_range ha) (crc1_range hb) h)
theorem crcl_inj (l : List Int) : ∀ {a b : Int}, (∀ x ∈ l, 0 ≤ x ∧ x ≤ 255) → (0 ≤ a ∧ a ≤ 4294967295) → (0 ≤ b ∧ b ≤ 4294967295) → crcl l a = crcl l b → a = b := by
  induction l with
  | nil => intro a b _ _ _ h; exact h
  | cons c l ih =>
    intro a b hl ha hb h
    have hc := hl c List.mem_cons_self
    have hc' : 0 ≤ c ∧ c ≤ 4294967295 := by omega
    have h2 := ih (fun x hx => hl x (List.mem_cons_of_mem _ hx)) (crcn_range 8 (xor_range ha hc')) (crcn_range 8 (xor_range hb hc')) h
    exact ixor_inj ha hb hc' (crcn_inj 8 (xor_range ha hc') (xor_range hb hc') h2)
theorem crcl_set (l : List Int) : ∀ (i : Nat) (y : Int) {a : Int}, (∀ x ∈ l, 0 ≤ x ∧ x ≤ 255) → (0 ≤ y ∧ y ≤ 255) → (0 ≤ a ∧ a ≤ 4294967295) → i < l.length → crcl (l.set i y) a = crcl l a → l[i]? = some y := by
  induction l with
  | nil => intro i y a _ _ _ h _; simp at h
  | cons c l ih =>
    intro i y a hl hy ha hi h
    have hc := hl c List.mem_cons_self
    have hc' : 0 ≤ c ∧ c ≤ 4294967295 := by omega
    have hy' : 0 ≤ y ∧ y ≤ 4294967295 := by omega
    have hr := fun x hx => hl x (List.mem_cons_of_mem c hx)
    cases i with
    | zero =>
      simp only [List.set_cons_zero, crcl] at h
      have h2 := crcl_inj l hr (crcn_range 8 (xor_range ha hy')) (crcn_range 8 (xor_range ha hc')) h
      have h3 := ixor_inj2 hy' hc' ha (crcn_inj 8 (xor_range ha hy') (xor_range ha hc') h2)
      simp [h3]
    | succ i =>
      simp only [List.set_cons_succ, crcl] at h
      have := ih i y hr hy (crcn_range 8 (xor_range ha hc')) (by simpa using hi) h
      simpa using this
theorem bytes_app (a b : ByteArray) : bytesOf (a ++ b) = bytesOf a ++ bytesOf b := by
  unfold bytesOf
  rw [ByteArray.data_append]
  simp
theorem nums_bytes (l : List Int) (h : ∀ x ∈ l, 0 ≤ x ∧ x ≤ 255) : bytesOf (strOfNums l) = l := by
  unfold bytesOf strOfNums
  simp only [List.map_map]
  conv => rhs; rw [← List.map_id l]
  apply List.map_congr_left
  intro x hx
  have := h x hx
  simp only [Function.comp, UInt8.toNat_ofNat', id]
  omega
theorem bytes_inj {a b : ByteArray} (h : bytesOf a = bytesOf b) : a = b := by
  have e : ∀ s : ByteArray, strOfNums (bytesOf s) = s := by
    intro s
    apply ByteArray.ext
    unfold strOfNums bytesOf
    simp only [List.map_map]
    have : (List.map ((fun (n : Int) => UInt8.ofNat n.toNat) ∘ fun (b : UInt8) => (b.toNat : Int)) s.data.toList) = s.data.toList := by
      conv => rhs; rw [← List.map_id s.data.toList]
      apply List.map_congr_left
      intro x _
      simp
    rw [this]
  rw [← e a, h, e b]
theorem crcv_set {a b : ByteArray} {i : Nat} {y : Int} (ha : a.size ≤ 9000) (hi : i < a.size) (hy : 0 ≤ y ∧ y ≤ 255) (hb : bytesOf b = (bytesOf a).set i y) (h : crcv b = crcv a) : (bytesOf a)[i]? = some y := by
  have hz : b.size = a.size := by rw [← bytesOf_length, hb, List.length_set, bytesOf_length]
  unfold crcv at h
  rw [if_pos ha, if_pos (by omega), hb] at h
  have hs : ∀ x ∈ (bytesOf a).set i y, 0 ≤ x ∧ x ≤ 255 := fun x hx => by
    rcases List.mem_or_eq_of_mem_set hx with hx | rfl
    · exact bytes_range a x hx
    · exact hy
  have h0 : 0 ≤ Go.bits .xor .i64 0 4294967295 ∧ Go.bits .xor .i64 0 4294967295 ≤ 4294967295 := xor_range (by omega) (by omega)
  have h2 := ixor_inj (crcl_range _ hs h0) (crcl_range _ (bytes_range a) h0) (by omega) h
  exact crcl_set _ i y (bytes_range a) hy h0 (by rw [bytesOf_length]; exact hi) h2
theorem u8_xor_nat (a b : Nat) (ha : a < 256) (hb : b < 256) : Go.bits .xor .u8 (a : Int) (b : Int) = ((a ^^^ b : Nat) : Int) := by
  have hx : a ^^^ b < 2 ^ 8 := Nat.xor_lt_two_pow (by omega) (by omega)
  have hn : ∀ c : Nat, c < 256 → (BitVec.ofInt 8 (c : Int)).toNat = c := fun c hc => by
    rw [BitVec.ofInt_natCast, BitVec.toNat_ofNat]; exact Nat.mod_eq_of_lt (by omega)
  show IntKind.u8.wrap ((BitVec.ofInt 8 (a : Int) ^^^ BitVec.ofInt 8 (b : Int)).toNat : Int) = _
  rw [BitVec.toNat_xor, hn a ha, hn b hb, IntKind.wrap_u8]
  omega
theorem flip_byte {x p : Int} (hx : 0 ≤ x ∧ x ≤ 255) (hp : 1 ≤ p ∧ p ≤ 255) : (0 ≤ Go.bits .xor .u8 x (p % 256) ∧ Go.bits .xor .u8 x (p % 256) ≤ 255) ∧ Go.bits .xor .u8 x (p % 256) ≠ x := by
  obtain ⟨a, rfl⟩ := Int.eq_ofNat_of_zero_le hx.1
  obtain ⟨b, rfl⟩ := Int.eq_ofNat_of_zero_le (show 0 ≤ p by omega)
  rw [show (b : Int) % 256 = (b : Int) by omega, u8_xor_nat a b (by omega) (by omega)]
  have h : a ^^^ b < 2 ^ 8 := Nat.xor_lt_two_pow (by omega) (by omega)
  refine ⟨⟨by omega, by omega⟩, fun e => ?_⟩
  have e2 : a ^^^ b = a := Int.ofNat.inj e
  have e3 : b ^^^ a = 0 ^^^ a := by rw [Nat.xor_comm b a, e2, Nat.zero_xor]
  have := xor_eq_of e3
  omega

theorem wipow_l (n d : Nat) : ∀ j : Nat, j + d = n → n ≤ 7 → Ok (fun k => laws_wiPow.l0 k (n : Int) (2 ^ j) (j : Int)) (· = 2 ^ n) := by
  induction d with
  | zero =>
    intro j hj hn
    obtain rfl : j = n := by omega
    refine Ok.succ ?_
    simp only [laws_wiPow.l0]
    exact Ok.no (by omega) (Ok.now _ rfl)
  | succ d ih =>
    intro j hj hn
    have h := ih (j + 1) (by omega) hn
    have hp : (2 : Int) ^ j ≤ 128 ∧ 0 ≤ (2 : Int) ^ j := by
      have : j ≤ 7 := by omega
      match j, this with
      | 0, _ => decide
      | 1, _ => decide
      | 2, _ => decide
      | 3, _ => decide
      | 4, _ => decide
      | 5, _ => decide
      | 6, _ => decide
      | 7, _ => decide
    refine Ok.succ ?_
    simp only [laws_wiPow.l0]
    rw [pinc j (by omega), w64 (x := 2 ^ j * 2) (by omega) (by omega), ← Int.pow_succ]
    exact Ok.yes (by omega) (Ok.yes (by omega) h)
theorem wipow_ok (n : Nat) (hn : n ≤ 7) : Ok (fun k => laws_wiPow.f k (n : Int)) (fun p => 1 ≤ p ∧ p ≤ 255) := by
  unfold laws_wiPow.f
  refine (wipow_l n n 0 (by omega) hn).mono fun p hp => ?_
  subst hp
  match n, hn with
  | 0, _ => decide
  | 1, _ => decide
  | 2, _ => decide
  | 3, _ => decide
  | 4, _ => decide
  | 5, _ => decide
  | 6, _ => decide
  | 7, _ => decide
theorem app_set (a b : List Int) (i : Nat) (y : Int) : (a ++ b).set i y = if i < a.length then a.set i y ++ b else a ++ b.set (i - a.length) y := List.set_append ..
/-- The heart: a text of one piece with one other byte behind the length is no text of pieces. -/
theorem no_get (c : S41) (h : piecesOk [c] 8 = true) (j : Nat) (y : Int) (t : ByteArray) (hj : 12 ≤ j) (hjs : j < (putV [c]).size) (hy : 0 ≤ y ∧ y ≤ 255) (hne : (bytesOf (putV [c]))[j]? ≠ some y) (ht : bytesOf t = (bytesOf (putV [c])).set j y) : (getV t).2 = false := by
  cases hg : (getV t).2 with
  | false => rfl
  | true =>
    exfalso
    have hgt : getV t = ((getV t).1, true) := by rw [← hg]
    obtain ⟨l, hl⟩ : ∃ l, (getV t).1 = l := ⟨_, rfl⟩
    rw [hl] at hgt
    have hput := put_get t l hgt
    have hs : putV [c] = sign8 ++ pieceT c := by
      unfold putV
      rw [if_pos h, piecesT_join]
      simp [joinT]
    obtain ⟨hsz, hnm⟩ := ok_join [c] 8 h (by omega)
    have hcn := nameV_size (hnm c List.mem_cons_self)
    have hzp := pieceT_size c
    have hjz : (joinT [c]).size = (pieceT c).size := by simp [joinT]
    have htz : t.size = (putV [c]).size := by rw [← bytesOf_length, ht, List.length_set, bytesOf_length]
    have hz8 : (putV [c]).size = 20 + c.f1.size := by rw [hs, ByteArray.size_append, sign8_size]; omega
    have hol : piecesOk l 8 = true := by
      cases hq : piecesOk l 8 with
      | true => rfl
      | false =>
        unfold putV at hput
        rw [if_neg (by rw [hq]; simp)] at hput
        rw [← hput, size_empty] at htz
        omega
    obtain ⟨_, hnl⟩ := ok_join l 8 hol (by omega)
    have hts : t = sign8 ++ joinT l := by
      rw [← hput]
      unfold putV
      rw [if_pos hol, piecesT_join]
    cases l with
    | nil =>
      have : t.size = 8 := by rw [hts, ByteArray.size_append, sign8_size]; rfl
      omega
    | cons x l =>
      have hxn := nameV_size (hnl x List.mem_cons_self)
      have hzx := pieceT_size x
      have e1 : bytesOf (putV [c]) = bytesOf sign8 ++ (bytesOf (num4 (c.f1.size : Int)) ++ (bytesOf (c.f0 ++ c.f1) ++ bytesOf (num4 (crcv (c.f0 ++ c.f1))))) := by
        rw [hs]
        unfold pieceT
        simp only [bytes_app, List.append_assoc]
      have e2 : bytesOf t = bytesOf sign8 ++ (bytesOf (num4 (x.f1.size : Int)) ++ (bytesOf (x.f0 ++ x.f1) ++ (bytesOf (num4 (crcv (x.f0 ++ x.f1))) ++ bytesOf (joinT l)))) := by
        rw [hts]
        simp only [joinT]
        unfold pieceT
        simp only [bytes_app, List.append_assoc]
      have z8 : (bytesOf sign8).length = 8 := by rw [bytesOf_length]; rfl
      have z4 : ∀ n : Int, (bytesOf (num4 n)).length = 4 := fun n => by rw [bytesOf_length, num4_size]
      have zd : (bytesOf (c.f0 ++ c.f1)).length = 4 + c.f1.size := by rw [bytesOf_length, ByteArray.size_append, hcn]
      have zx : (bytesOf (x.f0 ++ x.f1)).length = 4 + x.f1.size := by rw [bytesOf_length, ByteArray.size_append, hxn]
      have htx : t.size = 20 + x.f1.size + (joinT l).size := by
        rw [hts, ByteArray.size_append, sign8_size]
        simp only [joinT]
        rw [ByteArray.size_append]
        omega
      rw [e2, e1, app_set, if_neg (by omega), z8, List.append_cancel_left_eq, app_set, if_neg (by rw [z4]; omega), z4] at ht
      obtain ⟨h1, h2⟩ := List.append_inj ht (by rw [z4, z4])
      have hm : x.f1.size = c.f1.size := by
        have := num4_inj (a := (x.f1.size : Int)) (b := (c.f1.size : Int)) (by omega) (by omega) (bytes_inj h1)
        omega
      have hje : joinT l = ByteArray.empty := ByteArray.size_eq_zero_iff.1 (by omega)
      rw [hje, show bytesOf ByteArray.empty = [] from rfl, List.append_nil, app_set] at h2
      have hne2 : (bytesOf (c.f0 ++ c.f1) ++ bytesOf (num4 (crcv (c.f0 ++ c.f1))))[j - 8 - 4]? ≠ some y := by
        rw [e1, List.getElem?_append_right (by omega), z8, List.getElem?_append_right (by rw [z4]; omega), z4] at hne
        exact hne
      by_cases hd : j - 8 - 4 < (bytesOf (c.f0 ++ c.f1)).length
      · rw [if_pos hd] at h2
        obtain ⟨h3, h4⟩ := List.append_inj h2 (by rw [List.length_set, zx, zd, hm])
        have hcr := num4_inj (crcv_range _) (crcv_range _) (bytes_inj h4)
        rw [List.getElem?_append_left hd] at hne2
        exact hne2 (crcv_set (by rw [ByteArray.size_append]; omega) (by rw [← bytesOf_length]; exact hd) hy h3 hcr)
      · rw [if_neg hd] at h2
        obtain ⟨h3, h4⟩ := List.append_inj h2 (by rw [zx, zd, hm])
        rw [bytes_inj h3] at h4
        rw [List.getElem?_append_right (by omega)] at hne2
        have hlt : j - 8 - 4 - (bytesOf (c.f0 ++ c.f1)).length < (bytesOf (num4 (crcv (c.f0 ++ c.f1)))).length := by rw [z4, zd]; omega
        rw [h4, List.getElem?_set_self hlt] at hne2
        exact hne2 rfl
theorem FnChunksByte : laws_FnChunksByte.Pure := by
  intro l0 l1 h1 h2 hw h3 h4 hw1
  have hl := byte_wf hw
  unfold laws_FnChunksByte.f
  apply Ok.rounds
  refine Ok.ite (fun h => Ok.now _ rfl) (fun h => ?_)
  refine (drawChunksPut_ok l0 hl).bind fun l hd => ?_
  obtain ⟨hs, hn⟩ := hd
  have hbd : ∀ c ∈ l, c.f0.size ≤ 1048576 ∧ c.f1.size ≤ 1048576 := fun c hc => ⟨by have := hs c hc; omega, by have := hs c hc; omega⟩
  refine (iput_ok l (by omega) hbd).bind fun x hx => ?_
  subst hx
  refine (sput_ok l (by omega) hbd).bind fun x hx => ?_
  subst hx
  have hz := putV_size l
  refine Ok.no (by omega) (Ok.ite (fun hone => ?_) (fun hone => Ok.now _ (by simp)))
  unfold byteOne at hone
  simp only [Bool.and_eq_true, decide_eq_true_eq] at hone
  obtain ⟨_, h13, hone⟩ := hone
  obtain ⟨c, rfl⟩ : ∃ c, l = [c] := List.length_eq_one_iff.1 hone
  have hok : piecesOk [c] 8 = true := by
    cases hq : piecesOk [c] 8 with
    | true => rfl
    | false =>
      unfold putV at h13
      rw [if_neg (by rw [hq]; simp), size_empty] at h13
      omega
  refine (wipow_ok (l0.length % 8) (by omega)).bind fun p hp => ?_
  obtain ⟨j, hj⟩ : ∃ j, j = 12 + l1.length % ((putV [c]).size - 12) := ⟨_, rfl⟩
  have hjs : j < (putV [c]).size := by rw [hj]; have := Nat.mod_lt l1.length (show (putV [c]).size - 12 > 0 by omega); omega
  rw [← hj]
  refine (iget_ok _).bind fun q hq => Ok.now _ ?_
  subst hq
  have hf := flip_byte (bt_range (putV [c]) (j : Int)) hp
  have hbj : (bytesOf (putV [c]))[j]? = some (bt (putV [c]) (j : Int)) := by
    rw [← rd_bytesOf]
    unfold rd
    rw [Int.toNat_natCast, List.getD_eq_getElem?_getD, List.getElem?_eq_getElem (by rw [bytesOf_length]; exact hjs), Option.getD_some]
  rw [no_get c hok j (Go.bits .xor .u8 (bt (putV [c]) (j : Int)) (p % 256)) _ (by omega) hjs hf.1 (fun e => by rw [hbj] at e; exact hf.2 (Option.some.inj e).symm) ?_]
  · rfl
  · unfold byteAt
    exact nums_bytes _ fun x hx => by
      rcases List.mem_or_eq_of_mem_set hx with hx | rfl
      · exact bytes_range _ x hx
      · exact hf.1
end Go.Proofs.YtdhpekdfpoeboaaDoor.Pure
