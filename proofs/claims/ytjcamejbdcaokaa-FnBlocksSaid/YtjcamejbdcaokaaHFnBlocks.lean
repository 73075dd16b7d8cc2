/- laws.FnBlocks: a drawn text is cut into blocks as the reference does, and comes out of them wherever they stand; of a drawn text and place both read the same. No condition. -/
import Derived.Test.YtjcamejbdcaokaaWWords
import Derived.Test.YtjcamejbdcaokaaWMore
import Derived.Test.YtjcamejbdcaokaaF4
import Derived.OpenShut
/- Small words for functions with a number of rounds: 'Ok g P': with enough rounds g answers some r of which P holds. -/
namespace Go.Proofs.Ytjcamejbdcaokaa.Lib
open Go.RowKit Go.Proofs.YtjcamejbdcaokaaW.PrintWords Go.Proofs.YtjcamejbdcaokaaW.PrintLast Go.Proofs.YtjcamejbdcaokaaW.PrintMore

def Ok {α : Type} (g : Nat → Option α) (P : α → Prop) : Prop := ∃ r, Ev g r ∧ P r
theorem Ok.bind {α β : Type} {g : Nat → Option α} {f : Nat → α → Option β} {P : α → Prop} {Q : β → Prop} (h : Ok g P) (k : ∀ a, P a → Ok (fun n => f n a) Q) : Ok (fun n => (g n).bind (f n)) Q := by
  obtain ⟨a, ha, pa⟩ := h
  obtain ⟨b, hb, qb⟩ := k a pa
  exact ⟨b, Ev.bind ha hb, qb⟩
theorem Ok.now {α : Type} {P : α → Prop} (r : α) (h : P r) : Ok (fun _ => some r) P := ⟨r, Ev.now r, h⟩
theorem Ok.step {α : Type} {g f : Nat → Option α} {P : α → Prop} (h : ∀ k, g (k + 1) = f k) (k : Ok f P) : Ok g P := by
  obtain ⟨r, hr, pr⟩ := k
  exact ⟨r, Ev.step h hr, pr⟩
theorem Ok.succ {α : Type} {g : Nat → Option α} {P : α → Prop} (k : Ok (fun n => g (n + 1)) P) : Ok g P := Ok.step (fun _ => rfl) k
theorem Ok.congr {α : Type} {g f : Nat → Option α} {P : α → Prop} (h : ∀ k, g k = f k) (k : Ok f P) : Ok g P := by
  obtain ⟨r, hr, pr⟩ := k
  exact ⟨r, Ev.congr h hr, pr⟩
theorem Ok.mono {α : Type} {g : Nat → Option α} {P Q : α → Prop} (h : Ok g P) (k : ∀ r, P r → Q r) : Ok g Q := by
  obtain ⟨r, hr, pr⟩ := h
  exact ⟨r, hr, k r pr⟩
theorem Ok.yes {α : Type} {g f : Nat → Option α} {c : Prop} [Decidable c] {P : α → Prop} (hc : c) (h : Ok g P) : Ok (fun n => if c then g n else f n) P := by
  simp only [if_pos hc]; exact h
theorem Ok.no {α : Type} {g f : Nat → Option α} {c : Prop} [Decidable c] {P : α → Prop} (hc : ¬ c) (h : Ok f P) : Ok (fun n => if c then g n else f n) P := by
  simp only [if_neg hc]; exact h
theorem Ok.ite {α : Type} {g f : Nat → Option α} {c : Prop} [Decidable c] {P : α → Prop} (h : c → Ok g P) (k : ¬ c → Ok f P) : Ok (fun n => if c then g n else f n) P := by
  by_cases hc : c
  · exact Ok.yes hc (h hc)
  · exact Ok.no hc (k hc)
theorem Ok.ev {α : Type} {g : Nat → Option α} {r : α} (h : Ok g (· = r)) : Ev g r := by
  obtain ⟨_, hr, rfl⟩ := h
  exact hr
theorem Ok.of_ev {α : Type} {g : Nat → Option α} {r : α} {P : α → Prop} (h : Ev g r) (hp : P r) : Ok g P := ⟨r, h, hp⟩
theorem Ok.rounds {α : Type} {g : Nat → Option α} {r : α} (h : Ok g (· = r)) : ∃ k, g k = some r := h.ev.rounds
theorem Ok.const {α : Type} {o : Option α} {P : α → Prop} {r : α} (h : o = some r) (hp : P r) : Ok (fun _ => o) P := by
  subst h; exact Ok.now r hp
theorem Ok.binds {α β : Type} {o : Option α} {f : Nat → α → Option β} {Q : β → Prop} {a : α} (h : o = some a) (k : Ok (fun n => f n a) Q) : Ok (fun n => o.bind (f n)) Q := by
  subst h; exact k

theorem w64 {x : Int} (h : -9223372036854775808 ≤ x) (h' : x ≤ 9223372036854775807) : wrap64 x = x := by unfold wrap64; omega
theorem tmod_nn {x n : Int} (h : 0 ≤ x) : Int.tmod x n = x % n := Int.tmod_eq_emod_of_nonneg h
theorem tdiv_nn {x n : Int} (h : 0 ≤ x) : Int.tdiv x n = x / n := Int.tdiv_eq_ediv_of_nonneg h
theorem rd_mem {b : List Int} {i : Int} (h0 : 0 ≤ i) (h1 : i < b.length) : rd b i ∈ b := by
  unfold rd
  have h : i.toNat < b.length := by omega
  rw [List.getD_eq_getElem?_getD, List.getElem?_eq_getElem h]
  exact List.getElem_mem h

/-! exclusive or of numbers that are not below 0 -/
theorem ofInt_i64 (a : Nat) (ha : a < 9223372036854775808) : (BitVec.ofInt 64 (a : Int)).toNat = a := by
  rw [BitVec.ofInt_natCast, BitVec.toNat_ofNat]; exact Nat.mod_eq_of_lt (by omega)
theorem i64_xor_nat (a b : Nat) (ha : a < 9223372036854775808) (hb : b < 9223372036854775808) : bits .xor .i64 (a : Int) (b : Int) = ((a ^^^ b : Nat) : Int) := by
  have hx : a ^^^ b < 2 ^ 63 := Nat.xor_lt_two_pow (by omega) (by omega)
  show IntKind.i64.wrap ((BitVec.ofInt 64 (a : Int) ^^^ BitVec.ofInt 64 (b : Int)).toNat : Int) = _
  rw [BitVec.toNat_xor, ofInt_i64 a ha, ofInt_i64 b hb, IntKind.wrap_i64]
  omega
theorem xor_nonneg {x y : Int} (hx : 0 ≤ x) (hx' : x ≤ 9223372036854775807) (hy : 0 ≤ y) (hy' : y ≤ 9223372036854775807) : 0 ≤ bits .xor .i64 x y ∧ bits .xor .i64 x y ≤ 9223372036854775807 := by
  obtain ⟨a, rfl⟩ := Int.eq_ofNat_of_zero_le hx
  obtain ⟨b, rfl⟩ := Int.eq_ofNat_of_zero_le hy
  rw [i64_xor_nat a b (by omega) (by omega)]
  have h : a ^^^ b < 2 ^ 63 := Nat.xor_lt_two_pow (by omega) (by omega)
  omega

/-! texts and lists of bytes -/
theorem size_empty : (⟨#[]⟩ : ByteArray).size = 0 := rfl
theorem text_nil (s : ByteArray) : s.toList = ([] : List UInt8) ↔ s.size = 0 := by
  rw [ByteArray.toList_eq]
  constructor
  · intro h
    have := congrArg List.length h
    simpa using this
  · intro h
    apply List.eq_nil_of_length_eq_zero
    simpa using h
theorem strOfNums_at (xs : List Int) (i : Nat) (h : i < xs.length) (h0 : 0 ≤ xs[i]) (h1 : xs[i] ≤ 255) : bt (strOfNums xs) (i : Int) = xs[i] := by
  unfold bt
  have hs : (i : Int).toNat < (strOfNums xs).size := by rw [strOfNums_size]; simpa using h
  rw [dif_pos hs]
  have e : (strOfNums xs)[(i : Int).toNat]'hs = UInt8.ofNat (xs[i]).toNat := by
    show (xs.map fun n => UInt8.ofNat n.toNat).toArray[(i : Int).toNat]'(by simpa using h) = _
    simp
  rw [e, UInt8.toNat_ofNat']
  omega
theorem strOfNums_self (s : ByteArray) : strOfNums ((List.range s.size).map fun (i : Nat) => bt s (i : Int)) = s := by
  apply ByteArray.ext
  unfold strOfNums
  apply Array.ext
  · simp
  · intro i h1 h2
    have hs : i < s.size := h2
    have e : bt s (i : Int) = ((s[i]'hs).toNat : Int) := by
      unfold bt
      have : (i : Int).toNat < s.size := by simpa using hs
      rw [dif_pos this]
      simp
    simp only [List.getElem_toArray, List.getElem_map, List.getElem_range, e]
    simp
    rfl
theorem bt_nat (s : ByteArray) (i : Nat) (h : i < s.size) : bt s (i : Int) = ((s[i]'h).toNat : Int) := by
  unfold bt
  have : (i : Int).toNat < s.size := by simpa using h
  rw [dif_pos this]
  simp
end Go.Proofs.Ytjcamejbdcaokaa.Lib
/- laws.FnBlocks: a drawn text is cut into blocks as the reference does, and comes out of them wherever they stand; of a drawn text and place both read the same. No condition. -/
set_option linter.unusedVariables false
set_option linter.unusedSimpArgs false
namespace Go.Proofs.Ytjcamejbdcaokaa.Pure
open Go.RowKit Go.Proofs.Ytjcamejbdcaokaa.P Go.Proofs.YtjcamejbdcaokaaW.PrintWords Go.Proofs.YtjcamejbdcaokaaW.PrintLast Go.Proofs.YtjcamejbdcaokaaW.PrintMore
/-! ### what is drawn: pick, of, l1Many, l14Text -/
open Go.Proofs.Ytjcamejbdcaokaa.Lib
theorem pick_ok (b : List Int) (hb : ∀ x ∈ b, 0 ≤ x ∧ x ≤ 255) (p n : Int) (hp : 0 ≤ p) (hp' : p ≤ 1099511627776) (hn : n ≤ 9223372036854775807) :
    Ok (fun k => spec_l1Rd_pick.f k b p n) (fun r => 0 ≤ r.1 ∧ (1 ≤ n → r.1 < n) ∧ (n < 1 → r.1 = 0) ∧ r.2 = p + 1) := by
  have e1 : wrap64 (p + 1) = p + 1 := w64 (by omega) (by omega)
  unfold spec_l1Rd_pick.f
  by_cases h1 : n < 1
  · refine Ok.yes h1 (Ok.succ ?_)
    simp only [spec_l1Rd_pick.j0, e1, if_true]
    exact Ok.now _ ⟨by simp, fun h => by omega, fun _ => rfl, rfl⟩
  refine Ok.no h1 (Ok.succ ?_)
  simp only [spec_l1Rd_pick.j0, e1]
  by_cases h2 : (b.length : Int) = 0
  · have hbq : ((b.length : Int) == 0) = true := beq_iff_eq.2 h2
    exact Ok.yes hbq (Ok.now _ ⟨by omega, fun _ => by show (0 : Int) < n; omega, fun h => absurd h h1, rfl⟩)
  have hbq : ¬ ((b.length : Int) == 0) = true := by simpa using h2
  have e2 : wrap64 (p + 1 - 1) = p := by rw [w64 (by omega) (by omega)]; omega
  simp only [e2]
  refine Ok.no hbq ?_
  have hn0 : ¬ n = 0 := by omega
  refine Ok.ite (fun h3 => Ok.yes hp (Ok.no hn0 ?_)) (fun h3 => Ok.no h2 ?_)
  · have hm := hb _ (rd_mem hp h3)
    have e3 : wrap64 (rd b p) = rd b p := w64 (by omega) (by omega)
    rw [e3, tmod_nn hm.1]
    exact Ok.now _ ⟨Int.emod_nonneg _ hn0, fun _ => Int.emod_lt_of_pos _ (by omega), fun h => absurd h h1, rfl⟩
  · have hl : 0 < (b.length : Int) := by omega
    rw [tmod_nn hp]
    have a0 : 0 ≤ p % (b.length : Int) := Int.emod_nonneg _ h2
    have a1 : p % (b.length : Int) < (b.length : Int) := Int.emod_lt_of_pos _ hl
    have e4 : wrap64 (p * 7) = p * 7 := w64 (by omega) (by omega)
    have e5 : wrap64 (p * 7 + 3) = p * 7 + 3 := w64 (by omega) (by omega)
    simp only [e4, e5]
    rw [tmod_nn (show 0 ≤ p * 7 + 3 by omega)]
    have b0 : 0 ≤ (p * 7 + 3) % (b.length : Int) := Int.emod_nonneg _ h2
    have b1 : (p * 7 + 3) % (b.length : Int) < (b.length : Int) := Int.emod_lt_of_pos _ hl
    refine Ok.yes a0 (Ok.yes a1 (Ok.yes b0 (Ok.yes b1 (Ok.no hn0 ?_))))
    have c0 := hb _ (rd_mem a0 a1)
    have c1 := hb _ (rd_mem b0 b1)
    generalize rd b (p % (b.length : Int)) = x at c0 ⊢
    generalize rd b ((p * 7 + 3) % (b.length : Int)) = y at c1 ⊢
    rw [tdiv_nn hp]
    have d0 : 0 ≤ p / (b.length : Int) := Int.ediv_nonneg hp (by omega)
    have d1 : p / (b.length : Int) ≤ p := Int.ediv_le_self _ hp
    generalize p / (b.length : Int) = q at d0 d1 ⊢
    have f1 : wrap64 x = x := w64 (by omega) (by omega)
    have f2 : wrap64 y = y := w64 (by omega) (by omega)
    have f3 : wrap64 q = q := w64 (by omega) (by omega)
    have f4 : wrap64 (x * 131) = x * 131 := w64 (by omega) (by omega)
    have f5 : wrap64 (y * 1117) = y * 1117 := w64 (by omega) (by omega)
    have f6 : wrap64 (p * 29) = p * 29 := w64 (by omega) (by omega)
    have f7 : wrap64 (q * 53) = q * 53 := w64 (by omega) (by omega)
    simp only [f1, f2, f3, f4, f5, f6, f7]
    have f8 : wrap64 (x * 131 + y * 1117) = x * 131 + y * 1117 := w64 (by omega) (by omega)
    simp only [f8]
    have f9 : wrap64 (x * 131 + y * 1117 + p * 29) = x * 131 + y * 1117 + p * 29 := w64 (by omega) (by omega)
    simp only [f9]
    have f10 : wrap64 (x * 131 + y * 1117 + p * 29 + q * 53) = x * 131 + y * 1117 + p * 29 + q * 53 := w64 (by omega) (by omega)
    simp only [f10]
    have g0 : 0 ≤ x * 131 + y * 1117 + p * 29 + q * 53 := by omega
    have g1 : x * 131 + y * 1117 + p * 29 + q * 53 ≤ 9223372036854775807 := by omega
    generalize x * 131 + y * 1117 + p * 29 + q * 53 = z at g0 g1 ⊢
    rw [tdiv_nn g0]
    have f11 : wrap64 (z / 64) = z / 64 := w64 (by omega) (by omega)
    rw [f11]
    have hx := xor_nonneg g0 g1 (show 0 ≤ z / 64 by omega) (by omega)
    rw [tmod_nn hx.1]
    exact Ok.now _ ⟨Int.emod_nonneg _ hn0, fun _ => Int.emod_lt_of_pos _ (by omega), fun h => absurd h h1, rfl⟩

theorem pick_at (b : List Int) (hb : ∀ x ∈ b, 0 ≤ x ∧ x ≤ 255) (p n : Int) (hp : 0 ≤ p ∧ p ≤ 1099511627776) (hn : 1 ≤ n ∧ n ≤ 9223372036854775807) :
    Ok (fun k => spec_l1Rd_pick.f k b p n) (fun r => (0 ≤ r.1 ∧ r.1 < n) ∧ r.2 = p + 1) :=
  (pick_ok b hb p n hp.1 hp.2 hn.2).mono fun _ h => ⟨⟨h.1, h.2.1 hn.1⟩, h.2.2.2⟩
theorem open_ok (l : List Int) : Ok (fun _ => spec_l1Open.f l) (fun r => r.1 = l.take 2000 ∧ r.2 = 0) := by
  unfold spec_l1Open.f
  refine Ok.ite (fun h => Ok.yes (by omega) (Ok.now _ ⟨rfl, rfl⟩)) (fun h => Ok.now _ ⟨?_, rfl⟩)
  rw [List.take_of_length_le (by omega)]
theorem byte_wf {l : List Int} (h : ∀ x ∈ l, (Lit.int .u8 x).wf = true) : ∀ x ∈ l, 0 ≤ x ∧ x ≤ 255 := fun x hx => bounds_u8 (h x hx)
theorem byte_take {l : List Int} (h : ∀ x ∈ l, 0 ≤ x ∧ x ≤ 255) (n : Nat) : ∀ x ∈ l.take n, 0 ≤ x ∧ x ≤ 255 := fun x hx => h x (List.mem_of_mem_take hx)

theorem of_ok (b : List Int) (hb : ∀ x ∈ b, 0 ≤ x ∧ x ≤ 255) (p : Int) (l : List ByteArray) (hp : 0 ≤ p ∧ p ≤ 1099511627776) (hl : 1 ≤ l.length ∧ l.length ≤ 1000) (m : Nat) (hm : ∀ s ∈ l, s.size ≤ m) :
    Ok (fun k => spec_l1Rd_of.f k b p l) (fun r => r.1.size ≤ m ∧ r.2 = p + 1) := by
  unfold spec_l1Rd_of.f
  refine (pick_at b hb p l.length hp (by omega)).bind fun a ha => ?_
  obtain ⟨v, q⟩ := a
  obtain ⟨⟨h0, h1⟩, rfl⟩ := ha
  refine Ok.yes h0 (Ok.yes h1 (Ok.now _ ⟨?_, rfl⟩))
  apply hm
  have hv : v.toNat < l.length := by simp only at h0 h1; omega
  show rdOf ByteArray.empty l v ∈ l
  unfold rdOf
  rw [List.getD_eq_getElem?_getD, List.getElem?_eq_getElem hv]
  exact List.getElem_mem hv

theorem many_l (s : ByteArray) (n : Int) (hs : s.size ≤ 65536) (hn : n ≤ 65536) (d : Nat) : ∀ (o : ByteArray) (i : Int), 0 ≤ i → n - i ≤ d → (o.size : Int) ≤ 65536 * i →
    Ok (fun k => spec_l1Many.l0 k s n o i) (fun r => r.size ≤ o.size + s.size * d) := by
  induction d with
  | zero =>
    intro o i h0 hd ho
    have h : ¬ i < n := by omega
    refine Ok.succ ?_
    simp only [spec_l1Many.l0]
    exact Ok.no h (Ok.now _ (by omega))
  | succ d ih =>
    intro o i h0 hd ho
    refine Ok.succ ?_
    simp only [spec_l1Many.l0]
    refine Ok.ite (fun h => ?_) (fun h => Ok.now _ (by omega))
    have c : o.size + s.size ≤ 9223372036854775807 := by omega
    have e : wrap64 (i + 1) = i + 1 := w64 (by omega) (by omega)
    rw [e]
    refine Ok.yes c ((ih (o ++ s) (i + 1) (by omega) (by omega) (by rw [ByteArray.size_append]; omega)).mono fun r hr => ?_)
    rw [ByteArray.size_append] at hr
    rw [Nat.mul_succ]
    omega
theorem many_ok (s : ByteArray) (n : Int) (hs : s.size ≤ 65536) (hn : n ≤ 65536) : Ok (fun k => spec_l1Many.f k s n) (fun r => r.size ≤ s.size * n.toNat) := by
  unfold spec_l1Many.f
  refine (many_l s n hs hn n.toNat (⟨#[]⟩ : ByteArray) 0 (by omega) (by omega) (by rw [size_empty]; omega)).mono fun r hr => ?_
  have : (⟨#[]⟩ : ByteArray).size = 0 := rfl
  omega

/-- The inner loop of l14Text, by what follows it. -/
theorem text_l1 (b : List Int) (hb : ∀ x ∈ b, 0 ≤ x ∧ x ≤ 255) (P : ByteArray × Int → Prop) (n : Int) (m : Nat) : ∀ (s : ByteArray) (p : Int), 0 ≤ p → p + m ≤ 1099511627776 → s.size + m ≤ 65536 →
    (∀ (s' : ByteArray) (p' : Int), s'.size ≤ s.size + m → p ≤ p' → p' ≤ p + m → Ok (fun k => spec_l14Text.l0 k s' (wrap64 (n - 1)) b p') P) →
    Ok (fun k => spec_l14Text.l1 k s n (m : Int) b p) P := by
  induction m with
  | zero =>
    intro s p h0 hp hs K
    have h : ¬ ((0 : Nat) : Int) > 0 := by omega
    refine Ok.succ ?_
    simp only [spec_l14Text.l1]
    exact Ok.no h (K s p (by omega) (by omega) (by omega))
  | succ m ih =>
    intro s p h0 hp hs K
    have h : ((m + 1 : Nat) : Int) > 0 := by omega
    refine Ok.succ ?_
    simp only [spec_l14Text.l1]
    refine Ok.yes h ?_
    refine (pick_at b hb p 256 ⟨h0, by omega⟩ ⟨by omega, by omega⟩).bind fun a ha => ?_
    obtain ⟨v, q⟩ := a
    obtain ⟨_, rfl⟩ := ha
    refine Ok.binds rfl ?_
    have hz : (strOfNums [(v, p + 1).1 % 256]).size = 1 := by rw [strOfNums_size]; rfl
    have c : s.size + (strOfNums [(v, p + 1).1 % 256]).size ≤ 9223372036854775807 := by omega
    have e : wrap64 (((m + 1 : Nat) : Int) - 1) = (m : Int) := by rw [w64 (by omega) (by omega)]; omega
    refine Ok.yes c ?_
    rw [e]
    refine ih _ _ (by omega) (by omega) (by rw [ByteArray.size_append]; omega) fun s' p' h1 h2 h3 => ?_
    rw [ByteArray.size_append] at h1
    exact K s' p' (by omega) (by omega) (by omega)

theorem text_l0 (b : List Int) (hb : ∀ x ∈ b, 0 ≤ x ∧ x ≤ 255) (d : Nat) : ∀ (s : ByteArray) (p : Int), d ≤ 100 → 0 ≤ p → p + 20 * d ≤ 1099511627776 → s.size + 40 * d ≤ 65536 →
    Ok (fun k => spec_l14Text.l0 k s (d : Int) b p) (fun r => r.1.size ≤ s.size + 40 * d ∧ p ≤ r.2 ∧ r.2 ≤ p + 20 * d) := by
  induction d with
  | zero =>
    intro s p hd h0 hp hs
    have h : ¬ ((0 : Nat) : Int) > 0 := by omega
    refine Ok.succ ?_
    simp only [spec_l14Text.l0]
    exact Ok.no h (Ok.now _ ⟨by simp, by simp, by simp⟩)
  | succ d ih =>
    intro s p hd h0 hp hs
    have h : ((d + 1 : Nat) : Int) > 0 := by omega
    have e : wrap64 (((d + 1 : Nat) : Int) - 1) = (d : Int) := by rw [w64 (by omega) (by omega)]; omega
    have go : ∀ (t : ByteArray) (q : Int), t.size ≤ 40 → p ≤ q → q ≤ p + 20 → Ok (fun k => spec_l14Text.l0 k (s ++ t) (d : Int) b q) (fun r => r.1.size ≤ s.size + 40 * (d + 1) ∧ p ≤ r.2 ∧ r.2 ≤ p + 20 * ((d + 1 : Nat) : Int)) := by
      intro t q ht h1 h2
      refine (ih (s ++ t) q (by omega) (by omega) (by omega) (by rw [ByteArray.size_append]; omega)).mono fun r hr => ?_
      rw [ByteArray.size_append] at hr
      exact ⟨by omega, by omega, by omega⟩
    refine Ok.succ ?_
    simp only [spec_l14Text.l0]
    refine Ok.yes h ?_
    refine (pick_at b hb p 5 ⟨h0, by omega⟩ ⟨by omega, by omega⟩).bind fun a ha => ?_
    obtain ⟨v, q⟩ := a
    obtain ⟨hv, rfl⟩ := ha
    rw [e]
    refine Ok.ite (fun h1 => ?_) (fun h1 => Ok.ite (fun h2 => ?_) (fun h2 => Ok.ite (fun h3 => ?_) (fun h3 => ?_)))
    · refine (of_ok b hb (p + 1) _ ⟨by omega, by omega⟩ ⟨by decide, by decide⟩ 1 (by decide)).bind fun a ha => ?_
      obtain ⟨t, q⟩ := a
      obtain ⟨ht, rfl⟩ := ha
      refine (pick_at b hb (p + 1 + 1) 40 ⟨by omega, by omega⟩ ⟨by omega, by omega⟩).bind fun a ha => ?_
      obtain ⟨v2, q⟩ := a
      obtain ⟨hv2, rfl⟩ := ha
      refine (many_ok t v2 (by simp only at ht; omega) (by simp only at hv2; omega)).bind fun u hu => ?_
      simp only at ht hv2
      have hu' : u.size ≤ 40 := by
        have : t.size * v2.toNat ≤ 1 * v2.toNat := Nat.mul_le_mul_right _ ht
        omega
      exact Ok.yes (by omega) (go u _ hu' (by omega) (by omega))
    · exact Ok.yes (by omega) (go _ _ (by decide) (by omega) (by omega))
    · refine (pick_at b hb (p + 1) 12 ⟨by omega, by omega⟩ ⟨by omega, by omega⟩).bind fun a ha => ?_
      obtain ⟨v2, q⟩ := a
      obtain ⟨hv2, rfl⟩ := ha
      simp only at hv2
      obtain ⟨m, hm⟩ := Int.eq_ofNat_of_zero_le hv2.1
      subst hm
      refine text_l1 b hb _ ((d + 1 : Nat) : Int) m s (p + 1 + 1) (by omega) (by omega) (by omega) fun s' p' g1 g2 g3 => ?_
      rw [e]
      refine (ih s' p' (by omega) (by omega) (by omega) (by omega)).mono fun r hr => ⟨by omega, by omega, by omega⟩
    · refine (of_ok b hb (p + 1) _ ⟨by omega, by omega⟩ ⟨by decide, by decide⟩ 10 (by decide)).bind fun a ha => ?_
      obtain ⟨t, q⟩ := a
      obtain ⟨ht, rfl⟩ := ha
      simp only at ht
      exact Ok.yes (by simp only; omega) (go t _ (by omega) (by omega) (by omega))

theorem text_ok (b : List Int) (hb : ∀ x ∈ b, 0 ≤ x ∧ x ≤ 255) (p : Int) (hp : 0 ≤ p ∧ p ≤ 1000000000) :
    Ok (fun k => spec_l14Text.f k b p) (fun r => r.1.size ≤ 9001 ∧ p ≤ r.2 ∧ r.2 ≤ p + 200) := by
  unfold spec_l14Text.f
  refine (pick_at b hb p 150 ⟨by omega, by omega⟩ ⟨by omega, by omega⟩).bind fun a ha => ?_
  obtain ⟨v, q⟩ := a
  obtain ⟨hv, rfl⟩ := ha
  refine Ok.ite (fun h1 => ?_) (fun h1 => ?_)
  · refine (pick_at b hb (p + 1) 2 ⟨by omega, by omega⟩ ⟨by omega, by omega⟩).bind fun a ha => ?_
    obtain ⟨v2, q⟩ := a
    obtain ⟨hv2, rfl⟩ := ha
    simp only at hv2
    have e : wrap64 (9000 + v2) = 9000 + v2 := w64 (by omega) (by omega)
    simp only [e]
    refine (many_ok (⟨#[116]⟩ : ByteArray) (9000 + v2) (by decide) (by omega)).bind fun u hu => ?_
    have h1 : (⟨#[116]⟩ : ByteArray).size = 1 := rfl
    rw [h1] at hu
    exact Ok.now _ ⟨by simp only; omega, by simp only; omega, by simp only; omega⟩
  · refine (pick_at b hb (p + 1) 7 ⟨by omega, by omega⟩ ⟨by omega, by omega⟩).bind fun a ha => ?_
    obtain ⟨v2, q⟩ := a
    obtain ⟨hv2, rfl⟩ := ha
    simp only at hv2
    obtain ⟨m, hm⟩ := Int.eq_ofNat_of_zero_le hv2.1
    subst hm
    refine (text_l0 b hb m (⟨#[]⟩ : ByteArray) (p + 1 + 1) (by omega) (by omega) (by omega) (by rw [size_empty]; omega)).mono fun r hr => ?_
    have h1 : (⟨#[]⟩ : ByteArray).size = 0 := rfl
    exact ⟨by omega, by omega, by omega⟩

/-! ### cutting -/
theorem one_byte (n : Nat) (_h : n < 256) : strOfNums [((n : Nat) : Int)] = ⟨#[UInt8.ofNat n]⟩ := by
  simp [strOfNums]
theorem empty_left (x : ByteArray) : (⟨#[]⟩ : ByteArray) ++ x = x := by
  apply ByteArray.ext
  simp only [ByteArray.data_append]
  simp
theorem size_one (b : UInt8) : (⟨#[b]⟩ : ByteArray).size = 1 := rfl
theorem put_run (s : ByteArray) (hs : s.size ≤ 5000) (d : Nat) : ∀ (k : Nat) (i : Nat) (o : ByteArray), s.size - i ≤ d → i ≤ s.size + 255 → d < k → o.size ≤ 2 * i →
    spec_l10Blocks.l0 k s o (i : Int) = some (o ++ ⟨(blks (s.size - i) (s.data.toList.drop i) ++ [0]).toArray⟩) := by
  induction d with
  | zero =>
    intro k i o h0 hi hk ho
    obtain ⟨k, rfl⟩ : ∃ m, k = m + 1 := ⟨k - 1, by omega⟩
    simp only [spec_l10Blocks.l0]
    rw [if_neg (by omega), show s.size - i = 0 by omega]
    simp only [Option.bind_some, blks, List.nil_append]
    rw [show strOfNums [0] = (⟨#[0]⟩ : ByteArray) from rfl, if_pos (by rw [size_one]; omega)]
  | succ d ih =>
    intro k i o h0 hi hk ho
    obtain ⟨k, rfl⟩ : ∃ m, k = m + 1 := ⟨k - 1, by omega⟩
    by_cases hlt : i < s.size
    · simp only [spec_l10Blocks.l0]
      have e1 : wrap64 ((i : Int) + 255) = ((i + 255 : Nat) : Int) := by unfold wrap64; omega
      rw [if_pos (by omega), e1]
      obtain ⟨e, he⟩ : ∃ e, e = min (i + 255) s.size := ⟨_, rfl⟩
      have el : spec_l5Least.f ((i + 255 : Nat) : Int) (s.size : Int) = some ((e : Nat) : Int) := by
        unfold spec_l5Least.f
        by_cases h : ((i + 255 : Nat) : Int) < (s.size : Int)
        · rw [if_pos h]; congr 1; omega
        · rw [if_neg h]; congr 1; omega
      rw [el]
      simp only [Option.bind_some]
      obtain ⟨n, hn⟩ : ∃ n, n = e - i := ⟨_, rfl⟩
      have e2 : wrap64 ((e : Int) - i) % 256 = ((n : Nat) : Int) := by unfold wrap64; omega
      rw [e2, one_byte n (by omega)]
      have sz : ((⟨#[UInt8.ofNat n]⟩ : ByteArray)).size = 1 := size_one _
      have hx : (s.extract (i : Int).toNat (e : Int).toNat).size = n := by rw [ByteArray.size_extract]; omega
      rw [if_pos (by rw [sz]; omega), if_pos (by omega), if_pos (by omega), if_pos (by omega), if_pos (by rw [hx, ByteArray.size_append, sz]; omega)]
      rw [ih k (i + 255) _ (by omega) (by omega) (by omega) (by rw [ByteArray.size_append, ByteArray.size_append, sz, hx]; omega)]
      congr 1
      have hl : (s.data.toList.drop i).length = s.size - i := by simp
      obtain ⟨m, hm⟩ : ∃ m, s.size - i = m + 1 := ⟨s.size - i - 1, by omega⟩
      rw [show blks (s.size - i) (s.data.toList.drop i) = blks (m + 1) (s.data.toList.drop i) by rw [hm]]
      simp only [blks]
      rw [if_neg (by omega), show min (s.data.toList.drop i).length 255 = n by omega]
      have ed : (s.data.toList.drop i).drop n = s.data.toList.drop (i + 255) := by
        rw [List.drop_drop]
        by_cases h : i + 255 ≤ s.size
        · congr 1; omega
        · rw [List.drop_eq_nil_of_le (by simp; omega), List.drop_eq_nil_of_le (by simp; omega)]
      have l2 : (s.data.toList.drop (i + 255)).length = s.size - (i + 255) := by rw [List.length_drop, Array.length_toList, ByteArray.size_data]
      rw [ed, blks_more m (s.size - (i + 255)) _ (by rw [l2]; omega) (by rw [l2]; exact Nat.le_refl _)]
      have ex : (s.extract (i : Int).toNat (e : Int).toNat).data.toList = (s.data.toList.drop i).take n := by
        rw [_root_.Go.Lib.extract_data]; simp [hn]
      apply ByteArray.ext
      apply Array.toList_inj.mp
      simp only [ByteArray.data_append, Array.toList_append, ex]
      simp
    · simp only [spec_l10Blocks.l0]
      rw [if_neg (by omega), show s.size - i = 0 by omega]
      simp only [Option.bind_some, blks, List.nil_append]
      rw [show strOfNums [0] = (⟨#[0]⟩ : ByteArray) from rfl, if_pos (by rw [size_one]; omega)]
def cutv (s : ByteArray) : ByteArray := if (s.size : Int) > 5000 then ⟨#[]⟩ else ⟨(blks s.size s.data.toList ++ [0]).toArray⟩
theorem iput_eq (s : ByteArray) : impl_BlocksPut.f s = some (cutv s) := by
  unfold impl_BlocksPut.f cutv
  split <;> rfl
theorem sput_ok (s : ByteArray) : Ok (fun k => spec_BlocksPut.f k s) (· = cutv s) := by
  unfold cutv
  by_cases h5 : (s.size : Int) > 5000
  · rw [if_pos h5]
    unfold spec_BlocksPut.f
    exact Ok.yes h5 (Ok.now _ rfl)
  · rw [if_neg h5]
    have h := put_run s (by omega) s.size (s.size + 1) 0 ⟨#[]⟩ (by omega) (by omega) (by omega) (Nat.le_refl 0)
    rw [show ((0 : Nat) : Int) = 0 from rfl, empty_left, Nat.sub_zero, List.drop_zero] at h
    refine Ok.of_ev (Ev.of (fun k => spec_BlocksPut.mono s k) (k := s.size + 1) ?_) rfl
    unfold spec_BlocksPut.f spec_l10Blocks.f
    rw [if_neg h5, h]
    rfl
theorem blks_len (d : Nat) : ∀ l : List UInt8, l.length ≤ d → (blks d l).length = l.length + (l.length + 254) / 255 := by
  induction d with
  | zero =>
    intro l h
    simp only [blks, List.length_nil]
    omega
  | succ d ih =>
    intro l h
    simp only [blks]
    by_cases h0 : l.length = 0
    · rw [if_pos h0, h0]; rfl
    · rw [if_neg h0]
      have h1 := ih (l.drop (min l.length 255)) (by rw [List.length_drop]; omega)
      rw [List.length_drop] at h1
      simp only [List.length_cons, List.length_append, List.length_take, h1]
      omega
theorem cutv_size (s : ByteArray) (h : s.size ≤ 5000) : (cutv s).size = s.size + (s.size + 254) / 255 + 1 := by
  unfold cutv
  rw [if_neg (by omega)]
  have hl : s.data.toList.length = s.size := by simp
  have e : (⟨(blks s.size s.data.toList ++ [0]).toArray⟩ : ByteArray).size = (blks s.size s.data.toList ++ [0]).length := by
    show (blks s.size s.data.toList ++ [0]).toArray.size = _
    exact List.size_toArray
  rw [e, List.length_append, blks_len s.size _ (Nat.le_of_eq hl), hl]
  rfl
theorem cutv_le (s : ByteArray) : (cutv s).size ≤ 6000 := by
  by_cases h : s.size ≤ 5000
  · rw [cutv_size s h]; omega
  · unfold cutv
    rw [if_pos (by omega), size_empty]
    omega
/-! ### reading -/
theorem both_run (s : ByteArray) (hs : s.size ≤ 9000) (d : Nat) : ∀ (k : Nat) (i : Int) (o : ByteArray), 0 ≤ i → (s.size : Int) - i ≤ d → d < k → (o.size : Int) ≤ i →
    ∃ r, spec_l10Join.l0 k s i o = some r ∧ impl_BlocksGet.l0 k s i o = some r := by
  induction d with
  | zero =>
    intro k i o h0 hd hk ho
    obtain ⟨k, rfl⟩ : ∃ m, k = m + 1 := ⟨k - 1, by omega⟩
    have hge : ¬ i < (s.size : Int) := by omega
    simp only [spec_l10Join.l0, impl_BlocksGet.l0]
    rw [if_neg hge, if_neg hge]
    exact ⟨_, rfl, rfl⟩
  | succ d ih =>
    intro k i o h0 hd hk ho
    obtain ⟨k, rfl⟩ : ∃ m, k = m + 1 := ⟨k - 1, by omega⟩
    simp only [spec_l10Join.l0, impl_BlocksGet.l0]
    by_cases hlt : i < (s.size : Int)
    · have hb := bt_range s i
      have e1 : wrap64 (i + 1) = i + 1 := by unfold wrap64; omega
      have e2 : wrap64 (bt s i) = bt s i := by unfold wrap64; omega
      have e3 : wrap64 (i + 1 + bt s i) = i + 1 + bt s i := by unfold wrap64; omega
      have e4 : wrap64 ((s.size : Int) - (i + 1)) = (s.size : Int) - (i + 1) := by unfold wrap64; omega
      simp only [e1, e2, e3, e4]
      rw [if_pos hlt, if_pos hlt, if_pos h0, if_pos h0]
      by_cases hz : bt s i = 0
      · rw [if_pos hz, if_pos hz]
        exact ⟨_, rfl, rfl⟩
      · rw [if_neg hz, if_neg hz]
        by_cases hg : i + 1 + bt s i > (s.size : Int)
        · have hg' : bt s i > (s.size : Int) - (i + 1) := by omega
          rw [if_pos hg, if_pos hg']
          exact ⟨_, rfl, rfl⟩
        · have hg' : ¬ bt s i > (s.size : Int) - (i + 1) := by omega
          have c1 : 0 ≤ i + 1 := by omega
          have c2 : i + 1 ≤ i + 1 + bt s i := by omega
          have c3 : i + 1 + bt s i ≤ (s.size : Int) := by omega
          have hx : ((s.extract (i + 1).toNat (i + 1 + bt s i).toNat).size : Int) = bt s i := by
            rw [ByteArray.size_extract]; omega
          have c4 : o.size + (s.extract (i + 1).toNat (i + 1 + bt s i).toNat).size ≤ 9223372036854775807 := by omega
          rw [if_neg hg, if_neg hg', if_pos c1, if_pos c1, if_pos c2, if_pos c2, if_pos c3, if_pos c3, if_pos c4, if_pos c4]
          exact ih k _ _ (by omega) (by omega) (by omega) (by rw [ByteArray.size_append]; omega)
    · rw [if_neg hlt, if_neg hlt]
      exact ⟨_, rfl, rfl⟩
theorem iget_mono (s : ByteArray) (i : Int) (o : ByteArray) : ∀ k, LeO (impl_BlocksGet.l0 k s i o) (impl_BlocksGet.l0 (k + 1) s i o) := fun k => (impl_BlocksGet.mono_l k).2 _ _ _
theorem get_both (s : ByteArray) (i : Int) : ∃ r, Ok (fun k => impl_BlocksGet.f k s i) (· = r) ∧ Ok (fun k => spec_BlocksGet.f k s i) (· = r) := by
  unfold spec_BlocksGet.f impl_BlocksGet.f spec_l1In.f
  by_cases ht : (s.size : Int) > 9000
  · refine ⟨_, Ok.yes ht (Ok.succ ?_), Ok.yes ht (Ok.now _ rfl)⟩
    simp only [impl_BlocksGet.j0]
    exact Ok.yes (by simp) (Ok.now _ rfl)
  by_cases h0 : i < 0
  · refine ⟨((⟨#[]⟩ : ByteArray), 0, false), Ok.no ht ?_, Ok.no ht ?_⟩
    · rw [decide_eq_true h0]
      refine Ok.succ ?_
      simp only [impl_BlocksGet.j0]
      exact Ok.yes (by simp) (Ok.now _ rfl)
    · rw [if_neg (by omega)]
      exact Ok.binds rfl (Ok.no Bool.false_ne_true (Ok.now _ rfl))
  by_cases hle : i ≤ (s.size : Int)
  · obtain ⟨r, h1, h2⟩ := both_run s (by omega) s.size (s.size + 1) i (⟨#[]⟩ : ByteArray) (by omega) (by omega) (by omega) (by rw [size_empty]; omega)
    refine ⟨r, Ok.no ht ?_, Ok.no ht ?_⟩
    · rw [decide_eq_false h0]
      refine Ok.succ ?_
      simp only [impl_BlocksGet.j0]
      exact Ok.no (by simp) (Ok.of_ev (Ev.of (iget_mono s i _) h2) rfl)
    · rw [if_pos (by omega), decide_eq_true hle]
      refine Ok.binds rfl (Ok.yes rfl ?_)
      refine Ok.bind (P := (· = r)) ?_ fun x hx => ?_
      · exact Ok.of_ev (Ev.of (fun k => spec_l10Join.mono s i k) h1) rfl
      · subst hx
        exact Ok.now _ rfl
  · refine ⟨((⟨#[]⟩ : ByteArray), 0, false), Ok.no ht ?_, Ok.no ht ?_⟩
    · rw [decide_eq_false h0]
      refine Ok.succ ?_
      simp only [impl_BlocksGet.j0]
      refine Ok.no (by simp) (Ok.succ ?_)
      simp only [impl_BlocksGet.l0]
      exact Ok.no (by omega) (Ok.now _ rfl)
    · rw [if_pos (by omega), decide_eq_false hle]
      exact Ok.binds rfl (Ok.no Bool.false_ne_true (Ok.now _ rfl))
/-! ### there and back -/
theorem bt_list {T : ByteArray} {pre suf : List UInt8} {x : UInt8} (h : T.data.toList = pre ++ x :: suf) : bt T (pre.length : Int) = (x.toNat : Int) ∧ pre.length < T.size := by
  have hl : T.data.toList.length = T.size := by simp
  have hlt : pre.length < T.size := by rw [← hl, h, List.length_append, List.length_cons]; omega
  refine ⟨?_, hlt⟩
  rw [bt_nat T pre.length hlt]
  congr 1
  have e : T[pre.length]'hlt = T.data.toList[pre.length]'(by rw [hl]; exact hlt) := by
    rw [Array.getElem_toList]; rfl
  rw [e]
  have e2 : T.data.toList[pre.length]? = some x := by rw [h]; simp
  rw [List.getElem?_eq_getElem (by rw [hl]; exact hlt)] at e2
  rw [Option.some.inj e2]
theorem e4_of (p : Nat) (h : p ≤ 9000) : wrap64 ((p : Int) + 1) = ((p + 1 : Nat) : Int) := by
  rw [w64 (by omega) (by omega)]
  rfl
theorem e5_of (p n : Nat) (h : p + 1 + n ≤ 9000) : wrap64 (((p + 1 : Nat) : Int) + (n : Int)) = ((p + 1 + n : Nat) : Int) := by
  rw [w64 (by omega) (by omega)]
  rfl
theorem e6_of (z p : Nat) (h : z ≤ 9000) (h2 : p ≤ 9000) : wrap64 ((z : Int) - ((p + 1 : Nat) : Int)) = (z : Int) - ((p + 1 : Nat) : Int) := w64 (by omega) (by omega)
theorem conds (p n z o : Nat) (h1 : p + 1 + n ≤ z) (h2 : z ≤ 9000) (h3 : 1 ≤ n) (h4 : o ≤ p) : (p : Int) < (z : Int) ∧ (0 : Int) ≤ (p : Int) ∧ ¬ (n : Int) = 0 ∧ ¬ (n : Int) > (z : Int) - ((p + 1 : Nat) : Int) ∧ (0 : Int) ≤ ((p + 1 : Nat) : Int) ∧ ((p + 1 : Nat) : Int) ≤ ((p + 1 + n : Nat) : Int) ∧ ((p + 1 + n : Nat) : Int) ≤ (z : Int) ∧ o + n ≤ 9223372036854775807 := by
  refine ⟨?_, ?_, ?_, ?_, ?_, ?_, ?_, ?_⟩ <;> omega
theorem sub_le_of {a d n : Nat} (h : a ≤ d + 1) (h1 : 1 ≤ n) : a - n ≤ d := by omega
theorem add_le_of {a p n : Nat} (h : a ≤ p) : a + n ≤ p + 1 + n := by omega
theorem len_of (p n b : Nat) : p + 1 + n + b + 1 = p + (n + b + 1) + 1 := by omega
theorem back_run (T : ByteArray) (hT : T.size ≤ 9000) (d : Nat) : ∀ (l pre suf : List UInt8) (o : ByteArray), l.length ≤ d → T.data.toList = pre ++ (blks d l ++ 0 :: suf) → o.size ≤ pre.length →
    Ok (fun k => impl_BlocksGet.l0 k T (pre.length : Int) o) (· = (o ++ ⟨l.toArray⟩, ((pre.length + (blks d l).length + 1 : Nat) : Int), true)) := by
  have fin : ∀ (l pre suf : List UInt8) (o : ByteArray), l = [] → T.data.toList = pre ++ 0 :: suf → Ok (fun k => impl_BlocksGet.l0 k T (pre.length : Int) o) (· = (o ++ ⟨l.toArray⟩, ((pre.length + 0 + 1 : Nat) : Int), true)) := by
    intro l pre suf o hl hd
    obtain ⟨e1, e2⟩ := bt_list hd
    have e3 : wrap64 (bt T (pre.length : Int)) = 0 := by rw [e1, show (UInt8.toNat 0) = 0 from rfl, w64 (by decide) (by decide)]; rfl
    clear e1
    have e4 : wrap64 ((pre.length : Int) + 1) = ((pre.length + 0 + 1 : Nat) : Int) := by rw [w64 (by omega) (by omega)] <;> omega
    subst hl
    refine Ok.succ ?_
    simp only [impl_BlocksGet.l0]
    refine Ok.yes (by omega) (Ok.yes (by omega) (Ok.yes e3 (Ok.now _ ?_)))
    rw [e4]
    congr 1
    apply ByteArray.ext
    simp
  induction d with
  | zero =>
    intro l pre suf o hl hd ho
    have h0 : l = [] := List.eq_nil_of_length_eq_zero (by omega)
    simp only [blks, List.nil_append, List.length_nil] at hd ⊢
    exact fin l pre suf o h0 hd
  | succ d ih =>
    intro l pre suf o hl hd ho
    simp only [blks] at hd ⊢
    by_cases h0 : l.length = 0
    · rw [if_pos h0] at hd ⊢
      exact fin l pre suf o (List.eq_nil_of_length_eq_zero h0) hd
    · rw [if_neg h0] at hd ⊢
      obtain ⟨n, hn⟩ : ∃ n, n = min l.length 255 := ⟨_, rfl⟩
      rw [← hn] at hd ⊢
      have hn1 : 1 ≤ n ∧ n ≤ 255 ∧ n ≤ l.length := by omega
      have hd1 : T.data.toList = pre ++ UInt8.ofNat n :: (l.take n ++ blks d (l.drop n) ++ 0 :: suf) := by rw [hd]; simp
      have hd2 : T.data.toList = (pre ++ UInt8.ofNat n :: l.take n) ++ (blks d (l.drop n) ++ 0 :: suf) := by rw [hd]; simp
      obtain ⟨e1, e2⟩ := bt_list hd1
      have htl : (l.take n).length = n := by rw [List.length_take]; omega
      have hTl : T.data.toList.length = T.size := by simp
      have hsz : pre.length + 1 + n ≤ T.size := by
        rw [← hTl, hd2, List.length_append, List.length_append, List.length_cons, htl, Nat.add_assoc, Nat.add_comm 1 n]
        exact Nat.le_add_right _ _
      have eb : ((UInt8.ofNat n).toNat : Int) = (n : Int) := by clear e1; rw [UInt8.toNat_ofNat']; omega
      have e3 : wrap64 (bt T (pre.length : Int)) = (n : Int) := by
        rw [e1, eb]
        clear e1 eb
        rw [w64 (by omega) (by omega)]
      clear e1 eb
      have hp9 : pre.length ≤ 9000 := Nat.le_trans (Nat.le_of_lt e2) hT
      have e4 := e4_of pre.length hp9
      have e5 := e5_of pre.length n (Nat.le_trans hsz hT)
      obtain ⟨k1, k2, k3, k4, k5, k6, k7, k8⟩ := conds pre.length n T.size o.size hsz hT hn1.1 ho
      have e6 := e6_of T.size pre.length hT hp9
      have E3 := Aside0.mk e3
      have E4 := Aside0.mk e4
      have E5 := Aside0.mk e5
      have E6 := Aside0.mk e6
      clear e3 e4 e5 e6
      have ex : T.extract (pre.length + 1) (pre.length + 1 + n) = ⟨(l.take n).toArray⟩ := by
        apply ByteArray.ext
        apply Array.toList_inj.mp
        rw [_root_.Go.Lib.extract_data, hd2]
        have e7 : pre.length + 1 + n - (pre.length + 1) = n := Nat.add_sub_cancel_left _ _
        rw [e7]
        have e8 : (pre ++ UInt8.ofNat n :: l.take n ++ (blks d (l.drop n) ++ 0 :: suf)).drop (pre.length + 1) = l.take n ++ (blks d (l.drop n) ++ 0 :: suf) := by
          rw [List.append_assoc, List.drop_append]
          rw [List.drop_of_length_le (Nat.le_succ _), Nat.add_sub_cancel_left]
          simp
        rw [e8, List.take_append_of_le_length (by rw [htl]; exact Nat.le_refl _), List.take_of_length_le (by rw [htl]; exact Nat.le_refl _)]
      have hxs : (⟨(l.take n).toArray⟩ : ByteArray).size = n := by
        show (l.take n).toArray.size = n
        rw [List.size_toArray, htl]
      refine Ok.succ ?_
      simp only [impl_BlocksGet.l0]
      rw [E3.out, E4.out, E5.out, E6.out, Int.toNat_natCast, Int.toNat_natCast, ex, hxs]
      refine Ok.yes k1 (Ok.yes k2 (Ok.no k3 (Ok.no k4 (Ok.yes k5 (Ok.yes k6 (Ok.yes k7 (Ok.yes k8 ?_)))))))
      have hpl : (pre ++ UInt8.ofNat n :: l.take n).length = pre.length + 1 + n := by rw [List.length_append, List.length_cons, htl, Nat.add_assoc, Nat.add_comm 1 n]
      have h := ih (l.drop n) (pre ++ UInt8.ofNat n :: l.take n) suf (o ++ ⟨(l.take n).toArray⟩) (by rw [List.length_drop]; exact sub_le_of hl hn1.1) hd2 (by rw [ByteArray.size_append, hxs, hpl]; exact add_le_of ho)
      rw [hpl] at h
      refine h.mono fun r hr => ?_
      rw [hr]
      have ea : (o ++ ⟨(l.take n).toArray⟩ ++ ⟨(l.drop n).toArray⟩ : ByteArray) = o ++ ⟨l.toArray⟩ := by
        apply ByteArray.ext
        simp only [ByteArray.data_append]
        apply Array.toList_inj.mp
        simp
      rw [ea, List.length_cons, List.length_append, htl, len_of]
theorem back_ok (s : ByteArray) (hs : s.size ≤ 5000) : Ok (fun k => impl_BlocksGet.f k ((⟨#[97, 104, 101, 97, 100]⟩ : ByteArray) ++ cutv s ++ (⟨#[98, 101, 104, 105, 110, 100]⟩ : ByteArray)) 5) (· = (s, ((5 + (cutv s).size : Nat) : Int), true)) := by
  have hc := cutv_size s hs
  have hl : s.data.toList.length = s.size := by simp
  obtain ⟨T, hT⟩ : ∃ T, T = (⟨#[97, 104, 101, 97, 100]⟩ : ByteArray) ++ cutv s ++ (⟨#[98, 101, 104, 105, 110, 100]⟩ : ByteArray) := ⟨_, rfl⟩
  have hsz : T.size = 5 + (cutv s).size + 6 := by rw [hT, ByteArray.size_append, ByteArray.size_append]; rfl
  have hd : T.data.toList = [97, 104, 101, 97, 100] ++ (blks s.size s.data.toList ++ 0 :: [98, 101, 104, 105, 110, 100]) := by
    rw [hT]
    simp only [ByteArray.data_append, Array.toList_append]
    have e : (cutv s).data.toList = blks s.size s.data.toList ++ [0] := by unfold cutv; rw [if_neg (by omega)]
    rw [e]
    simp
  rw [← hT]
  have h := back_run T (by omega) s.size s.data.toList [97, 104, 101, 97, 100] [98, 101, 104, 105, 110, 100] (⟨#[]⟩ : ByteArray) (Nat.le_of_eq hl) hd (Nat.zero_le _)
  unfold impl_BlocksGet.f
  refine Ok.no (by omega) ?_
  rw [decide_eq_false (show ¬ (5 : Int) < 0 by decide)]
  refine Ok.succ ?_
  simp only [impl_BlocksGet.j0]
  refine Ok.no (by simp) (h.mono fun r hr => ?_)
  rw [hr, blks_len s.size _ (Nat.le_of_eq hl), hl, hc]
  have e : (⟨#[]⟩ ++ ⟨s.data.toList.toArray⟩ : ByteArray) = s := by rw [empty_left]
  rw [e]
  congr 2
/-! ### what is drawn -/
theorem rd4 {v : Int} (h : 0 ≤ v ∧ v < 4) : 0 ≤ rd [254, 255, 256, 511] v ∧ rd [254, 255, 256, 511] v ≤ 511 := by
  have hv : v = 0 ∨ v = 1 ∨ v = 2 ∨ v = 3 := by omega
  rcases hv with rfl | rfl | rfl | rfl <;> decide
theorem drawPut_ok (l : List Int) (hl : ∀ x ∈ l, 0 ≤ x ∧ x ≤ 255) : Ok (fun k => spec_DrawBlocksPut.f k l) (fun _ => True) := by
  unfold spec_DrawBlocksPut.f
  refine (open_ok l).bind fun a ha => ?_
  obtain ⟨b, p⟩ := a
  obtain ⟨e1, e2⟩ := ha
  simp only at e1 e2
  subst e2
  have hb : ∀ x ∈ b, 0 ≤ x ∧ x ≤ 255 := by subst e1; exact byte_take hl 2000
  clear e1
  refine (pick_at b hb 0 6 ⟨by omega, by omega⟩ ⟨by omega, by omega⟩).bind fun x hx => ?_
  obtain ⟨v, q⟩ := x
  obtain ⟨hv, rfl⟩ := hx
  refine Ok.ite (fun h1 => ?_) (fun h1 => ?_)
  · refine Ok.binds rfl ?_
    refine (pick_at b hb (0 + 1) 4 ⟨by omega, by omega⟩ ⟨by omega, by omega⟩).bind fun x hx => ?_
    obtain ⟨v2, q2⟩ := x
    obtain ⟨hv2, rfl⟩ := hx
    refine Ok.yes hv2.1 (Ok.yes hv2.2 ?_)
    have h4 := rd4 hv2
    refine (many_ok (⟨#[98]⟩ : ByteArray) _ (by decide) (by simp only at h4 ⊢; omega)).bind fun u hu => Ok.now _ trivial
  · exact (text_ok b hb (0 + 1) ⟨by omega, by omega⟩).bind fun x hx => Ok.now _ trivial
theorem bend_ok (b : List Int) (hb : ∀ x ∈ b, 0 ≤ x ∧ x ≤ 255) (p : Int) (hp : 0 ≤ p ∧ p ≤ 1000000) (s : ByteArray) (hs : s.size ≤ 100000) : Ok (fun k => spec_l14Bend.f k b p s) (fun _ => True) := by
  unfold spec_l14Bend.f
  refine Ok.ite (fun h => Ok.now _ trivial) (fun h => ?_)
  have h1 : 1 ≤ (s.size : Int) := by
    by_cases hz : s.size = 0
    · exact absurd ((Go.Proofs.Ytjcamejbdcaokaa.Lib.text_nil s).2 hz) h
    · omega
  refine (pick_at b hb p (s.size : Int) ⟨hp.1, by omega⟩ ⟨h1, by omega⟩).bind fun x hx => ?_
  obtain ⟨v, q⟩ := x
  obtain ⟨hv, rfl⟩ := hx
  refine Ok.yes hv.1 (Ok.yes hv.2 ?_)
  exact (pick_at b hb (p + 1) 255 ⟨by omega, by omega⟩ ⟨by omega, by omega⟩).bind fun x hx => Ok.now _ trivial
theorem drawGet_ok (l : List Int) (hl : ∀ x ∈ l, 0 ≤ x ∧ x ≤ 255) : Ok (fun k => spec_DrawBlocksGet.f k l) (fun _ => True) := by
  unfold spec_DrawBlocksGet.f
  refine (open_ok l).bind fun a ha => ?_
  obtain ⟨b, p⟩ := a
  obtain ⟨e1, e2⟩ := ha
  simp only at e1 e2
  subst e2
  have hb : ∀ x ∈ b, 0 ≤ x ∧ x ≤ 255 := by subst e1; exact byte_take hl 2000
  clear e1
  refine (drawPut_ok l hl).bind fun t _ => ?_
  refine (sput_ok t).bind fun s hs => ?_
  have hsz : s.size ≤ 6000 := by rw [hs]; exact cutv_le t
  refine (pick_at b hb 0 4 ⟨by omega, by omega⟩ ⟨by omega, by omega⟩).bind fun x hx => ?_
  obtain ⟨v, q⟩ := x
  obtain ⟨hv, rfl⟩ := hx
  have e3 : wrap64 ((s.size : Int) + 1) = (s.size : Int) + 1 := w64 (by omega) (by omega)
  rw [e3]
  refine Ok.ite (fun h1 => ?_) (fun h1 => Ok.ite (fun h2 => ?_) (fun h2 => Ok.ite (fun h3 => ?_) (fun h3 => Ok.now _ trivial)))
  · exact (bend_ok b hb (0 + 1) ⟨by omega, by omega⟩ s (by omega)).bind fun x hx => Ok.now _ trivial
  · refine (pick_at b hb (0 + 1) ((s.size : Int) + 1) ⟨by omega, by omega⟩ ⟨by omega, by omega⟩).bind fun x hx => ?_
    obtain ⟨v2, q2⟩ := x
    obtain ⟨hv2, rfl⟩ := hx
    simp only at hv2 ⊢
    refine Ok.yes hv2.1 (Ok.yes (by omega) ?_)
    exact (pick_at b hb (0 + 1 + 1) 4 ⟨by omega, by omega⟩ ⟨by omega, by omega⟩).bind fun x hx => Ok.now _ trivial
  · refine Ok.yes (by omega) (Ok.yes ?_ (Ok.now _ trivial))
    rw [ByteArray.size_append, show (⟨#[120, 120]⟩ : ByteArray).size = 2 from rfl]
    omega
theorem FnBlocks : laws_FnBlocks.Pure := by
  intro l0 l1 h1 h2 hw h3 h4 hw1
  have hl := byte_wf hw
  have hl1 := byte_wf hw1
  unfold laws_FnBlocks.f
  apply Ok.rounds
  have main : ∀ c : Bool, Ok (fun k => laws_FnBlocks.j0 k l0 l1 c) (· = true) := fun c => by
    refine Ok.succ ?_
    simp only [laws_FnBlocks.j0]
    refine Ok.ite (fun h => Ok.now _ rfl) (fun h => ?_)
    refine (drawPut_ok l0 hl).bind fun t _ => ?_
    refine Ok.binds (iput_eq t) ?_
    refine (drawGet_ok l1 hl1).bind fun a _ => ?_
    obtain ⟨s, i⟩ := a
    simp only
    obtain ⟨r, g1, g2⟩ := get_both s i
    refine g1.bind fun x hx => ?_
    subst hx
    refine g2.bind fun y hy => ?_
    subst hy
    refine (sput_ok t).bind fun z hz => ?_
    subst hz
    refine Ok.yes rfl (Ok.yes rfl (Ok.yes rfl (Ok.succ ?_)))
    simp only [laws_FnBlocks.j1]
    refine Ok.no (by simp) ?_
    refine Ok.ite (fun h5 => Ok.now _ ?_) (fun h5 => ?_)
    · have e : cutv t = ⟨#[]⟩ := by unfold cutv; rw [if_pos h5]
      rw [e, (Go.Proofs.Ytjcamejbdcaokaa.Lib.text_nil (⟨#[]⟩ : ByteArray)).2 rfl]
      rfl
    · have hc := cutv_size t (by omega)
      have hsz : ((⟨#[97, 104, 101, 97, 100]⟩ : ByteArray) ++ cutv t).size = 5 + (cutv t).size := by rw [ByteArray.size_append]; rfl
      refine Ok.yes (by omega) (Ok.yes (by rw [hsz]; omega) ?_)
      refine (back_ok t (by omega)).bind fun x hx => ?_
      subst hx
      refine Ok.yes rfl (Ok.yes rfl (Ok.yes ?_ (Ok.now _ ?_)))
      · rw [w64 (by omega) (by omega)]; simp
      · have e1 : wrap64 ((t.size : Int) + 254) = ((t.size + 254 : Nat) : Int) := by rw [w64 (by omega) (by omega)] <;> omega
        have e2 : Int.tdiv ((t.size + 254 : Nat) : Int) 255 = (((t.size + 254) / 255 : Nat) : Int) := by rw [tdiv_nn (by omega)]; rfl
        rw [e1, e2, w64 (x := (((t.size + 254) / 255 : Nat) : Int)) (by omega) (by omega), w64 (x := (t.size : Int) + (((t.size + 254) / 255 : Nat) : Int)) (by omega) (by omega), w64 (by omega) (by omega), hc]
        rw [beq_iff_eq]
        omega
  exact Ok.ite (fun _ => main _) (fun _ => main _)
end Go.Proofs.Ytjcamejbdcaokaa.Pure
