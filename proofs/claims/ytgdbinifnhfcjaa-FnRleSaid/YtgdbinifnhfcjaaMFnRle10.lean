/- Texts of one law put together (wip/merge2.py). -/
import Derived.Test.YtgdbinifnhfcjaaMFnRle0
import Derived.Test.YtgdbinifnhfcjaaWWords
import Derived.Test.YtgdbinifnhfcjaaWMore
-- Written by a program of this session (wip/myprint.py) through the print of the kit: not trusted, Lean checks it.
namespace Go.Proofs.Ytgdbinifnhfcjaa.P
open Go.RowKit Go.Proofs.YtgdbinifnhfcjaaW.PrintWords Go.Proofs.YtgdbinifnhfcjaaW.PrintLast Go.Proofs.YtgdbinifnhfcjaaW.PrintMore
attribute [local go_sem] max2_int min2_int max_two min_two max_three min_three max_four min_four   -- for this text's walks alone
set_option linter.unusedVariables false
set_option linter.unusedSimpArgs false

/-! ### laws_markIntS: function 48 -/
def laws_markIntS.l0 : Nat → List Int → Int → Int → Option (Int × List Int)
  | 0, _, _, _ => none
  | k + 1, x0, x1, x5 => if x5 < (x0.length : Int) then (if 0 ≤ x5 then (laws_markIntS.l0 k (x0.set (x5 : Int).toNat x1) (wrap64 (x1 + 1)) (wrap64 (x5 + 1))) else (none)) else (some (x1, x0))
def laws_markIntS.f (k : Nat) (l0 : List Int) (a1 : Int) : Option (Int × List Int) := laws_markIntS.l0 k l0 a1 0
theorem laws_markIntS.mono_l : ∀ k, (∀ y0 y1 y2, LeO (laws_markIntS.l0 k y0 y1 y2) (laws_markIntS.l0 (k + 1) y0 y1 y2))
  | 0 => fun _ _ _ r h => by simp [laws_markIntS.l0] at h
  | k + 1 => by
    have ih0 := laws_markIntS.mono_l k
    · intro y0 y1 y2
      unfold laws_markIntS.l0
      repeat' first
      | (with_reducible exact ih0 _ _ _)
      | (with_reducible exact LeO.refl _)
      | (with_reducible exact LeO.none _)
      | (with_reducible refine LeO.ite ?_ ?_)
      | (with_reducible refine LeO.bind ?_ (fun _ => ?_))
      | exact ih0 _ _ _
      | exact LeO.none _
      | refine LeO.ite ?_ ?_
      | refine LeO.bind ?_ (fun _ => ?_)
theorem laws_markIntS.mono : ∀ a0 a1 k, LeO (laws_markIntS.f k a0 a1) (laws_markIntS.f (k + 1) a0 a1) := by
  intro a0 a1 k
  have ih0 := laws_markIntS.mono_l k
  unfold laws_markIntS.f
  repeat' first
      | (with_reducible exact ih0 _ _ _)
      | (with_reducible exact LeO.refl _)
      | (with_reducible exact LeO.none _)
      | (with_reducible refine LeO.ite ?_ ?_)
      | (with_reducible refine LeO.bind ?_ (fun _ => ?_))
      | exact ih0 _ _ _
      | exact LeO.none _
      | refine LeO.ite ?_ ?_
      | refine LeO.bind ?_ (fun _ => ?_)
set_option maxHeartbeats 8000000 in
set_option maxRecDepth 100000 in
theorem laws_markIntS.calls (k : Nat) (P0_ : Nat → Prop) (u9000_ : Value) (l0 : List Int) (a1 : Int) (r1 : Int) (r2 : List Int) (w0 w : World) (hB : Below w0.heap.size w0 w) (ho0 : Kd.R (Kd.int .i64) 3 w w0.heap.size P0_ u9000_ l0) (h : laws_markIntS.f k l0 a1 = some (r1, r2)) :
    Calls Try.prog 48 #[u9000_, .int .i64 a1] w fun e w' => e = .returned (.int .i64 r1) ∧ Kd.R (Kd.int .i64) 3 w' w0.heap.size (fun k_ => (P0_ k_ ∨ w.heap.size ≤ k_)) u9000_ r2 ∧ Below w0.heap.size w0 w' ∧ Kept w w' (fun k_ => P0_ k_) := by
  have HO0 := Aside0.mk (show Kd.R (Kd.int .i64) 3 w w0.heap.size (fun k_ => (P0_ k_ ∨ w.heap.size ≤ k_)) u9000_ l0 from Kd.R_mono ho0 (fun k_ hk => (.inl hk)))
  have HK := Aside0.mk (Kept.refl w (fun k_ => P0_ k_))
  have HW0 := Aside0.mk hB.size
  have HB := Aside0.mk hB
  clear hB
  have H : (laws_markIntS.l0 k l0 a1 0) = some (r1, r2) := h
  clear h
  have H' := Aside0.mk H
  clear H
  go_enter Try.func48, Try.ntmps48
  go_wp2
  go_loopg [1, 5] k (fun kq v1 v5 w' => ∃ (x0_1 : List Int) (x1_1 : Int) (x5_1 : Int), v1 = .int .i64 x1_1 ∧ v5 = .int .i64 x5_1 ∧ Aside0 (laws_markIntS.l0 kq x0_1 x1_1 x5_1 = some (r1, r2)) ∧ Aside0 (kq ≤ k) ∧ Aside0 (Kd.R (Kd.int .i64) 3 w' w0.heap.size (fun k_ => (P0_ k_ ∨ w.heap.size ≤ k_)) u9000_ x0_1) ∧ Aside0 (Kept w w' (fun k_ => P0_ k_)) ∧ Aside0 (Below w0.heap.size w0 w'))
  case atStart => exact ⟨(l0), (a1), (0), (by first | rfl | (simp; done) | (simp [*]; done)), (by first | rfl | (simp; done) | (simp [*]; done)), H', ⟨Nat.le_refl _⟩, ⟨by (with_reducible repeat (first | apply Kd.R_alloc | apply Kd.R_drewN | apply Kd.R_drew)); exact HO0.out⟩, ⟨by repeat (first | (with_reducible first | exact HK.out | apply Kept.alloc | apply Kept.drewN | apply Kept.drew) | exact HK.out)⟩, ⟨by repeat (first | (with_reducible first | exact HB.out | apply below_alloc | apply pw_below_drewN | apply below_drew1) | exact HB.out)⟩⟩
  case round =>
    clear H'
    try clear p2
    obtain ⟨x0_1, x1_1, x5_1, rfl, rfl, HA, HK1, HO_0, HK, HB⟩ := hrel
    cases gk with
    | zero => exact absurd HA.out (by simp [laws_markIntS.l0])
    | succ k1 =>
      have H := HA.out
      clear HA
      simp only [laws_markIntS.l0] at H
      by_cases c3 : x5_1 < (x0_1.length : Int)
      · rw [if_pos c3] at H
        have c3b0 : decide (x5_1 < (x0_1.length : Int)) = true := decide_eq_true c3
        clear c3
        by_cases c4 : 0 ≤ x5_1
        · rw [if_pos c4] at H
          have c4b0 : decide (0 ≤ x5_1) = true := decide_eq_true c4
          clear c4
          obtain ⟨y168, hy168⟩ : ∃ y_ : List Int, y_ = (x0_1.set (x5_1 : Int).toNat x1_1) := ⟨_, rfl⟩
          replace H : (laws_markIntS.l0 k1 y168 (wrap64 (x1_1 + 1)) (wrap64 (x5_1 + 1))) = some (r1, r2) := by first | (rw [hy168]; with_reducible exact H) | (have H2_ := (Option.bind_some _ _).symm.trans H; rw [hy168]; with_reducible exact H2_) | (have H2_ := (Option.bind_some _ _).symm.trans H; with_reducible exact H2_) | with_reducible exact H | (rw [hy168]; exact H) | exact H
          have Ny168 := Aside0.mk hy168
          clear hy168
          have H' := Aside0.mk H
          clear H
          obtain ⟨Ao6, co6, eo6⟩ := Kd.R_slice HO_0.out
          subst eo6
          have p5 : 0 ≤ (x5_1 : Int) := of_decide_eq_true (by first | (with_reducible assumption) | assumption)
          have q5 : (x5_1 : Int) < ((x0_1.length : Int) : Int) := of_decide_eq_true (by first | (with_reducible assumption) | assumption)
          obtain ⟨go5, co5, eo5, gb5, gl5, cl5, HG5⟩ := Kd.R_form HO_0.out (by omega)
          (first | cases eo5 | (injection eo5 with ea_ en_ ec_; (first | subst ea_ | (injection ea_ with ea_; subst ea_)); subst ec_; clear en_))
          have GB5 := Aside0.mk gb5
          have GG5 := Aside0.mk HG5
          clear gb5 gl5 HG5
          have HMgo5 := Aside0.mk (show (P0_ go5 ∨ w.heap.size ≤ go5) from (HO_0.out.1 _ rfl))
          obtain ⟨hx5_0, hf5_0⟩ := Kd.R_celln 0 HO_0.out (x5_1 : Int) p5 q5
          replace p5 := eq_true p5
          replace q5 := eq_true q5
          have HP7 := Kd.R_putg HO_0.out (x5_1 : Int) x1_1
          go_wp2_with (first | ((with_reducible refine gate_store (t := 3) (p := 15) rfl ?_); refine store_event (t := 3) (p := 15) (v := ?vo_w8) (w1 := (wr.setCell ⟨go5, (x5_1 : Int).toNat, none⟩ (.int .i64 x1_1))) ?hg ?ho ?hn ?hr ?_; (case ho => rfl); (case hg => rfl); (case hn => rfl); (case hr => first | (go_simp; done) | (go_simp; rfl)); intro w8 hw; have hg : wr.grownBy w8 (some go5) := (by rw [hw]; exact HP7.2); have hp_ : Kd.R (Kd.int .i64) 3 w8 w0.heap.size (fun k_ => (P0_ k_ ∨ w.heap.size ≤ k_)) (.slice (some ⟨go5, 0, none⟩) x0_1.length co6) y168 := (by rw [hw, Ny168.out]; exact HP7.1); clear HP7; have n0_ := Aside0.mk (hp_); have n1_ := Aside0.mk ((by rw [hw]; exact below_set (HB.out) GB5.out : Below w0.heap.size w0 w8)); have n2_ := Aside0.mk (Kept.of_grown (S := (fun k_ => P0_ k_)) hg (by repeat (first | (with_reducible first | exact HK.out | apply Kept.alloc | apply Kept.drewN | apply Kept.drew) | exact HK.out)) (fun k_ e_ => (HO_0.out.1 k_ e_))); clear HO_0; clear HB; clear HK; have HO_0 := n0_; have HB := n1_; have HK := n2_; clear n0_ n1_ n2_; clear hg hw hp_))
          go_roundg k1
          case measure => have := HK1.out; omega
          case rel => exact ⟨(y168), (wrap64 (x1_1 + 1)), (wrap64 (x5_1 + 1)), (by first | rfl | (simp; done) | (simp [*]; done)), (by first | rfl | (simp; done) | (simp [*]; done)), H', ⟨by have := HK1.out; omega⟩, ⟨by (with_reducible repeat (first | apply Kd.R_alloc | apply Kd.R_drewN | apply Kd.R_drew)); exact HO_0.out⟩, ⟨by repeat (first | (with_reducible first | exact HK.out | apply Kept.alloc | apply Kept.drewN | apply Kept.drew) | exact HK.out)⟩, ⟨by repeat (first | (with_reducible first | exact HB.out | apply below_alloc | apply pw_below_drewN | apply below_drew1) | exact HB.out)⟩⟩
        · rw [if_neg c4] at H
          exact absurd H (by simp)
      · rw [if_neg c3] at H
        have c3b0 : decide (x5_1 < (x0_1.length : Int)) = false := decide_eq_false c3
        clear c3
        simp only [Option.some.injEq, Prod.mk.injEq] at H
        obtain ⟨rfl, rfl⟩ := H
        obtain ⟨Ao9, co9, eo9⟩ := Kd.R_slice HO_0.out
        subst eo9
        go_wp2
        go_ret
        exact ⟨by first | rfl | (simp [errW_none, errW_some] <;> rfl) | (simp [*, errW_none, errW_some] <;> rfl), by (with_reducible repeat (first | apply Kd.R_alloc | apply Kd.R_drewN | apply Kd.R_drew)); exact HO_0.out, by repeat (first | (with_reducible first | exact HB.out | apply below_alloc | apply pw_below_drewN | apply below_drew1) | exact HB.out), by repeat (first | (with_reducible first | exact HK.out | apply Kept.alloc | apply Kept.drewN | apply Kept.drew) | exact HK.out)⟩

end Go.Proofs.Ytgdbinifnhfcjaa.P
/- Small words for functions with a number of rounds: 'Ok g P': with enough rounds g answers some r of which P holds. -/
namespace Go.Proofs.Ytgdbinifnhfcjaa.Lib
open Go.RowKit Go.Proofs.YtgdbinifnhfcjaaW.PrintWords Go.Proofs.YtgdbinifnhfcjaaW.PrintLast Go.Proofs.YtgdbinifnhfcjaaW.PrintMore

def Ok {α : Type} (g : Nat → Option α) (P : α → Prop) : Prop := ∃ r, Ev g r ∧ P r
theorem Ok.bind {α β : Type} {g : Nat → Option α} {f : Nat → α → Option β} {P : α → Prop} {Q : β → Prop} (h : Ok g P) (k : ∀ a, P a → Ok (fun n => f n a) Q) : Ok (fun n => (g n).bind (f n)) Q := by
  obtain ⟨a, ha, pa⟩ := h
  obtain ⟨b, hb, qb⟩ := k a pa
  exact ⟨b, Ev.bind ha hb, qb⟩
theorem Ok.now {α : Type} {P : α → Prop} (r : α) (h : P r) : Ok (fun _ => some r) P := ⟨r, Ev.now r, h⟩
theorem Ok.step {α : Type} {g f : Nat → Option α} {P : α → Prop} (h : ∀ k, g (k + 1) = f k) (k : Ok f P) : Ok g P := by
  obtain ⟨r, hr, pr⟩ := k
  exact ⟨r, Ev.step h hr, pr⟩
theorem Ok.succ {α : Type} {g : Nat → Option α} {P : α → Prop} (k : Ok (fun n => g (n + 1)) P) : Ok g P := Ok.step (fun _ => rfl) k
theorem Ok.congr {α : Type} {g f : Nat → Option α} {P : α → Prop} (h : ∀ k, g k = f k) (k : Ok f P) : Ok g P := by
  obtain ⟨r, hr, pr⟩ := k
  exact ⟨r, Ev.congr h hr, pr⟩
theorem Ok.mono {α : Type} {g : Nat → Option α} {P Q : α → Prop} (h : Ok g P) (k : ∀ r, P r → Q r) : Ok g Q := by
  obtain ⟨r, hr, pr⟩ := h
  exact ⟨r, hr, k r pr⟩
theorem Ok.yes {α : Type} {g f : Nat → Option α} {c : Prop} [Decidable c] {P : α → Prop} (hc : c) (h : Ok g P) : Ok (fun n => if c then g n else f n) P := by
  simp only [if_pos hc]; exact h
theorem Ok.no {α : Type} {g f : Nat → Option α} {c : Prop} [Decidable c] {P : α → Prop} (hc : ¬ c) (h : Ok f P) : Ok (fun n => if c then g n else f n) P := by
  simp only [if_neg hc]; exact h
theorem Ok.ite {α : Type} {g f : Nat → Option α} {c : Prop} [Decidable c] {P : α → Prop} (h : c → Ok g P) (k : ¬ c → Ok f P) : Ok (fun n => if c then g n else f n) P := by
  by_cases hc : c
  · exact Ok.yes hc (h hc)
  · exact Ok.no hc (k hc)
theorem Ok.ev {α : Type} {g : Nat → Option α} {r : α} (h : Ok g (· = r)) : Ev g r := by
  obtain ⟨_, hr, rfl⟩ := h
  exact hr
theorem Ok.of_ev {α : Type} {g : Nat → Option α} {r : α} {P : α → Prop} (h : Ev g r) (hp : P r) : Ok g P := ⟨r, h, hp⟩
theorem Ok.rounds {α : Type} {g : Nat → Option α} {r : α} (h : Ok g (· = r)) : ∃ k, g k = some r := h.ev.rounds
theorem Ok.const {α : Type} {o : Option α} {P : α → Prop} {r : α} (h : o = some r) (hp : P r) : Ok (fun _ => o) P := by
  subst h; exact Ok.now r hp
theorem Ok.binds {α β : Type} {o : Option α} {f : Nat → α → Option β} {Q : β → Prop} {a : α} (h : o = some a) (k : Ok (fun n => f n a) Q) : Ok (fun n => o.bind (f n)) Q := by
  subst h; exact k

theorem w64 {x : Int} (h : -9223372036854775808 ≤ x) (h' : x ≤ 9223372036854775807) : wrap64 x = x := by unfold wrap64; omega
theorem tmod_nn {x n : Int} (h : 0 ≤ x) : Int.tmod x n = x % n := Int.tmod_eq_emod_of_nonneg h
theorem tdiv_nn {x n : Int} (h : 0 ≤ x) : Int.tdiv x n = x / n := Int.tdiv_eq_ediv_of_nonneg h
theorem rd_mem {b : List Int} {i : Int} (h0 : 0 ≤ i) (h1 : i < b.length) : rd b i ∈ b := by
  unfold rd
  have h : i.toNat < b.length := by omega
  rw [List.getD_eq_getElem?_getD, List.getElem?_eq_getElem h]
  exact List.getElem_mem h

/-! exclusive or of numbers that are not below 0 -/
theorem ofInt_i64 (a : Nat) (ha : a < 9223372036854775808) : (BitVec.ofInt 64 (a : Int)).toNat = a := by
  rw [BitVec.ofInt_natCast, BitVec.toNat_ofNat]; exact Nat.mod_eq_of_lt (by omega)
theorem i64_xor_nat (a b : Nat) (ha : a < 9223372036854775808) (hb : b < 9223372036854775808) : bits .xor .i64 (a : Int) (b : Int) = ((a ^^^ b : Nat) : Int) := by
  have hx : a ^^^ b < 2 ^ 63 := Nat.xor_lt_two_pow (by omega) (by omega)
  show IntKind.i64.wrap ((BitVec.ofInt 64 (a : Int) ^^^ BitVec.ofInt 64 (b : Int)).toNat : Int) = _
  rw [BitVec.toNat_xor, ofInt_i64 a ha, ofInt_i64 b hb, IntKind.wrap_i64]
  omega
theorem xor_nonneg {x y : Int} (hx : 0 ≤ x) (hx' : x ≤ 9223372036854775807) (hy : 0 ≤ y) (hy' : y ≤ 9223372036854775807) : 0 ≤ bits .xor .i64 x y ∧ bits .xor .i64 x y ≤ 9223372036854775807 := by
  obtain ⟨a, rfl⟩ := Int.eq_ofNat_of_zero_le hx
  obtain ⟨b, rfl⟩ := Int.eq_ofNat_of_zero_le hy
  rw [i64_xor_nat a b (by omega) (by omega)]
  have h : a ^^^ b < 2 ^ 63 := Nat.xor_lt_two_pow (by omega) (by omega)
  omega

/-! texts and lists of bytes -/
theorem size_empty : (⟨#[]⟩ : ByteArray).size = 0 := rfl
theorem text_nil (s : ByteArray) : s.toList = ([] : List UInt8) ↔ s.size = 0 := by
  rw [ByteArray.toList_eq]
  constructor
  · intro h
    have := congrArg List.length h
    simpa using this
  · intro h
    apply List.eq_nil_of_length_eq_zero
    simpa using h
theorem strOfNums_at (xs : List Int) (i : Nat) (h : i < xs.length) (h0 : 0 ≤ xs[i]) (h1 : xs[i] ≤ 255) : bt (strOfNums xs) (i : Int) = xs[i] := by
  unfold bt
  have hs : (i : Int).toNat < (strOfNums xs).size := by rw [strOfNums_size]; simpa using h
  rw [dif_pos hs]
  have e : (strOfNums xs)[(i : Int).toNat]'hs = UInt8.ofNat (xs[i]).toNat := by
    show (xs.map fun n => UInt8.ofNat n.toNat).toArray[(i : Int).toNat]'(by simpa using h) = _
    simp
  rw [e, UInt8.toNat_ofNat']
  omega
theorem strOfNums_self (s : ByteArray) : strOfNums ((List.range s.size).map fun (i : Nat) => bt s (i : Int)) = s := by
  apply ByteArray.ext
  unfold strOfNums
  apply Array.ext
  · simp
  · intro i h1 h2
    have hs : i < s.size := h2
    have e : bt s (i : Int) = ((s[i]'hs).toNat : Int) := by
      unfold bt
      have : (i : Int).toNat < s.size := by simpa using hs
      rw [dif_pos this]
      simp
    simp only [List.getElem_toArray, List.getElem_map, List.getElem_range, e]
    simp
    rfl
theorem bt_nat (s : ByteArray) (i : Nat) (h : i < s.size) : bt s (i : Int) = ((s[i]'h).toNat : Int) := by
  unfold bt
  have : (i : Int).toNat < s.size := by simpa using h
  rw [dif_pos this]
  simp
end Go.Proofs.Ytgdbinifnhfcjaa.Lib
