-- Written by a program of this session (wip/myprint.py) through the print of the kit: not trusted, Lean checks it.
import Derived.Test.YteikopjhekhchaaF00
namespace Go.Proofs.Yteikopjhekhchaa.P
open Go.RowKit Go.Proofs.YteikopjhekhchaaW.PrintWords Go.Proofs.YteikopjhekhchaaW.PrintLast Go.Proofs.YteikopjhekhchaaW.PrintMore
attribute [local go_sem] max2_int min2_int max_two min_two max_three min_three max_four min_four   -- for this text's walks alone
set_option linter.unusedVariables false
set_option linter.unusedSimpArgs false

/-! ### impl_packer_bit: function 92 -/
/-- A packer at block g: its bytes, the next bit's place, and which bits come first. -/
def IsPk (w0 w : World) (g : Nat) (xs : List Int) (pos : Int) (high : Bool) : Prop :=
  ∃ v : Value, w.heap[g]? = some (.cells #[v, .int .i64 pos, .bool high] 88 (0, 0)) ∧ w.ownsRow w0.heap.size 5 1 v xs.length (nums .u8 xs) ∧ w0.heap.size ≤ g
/-- The place within its byte of bit number pos. -/
def pkPlace (pos : Int) (high : Bool) : Int := if high = true then 7 - pos % 8 else pos % 8
/-- What a bit makes of the bytes. -/
def pkOr (xs : List Int) (pos b : Int) (high : Bool) : List Int := xs.set (xs.length - 1) (bits .or .u8 (xs.getD (xs.length - 1) 0) (wrap64 (b * 2 ^ (pkPlace pos high).toNat) % 256))
def pkStep (xs : List Int) (pos b : Int) (high : Bool) : List Int := if pos % 8 = 0 then pkOr (xs ++ [0]) pos b high else pkOr xs pos b high
theorem IsPk.drew {w0 w : World} {g : Nat} {xs : List Int} {pos : Int} {high : Bool} (h : IsPk w0 w g xs pos high) : IsPk w0 w.drew g xs pos high := h
theorem IsPk.drewN {w0 w : World} {g : Nat} {xs : List Int} {pos : Int} {high : Bool} (h : IsPk w0 w g xs pos high) (n : Nat) : IsPk w0 (w.drewN n) g xs pos high := h
theorem IsPk.lt {w0 w : World} {g : Nat} {xs : List Int} {pos : Int} {high : Bool} (h : IsPk w0 w g xs pos high) : g < w.heap.size := by
  obtain ⟨v, hb, _⟩ := h
  exact blk_lt hb
theorem IsPk.alloc {w0 w : World} {g : Nat} {xs : List Int} {pos : Int} {high : Bool} (h : IsPk w0 w g xs pos high) (o : Obj) : IsPk w0 (w.alloc o) g xs pos high := by
  obtain ⟨v, hb, ho, hg⟩ := h
  exact ⟨v, blk_alloc hb o, ho.alloc o, hg⟩
theorem IsPk.below {w0 w w1 : World} {g : Nat} {xs : List Int} {pos : Int} {high : Bool} (h : IsPk w0 w g xs pos high) (hb1 : Below w.heap.size w w1) : IsPk w0 w1 g xs pos high := by
  obtain ⟨v, hb, ho, hg⟩ := h
  exact ⟨v, blk_below hb hb1, pw_own_below ho hb1, hg⟩
theorem IsPk.new (w0 w : World) (high : Bool) (h : w0.heap.size ≤ w.heap.size) : IsPk w0 (w.alloc (.cells #[.slice none 0 0, .int .i64 0, .bool high] 88)) w.heap.size [] 0 high :=
  ⟨.slice none 0 0, blk_new w _, own_nil _ _ _ _, h⟩
theorem grown_of_set (w : World) (g i : Nat) (u : Value) : w.grownBy (w.setCell ⟨g, i, none⟩ u) (some g) :=
  ⟨rfl, rfl, rfl, by simp, fun k _ hk => heap_setCell_other w ⟨g, i, none⟩ k u (fun e => hk (by simp [e]))⟩
/-- The store of a byte and of the place. -/
theorem IsPk.put_ {w0 w : World} {g : Nat} {xs : List Int} {pos : Int} {high : Bool} {q cap : Nat} (hb : w.heap[g]? = some (.cells #[.slice (some ⟨q, 0, none⟩) xs.length cap, .int .i64 pos, .bool high] 88 (0, 0)))
    (ho : w.ownsRow w0.heap.size 5 1 (.slice (some ⟨q, 0, none⟩) xs.length cap) xs.length (nums .u8 xs)) (hg : w0.heap.size ≤ g) (hne : g ≠ q) (j : Nat) (y pos' : Int) :
    IsPk w0 ((w.setCell ⟨q, j, none⟩ (.int .u8 y)).setCell ⟨g, 1, none⟩ (.int .i64 pos')) g (xs.set j y) pos' high := by
  obtain ⟨h1, h2⟩ := ho.stored j (.int .u8 y)
  have hb1 := blk_far hb (p := ⟨q, j, none⟩) hne (.int .u8 y)
  have hb2 := blk_put hb1 1 (.int .i64 pos') (cs' := #[.slice (some ⟨q, 0, none⟩) xs.length cap, .int .i64 pos', .bool high]) rfl
  refine ⟨_, hb2, ?_, hg⟩
  have e : (nums .u8 xs).set j (.int .u8 y) = nums .u8 (xs.set j y) := by unfold nums; rw [List.map_set]
  rw [List.length_set, ← e]
  exact h1.kept (grown_of_set _ g 1 _) (.inr (by simp [Value.ownBlock]; exact fun h => hne h.symm))
set_option maxHeartbeats 1000000 in
set_option maxRecDepth 100000 in
theorem impl_packer_bit.more (g q n cap : Nat) (pos b x : Int) (high : Bool) (w : World) (hn : 0 < n) (hn2 : n ≤ 1099511627776) (h0 : 0 ≤ pos) (h1 : pos ≤ 1099511627776) (hpl : ((pos % 8) == 0) = false)
    (hc0 : w.cell? ⟨g, 0, none⟩ = some (.slice (some ⟨q, 0, none⟩) n cap)) (hc1 : w.cell? ⟨g, 1, none⟩ = some (.int .i64 pos)) (hc2 : w.cell? ⟨g, 2, none⟩ = some (.bool high))
    (hf1 : w.frozen? ⟨g, 1, none⟩ = false) (hx : w.cell? ⟨q, n - 1, none⟩ = some (.int .u8 x)) (hfx : w.frozen? ⟨q, n - 1, none⟩ = false) (hne : q ≠ g) :
    Calls Try.prog 92 #[.pointer (some ⟨g, 0, none⟩), .int .i64 b] w fun e w' => e = .returned (.tuple #[]) ∧ w' = (((w.setCell ⟨q, n - 1, none⟩ (.int .u8 (bits .or .u8 x (wrap64 (b * 2 ^ (pkPlace pos high).toNat) % 256)))).setCell ⟨g, 1, none⟩ (.int .i64 (pos + 1))).drew) := by
  have hpl' : pkPlace pos high = if high = true then 7 - pos % 8 else pos % 8 := rfl
  cases high with
  | false =>
    rw [if_neg (by simp)] at hpl'
    rw [hpl']
    clear hpl'
    go_enter Try.func92, Try.ntmps92
    go_wp2
    go_region
    all_goals (go_wp2; go_end0; exact ⟨rfl, rfl⟩)
  | true =>
    rw [if_pos rfl] at hpl'
    rw [hpl']
    clear hpl'
    go_enter Try.func92, Try.ntmps92
    go_wp2
    go_region
    all_goals (go_wp2; go_end0; exact ⟨rfl, rfl⟩)
theorem pkOr_eq (xs : List Int) (pos b : Int) (high : Bool) (x : Int) (h : xs.getD (xs.length - 1) 0 = x) : pkOr xs pos b high = xs.set (xs.length - 1) (bits .or .u8 x (wrap64 (b * 2 ^ (pkPlace pos high).toNat) % 256)) := by subst h; rfl
theorem pk_close {w0 w1 : World} {g q cap : Nat} {xs : List Int} {v : Value} {pos b : Int} {high : Bool} {pl : Int} (hb1 : w1.heap[g]? = some (.cells #[v, .int .i64 pos, .bool high] 88 (0, 0)))
    (hn : w1.ownsRow w0.heap.size 5 1 (.slice (some ⟨q, 0, none⟩) (xs.length + 1) cap) (xs.length + 1) (nums .u8 xs ++ [.int .u8 0])) (hg : w0.heap.size ≤ g) (hne : q ≠ g)
    (ho : pkOr (xs ++ [0]) pos b high = (xs ++ [0]).set ((xs ++ [0]).length - 1) (bits .or .u8 0 (wrap64 (b * 2 ^ (pkPlace pos high).toNat) % 256))) (hpl : pl = if high = true then 7 - pos % 8 else pos % 8) :
    IsPk w0 (((w1.setCell ⟨g, 0, none⟩ (.slice (some ⟨q, 0, none⟩) (xs.length + 1) cap)).setCell ⟨q, xs.length, none⟩ (.int .u8 (bits .or .u8 0 (wrap64 (b * 2 ^ pl.toNat) % 256)))).setCell ⟨g, 1, none⟩ (.int .i64 (pos + 1))).drew g (pkOr (xs ++ [0]) pos b high) (pos + 1) high := by
  have e : (xs ++ [0]).length = xs.length + 1 := by simp
  rw [ho, show pkPlace pos high = if high = true then 7 - pos % 8 else pos % 8 from rfl, ← hpl, e, Nat.add_sub_cancel]
  refine IsPk.drew (IsPk.put_ (xs := xs ++ [0]) (pos := pos) (q := q) (cap := cap) ?_ ?_ hg (fun h => hne h.symm) _ _ _)
  · rw [e]
    exact blk_put hb1 0 _ rfl
  · rw [e, nums_append]
    exact own_setCell hn (by simp [Value.ownBlock]; exact fun h => hne h.symm) _
theorem pk_below {w0 w1 : World} {g q : Nat} {i j : Nat} {u v y : Value} (h : Below w0.heap.size w0 w1) (hg : w0.heap.size ≤ g) (hq : w0.heap.size ≤ q) : Below w0.heap.size w0 (((w1.setCell ⟨g, 0, none⟩ u).setCell ⟨q, i, none⟩ v).setCell ⟨g, j, none⟩ y).drew :=
  below_drew (((h.setCell hg u).setCell hq v).setCell hg y)
theorem pk_trans {w0 w1 w : World} {v : Value} {n : Nat} {xs : List Value} {o : Obj} (hb : Below w0.heap.size w0 w) (hg : (w.alloc o).grownBy w1 v.ownBlock) (ho : w.ownsRow w0.heap.size 5 1 v n xs) : Below w0.heap.size w0 w1 :=
  pw_below_grown (hb.alloc hb.size o) v.ownBlock (Nat.le_trans hb.size (by simp)) hg (own_base ho)
set_option maxHeartbeats 1000000 in
set_option maxRecDepth 100000 in
theorem impl_packer_bit.fresh (g : Nat) (v : Value) (xs : List Int) (pos b : Int) (high : Bool) (w0 w : World) (hn2 : xs.length ≤ 1099511627776) (h0 : 0 ≤ pos) (h1 : pos ≤ 1099511627776) (hpl : ((pos % 8) == 0) = true)
    (hb : w.heap[g]? = some (.cells #[v, .int .i64 pos, .bool high] 88 (0, 0))) (ho : w.ownsRow w0.heap.size 5 1 v xs.length (nums .u8 xs)) (hg : w0.heap.size ≤ g) (hB : Below w0.heap.size w0 w) :
    Calls Try.prog 92 #[.pointer (some ⟨g, 0, none⟩), .int .i64 b] w fun e w' => e = .returned (.tuple #[]) ∧ IsPk w0 w' g (pkOr (xs ++ [0]) pos b high) (pos + 1) high ∧ Below w0.heap.size w0 w' := by
  obtain ⟨i0, hi, hz0, hz1, hz2⟩ := info_parts (show (Try.prog.info? 5).map (fun i => (i.zero, i.size, i.bytes)) = some (some (.int .u8 0), 1, 1) by kernel_rfl)
  have HOR := Aside0.mk (pkOr_eq (xs ++ [0]) pos b high 0 (by simp))
  have HB := Aside0.mk hb
  have HO := Aside0.mk ho
  have HG := Aside0.mk hg
  have HBe := Aside0.mk hB
  have gc0 := blk_cell hb 0
  have gc1 := blk_cell hb 1
  have gc2 := blk_cell hb 2
  simp at gc0 gc1 gc2
  have gsz := Aside0.mk hB.size
  clear hb ho hg hB
  cases high
  all_goals
    go_enter Try.func92, Try.ntmps92
    go_wp2_with (at_builtin; refine wpList_append_own _ rfl _ _ 34 rfl w0.heap.size 5 i0 (.int .u8 0) 1 1 Try.underlying34 hi hz0 hz1 hz2 rfl (by decide) v xs.length (nums .u8 xs) rfl (HO.out.alloc _) ⟨w.heap.size, 0, none⟩ 1 1 [.int .u8 0] rfl rfl (by intro j u hj; match j, hj with | 0, hj => simp at hj; subst hj; simp [Addr.add]) (by intro u hu; simp at hu; subst hu; rfl) (by unfold maxLen; omega) (by omega) (by have := gsz.out; simp; omega) ?_; intro v' w1 hown' hgrow _; obtain ⟨q, cap, hv, _, _⟩ := hown'.form (by omega); subst hv; have hb1 := blk_grown (blk_alloc HB.out _) hgrow (own_ne HO.out HB.out (by decide)); have hne := own_ne hown' hb1 (by decide); have hne' : q ≠ g := (fun e => hne (by subst e; rfl)); have d0 := blk_cell hb1 0; have d1 := blk_cell hb1 1; have d2 := blk_cell hb1 2; simp at d0 d1 d2; have f0 := blk_frozen hb1 0; have f1 := blk_frozen hb1 1; have dx := hown'.cellAt xs.length (by omega); have fx := hown'.frozenAt xs.length; have HN := Aside0.mk hown'; have HW := Aside0.mk hgrow; have HB1 := Aside0.mk hb1; simp [nums] at dx; clear hown' hgrow hb1 hne gc0 gc1 gc2)
    go_region
    all_goals (go_wp2; go_end0; exact ⟨rfl, pk_close HB1.out HN.out HG.out hne' HOR.out rfl, pk_below (pk_trans HBe.out HW.out HO.out) HG.out (own_base HN.out q rfl)⟩)
theorem impl_packer_bit.calls (g : Nat) (xs : List Int) (pos b : Int) (high : Bool) (w0 w : World) (hn : pos % 8 = 0 ∨ 0 < xs.length) (hn2 : xs.length ≤ 1099511627776) (h0 : 0 ≤ pos) (h1 : pos ≤ 1099511627776)
    (hI : IsPk w0 w g xs pos high) (hB : Below w0.heap.size w0 w) :
    Calls Try.prog 92 #[.pointer (some ⟨g, 0, none⟩), .int .i64 b] w fun e w' => e = .returned (.tuple #[]) ∧ IsPk w0 w' g (pkStep xs pos b high) (pos + 1) high ∧ Below w0.heap.size w0 w' := by
  obtain ⟨v, hb, ho, hg⟩ := hI
  by_cases hp : pos % 8 = 0
  · rw [show pkStep xs pos b high = pkOr (xs ++ [0]) pos b high by unfold pkStep; rw [if_pos hp]]
    exact impl_packer_bit.fresh g v xs pos b high w0 w hn2 h0 h1 (beq_iff_eq.2 hp) hb ho hg hB
  · rw [show pkStep xs pos b high = pkOr xs pos b high by unfold pkStep; rw [if_neg hp]]
    have hn' : 0 < xs.length := by rcases hn with h | h; exact absurd h hp; exact h
    obtain ⟨q, cap, rfl, hq, _⟩ := ho.form hn'
    have hne := own_ne ho hb (by decide)
    have hne' : q ≠ g := fun e => hne (by subst e; rfl)
    have dx := ho.cellAt (xs.length - 1) (by omega)
    have fx := ho.frozenAt (xs.length - 1)
    have ex : (nums .u8 xs)[xs.length - 1]? = some (.int .u8 (xs.getD (xs.length - 1) 0)) := by
      unfold nums
      rw [List.getElem?_map, List.getD_eq_getElem?_getD, List.getElem?_eq_getElem (by omega)]
      rfl
    refine (impl_packer_bit.more g q xs.length cap pos b (xs.getD (xs.length - 1) 0) high w hn' hn2 h0 h1 (beq_eq_false_iff_ne.2 hp) (blk_cell hb 0) (blk_cell hb 1) (blk_cell hb 2) (blk_frozen hb 1) (dx.trans ex) fx hne').mono ?_
    rintro e w' ⟨rfl, rfl⟩
    exact ⟨rfl, IsPk.drew (IsPk.put_ hb ho hg (fun h => hne' h.symm) _ _ _), below_drew ((hB.setCell hq _).setCell hg _)⟩

end Go.Proofs.Yteikopjhekhchaa.P
