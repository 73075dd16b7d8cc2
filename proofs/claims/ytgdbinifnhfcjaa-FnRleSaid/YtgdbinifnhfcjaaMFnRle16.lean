/- Texts of one law put together (wip/merge2.py). -/
import Derived.Test.YtgdbinifnhfcjaaMFnRle0
import Derived.Test.YtgdbinifnhfcjaaMFnRle14
import Derived.Test.YtgdbinifnhfcjaaMFnRle15
-- Written by a program of this session (wip/myprint.py) through the print of the kit: not trusted, Lean checks it.
namespace Go.Proofs.Ytgdbinifnhfcjaa.P
open Go.RowKit Go.Proofs.YtgdbinifnhfcjaaW.PrintWords Go.Proofs.YtgdbinifnhfcjaaW.PrintLast Go.Proofs.YtgdbinifnhfcjaaW.PrintMore
attribute [local go_sem] max2_int min2_int max_two min_two max_three min_three max_four min_four   -- for this text's walks alone
set_option linter.unusedVariables false
set_option linter.unusedSimpArgs false

/-! ### spec_l14Bend: function 53 -/
def bendAt (s : ByteArray) (v x : Int) : ByteArray := strOfNums ((bytesOf s).set v.toNat (Go.bits .xor .u8 (bt s v) ((wrap64 (1 + x)) % 256)))
def spec_l14Bend.f (k : Nat) (s0_0 : List Int) (s0_1 : Int) (a1 : ByteArray) : Option (ByteArray × Int) :=
  if a1.toList = ([] : List UInt8) then some (a1, s0_1) else ((spec_l1Rd_pick.f k s0_0 s0_1 (a1.size : Int)).bind fun p => (if 0 ≤ p.1 then (if p.1 < (a1.size : Int) then ((spec_l1Rd_pick.f k s0_0 p.2 255).bind fun q => some (bendAt a1 p.1 q.1, q.2)) else none) else none))
theorem spec_l14Bend.mono : ∀ a0 a1 a2 k, LeO (spec_l14Bend.f k a0 a1 a2) (spec_l14Bend.f (k + 1) a0 a1 a2) := by
  intro a0 a1 a2 k
  unfold spec_l14Bend.f
  repeat' first
  | (with_reducible exact spec_l1Rd_pick.mono _ _ _ _)
  | (with_reducible exact LeO.refl _)
  | (with_reducible exact LeO.none _)
  | (with_reducible refine LeO.ite ?_ ?_)
  | (with_reducible refine LeO.bind ?_ (fun _ => ?_))
  | exact spec_l1Rd_pick.mono _ _ _ _
theorem kb_heap {w w' : World} {g b : Nat} {o : Obj} (h : KeepBut w w' g none) (hb : w.heap[b]? = some o) (hne : b ≠ g) : w'.heap[b]? = some o := (h.2 b (blk_lt hb) hne (by simp)).trans hb
theorem fz_cell {w : World} {b : Nat} {cs : Array Value} {t : TypeId} {p : Nat × Nat} (h : w.heap[b]? = some (.cells cs t p)) (j : Nat) : w.cell? ⟨b, j, none⟩ = cs[j]? := by simp [World.cell?, h]
theorem fz_frozen {w : World} {b n m : Nat} {cs : Array Value} {t : TypeId} (h : w.heap[b]? = some (.cells cs t (n, m))) (j : Nat) (hj : j < n) : w.frozen? ⟨b, j, none⟩ = false := by
  simp [World.frozen?, h]
  omega
/-- The row of '[]byte(s)': its bytes first. -/
theorem bytesCells_at (w : World) (e : TypeId) (s : ByteArray) (j : Nat) (hj : j < s.size) : (Lib.bytesCells w e s)[j]? = some (.int .u8 (bt s (j : Int))) := by
  have h1 : (Lib.bytesWorld w e s).cell? ⟨w.heap.size, j, none⟩ = some (.int .u8 (s.data.toList.getD j 0).toNat) := Lib.bytesWorld_cell w e s j hj
  rw [fz_cell (Lib.bytesWorld_at_new w e s)] at h1
  rw [h1]
  congr 2
  unfold bt
  rw [dif_pos (by simpa using hj)]
  simp [List.getD, hj]
  rfl
set_option maxHeartbeats 8000000 in
set_option maxRecDepth 100000 in
theorem spec_l14Bend.calls (k g : Nat) (s0_0 : List Int) (s0_1 : Int) (a1 : ByteArray) (r1 : ByteArray) (r2 : Int) (w0 w : World) (hI : IsS104 w0 w g s0_0 s0_1) (hB : Below w0.heap.size w0 w) (h : spec_l14Bend.f k s0_0 s0_1 a1 = some (r1, r2)) :
    Calls Try.prog 53 #[.pointer (some ⟨g, 0, none⟩), .string a1] w fun e w' => e = .returned (.string r1) ∧ IsS104 w0 w' g s0_0 r2 ∧ Below w0.heap.size w0 w' ∧ KeepBut w w' g none := by
  have hglt : g < w.heap.size := IsS104.lt hI
  unfold spec_l14Bend.f at h
  by_cases hz : a1.toList = ([] : List UInt8)
  · rw [if_pos hz] at h
    simp only [Option.some.injEq, Prod.mk.injEq] at h
    obtain ⟨rfl, rfl⟩ := h
    have hzb : (a1.toList == ([] : List UInt8)) = true := by rw [hz]; rfl
    have HI := Aside0.mk hI
    have HB := Aside0.mk hB
    clear hI hB
    go_enter Try.func53, Try.ntmps53
    go_wp2
    go_ret
    exact ⟨rfl, HI.out, HB.out, KeepBut.refl w g none⟩
  · rw [if_neg hz] at h
    have hzb : (a1.toList == ([] : List UInt8)) = false := beq_eq_false_iff_ne.2 hz
    obtain ⟨⟨v, p1⟩, h1, h⟩ := Option.bind_eq_some_iff.mp h
    simp only at h
    by_cases c0 : 0 ≤ v
    case neg => rw [if_neg c0] at h; exact absurd h (by simp)
    rw [if_pos c0] at h
    by_cases c1 : v < (a1.size : Int)
    case neg => rw [if_neg c1] at h; exact absurd h (by simp)
    rw [if_pos c1] at h
    obtain ⟨⟨x, p2⟩, h2, h⟩ := Option.bind_eq_some_iff.mp h
    simp only [Option.some.injEq, Prod.mk.injEq] at h
    obtain ⟨rfl, rfl⟩ := h
    obtain ⟨j, rfl⟩ := Int.eq_ofNat_of_zero_le c0
    have hj : j < a1.size := by omega
    obtain ⟨b, hb⟩ : ∃ b, b = w.heap.size := ⟨_, rfl⟩
    have hbg : Aside0 (b ≠ g) := ⟨by omega⟩
    obtain ⟨cs, hcs⟩ : ∃ cs, cs = Lib.bytesCells w 5 a1 := ⟨_, rfl⟩
    have hcells : Aside0 (∀ i, i < a1.size → cs[i]? = some (.int .u8 (bt a1 (i : Int)))) := ⟨fun i hi => by rw [hcs]; exact bytesCells_at w 5 a1 i hi⟩
    have hcell : Aside0 (cs[j]? = some (.int .u8 (bt a1 (j : Int)))) := ⟨hcells.out j hj⟩
    have hjs : Aside0 (j < cs.size) := ⟨(Array.getElem?_eq_some_iff.1 hcell.out).1⟩
    obtain ⟨W1, hW1⟩ : ∃ W1, W1 = Lib.bytesWorld w 5 a1 := ⟨_, rfl⟩
    have hblk1 : Aside0 (W1.heap[b]? = some (.cells cs 5 (cs.size, cs.size + 1))) := ⟨by rw [hW1, hcs, hb]; exact Lib.bytesWorld_at_new w 5 a1⟩
    have hbel : Below w.heap.size w W1 := by rw [hW1]; exact bytes_below (Below.refl _ _) (Nat.le_refl _) 5 a1
    have hI1 : Aside0 (IsS104 w0 W1 g s0_0 s0_1) := ⟨IsS104.below hI hbel⟩
    have hB1 : Aside0 (Below w0.heap.size w0 W1) := ⟨below_step hB hbel⟩
    have hK1 : Aside0 (KeepBut w W1 g none) := ⟨KeepBut.of_below hbel g none⟩
    have hcv := print_bytes (P := Try.prog) 9 28 5 Try.underlying9 Try.underlying28 Try.underlying5 a1 w
    rw [← hW1, ← hb] at hcv
    obtain ⟨cap, hcap⟩ : ∃ cap, cap = grownCap w a1.size 0 5 := ⟨_, rfl⟩
    rw [← hcap] at hcv
    have HGE : Aside0 (w0.heap.size ≤ b) := ⟨by have := IsS104.ge hI; omega⟩
    have A1 := Aside0.mk h1
    have A2 := Aside0.mk h2
    have c0b : decide ((0 : Int) ≤ (j : Int)) = true := decide_eq_true c0
    have c1b : decide ((j : Int) < (a1.size : Int)) = true := decide_eq_true c1
    have HJ := Aside0.mk hj
    have HBW := Aside0.mk hb
    clear h1 h2 hI hB hbel hcs hW1 hcap hb
    go_enter Try.func53, Try.ntmps53
    go_upto_region 5 with ((with_reducible refine gate_callee (f := 52) rfl ?_); refine goesL_ (some 15) rfl rfl Try.func52 (by kernel_rfl) rfl #[.pointer (some ⟨g, 0, none⟩), .int .i64 (a1.size : Int)] rfl (by (try simp only [List.map_toArray, List.map_cons, List.map_nil]); first | done | rfl) ?_; (with_reducible refine (spec_l1Rd_pick.calls k g s0_0 s0_1 (a1.size : Int) (j : Int) p1 w0 _ hI1.out hB1.out A1.out).mono ?_); rintro e w2 ⟨rfl, hi2, hb2, hk2⟩; refine ⟨_, rfl, ?_⟩; have hI2 := Aside0.mk hi2; have hB2 := Aside0.mk hb2; have hK2 := Aside0.mk hk2; clear hi2 hb2 hk2)
    have hblk2 : Aside0 (w2.heap[b]? = some (.cells cs 5 (cs.size, cs.size + 1))) := ⟨kb_heap hK2.out hblk1.out hbg.out⟩
    have hx2 : w2.drew.cell? ⟨b, j, none⟩ = some (.int .u8 (bt a1 (j : Int))) := (fz_cell (w := w2.drew) hblk2.out j).trans hcell.out
    have c0e := eq_true c0
    have c1e := eq_true c1
    refine start_ (n := 13) (S := fun w' => w'.cell? ⟨b, j, none⟩ = some (.int .u8 (bt a1 (j : Int)))) (ds := [12]) #[false, false, false, false, false, false, false, false, false, false, false, false, false] (by kernel_rfl) rfl rfl hx2 (fun hHeld => ?_)
    refine pure_ (i := 0) (N := some 16) (v := ?_) (a' := ?_) #[true, false, false, false, false, false, false, false, false, false, false, false, false] rfl rfl (by kernel_rfl) (fun _ _ _ h => h) (Or.inl ⟨by rfl, ?_⟩) ?_ ?_
    rotate_left
    · intro w'
      go_simp
      with_reducible rfl
    rotate_left
    · simp only [Act.put, List.setIfInBounds_toArray, List.set_cons_zero, List.set_cons_succ, i64_w, i32_w]
      rfl
    refine pure_ (i := 1) (N := some 17) (v := ?_) (a' := ?_) #[true, true, false, false, false, false, false, false, false, false, false, false, false] rfl rfl (by kernel_rfl) (fun _ _ _ h => h) (Or.inl ⟨by rfl, ?_⟩) ?_ ?_
    rotate_left
    · intro w'
      go_simp
      with_reducible rfl
    rotate_left
    · simp only [Act.put, List.setIfInBounds_toArray, List.set_cons_zero, List.set_cons_succ, i64_w, i32_w]
      rfl
    refine pure_ (i := 2) (N := some 18) (v := ?_) (a' := ?_) #[true, true, true, false, false, false, false, false, false, false, false, false, false] rfl rfl (by kernel_rfl) (fun _ _ _ h => h) (Or.inl ⟨by rfl, ?_⟩) ?_ ?_
    rotate_left
    · intro w'
      go_simp
      with_reducible rfl
    rotate_left
    · simp only [Act.put, List.setIfInBounds_toArray, List.set_cons_zero, List.set_cons_succ, i64_w, i32_w]
      rfl
    refine pure_ (i := 3) (N := some 19) (v := ?_) (a' := ?_) #[true, true, true, true, false, false, false, false, false, false, false, false, false] rfl rfl (by kernel_rfl) (fun _ _ _ h => h) (Or.inl ⟨by rfl, ?_⟩) ?_ ?_
    rotate_left
    · intro w'
      go_simp
      with_reducible rfl
    rotate_left
    · simp only [Act.put, List.setIfInBounds_toArray, List.set_cons_zero, List.set_cons_succ, i64_w, i32_w]
      rfl
    refine pure_ (i := 6) (N := some 22) (v := ?_) (a' := ?_) #[true, true, true, true, false, false, true, false, false, false, false, false, false] rfl rfl (by kernel_rfl) (fun _ _ _ h => h) (Or.inl ⟨by rfl, ?_⟩) ?_ ?_
    rotate_left
    · intro w'
      go_simp
      with_reducible rfl
    rotate_left
    · simp only [Act.put, List.setIfInBounds_toArray, List.set_cons_zero, List.set_cons_succ, i64_w, i32_w]
      rfl
    refine pure_ (i := 4) (N := some 20) (v := ?_) (a' := ?_) #[true, true, true, true, true, false, true, false, false, false, false, false, false] rfl rfl (by kernel_rfl) (fun _ _ _ h => h) (Or.inl ⟨by rfl, ?_⟩) ?_ ?_
    rotate_left
    · intro w'
      go_simp
      with_reducible rfl
    rotate_left
    · simp only [Act.put, List.setIfInBounds_toArray, List.set_cons_zero, List.set_cons_succ, i64_w, i32_w]
      rfl
    refine take_ (i := 5) (N := some 21) (v := ?_) (a' := ?_) #[true, true, true, true, true, true, true, false, false, false, false, false, false] rfl rfl (by kernel_rfl) (fun _ _ _ h => h) (Or.inl ⟨by rfl, ?_⟩) hHeld ?_ ?_
    rotate_left
    · intro w' s0
      go_simp
      with_reducible rfl
    rotate_left
    · simp only [Act.put, List.setIfInBounds_toArray, List.set_cons_zero, List.set_cons_succ, i64_w, i32_w]
      rfl
    refine one_ (i := 7) (N := some 23) #[true, true, true, true, true, true, true, true, false, false, false, false, false] rfl rfl (by kernel_rfl) (by decide) (fun K hK => ?_)
    refine goes_ Try.func52 (by kernel_rfl) rfl #[.pointer (some ⟨g, 0, none⟩), .int .i64 255] (by rfl) rfl rfl (by (try simp only [List.map_toArray, List.map_cons, List.map_nil]); first | done | rfl) ?_
    refine (spec_l1Rd_pick.calls k g s0_0 p1 255 x p2 w0 _ (IsS104.drew hI2.out) (below_drew1 hB2.out) A2.out).mono ?_
    rintro e w3 ⟨rfl, hI3, hB3, hK3⟩
    refine ⟨_, rfl, ?_⟩
    have hblk3 := kb_heap (w := w2.drew) hK3 hblk2.out hbg.out
    have hx3 : w3.cell? ⟨b, j, none⟩ = some (.int .u8 (bt a1 (j : Int))) := (fz_cell hblk3 j).trans hcell.out
    have hf3 : w3.frozen? ⟨b, j, none⟩ = false := fz_frozen hblk3 j hjs.out
    refine hK.out _ _ hx3 (fun hHeld => ?_)
    clear hK K
    refine norm_ (a' := ?_) ?_ ?_
    rotate_left
    · show Act.put _ (some 23) _ = _
      simp only [Act.put, List.setIfInBounds_toArray, List.set_cons_zero, List.set_cons_succ, i64_w, i32_w]
      rfl
    refine pure_ (i := 8) (N := some 24) (v := ?_) (a' := ?_) #[true, true, true, true, true, true, true, true, true, false, false, false, false] rfl rfl (by kernel_rfl) (fun _ _ _ h => h) (Or.inl ⟨by rfl, ?_⟩) ?_ ?_
    rotate_left
    · intro w'
      go_simp
      with_reducible rfl
    rotate_left
    · simp only [Act.put, List.setIfInBounds_toArray, List.set_cons_zero, List.set_cons_succ, i64_w, i32_w]
      rfl
    refine pure_ (i := 9) (N := some 25) (v := ?_) (a' := ?_) #[true, true, true, true, true, true, true, true, true, true, false, false, false] rfl rfl (by kernel_rfl) (fun _ _ _ h => h) (Or.inl ⟨by rfl, ?_⟩) ?_ ?_
    rotate_left
    · intro w'
      go_simp
      with_reducible rfl
    rotate_left
    · simp only [Act.put, List.setIfInBounds_toArray, List.set_cons_zero, List.set_cons_succ, i64_w, i32_w]
      rfl
    refine pure_ (i := 10) (N := some 26) (v := ?_) (a' := ?_) #[true, true, true, true, true, true, true, true, true, true, true, false, false] rfl rfl (by kernel_rfl) (fun _ _ _ h => h) (Or.inl ⟨by rfl, ?_⟩) ?_ ?_
    rotate_left
    · intro w'
      go_simp
      with_reducible rfl
    rotate_left
    · simp only [Act.put, List.setIfInBounds_toArray, List.set_cons_zero, List.set_cons_succ, i64_w, i32_w]
      rfl
    refine pure_ (i := 11) (N := some 27) (v := ?_) (a' := ?_) #[true, true, true, true, true, true, true, true, true, true, true, true, false] rfl rfl (by kernel_rfl) (fun _ _ _ h => h) (Or.inl ⟨by rfl, ?_⟩) ?_ ?_
    rotate_left
    · intro w'
      go_simp
      with_reducible rfl
    rotate_left
    · simp only [Act.put, List.setIfInBounds_toArray, List.set_cons_zero, List.set_cons_succ, i64_w, i32_w]
      rfl
    refine last_ (i := 12) (N := none) #[true, true, true, true, true, true, true, true, true, true, true, true, true] rfl rfl (by kernel_rfl) (by decide) (fun K hK => ?_)
    refine skip_ (w1 := ?_) (by rfl) rfl ?_ ?_
    rotate_left
    · go_simp
      rfl
    refine hK.out _ _ ?_
    clear hK K
    refine done_ (by kernel_rfl) ?_
    obtain ⟨y, hy⟩ : ∃ y, y = Go.bits .xor .u8 (bt a1 (j : Int)) (IntKind.u8.wrap (wrap64 (1 + x))) := ⟨_, rfl⟩
    have hfin : Aside0 (bendAt a1 (j : Int) x = strOfNums ((bytesOf a1).set j y)) := ⟨by rw [hy, IntKind.wrap_u8]; rfl⟩
    rw [← hy]
    clear hy
    have hblk4 : (w3.setCell ⟨b, j, none⟩ (.int .u8 y)).heap[b]? = some (.cells (cs.setIfInBounds j (.int .u8 y)) 5 (cs.size, cs.size + 1)) := by
      simp [World.setCell, hblk3, Array.getElem?_modify]
    have hI4 := Aside0.mk (IsS104.far (p := ⟨b, j, none⟩) hI3 (fun e_ => hbg.out e_.symm) (.int .u8 y))
    have hB4 := Aside0.mk (below_set (j := j) (v := .int .u8 y) hB3 HGE.out)
    have hK4 := Aside0.mk (keep_far (p := ⟨b, j, none⟩) ((hK1.out.trans hK2.out (.inl rfl)).trans hK3 (.inl rfl)) (Nat.le_of_eq HBW.out.symm) (.int .u8 y))
    have hlen : ((bytesOf a1).set j y).length = a1.size := by rw [List.length_set, bytesOf_length]
    have hcells4 : ∀ i, i < a1.size → (w3.setCell ⟨b, j, none⟩ (.int .u8 y)).cell? ⟨b, 0 + i, none⟩ = some (.int .u8 (((bytesOf a1).set j y).getD i 0)) := by
      intro i hi
      rw [Nat.zero_add, fz_cell hblk4 i, Array.getElem?_setIfInBounds]
      by_cases hij : j = i
      · subst hij
        rw [if_pos rfl, if_pos hjs.out, List.getD_eq_getElem?_getD, List.getElem?_set_self (by rw [bytesOf_length]; exact hi)]
        rfl
      · rw [if_neg hij, hcells.out i hi, List.getD_eq_getElem?_getD, List.getElem?_set_ne hij, ← List.getD_eq_getElem?_getD]
        have e_ := rd_bytesOf a1 (i : Int)
        unfold rd at e_
        rw [Int.toNat_natCast] at e_
        rw [e_]
    have hcv2 := run_convert_bytes_arg (P := Try.prog) (w3.setCell ⟨b, j, none⟩ (.int .u8 y)) 28 5 Try.underlying28 Try.underlying5 b 0 a1.size cap ((bytesOf a1).set j y) hlen hcells4 9 Try.underlying9
    generalize (w3.setCell ⟨b, j, none⟩ (.int .u8 y)) = w4 at hI4 hB4 hK4 hcv2 ⊢
    clear hblk4 hcells4 hcells hblk3 hx3 hf3 hHeld hcell hblk2 hblk1 hcv hx2
    try go_wp2
    go_ret
    exact ⟨by rw [hfin.out]; rfl, hI4.out, hB4.out, hK4.out⟩

end Go.Proofs.Ytgdbinifnhfcjaa.P
