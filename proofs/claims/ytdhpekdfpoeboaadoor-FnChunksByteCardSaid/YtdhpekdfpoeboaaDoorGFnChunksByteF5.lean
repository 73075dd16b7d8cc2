-- Several texts of this session in one (wip/merge.py).
import Derived.Test.YtdhpekdfpoeboaaDoorGFnChunksByte0
import Derived.Test.YtdhpekdfpoeboaaDoorGFnChunksByte4
import Derived.Test.YtdhpekdfpoeboaaDoorGFnChunksByteF10
import Derived.Test.YtdhpekdfpoeboaaDoorGFnChunksByteF13
import Derived.Test.YtdhpekdfpoeboaaDoorGFnChunksByteF16
import Derived.Test.YtdhpekdfpoeboaaDoorGFnChunksByte18
-- Written by a program of this session (wip/myprint.py) through the print of the kit: not trusted, Lean checks it.
namespace Go.Proofs.YtdhpekdfpoeboaaDoor.P
open Go.RowKit Go.Proofs.YtdhpekdfpoeboaaDoorW.PrintWords Go.Proofs.YtdhpekdfpoeboaaDoorW.PrintLast Go.Proofs.YtdhpekdfpoeboaaDoorW.PrintMore
attribute [local go_sem] max2_int min2_int max_two min_two max_three min_three max_four min_four   -- for this text's walks alone
set_option linter.unusedVariables false
set_option linter.unusedSimpArgs false

/-! ### laws_FnChunksByte: function 5 -/
def byteAt (s : ByteArray) (j : Nat) (p : Int) : ByteArray := strOfNums ((bytesOf s).set j (Go.bits .xor .u8 (bt s (j : Int)) (p % 256)))
def byteOne (s s2 : ByteArray) (l : List S41) : Bool := (s.toList == s2.toList) && (decide (13 ≤ s.size) && decide (l.length = 1))
def laws_FnChunksByte.f (k : Nat) (l0 l1 : List Int) : Option Bool :=
  if 1048576 < l0.length ∨ 1048576 < l1.length then some true else
  (spec_DrawChunksPut.f k l0).bind fun l => (impl_ChunksPut.f k l).bind fun s => (spec_ChunksPut.f k l).bind fun s2 =>
  if 1048576 < s.size then none else
  if byteOne s s2 l = true then
    ((laws_wiPow.f k ((l0.length % 8 : Nat) : Int)).bind fun p => (impl_ChunksGet.f k (byteAt s (12 + l1.length % (s.size - 12)) p)).bind fun q => some (!q.2))
  else some (s.toList == s2.toList)
set_option maxHeartbeats 8000000 in
set_option maxRecDepth 100000 in
theorem laws_FnChunksByte.calls (k : Nat) (A0 : Option Addr) (c0 : Nat) (l0 : List Int) (A1 : Option Addr) (c1 : Nat) (l1 : List Int) (r : Bool) (w : World) (hr0 : Kd.C (Kd.int .u8) w A0 l0.length l0) (hc0 : l0.length ≤ c0) (hr1 : Kd.C (Kd.int .u8) w A1 l1.length l1) (hc1 : l1.length ≤ c1) (h : laws_FnChunksByte.f k l0 l1 = some r) :
    Calls Tryd.prog 5 #[.slice A0 l0.length c0, .slice A1 l1.length c1] w fun e w' => e = .returned (.bool r) ∧ Below w.heap.size w w' := by
  have HR0 := Aside0.mk hr0
  have HC0 := Aside0.mk hc0
  clear hr0 hc0 hr1 hc1
  have HB := Aside0.mk (Below.refl w.heap.size w)
  unfold laws_FnChunksByte.f at h
  by_cases q0 : 1048576 < l0.length
  · rw [if_pos (Or.inl q0)] at h
    obtain rfl := Option.some.inj h
    have b0 : decide (1048576 < (l0.length : Int)) = true := decide_eq_true (by omega)
    have b1 : decide (1048576 < l0.length) = true := decide_eq_true q0
    clear q0 h
    go_enter Tryd.func5, Tryd.ntmps5
    go_wp2
    go_ret
    exact ⟨rfl, HB.out⟩
  have b0 : decide (1048576 < (l0.length : Int)) = false := decide_eq_false (by omega)
  have b1 : decide (1048576 < l0.length) = false := decide_eq_false q0
  by_cases q1 : 1048576 < l1.length
  · rw [if_pos (Or.inr q1)] at h
    obtain rfl := Option.some.inj h
    have d0 : decide (1048576 < (l1.length : Int)) = true := decide_eq_true (by omega)
    have d1 : decide (1048576 < l1.length) = true := decide_eq_true q1
    clear q0 q1 h
    go_enter Tryd.func5, Tryd.ntmps5
    go_wp2
    go_ret
    exact ⟨rfl, HB.out⟩
  have d0 : decide (1048576 < (l1.length : Int)) = false := decide_eq_false (by omega)
  have d1 : decide (1048576 < l1.length) = false := decide_eq_false q1
  rw [if_neg (by omega)] at h
  replace h := Option.bind_eq_some_iff.mp h
  obtain ⟨l, h1, h⟩ := h
  replace h := Option.bind_eq_some_iff.mp h
  obtain ⟨s, h2, h⟩ := h
  replace h := Option.bind_eq_some_iff.mp h
  obtain ⟨s2, h3, h⟩ := h
  by_cases qs : 1048576 < s.size
  · rw [if_pos qs] at h
    cases h
  rw [if_neg qs] at h
  have A1' := Aside0.mk h1
  have A2 := Aside0.mk h2
  have A3 := Aside0.mk h3
  have HF := Aside0.mk h
  have HL := Aside0.mk (show l0.length ≤ 1048576 ∧ l1.length ≤ 1048576 ∧ s.size ≤ 1048576 from ⟨by omega, by omega, by omega⟩)
  clear h1 h2 h3 h q0 q1 qs
  obtain ⟨e, he⟩ : ∃ e, e = (s.toList == s2.toList) := ⟨_, rfl⟩
  obtain ⟨o, ho⟩ : ∃ o, o = byteOne s s2 l := ⟨_, rfl⟩
  have hne : (s.toList != s2.toList) = !e := by rw [he]; rfl
  have heq : (s.toList == s2.toList) = e := he.symm
  cases o with
  | false =>
    have HE := Aside0.mk (show r = e by
      have h := HF.out
      rw [← ho, if_neg (by simp), heq] at h
      exact (Option.some.inj h).symm)
    have hcase : e = false ∨ e = true ∧ (s.size < 13 ∨ e = true ∧ 13 ≤ s.size ∧ l.length ≠ 1) := by
      unfold byteOne at ho
      rw [heq] at ho
      cases e with
      | false => exact .inl rfl
      | true =>
        refine .inr ⟨rfl, ?_⟩
        by_cases hz : s.size < 13
        · exact .inl hz
        · refine .inr ⟨rfl, by omega, fun hl => ?_⟩
          rw [decide_eq_true (show 13 ≤ s.size by omega), decide_eq_true hl] at ho
          cases ho
    clear ho HF he
    rcases hcase with rfl | ⟨rfl, hz | ⟨-, hz, hl⟩⟩
    · clear HL
      go_enter Tryd.func5, Tryd.ntmps5
      go_wp2_with (first | (go_at_call 16; (with_reducible refine (spec_DrawChunksPut.calls k _ _ l0 l _ HR0.out HC0.out A1'.out).mono ?_); rintro e w1 ⟨v, rfl, ho, hb⟩; have HO := Aside0.mk ho; have HB1 := Aside0.mk hb; clear ho hb; obtain ⟨Ao, co, eo⟩ := Kd.R_slice HO.out; subst eo) | (go_at_call 10; (with_reducible refine (impl_ChunksPut.calls k _ _ l s _ (Kd.R_reads' HO.out).2.2 (Kd.R_reads' HO.out).2.1 A2.out).mono ?_); rintro e w2 ⟨rfl, hb⟩; have HB2 := Aside0.mk (below_step HB1.out hb); have HO2 := Aside0.mk (Kd.R_below HO.out hb); clear hb) | (go_at_call 8; (with_reducible refine (spec_ChunksPut.calls k _ _ l s2 _ (Kd.R_reads' HO2.out).2.2 (Kd.R_reads' HO2.out).2.1 A3.out).mono ?_); rintro e w3 ⟨rfl, hb⟩; have HB3 := Aside0.mk (below_step HB2.out hb); have HO3 := Aside0.mk (Kd.R_below HO2.out hb); clear hb) | (go_at_call 8; (with_reducible refine (spec_ChunksPut.calls k _ _ l s2 _ (Kd.R_reads' HO3.out).2.2 (Kd.R_reads' HO3.out).2.1 A3.out).mono ?_); rintro e w4 ⟨rfl, hb⟩; have HB4 := Aside0.mk (below_step HB3.out hb); clear hb))
      go_ret
      exact ⟨by rw [HE.out]; rfl, HB4.out⟩
    · have z0 : decide ((s.size : Int) < 13) = true := decide_eq_true (by omega)
      have z1 : decide (s.size < 13) = true := decide_eq_true hz
      clear HL hz
      go_enter Tryd.func5, Tryd.ntmps5
      go_wp2_with (first | (go_at_call 16; (with_reducible refine (spec_DrawChunksPut.calls k _ _ l0 l _ HR0.out HC0.out A1'.out).mono ?_); rintro e w1 ⟨v, rfl, ho, hb⟩; have HO := Aside0.mk ho; have HB1 := Aside0.mk hb; clear ho hb; obtain ⟨Ao, co, eo⟩ := Kd.R_slice HO.out; subst eo) | (go_at_call 10; (with_reducible refine (impl_ChunksPut.calls k _ _ l s _ (Kd.R_reads' HO.out).2.2 (Kd.R_reads' HO.out).2.1 A2.out).mono ?_); rintro e w2 ⟨rfl, hb⟩; have HB2 := Aside0.mk (below_step HB1.out hb); have HO2 := Aside0.mk (Kd.R_below HO.out hb); clear hb) | (go_at_call 8; (with_reducible refine (spec_ChunksPut.calls k _ _ l s2 _ (Kd.R_reads' HO2.out).2.2 (Kd.R_reads' HO2.out).2.1 A3.out).mono ?_); rintro e w3 ⟨rfl, hb⟩; have HB3 := Aside0.mk (below_step HB2.out hb); have HO3 := Aside0.mk (Kd.R_below HO2.out hb); clear hb) | (go_at_call 8; (with_reducible refine (spec_ChunksPut.calls k _ _ l s2 _ (Kd.R_reads' HO3.out).2.2 (Kd.R_reads' HO3.out).2.1 A3.out).mono ?_); rintro e w4 ⟨rfl, hb⟩; have HB4 := Aside0.mk (below_step HB3.out hb); clear hb))
      go_ret
      exact ⟨by rw [HE.out]; rfl, HB4.out⟩
    · have z0 : decide ((s.size : Int) < 13) = false := decide_eq_false (by omega)
      have z1 : decide (s.size < 13) = false := decide_eq_false (by omega)
      have y0 : ((l.length : Int) != 1) = true := bne_iff_ne.2 (by omega)
      have y1 : (l.length != 1) = true := bne_iff_ne.2 hl
      clear HL hz hl
      go_enter Tryd.func5, Tryd.ntmps5
      go_wp2_with (first | (go_at_call 16; (with_reducible refine (spec_DrawChunksPut.calls k _ _ l0 l _ HR0.out HC0.out A1'.out).mono ?_); rintro e w1 ⟨v, rfl, ho, hb⟩; have HO := Aside0.mk ho; have HB1 := Aside0.mk hb; clear ho hb; obtain ⟨Ao, co, eo⟩ := Kd.R_slice HO.out; subst eo) | (go_at_call 10; (with_reducible refine (impl_ChunksPut.calls k _ _ l s _ (Kd.R_reads' HO.out).2.2 (Kd.R_reads' HO.out).2.1 A2.out).mono ?_); rintro e w2 ⟨rfl, hb⟩; have HB2 := Aside0.mk (below_step HB1.out hb); have HO2 := Aside0.mk (Kd.R_below HO.out hb); clear hb) | (go_at_call 8; (with_reducible refine (spec_ChunksPut.calls k _ _ l s2 _ (Kd.R_reads' HO2.out).2.2 (Kd.R_reads' HO2.out).2.1 A3.out).mono ?_); rintro e w3 ⟨rfl, hb⟩; have HB3 := Aside0.mk (below_step HB2.out hb); have HO3 := Aside0.mk (Kd.R_below HO2.out hb); clear hb) | (go_at_call 8; (with_reducible refine (spec_ChunksPut.calls k _ _ l s2 _ (Kd.R_reads' HO3.out).2.2 (Kd.R_reads' HO3.out).2.1 A3.out).mono ?_); rintro e w4 ⟨rfl, hb⟩; have HB4 := Aside0.mk (below_step HB3.out hb); clear hb))
      go_ret
      exact ⟨by rw [HE.out]; rfl, HB4.out⟩
  | true =>
    have hcase : e = true ∧ 13 ≤ s.size ∧ l.length = 1 := by
      unfold byteOne at ho
      rw [heq] at ho
      have h := ho.symm
      simp only [Bool.and_eq_true, decide_eq_true_eq] at h
      exact h
    obtain ⟨rfl, hz, hl⟩ := hcase
    have h := HF.out
    rw [← ho, if_pos rfl] at h
    replace h := Option.bind_eq_some_iff.mp h
    obtain ⟨p, h4, h⟩ := h
    replace h := Option.bind_eq_some_iff.mp h
    obtain ⟨⟨g1, g2⟩, h5, h⟩ := h
    have HE := Aside0.mk (show r = !g2 from (Option.some.inj h).symm)
    have A4 := Aside0.mk h4
    have A5 := Aside0.mk h5
    clear ho HF he h4 h5 h
    have z0 : decide ((s.size : Int) < 13) = false := decide_eq_false (by omega)
    have z1 : decide (s.size < 13) = false := decide_eq_false (by omega)
    have y0 : ((l.length : Int) != 1) = false := bne_eq_false_iff_eq.2 (by omega)
    have y1 : (l.length != 1) = false := bne_eq_false_iff_eq.2 hl
    have y2 : (l.length == 1) = true := beq_iff_eq.2 hl
    have HN := Aside0.mk hl
    have i1 : 13 ≤ (s.size : Int) := by omega
    have i2 : (s.size : Int) ≤ 1048576 := by have := HL.out.2.2; omega
    have i3 : (l1.length : Int) ≤ 1048576 := by have := HL.out.2.1; omega
    have i4 : (l0.length : Int) ≤ 1048576 := by have := HL.out.1; omega
    clear hz hl
    have kb := fun W => print_bytes (P := Tryd.prog) 9 33 5 Tryd.underlying9 Tryd.underlying33 Tryd.underlying5 s W
    go_enter Tryd.func5, Tryd.ntmps5
    go_upto_region 9 with (first | (go_at_call 16; (with_reducible refine (spec_DrawChunksPut.calls k _ _ l0 l _ HR0.out HC0.out A1'.out).mono ?_); rintro e w1 ⟨v, rfl, ho, hb⟩; have HO := Aside0.mk ho; have HB1 := Aside0.mk hb; clear ho hb; obtain ⟨Ao, co, eo⟩ := Kd.R_slice HO.out; subst eo) | (go_at_call 10; (with_reducible refine (impl_ChunksPut.calls k _ _ l s _ (Kd.R_reads' HO.out).2.2 (Kd.R_reads' HO.out).2.1 A2.out).mono ?_); rintro e w2 ⟨rfl, hb⟩; have HB2 := Aside0.mk (below_step HB1.out hb); have HO2 := Aside0.mk (Kd.R_below HO.out hb); clear hb) | (go_at_call 8; (with_reducible refine (spec_ChunksPut.calls k _ _ l s2 _ (Kd.R_reads' HO2.out).2.2 (Kd.R_reads' HO2.out).2.1 A3.out).mono ?_); rintro e w3 ⟨rfl, hb⟩; have HB3 := Aside0.mk (below_step HB2.out hb); have HO3 := Aside0.mk (Kd.R_below HO2.out hb); clear hb))
    obtain ⟨j, hj⟩ : ∃ j, j = 12 + l1.length % (s.size - 12) := ⟨_, rfl⟩
    have hjs : j < s.size := by rw [hj]; have := Nat.mod_lt l1.length (show s.size - 12 > 0 by omega); omega
    have ej : wrap64 (12 + (l1.length : Int) % ((s.size : Int) - 12)) = (j : Int) := by
      have e0 : (l1.length : Int) % ((s.size : Int) - 12) = ((l1.length % (s.size - 12) : Nat) : Int) := by
        rw [show (s.size : Int) - 12 = ((s.size - 12 : Nat) : Int) by omega]; rfl
      rw [e0, hj]
      have := Nat.mod_lt l1.length (show s.size - 12 > 0 by omega)
      unfold wrap64
      omega
    rw [ej]
    rw [← hj] at A5
    clear ej hj
    have hbk := Lib.bytesWorld_at_new w3 5 s
    have hcells : Aside0 (∀ i, i < s.size → (Lib.bytesCells w3 5 s)[i]? = some (.int .u8 (bt s (i : Int)))) := ⟨fun i hi => bytesCells_at w3 5 s i hi⟩
    have hcell : (Lib.bytesCells w3 5 s)[j]? = some (.int .u8 (bt s (j : Int))) := hcells.out j hjs
    have hjc : j < (Lib.bytesCells w3 5 s).size := (Array.getElem?_eq_some_iff.1 hcell).1
    have hx := (fz_cell hbk j).trans hcell
    have hf := fz_frozen hbk j hjc
    have HBK := Aside0.mk hbk
    have HJC := Aside0.mk hjc
    have HBW := Aside0.mk (bytes_below (Below.refl w3.heap.size w3) (Nat.le_refl _) 5 s)
    clear hbk hcell hjc kb
    generalize hW : Lib.bytesWorld w3 5 s = W1 at HBK HBW hx hf ⊢
    clear hW
    have hm8 : (l0.length : Int) % 8 = ((l0.length % 8 : Nat) : Int) := rfl
    refine start_ (n := 14) (S := fun w' => w'.cell? ⟨w3.heap.size, j, none⟩ = some (.int .u8 (bt s (j : Int)))) (ds := [13]) #[false, false, false, false, false, false, false, false, false, false, false, false, false, false] (by kernel_rfl) rfl rfl hx (fun hHeld => ?_)
    refine pure_ (i := 0) (N := some 50) (v := ?_) (a' := ?_) #[true, false, false, false, false, false, false, false, false, false, false, false, false, false] rfl rfl (by kernel_rfl) (fun _ _ _ h => h) (Or.inl ⟨by rfl, ?_⟩) ?_ ?_
    rotate_left
    · intro w'
      go_simp
      with_reducible rfl
    rotate_left
    · simp only [Act.put, List.setIfInBounds_toArray, List.set_cons_zero, List.set_cons_succ, i64_w, i32_w]
      rfl
    refine pure_ (i := 1) (N := some 51) (v := ?_) (a' := ?_) #[true, true, false, false, false, false, false, false, false, false, false, false, false, false] rfl rfl (by kernel_rfl) (fun _ _ _ h => h) (Or.inl ⟨by rfl, ?_⟩) ?_ ?_
    rotate_left
    · intro w'
      go_simp
      with_reducible rfl
    rotate_left
    · simp only [Act.put, List.setIfInBounds_toArray, List.set_cons_zero, List.set_cons_succ, i64_w, i32_w]
      rfl
    refine pure_ (i := 2) (N := some 52) (v := ?_) (a' := ?_) #[true, true, true, false, false, false, false, false, false, false, false, false, false, false] rfl rfl (by kernel_rfl) (fun _ _ _ h => h) (Or.inl ⟨by rfl, ?_⟩) ?_ ?_
    rotate_left
    · intro w'
      go_simp
      with_reducible rfl
    rotate_left
    · simp only [Act.put, List.setIfInBounds_toArray, List.set_cons_zero, List.set_cons_succ, i64_w, i32_w]
      rfl
    refine pure_ (i := 3) (N := some 53) (v := ?_) (a' := ?_) #[true, true, true, true, false, false, false, false, false, false, false, false, false, false] rfl rfl (by kernel_rfl) (fun _ _ _ h => h) (Or.inl ⟨by rfl, ?_⟩) ?_ ?_
    rotate_left
    · intro w'
      go_simp
      with_reducible rfl
    rotate_left
    · simp only [Act.put, List.setIfInBounds_toArray, List.set_cons_zero, List.set_cons_succ, i64_w, i32_w]
      rfl
    refine pure_ (i := 6) (N := some 56) (v := ?_) (a' := ?_) #[true, true, true, true, false, false, true, false, false, false, false, false, false, false] rfl rfl (by kernel_rfl) (fun _ _ _ h => h) (Or.inl ⟨by rfl, ?_⟩) ?_ ?_
    rotate_left
    · intro w'
      go_simp
      with_reducible rfl
    rotate_left
    · simp only [Act.put, List.setIfInBounds_toArray, List.set_cons_zero, List.set_cons_succ, i64_w, i32_w]
      rfl
    refine pure_ (i := 4) (N := some 54) (v := ?_) (a' := ?_) #[true, true, true, true, true, false, true, false, false, false, false, false, false, false] rfl rfl (by kernel_rfl) (fun _ _ _ h => h) (Or.inl ⟨by rfl, ?_⟩) ?_ ?_
    rotate_left
    · intro w'
      go_simp
      with_reducible rfl
    rotate_left
    · simp only [Act.put, List.setIfInBounds_toArray, List.set_cons_zero, List.set_cons_succ, i64_w, i32_w]
      rfl
    refine take_ (i := 5) (N := some 55) (v := ?_) (a' := ?_) #[true, true, true, true, true, true, true, false, false, false, false, false, false, false] rfl rfl (by kernel_rfl) (fun _ _ _ h => h) (Or.inl ⟨by rfl, ?_⟩) hHeld ?_ ?_
    rotate_left
    · intro w' s0
      go_simp
      with_reducible rfl
    rotate_left
    · simp only [Act.put, List.setIfInBounds_toArray, List.set_cons_zero, List.set_cons_succ, i64_w, i32_w]
      rfl
    refine pure_ (i := 7) (N := some 57) (v := ?_) (a' := ?_) #[true, true, true, true, true, true, true, true, false, false, false, false, false, false] rfl rfl (by kernel_rfl) (fun _ _ _ h => h) (Or.inl ⟨by rfl, ?_⟩) ?_ ?_
    rotate_left
    · intro w'
      go_simp
      with_reducible rfl
    rotate_left
    · simp only [Act.put, List.setIfInBounds_toArray, List.set_cons_zero, List.set_cons_succ, i64_w, i32_w]
      rfl
    refine pure_ (i := 8) (N := some 58) (v := ?_) (a' := ?_) #[true, true, true, true, true, true, true, true, true, false, false, false, false, false] rfl rfl (by kernel_rfl) (fun _ _ _ h => h) (Or.inl ⟨by rfl, ?_⟩) ?_ ?_
    rotate_left
    · intro w'
      go_simp
      with_reducible rfl
    rotate_left
    · simp only [Act.put, List.setIfInBounds_toArray, List.set_cons_zero, List.set_cons_succ, i64_w, i32_w]
      rfl
    refine one_ (i := 9) (N := some 59) #[true, true, true, true, true, true, true, true, true, true, false, false, false, false] rfl rfl (by kernel_rfl) (by decide) (fun K hK => ?_)
    refine goes_ Tryd.func17 (by kernel_rfl) rfl #[.int .i64 ((l0.length % 8 : Nat) : Int)] (by rfl) rfl rfl (by (try simp only [List.map_toArray, List.map_cons, List.map_nil]); first | done | rfl) ?_
    refine (laws_wiPow.calls k _ p _ A4.out).mono ?_
    rintro e w4 ⟨rfl, ⟨nd, e4⟩⟩
    have hblk4 : w4.heap[w3.heap.size]? = some (.cells (Lib.bytesCells w3 5 s) 5 ((Lib.bytesCells w3 5 s).size, (Lib.bytesCells w3 5 s).size + 1)) := by rw [e4]; simpa using HBK.out
    have HB4 := Aside0.mk (show Below w3.heap.size w3 w4 by rw [e4]; exact pw_below_drewN (below_drew1 HBW.out) nd)
    clear e4
    have hx4 := (fz_cell hblk4 j).trans (hcells.out j hjs)
    have hf4 := fz_frozen hblk4 j HJC.out
    refine ⟨_, rfl, ?_⟩
    refine hK.out _ _ hx4 (fun hHeld => ?_)
    clear hK K
    refine norm_ (a' := ?_) ?_ ?_
    rotate_left
    · show Act.put _ (some 59) _ = _
      simp only [Act.put, List.setIfInBounds_toArray, List.set_cons_zero, List.set_cons_succ, i64_w, i32_w]
      rfl
    refine pure_ (i := 10) (N := some 60) (v := ?_) (a' := ?_) #[true, true, true, true, true, true, true, true, true, true, true, false, false, false] rfl rfl (by kernel_rfl) (fun _ _ _ h => h) (Or.inl ⟨by rfl, ?_⟩) ?_ ?_
    rotate_left
    · intro w'
      go_simp
      with_reducible rfl
    rotate_left
    · simp only [Act.put, List.setIfInBounds_toArray, List.set_cons_zero, List.set_cons_succ, i64_w, i32_w]
      rfl
    refine pure_ (i := 11) (N := some 61) (v := ?_) (a' := ?_) #[true, true, true, true, true, true, true, true, true, true, true, true, false, false] rfl rfl (by kernel_rfl) (fun _ _ _ h => h) (Or.inl ⟨by rfl, ?_⟩) ?_ ?_
    rotate_left
    · intro w'
      go_simp
      with_reducible rfl
    rotate_left
    · simp only [Act.put, List.setIfInBounds_toArray, List.set_cons_zero, List.set_cons_succ, i64_w, i32_w]
      rfl
    refine pure_ (i := 12) (N := some 62) (v := ?_) (a' := ?_) #[true, true, true, true, true, true, true, true, true, true, true, true, true, false] rfl rfl (by kernel_rfl) (fun _ _ _ h => h) (Or.inl ⟨by rfl, ?_⟩) ?_ ?_
    rotate_left
    · intro w'
      go_simp
      with_reducible rfl
    rotate_left
    · simp only [Act.put, List.setIfInBounds_toArray, List.set_cons_zero, List.set_cons_succ, i64_w, i32_w]
      rfl
    refine last_ (i := 13) (N := none) #[true, true, true, true, true, true, true, true, true, true, true, true, true, true] rfl rfl (by kernel_rfl) (by decide) (fun K hK => ?_)
    refine skip_ (w1 := ?_) (by rfl) rfl ?_ ?_
    rotate_left
    · go_simp
      rfl
    refine hK.out _ _ ?_
    clear hK K
    refine done_ (by kernel_rfl) ?_
    obtain ⟨y, hy⟩ : ∃ y, y = Go.bits .xor .u8 (bt s (j : Int)) (IntKind.u8.wrap p) := ⟨_, rfl⟩
    have hfin : Aside0 (byteAt s j p = strOfNums ((bytesOf s).set j y)) := ⟨by rw [hy, IntKind.wrap_u8]; rfl⟩
    rw [← hy]
    clear hy
    obtain ⟨b, hb⟩ : ∃ b, b = w3.heap.size := ⟨_, rfl⟩
    obtain ⟨cs, hcs⟩ : ∃ cs, cs = Lib.bytesCells w3 5 s := ⟨_, rfl⟩
    rw [← hcs, ← hb] at hblk4
    rw [← hcs] at hcells HJC
    rw [← hb] at HB4
    have hblk5 : (w4.setCell ⟨b, j, none⟩ (.int .u8 y)).heap[b]? = some (.cells (cs.setIfInBounds j (.int .u8 y)) 5 (cs.size, cs.size + 1)) := by
      simp [World.setCell, hblk4, Array.getElem?_modify]
    have HB5 := Aside0.mk (below_step HB3.out (by rw [hb] at HB4; exact below_set (j := j) (v := .int .u8 y) HB4.out (Nat.le_refl _)))
    have hlen : ((bytesOf s).set j y).length = s.size := by rw [List.length_set, bytesOf_length]
    have hcells5 : ∀ i, i < s.size → (w4.setCell ⟨b, j, none⟩ (.int .u8 y)).cell? ⟨b, 0 + i, none⟩ = some (.int .u8 (((bytesOf s).set j y).getD i 0)) := by
      intro i hi
      rw [Nat.zero_add, fz_cell hblk5 i, Array.getElem?_setIfInBounds]
      by_cases hij : j = i
      · subst hij
        rw [if_pos rfl, if_pos HJC.out, List.getD_eq_getElem?_getD, List.getElem?_set_self (by rw [bytesOf_length]; exact hi)]
        rfl
      · rw [if_neg hij, hcells.out i hi, List.getD_eq_getElem?_getD, List.getElem?_set_ne hij, ← List.getD_eq_getElem?_getD]
        have e_ := rd_bytesOf s (i : Int)
        unfold rd at e_
        rw [Int.toNat_natCast] at e_
        rw [e_]
    have hcv2 := fun cap => run_convert_bytes_arg (P := Tryd.prog) (w4.setCell ⟨b, j, none⟩ (.int .u8 y)) 33 5 Tryd.underlying33 Tryd.underlying5 b 0 s.size cap ((bytesOf s).set j y) hlen hcells5 9 Tryd.underlying9
    rw [← hb] at HB5
    rw [← hb]
    generalize (w4.setCell ⟨b, j, none⟩ (.int .u8 y)) = w5 at HB5 hcv2 ⊢
    rw [hfin.out] at A5
    clear hblk4 hblk5 hcells5 hcells hx4 hf4 hHeld HJC hcs hb hfin hlen
    go_wp2_with (go_at_call 13; (with_reducible refine (impl_ChunksGet.calls k _ g1 g2 _ A5.out).mono ?_); rintro e w6 ⟨v, rfl, ho, hb⟩; have HB6 := Aside0.mk (below_step HB5.out hb); clear hb ho)
    go_ret
    exact ⟨by rw [HE.out]; rfl, HB6.out⟩
/-- THE ONE PURE STATEMENT of laws_FnChunksByte. -/
def laws_FnChunksByte.Pure : Prop := ∀ (l0 : List Int) (l1 : List Int), l0.length ≤ maxLen → l0.length * 1 ≤ 140737488351232 → (∀ x ∈ l0, (Lit.int .u8 x).wf = true) → l1.length ≤ maxLen → l1.length * 1 ≤ 140737488351232 → (∀ x ∈ l1, (Lit.int .u8 x).wf = true) → ∃ k, laws_FnChunksByte.f k l0 l1 = some true
theorem laws_FnChunksByte.walk (P : laws_FnChunksByte.Pure) (a0 : Option Addr) (len0 cap0 : Nat) (z0 : List Int) (a1 : Option Addr) (len1 cap1 : Nat) (z1 : List Int) (w : World) (w0 : (a0 = none ∧ len0 = 0 ∧ cap0 = 0 ∧ z0 = []) ∨ ∃ x, a0 = some x ∧ len0 ≤ cap0 ∧ cap0 ≤ maxLen ∧ z0.length = cap0 ∧ (∀ i, i < z0.length → w.cell? (x.add i) = some (.int .u8 (z0.getD i 0))) ∧ ∀ n ∈ z0, (Lit.int .u8 n).wf = true) (y0 : len0 * 1 ≤ 140737488351232) (w1 : (a1 = none ∧ len1 = 0 ∧ cap1 = 0 ∧ z1 = []) ∨ ∃ x, a1 = some x ∧ len1 ≤ cap1 ∧ cap1 ≤ maxLen ∧ z1.length = cap1 ∧ (∀ i, i < z1.length → w.cell? (x.add i) = some (.int .u8 (z1.getD i 0))) ∧ ∀ n ∈ z1, (Lit.int .u8 n).wf = true) (y1 : len1 * 1 ≤ 140737488351232) :
    Calls Tryd.prog 5 #[.slice a0 len0 cap0, .slice a1 len1 cap1] w fun e w' => e = .returned (.bool true) ∧ Below w.heap.size w w' := by
  obtain ⟨l0, rfl, hr0, hm0, hw0, hc0⟩ := ReadsInt.ofRowC w0
  obtain ⟨l1, rfl, hr1, hm1, hw1, hc1⟩ := ReadsInt.ofRowC w1
  obtain ⟨k, h⟩ := P l0 l1 hm0 y0 hw0 hm1 y1 hw1
  refine (laws_FnChunksByte.calls k _ _ l0 _ _ l1 true w (Kd.C_of_reads (d := (0 : Int)) (h1 := fun _ => rfl) hr0) hc0 (Kd.C_of_reads (d := (0 : Int)) (h1 := fun _ => rfl) hr1) hc1 h).mono ?_
  rintro e w' ⟨rfl, hd⟩
  exact ⟨rfl, hd⟩

end Go.Proofs.YtdhpekdfpoeboaaDoor.P
