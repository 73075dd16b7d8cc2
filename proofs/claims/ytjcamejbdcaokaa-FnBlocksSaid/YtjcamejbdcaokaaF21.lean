-- Written by a program of this session (wip/myprint.py) through the print of the kit: not trusted, Lean checks it.
import Derived.Test.YtjcamejbdcaokaaF00
namespace Go.Proofs.Ytjcamejbdcaokaa.P
open Go.RowKit Go.Proofs.YtjcamejbdcaokaaW.PrintWords Go.Proofs.YtjcamejbdcaokaaW.PrintLast Go.Proofs.YtjcamejbdcaokaaW.PrintMore
attribute [local go_sem] max2_int min2_int max_two min_two max_three min_three max_four min_four   -- for this text's walks alone
set_option linter.unusedVariables false
set_option linter.unusedSimpArgs false

/-! ### impl_BlocksPut: function 21 -/
/-- A list of bytes in blocks of 255, each behind its size. -/
def blks : Nat → List UInt8 → List UInt8
  | 0, _ => []
  | d + 1, l => if l.length = 0 then [] else UInt8.ofNat (min l.length 255) :: (l.take (min l.length 255) ++ blks d (l.drop (min l.length 255)))
def impl_BlocksPut.f (a0 : ByteArray) : Option ByteArray := if (a0.size : Int) > 5000 then some ⟨#[]⟩ else some ⟨(blks a0.size a0.data.toList ++ [0]).toArray⟩
theorem blks_more (d : Nat) : ∀ (e : Nat) (l : List UInt8), l.length ≤ d → l.length ≤ e → blks d l = blks e l := by
  induction d with
  | zero =>
    intro e l h _
    cases e with
    | zero => rfl
    | succ e => simp [blks, show l.length = 0 by omega]
  | succ d ih =>
    intro e l h h2
    cases e with
    | zero => simp [blks, show l.length = 0 by omega]
    | succ e =>
      simp only [blks]
      by_cases h0 : l.length = 0
      · rw [if_pos h0, if_pos h0]
      · rw [if_neg h0, if_neg h0, ih e (l.drop (min l.length 255)) (by simp; omega) (by simp; omega)]
theorem blks_step {t : ByteArray} {n : Nat} (h : 0 < t.size) (hn : n = min t.size 255) : blks t.size t.data.toList = (UInt8.ofNat n :: (t.extract 0 n).data.toList) ++ blks (t.extract n t.size).size (t.extract n t.size).data.toList := by
  subst hn
  have hl : t.data.toList.length = t.size := by simp
  have e1 : (t.extract 0 (min t.size 255)).data.toList = t.data.toList.take (min t.size 255) := by rw [Lib.extract_data]; simp
  have e2 : (t.extract (min t.size 255) t.size).data.toList = t.data.toList.drop (min t.size 255) := Lib.extract_to_end t _
  have e3 : (t.extract (min t.size 255) t.size).size = t.size - min t.size 255 := by rw [ByteArray.size_extract]; omega
  rw [e1, e2, e3]
  obtain ⟨d, hd⟩ : ∃ d, t.size = d + 1 := ⟨t.size - 1, by omega⟩
  rw [show blks t.size t.data.toList = blks (d + 1) t.data.toList by rw [hd]]
  simp only [blks]
  rw [if_neg (by omega), hl, blks_more d (t.size - min t.size 255) _ (by simp; omega) (by simp)]
  simp
set_option maxHeartbeats 8000000 in
set_option maxRecDepth 100000 in
theorem impl_BlocksPut.calls (a0 : ByteArray) (r : ByteArray) (w : World) (h : impl_BlocksPut.f a0 = some r) :
    Calls Try.prog 21 #[.string a0] w fun e w' => e = .returned (.string r) ∧ Below w.heap.size w w' := by
  unfold impl_BlocksPut.f at h
  by_cases hb : (a0.size : Int) > 5000
  · rw [if_pos hb] at h
    obtain rfl := Option.some.inj h
    go_enter Try.func21, Try.ntmps21
    go_wp2
    go_ret
    exact ⟨rfl, Below.refl _ _⟩
  · rw [if_neg hb] at h
    have h := Option.some.inj h
    obtain ⟨R, hR⟩ : ∃ R, blks a0.size a0.data.toList = R := ⟨_, rfl⟩
    rw [hR] at h
    have HRr := Aside0.mk h
    have HR := Aside0.mk hR
    have hb' : a0.size ≤ 5000 := by omega
    clear h hR
    go_enter Try.func21, Try.ntmps21
    go_wp2
    go_loopw [0] (fun v0 wr => ∃ (t : ByteArray) (done : List UInt8), v0 = .string t ∧ Aside0 (done ++ blks t.size t.data.toList = R) ∧ Aside0 (done.length + 2 * t.size ≤ 10000) ∧ Aside0 (Lib.IsBuilder 87 5 w.heap.size w.heap.size (Lib.byteCells done) wr) ∧ Aside0 (Below w.heap.size w wr)) (fun v _ => match v with | .string t => t.size | _ => 0)
    case atStart => exact ⟨a0, [], rfl, HR, ⟨by simp; omega⟩, ⟨.inl ⟨Nat.le_refl _, .slice none 0 0, by simpa using heap_alloc_new w _, own_nil _ _ _ _, by simp [Value.ownBlock]⟩⟩, ⟨below_alloc (Below.refl _ _) _⟩⟩
    case round =>
      clear HR hb hb'
      obtain ⟨t, done, rfl, HR, HL, HI, HB⟩ := hrel
      by_cases hz : t.size = 0
      · have h1 := (empty_iff t).2 hz
        have HE := Aside0.mk (show done = R by
          have h := HR.out
          rw [hz] at h
          simpa [blks] using h)
        go_wp2_with (go_at_call 80; refine (Try.Builder_String_any w.heap.size w.heap.size done _ HI.out HB.out.size).mono ?_; rintro e w1 ⟨rfl, hb1⟩; have hd : done.length ≤ 10000 := (by have := HL.out; omega); have HB1 := Aside0.mk hb1; clear hb1)
        go_ret
        exact ⟨by rw [← HRr.out, ← HE.out]; simp [ByteArray.append, ByteArray.ext_iff], HB.out.trans HB1.out⟩
      · have h1 : (!t.toList.isEmpty) = true := by
          cases h : t.toList with
          | nil => exact absurd ((empty_iff t).1 h) hz
          | cons x l => rfl
        have hpos : 0 < t.size := by omega
        have HS := Aside0.mk (blks_step hpos rfl)
        have hs5 : t.size ≤ 5000 := by have := HL.out; omega
        by_cases hc : 255 < t.size
        · have HS := Aside0.mk (show blks t.size t.data.toList = (255 :: (t.extract 0 255).data.toList) ++ blks (t.extract 255 t.size).size (t.extract 255 t.size).data.toList by have h := HS.out; rw [show min t.size 255 = 255 by omega] at h; exact h)
          have HL2 := Aside0.mk (show (done ++ (255 :: (t.extract 0 255).data.toList)).length + 2 * (t.extract 255 t.size).size ≤ 10000 by
            have := HL.out
            have e1 : (t.extract 255 t.size).size = t.size - 255 := by rw [ByteArray.size_extract]; omega
            have e2 : (t.extract 0 255).data.toList.length = 255 := by rw [Array.length_toList, ByteArray.size_data, ByteArray.size_extract]; omega
            rw [List.length_append, List.length_cons, e1, e2]; omega)
          have hdl : done.length ≤ 10000 := by have := HL.out; omega
          have HHl := Aside0.mk (show (Lib.byteCells done).length + 1 ≤ 140737488355328 by rw [Lib.byteCells_length]; omega)
          have HHm := Aside0.mk (show (Lib.byteCells done ++ [Value.int .u8 255]).length + (t.extract 0 255).size ≤ 140737488355328 by rw [List.length_append, Lib.byteCells_length, ByteArray.size_extract]; simp; omega)
          go_wp2_with (first | (go_at_call 78; refine (writeByte_any w.heap.size w.heap.size (Lib.byteCells done) 255 _ HI.out HHl.out HB.out.size).mono ?_; rintro e w1 ⟨rfl, hi1, hb1⟩; have HI1 := Aside0.mk hi1; have HB1 := Aside0.mk (HB.out.trans hb1); clear hi1 hb1) | (go_at_call 79; refine (writeString_any w.heap.size w.heap.size _ (t.extract 0 255) _ HI1.out HHm.out HB1.out.size).mono ?_; rintro e w2 ⟨rfl, hi2, hb2⟩; have HI2 := Aside0.mk hi2; have HB2 := Aside0.mk (HB1.out.trans hb2); clear hi2 hb2))
          go_roundw
          case rel => exact ⟨_, done ++ (255 :: (t.extract 0 255).data.toList), rfl, ⟨by rw [← HR.out, HS.out]; simp⟩, HL2, ⟨by have := HI2.out; simpa [Lib.byteCells, Lib.strCells] using this⟩, HB2⟩
          case measure => simp [ByteArray.size_extract]; omega
        · have HS := Aside0.mk (show blks t.size t.data.toList = (UInt8.ofNat t.size :: t.data.toList) ++ blks ByteArray.empty.size ByteArray.empty.data.toList by have h := HS.out; rw [show min t.size 255 = t.size by omega, show t.extract 0 t.size = t by simp, show t.extract t.size t.size = ByteArray.empty by simp] at h; exact h)
          have HL2 := Aside0.mk (show (done ++ (UInt8.ofNat t.size :: t.data.toList)).length + 2 * ByteArray.empty.size ≤ 10000 by
            have := HL.out
            have e1 : ByteArray.empty.size = 0 := rfl
            have e2 : t.data.toList.length = t.size := by rw [Array.length_toList, ByteArray.size_data]
            rw [List.length_append, List.length_cons, e1, e2]; omega)
          have hdl : done.length ≤ 10000 := by have := HL.out; omega
          have HHl := Aside0.mk (show (Lib.byteCells done).length + 1 ≤ 140737488355328 by rw [Lib.byteCells_length]; omega)
          have HHm := Aside0.mk (show (Lib.byteCells done ++ [Value.int .u8 t.size]).length + t.size ≤ 140737488355328 by rw [List.length_append, Lib.byteCells_length]; simp; omega)
          have HU := Aside0.mk (show (t.size : Int) % 256 = t.size by omega)
          go_wp2_with (first | (go_at_call 78; refine (writeByte_any w.heap.size w.heap.size (Lib.byteCells done) t.size _ HI.out HHl.out HB.out.size).mono ?_; rintro e w1 ⟨rfl, hi1, hb1⟩; have HI1 := Aside0.mk hi1; have HB1 := Aside0.mk (HB.out.trans hb1); clear hi1 hb1) | (go_at_call 79; refine (writeString_any w.heap.size w.heap.size _ _ _ HI1.out HHm.out HB1.out.size).mono ?_; rintro e w2 ⟨rfl, hi2, hb2⟩; have HI2 := Aside0.mk hi2; have HB2 := Aside0.mk (HB1.out.trans hb2); clear hi2 hb2))
          go_roundw
          case rel => exact ⟨_, done ++ (UInt8.ofNat t.size :: t.data.toList), rfl, ⟨by rw [← HR.out, HS.out]; simp⟩, HL2, ⟨by have := HI2.out; simpa [Lib.byteCells, Lib.strCells, HU.out] using this⟩, HB2⟩
          case measure => simp; omega

end Go.Proofs.Ytjcamejbdcaokaa.P
