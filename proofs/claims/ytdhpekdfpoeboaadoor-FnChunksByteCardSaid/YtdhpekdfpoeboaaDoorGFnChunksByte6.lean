-- Several texts of this session in one (wip/merge.py).
import Derived.Test.YtdhpekdfpoeboaaDoorGFnChunksByte0
import Derived.Test.YtdhpekdfpoeboaaDoorGFnChunksByte4
-- Written by a program of this session (wip/myprint.py) through the print of the kit: not trusted, Lean checks it.
namespace Go.Proofs.YtdhpekdfpoeboaaDoor.P
open Go.RowKit Go.Proofs.YtdhpekdfpoeboaaDoorW.PrintWords Go.Proofs.YtdhpekdfpoeboaaDoorW.PrintLast Go.Proofs.YtdhpekdfpoeboaaDoorW.PrintMore
attribute [local go_sem] max2_int min2_int max_two min_two max_three min_three max_four min_four   -- for this text's walks alone
set_option linter.unusedVariables false
set_option linter.unusedSimpArgs false

/-! ### impl_CrcMore: function 54 -/
def crc1 (c : Int) : Int := if Go.bits .and .i64 c 1 = 1 then Go.bits .xor .i64 (c / 2) 3988292384 else c / 2
def crcn : Nat → Int → Int
  | 0, c => c
  | d + 1, c => crcn d (crc1 c)
def crcl : List Int → Int → Int
  | [], c => c
  | b :: l, c => crcl l (crcn 8 (Go.bits .xor .i64 c b))
def crcOk (a0 : Int) (a1 : ByteArray) : Prop := (0 ≤ a0 ∧ a0 ≤ 4294967295) ∧ a1.size ≤ 9000
instance (a0 : Int) (a1 : ByteArray) : Decidable (crcOk a0 a1) := by unfold crcOk; infer_instance
def impl_CrcMore.f (a0 : Int) (a1 : ByteArray) : Option Int :=
  if crcOk a0 a1 then some (Go.bits .xor .i64 (crcl (bytesOf a1) (Go.bits .xor .i64 a0 4294967295)) 4294967295) else some 0
theorem impl_CrcMore.in_eq (x a1 : Int) : impl_in.f x 0 a1 = some (decide (0 ≤ x) && decide (x ≤ a1)) := by
  unfold impl_in.f
  by_cases h : x ≥ 0
  · have h' : 0 ≤ x := h
    rw [if_pos h]; simp [h']
  · have h' : ¬ 0 ≤ x := h
    rw [if_neg h]; simp [h']
theorem bt_w (s : ByteArray) (i : Int) : wrap64 (bt s i) = bt s i := by
  have h := bt_range s i
  unfold wrap64
  omega
theorem k_w (k : Nat) (h : k ≤ 9000) : wrap64 ((k : Int) + 1) = ((k + 1 : Nat) : Int) := by
  unfold wrap64
  omega
theorem crc_meas (n k : Nat) (h : k < n) (h9 : k ≤ 9000) : n - (wrap64 ((k : Int) + 1)).toNat < n - ((k : Int)).toNat := by
  rw [k_w k h9, Int.toNat_natCast, Int.toNat_natCast]
  omega
theorem crc_meas2 (n k : Nat) (h : k < n) : n - ((k : Int) + 1).toNat < n - ((k : Int)).toNat := by
  omega
set_option maxHeartbeats 2000000 in
set_option maxRecDepth 100000 in
theorem impl_CrcMore.no (a0 : Int) (a1 : ByteArray) (w : World) (hn : ¬ crcOk a0 a1) :
    Calls Tryd.prog 54 #[.int .i64 a0, .string a1] w fun e w' => e = .returned (.int .i64 0) ∧ Below w.heap.size w w' := by
  obtain ⟨b, hb⟩ : ∃ b, b = (decide (0 ≤ a0) && decide (a0 ≤ 4294967295)) := ⟨_, rfl⟩
  have HI := Aside0.mk (show impl_in.f a0 0 4294967295 = some b by rw [hb]; exact impl_CrcMore.in_eq _ _)
  have hcase : b = false ∨ (b = true ∧ 9000 < a1.size) := by
    unfold crcOk at hn
    cases b with
    | false => exact .inl rfl
    | true =>
      refine .inr ⟨rfl, ?_⟩
      have h := hb.symm
      simp at h
      omega
  clear hb hn
  rcases hcase with rfl | ⟨rfl, hs⟩
  · go_enter Tryd.func54, Tryd.ntmps54
    go_wp2_with (go_at_call 44; refine (impl_in.calls a0 0 4294967295 false _ HI.out).mono ?_; rintro e w' ⟨rfl, ⟨nd, rfl⟩⟩)
    go_ret
    exact ⟨rfl, pw_below_drewN (Below.refl _ _) _⟩
  · have hs1 : decide ((9000 : Int) < (a1.size : Int)) = true := decide_eq_true (by omega)
    have hs2 : decide (9000 < a1.size) = true := decide_eq_true hs
    go_enter Tryd.func54, Tryd.ntmps54
    go_wp2_with (go_at_call 44; refine (impl_in.calls a0 0 4294967295 true _ HI.out).mono ?_; rintro e w' ⟨rfl, ⟨nd, rfl⟩⟩)
    go_ret
    exact ⟨rfl, pw_below_drewN (Below.refl _ _) _⟩
set_option maxHeartbeats 2000000 in
set_option maxRecDepth 100000 in
theorem impl_CrcMore.yes (a0 : Int) (a1 : ByteArray) (w : World) (ho : crcOk a0 a1) :
    Calls Tryd.prog 54 #[.int .i64 a0, .string a1] w fun e w' => e = .returned (.int .i64 (Go.bits .xor .i64 (crcl (bytesOf a1) (Go.bits .xor .i64 a0 4294967295)) 4294967295)) ∧ Below w.heap.size w w' := by
  have HI := Aside0.mk (show impl_in.f a0 0 4294967295 = some true by rw [impl_CrcMore.in_eq, decide_eq_true ho.1.1, decide_eq_true ho.1.2]; rfl)
  have hs1 : decide ((9000 : Int) < (a1.size : Int)) = false := decide_eq_false (by have := ho.2; omega)
  have hs2 : decide (9000 < a1.size) = false := decide_eq_false (by have := ho.2; omega)
  have HS := Aside0.mk ho.2
  clear ho
  obtain ⟨R, hR⟩ : ∃ R, crcl (bytesOf a1) (Go.bits .xor .i64 a0 4294967295) = R := ⟨_, rfl⟩
  have HR := Aside0.mk hR
  rw [hR]
  clear hR
  have kb := fun W => print_bytes (P := Tryd.prog) 9 33 5 Tryd.underlying9 Tryd.underlying33 Tryd.underlying5 a1 W
  go_enter Tryd.func54, Tryd.ntmps54
  go_wp2_with (go_at_call 44; refine (impl_in.calls a0 0 4294967295 true _ HI.out).mono ?_; rintro e w' ⟨rfl, ⟨nd, rfl⟩⟩)
  have hx : Aside0 (∀ j, j < a1.size → (Lib.bytesWorld (w.drewN nd) 5 a1).cell? ⟨w.heap.size, j, none⟩ = some (.int .u8 (bt a1 (j : Int)))) := ⟨fun j hj => by
    have h1 : (Lib.bytesWorld (w.drewN nd) 5 a1).cell? ⟨w.heap.size, j, none⟩ = some (.int .u8 (a1.data.toList.getD j 0).toNat) := Lib.bytesWorld_cell (w.drewN nd) 5 a1 j hj
    rw [h1]
    congr 2
    unfold bt
    rw [dif_pos (by simpa using hj)]
    simp [List.getD, hj]
    rfl⟩
  have HB := Aside0.mk (show Below w.heap.size w (Lib.bytesWorld (w.drewN nd) 5 a1) from bytes_below (pw_below_drewN (Below.refl _ _) nd) (Nat.le_refl _) 5 a1)
  clear kb
  generalize Lib.bytesWorld (w.drewN nd) 5 a1 = W1 at hx HB ⊢
  go_loopw [0, 21] (fun v0 v21 wr => ∃ (k : Nat) (c : Int), v21 = .int .i64 k ∧ v0 = .int .i64 c ∧ Aside0 (k ≤ a1.size) ∧ Aside0 (crcl ((bytesOf a1).drop k) c = R) ∧ wr = W1) (fun _ i _ => a1.size - (intOf i).toNat)
  case atStart => exact ⟨0, _, rfl, rfl, ⟨by omega⟩, ⟨by rw [List.drop_zero]; exact HR.out⟩, rfl⟩
  case round =>
    clear HR
    obtain ⟨k, c, rfl, rfl, HK, HR, rfl⟩ := hrel
    have hkl : k ≤ a1.size := HK.out
    by_cases hlt : k < a1.size
    case neg =>
      have hge : ¬ k < a1.size := hlt
      have HE := Aside0.mk (show R = c by
        have h := HR.out
        rw [List.drop_eq_nil_of_le (by rw [bytesOf_length]; omega)] at h
        simp only [crcl] at h
        exact h.symm)
      go_wp2
      go_ret
      exact ⟨by rw [HE.out]; rfl, HB.out⟩
    case pos =>
      have hxk := hx.out k hlt
      have hp : (0 ≤ (k : Int)) = True := eq_true (by omega)
      have hq : ((k : Int) < (a1.size : Int)) = True := eq_true (by omega)
      have HR2 := Aside0.mk (show crcl ((bytesOf a1).drop (k + 1)) (crcn 8 (Go.bits .xor .i64 c (bt a1 (k : Int)))) = R by
        have h := HR.out
        have hl : k < (bytesOf a1).length := by rw [bytesOf_length]; exact hlt
        rw [List.drop_eq_getElem_cons hl] at h
        have e : (bytesOf a1)[k] = bt a1 (k : Int) := by
          rw [← rd_bytesOf]
          unfold rd
          rw [Int.toNat_natCast, List.getD_eq_getElem?_getD, List.getElem?_eq_getElem hl, Option.getD_some]
        rw [e] at h
        simpa only [crcl] using h)
      clear HR
      obtain ⟨X, hX⟩ : ∃ X, crcn 8 (Go.bits .xor .i64 c (bt a1 (k : Int))) = X := ⟨_, rfl⟩
      have HX := Aside0.mk hX
      rw [hX] at HR2
      clear hX
      go_wp2
      go_loopw [0, 29] (fun v0 v29 wq => ∃ (j : Nat) (c' : Int), v29 = .int .i64 j ∧ v0 = .int .i64 c' ∧ Aside0 (j ≤ 8) ∧ Aside0 (crcn (8 - j) c' = X) ∧ wq = wr) (fun _ i _ => 8 - (intOf i).toNat)
      case atStart => exact ⟨0, _, rfl, rfl, ⟨by omega⟩, ⟨by rw [bt_w]; exact HX.out⟩, rfl⟩
      case round =>
        obtain ⟨j, c', rfl, rfl, HJ, HC, rfl⟩ := hrel
        have hj8 : j ≤ 8 := HJ.out
        by_cases hlt8 : j < 8
        case neg =>
          have hje : j = 8 := by omega
          have HE := Aside0.mk (show X = c' by
            have h := HC.out
            rw [hje] at h
            simp only [Nat.sub_self, crcn] at h
            exact h.symm)
          have hge : ¬ (j : Int) < 8 := by omega
          have hk9 : (k : Int) < 9001 := by have := HS.out; omega
          have hk0 : (0 : Int) ≤ (k : Int) := by omega
          have ek := k_w k (Nat.le_trans hkl HS.out)
          go_wp2
          go_roundw
          case rel => exact ⟨k + 1, c', (by first | go_num | (simp; exact ek)), rfl, ⟨by omega⟩, ⟨by rw [← HE.out]; exact HR2.out⟩, (by first | rfl | trivial)⟩
          case measure =>
            simp only [intOf]
            first | exact crc_meas2 _ _ hlt | exact crc_meas _ _ hlt (Nat.le_trans hkl HS.out)
        case pos =>
          obtain ⟨e, he⟩ : ∃ e, 8 - j = e + 1 := ⟨7 - j, by omega⟩
          have he2 : 8 - (j + 1) = e := by omega
          have hlt9 : (j : Int) < 8 := by omega
          by_cases hodd : Go.bits .and .i64 c' 1 = 1
          case pos =>
            have HC2 := Aside0.mk (show crcn (8 - (j + 1)) (Go.bits .xor .i64 (c' / 2) 3988292384) = X by
              have h := HC.out
              rw [he] at h
              simp only [crcn, crc1] at h
              rw [if_pos hodd] at h
              rw [he2]
              exact h)
            have hb0 : (Go.bits .and .i64 c' 1 == 1) = true := beq_iff_eq.2 hodd
            clear hodd
            go_wp2
            go_roundw
            case rel => exact ⟨j + 1, _, by go_num, rfl, ⟨by omega⟩, ⟨HC2.out⟩, (by first | rfl | trivial)⟩
            case measure =>
              simp only [intOf]
              exact crc_meas2 _ _ hlt8
          case neg =>
            have HC2 := Aside0.mk (show crcn (8 - (j + 1)) (c' / 2) = X by
              have h := HC.out
              rw [he] at h
              simp only [crcn, crc1] at h
              rw [if_neg hodd] at h
              rw [he2]
              exact h)
            have hb0 : (Go.bits .and .i64 c' 1 == 1) = false := beq_eq_false_iff_ne.2 hodd
            clear hodd
            go_wp2
            go_roundw
            case rel => exact ⟨j + 1, _, by go_num, rfl, ⟨by omega⟩, ⟨HC2.out⟩, (by first | rfl | trivial)⟩
            case measure =>
              simp only [intOf]
              exact crc_meas2 _ _ hlt8
theorem impl_CrcMore.calls (a0 : Int) (a1 : ByteArray) (r : Int) (w : World) (h : impl_CrcMore.f a0 a1 = some r) :
    Calls Tryd.prog 54 #[.int .i64 a0, .string a1] w fun e w' => e = .returned (.int .i64 r) ∧ Below w.heap.size w w' := by
  unfold impl_CrcMore.f at h
  by_cases ho : crcOk a0 a1
  · rw [if_pos ho] at h
    obtain rfl := Option.some.inj h
    exact impl_CrcMore.yes a0 a1 w ho
  · rw [if_neg ho] at h
    obtain rfl := Option.some.inj h
    exact impl_CrcMore.no a0 a1 w ho

end Go.Proofs.YtdhpekdfpoeboaaDoor.P
-- Written by a program of this session (wip/myprint.py) through the print of the kit: not trusted, Lean checks it.
namespace Go.Proofs.YtdhpekdfpoeboaaDoor.P
open Go.RowKit Go.Proofs.YtdhpekdfpoeboaaDoorW.PrintWords Go.Proofs.YtdhpekdfpoeboaaDoorW.PrintLast Go.Proofs.YtdhpekdfpoeboaaDoorW.PrintMore
attribute [local go_sem] max2_int min2_int max_two min_two max_three min_three max_four min_four   -- for this text's walks alone
set_option linter.unusedVariables false
set_option linter.unusedSimpArgs false

/-! ### impl_Crc32: function 41 -/
def impl_Crc32.f (a0 : ByteArray) : Option (Int) := (impl_CrcMore.f 0 a0).bind fun t179 => (some t179)
set_option maxHeartbeats 8000000 in
set_option maxRecDepth 100000 in
theorem impl_Crc32.calls (a0 : ByteArray) (r : Int) (w : World) (h : impl_Crc32.f a0 = some r) :
    Calls Tryd.prog 41 #[.string a0] w fun e w' => e = .returned (.int .i64 r) ∧ Below w.heap.size w w' := by
  have HB := Aside0.mk (Below.refl w.heap.size w)
  have H : ((impl_CrcMore.f 0 a0).bind fun t179 => (some t179)) = some r := h
  clear h
  replace H := Option.bind_eq_some_iff.mp H
  obtain ⟨t179, A20, H⟩ := H
  replace H : (some t179) = some r := H
  have A2 := Aside0.mk A20
  clear A20
  obtain rfl := Option.some.inj H
  go_enter Tryd.func41, Tryd.ntmps41
  go_wp2_with (first | ((with_reducible refine gate_callee (f := 54) rfl ?_); refine goesL_ (some 4) rfl rfl Tryd.func54 (by kernel_rfl) rfl #[.int .i64 0, .string a0] rfl (by (try simp only [List.map_toArray, List.map_cons, List.map_nil]); first | done | rfl | (simp only [List.length_drop, List.length_take]; rfl)) ?_; (with_reducible refine (impl_CrcMore.calls 0 a0 t179 _ A2.out).mono ?_); rintro e w3 ⟨rfl, hb⟩; refine ⟨_, rfl, ?_⟩; have n0_ := Aside0.mk (below_step (by repeat (first | (with_reducible first | exact HB.out | apply below_alloc | apply pw_below_drewN | apply below_drew1) | exact HB.out)) hb); clear HB; have HB := n0_; clear n0_; (try clear hb); (try clear hb2); (try clear hk); (try clear hi)))
  go_ret
  exact ⟨by first | rfl | (simp [errW_none, errW_some] <;> rfl) | (simp [*, errW_none, errW_some] <;> rfl), by repeat (first | (with_reducible first | exact HB.out | apply below_alloc | apply pw_below_drewN | apply below_drew1) | exact HB.out)⟩

end Go.Proofs.YtdhpekdfpoeboaaDoor.P
