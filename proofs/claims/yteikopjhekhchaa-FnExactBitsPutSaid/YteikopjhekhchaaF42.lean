-- Written by a program of this session (wip/myprint.py) through the print of the kit: not trusted, Lean checks it.
import Derived.Test.YteikopjhekhchaaF00
import Derived.Test.YteikopjhekhchaaF51
import Derived.Test.YteikopjhekhchaaF72
import Derived.Test.YteikopjhekhchaaF92
namespace Go.Proofs.Yteikopjhekhchaa.P
open Go.RowKit Go.Proofs.YteikopjhekhchaaW.PrintWords Go.Proofs.YteikopjhekhchaaW.PrintLast Go.Proofs.YteikopjhekhchaaW.PrintMore
attribute [local go_sem] max2_int min2_int max_two min_two max_three min_three max_four min_four   -- for this text's walks alone
set_option linter.unusedVariables false
set_option linter.unusedSimpArgs false

/-! ### impl_BitsPut: function 42 -/
def bitIn (b : S59) : Bool := decide (0 ≤ b.f1) && decide (b.f1 ≤ 24)
def bitOk (b : S59) : Bool := bitIn b && (decide (0 ≤ b.f0) && decide (b.f0 ≤ 2 ^ b.f1.toNat - 1))
def bitsSum : List S59 → Int
  | [] => 0
  | b :: l => b.f1 + bitsSum l
def pkBits (high : Bool) : List S59 → List Int → Int → List Int
  | [], xs, _ => xs
  | b :: l, xs, pos => pkBits high l (pkPut b.f0 b.f1.toNat high 0 xs pos b.f1.toNat) (pos + b.f1)
def impl_BitsPut.f (l0 : List S59) (a1 : Bool) : Option ByteArray :=
  if l0.length ≤ 1099511627776 then (if l0.all bitOk = true then (if bitsSum l0 > 72000 then some ⟨#[]⟩ else some (strOfNums (pkBits a1 l0 [] 0))) else some ⟨#[]⟩) else none
theorem in_eq0 (x a1 : Int) : impl_in.f x 0 a1 = some (decide (0 ≤ x) && decide (x ≤ a1)) := by
  unfold impl_in.f
  by_cases h : x ≥ 0
  · have h' : 0 ≤ x := h
    rw [if_pos h]; simp [h']
  · have h' : ¬ 0 ≤ x := h
    rw [if_neg h]; simp [h']
/-- The first loop: what comes of it from place k on: some sum, or none. -/
def bitsScan : List S59 → Int → Option Int
  | [], s => some s
  | b :: l, s => if bitOk b = true then bitsScan l (s + b.f1) else none
theorem bitsScan_eq (l : List S59) : ∀ s, bitsScan l s = if l.all bitOk = true then some (s + bitsSum l) else none := by
  induction l with
  | nil => intro s; simp [bitsScan, bitsSum]
  | cons b l ih =>
    intro s
    simp only [bitsScan, bitsSum, show (b :: l).all bitOk = (bitOk b && l.all bitOk) from rfl]
    generalize bitOk b = ok
    cases ok
    · simp
    · simp only [if_true, Bool.true_and, ih]
      split
      · congr 1; omega
      · rfl
theorem rdT_get {l : List S59} {k : Nat} (h : k < l.length) : rd_T59 l (k : Int) = l[k] := by
  unfold rd_T59
  rw [List.getD_eq_getElem?_getD]
  simp [h]
theorem bitsScan_step {l : List S59} {k : Nat} {x z s : Int} (h : k < l.length) (hx : ⟨x, z⟩ = rd_T59 l (k : Int)) : bitsScan (l.drop k) s = if bitOk ⟨x, z⟩ = true then bitsScan (l.drop (k + 1)) (s + z) else none := by
  rw [List.drop_eq_getElem_cons h, ← rdT_get h, ← hx]
  rfl
theorem bits_bad {l : List S59} {a1 : Bool} {r : ByteArray} (h : bitsScan l 0 = none) (hf : (if l.all bitOk = true then (if bitsSum l > 72000 then some ⟨#[]⟩ else some (strOfNums (pkBits a1 l [] 0))) else some ⟨#[]⟩) = some r) : r = ⟨#[]⟩ := by
  rw [bitsScan_eq] at h
  by_cases ha : l.all bitOk = true
  · rw [if_pos ha] at h; cases h
  · rw [if_neg ha] at hf
    exact (Option.some.inj hf).symm
theorem bits_good {l : List S59} {s : Int} (h : some s = bitsScan l 0) : l.all bitOk = true ∧ bitsSum l = s := by
  rw [bitsScan_eq] at h
  by_cases ha : l.all bitOk = true
  · rw [if_pos ha] at h
    have := Option.some.inj h
    exact ⟨ha, by omega⟩
  · rw [if_neg ha] at h; cases h
theorem bitsSum_nn (l : List S59) (h : l.all bitOk = true) : 0 ≤ bitsSum l := by
  induction l with
  | nil => simp [bitsSum]
  | cons b l ih =>
    simp only [List.all_cons, Bool.and_eq_true] at h
    have h1 := h.1
    unfold bitOk bitIn at h1
    simp only [Bool.and_eq_true, decide_eq_true_eq] at h1
    have := ih h.2
    simp only [bitsSum]
    omega
theorem bitOk_of {x z : Int} (h : bitOk ⟨x, z⟩ = true) : (0 ≤ z ∧ z ≤ 24) ∧ (0 ≤ x ∧ x ≤ 2 ^ z.toNat - 1) := by
  unfold bitOk bitIn at h
  simpa only [Bool.and_eq_true, decide_eq_true_eq] using h
theorem pkBits_step {l : List S59} {k : Nat} {x : Int} {Z : Nat} {ys : List Int} {pos : Int} {a1 : Bool} (h : k < l.length) (hx : ⟨x, (Z : Int)⟩ = rd_T59 l (k : Int)) : pkBits a1 (l.drop k) ys pos = pkBits a1 (l.drop (k + 1)) (pkPut x Z a1 0 ys pos Z) (pos + Z) := by
  rw [List.drop_eq_getElem_cons h, ← rdT_get h, ← hx]
  rfl
theorem all_at {l : List S59} {k : Nat} {x z : Int} (ha : l.all bitOk = true) (h : k < l.length) (hx : ⟨x, z⟩ = rd_T59 l (k : Int)) : bitOk ⟨x, z⟩ = true := by
  rw [hx, rdT_get h]
  exact List.all_eq_true.1 ha _ (List.getElem_mem h)
theorem bits_tail {l : List S59} {k : Nat} {x z : Int} (h : k < l.length) (hx : ⟨x, z⟩ = rd_T59 l (k : Int)) : bitsSum (l.drop k) = z + bitsSum (l.drop (k + 1)) := by
  rw [List.drop_eq_getElem_cons h, ← rdT_get h, ← hx]
  rfl
set_option maxHeartbeats 4000000 in
set_option maxRecDepth 100000 in
theorem impl_BitsPut.calls (A0 : Option Addr) (c0 : Nat) (l0 : List S59) (a1 : Bool) (r : ByteArray) (w : World) (hr0 : Kd.C k59 w A0 l0.length l0) (hc0 : l0.length ≤ c0) (h : impl_BitsPut.f l0 a1 = some r) :
    Calls Try.prog 42 #[.slice A0 l0.length c0, .bool a1] w fun e w' => e = .returned (.string r) ∧ Below w.heap.size w w' := by
  have hu := Try.underlying59
  unfold impl_BitsPut.f at h
  have hm : l0.length ≤ 1099511627776 := by
    by_cases h1 : l0.length ≤ 1099511627776
    · exact h1
    · rw [if_neg h1] at h; simp at h
  rw [if_pos hm] at h
  have HR0 := Aside0.mk hr0
  have HC0 := Aside0.mk hc0
  have HF := Aside0.mk h
  have HM := Aside0.mk hm
  clear hr0 hc0 h
  go_enter Try.func42, Try.ntmps42
  go_wp2
  go_loopw [5, 13] (fun v5 v13 wr => ∃ (k d : Nat) (s : Int), v13 = .int .i64 k ∧ v5 = .int .i64 s ∧ Aside0 (k + d = l0.length) ∧ Aside0 (0 ≤ s ∧ s ≤ 24 * k) ∧ Aside0 (bitsScan (l0.drop k) s = bitsScan l0 0) ∧ Aside0 (Below w.heap.size w wr)) (fun _ i _ => l0.length - (intOf i).toNat)
  case atStart => exact ⟨0, l0.length, 0, rfl, rfl, ⟨by omega⟩, ⟨by omega⟩, ⟨by simp⟩, ⟨Below.refl _ _⟩⟩
  case round =>
    obtain ⟨k, d, s, rfl, rfl, HD, HS, HSc, HB⟩ := hrel
    have hkl : k ≤ l0.length := by have := HD.out; omega
    cases d with
    | zero =>
      have hge : ¬ k < l0.length := by have := HD.out; omega
      have HG := Aside0.mk (bits_good (s := s) (by rw [← HSc.out, List.drop_eq_nil_of_le (by omega)]; rfl))
      by_cases hbig : 72000 < s
      · have HE := Aside0.mk (show r = ⟨#[]⟩ by
          have h := HF.out
          rw [if_pos HG.out.1, if_pos (by rw [HG.out.2]; exact hbig)] at h
          exact (Option.some.inj h).symm)
        clear HF HG HSc
        go_wp2
        go_ret
        exact ⟨by rw [HE.out]; rfl, HB.out⟩
      · have HE := Aside0.mk (show r = strOfNums (pkBits a1 l0 [] 0) by
          have h := HF.out
          rw [if_pos HG.out.1, if_neg (by rw [HG.out.2]; exact hbig)] at h
          exact (Option.some.inj h).symm)
        have HSm := Aside0.mk (show bitsSum l0 ≤ 72000 by rw [HG.out.2]; omega)
        have HAll := Aside0.mk HG.out.1
        obtain ⟨R, hR⟩ : ∃ R, pkBits a1 l0 [] 0 = R := ⟨_, rfl⟩
        rw [hR] at HE
        have HR := Aside0.mk hR
        clear hR HF HG HSc
        go_wp2
        go_loopw [43] (fun v43 wq => ∃ (k d : Nat) (ys : List Int) (pos : Int), v43 = .int .i64 k ∧ Aside0 (k + d = l0.length) ∧ Aside0 (0 ≤ pos ∧ pos + bitsSum (l0.drop k) ≤ 72000) ∧ Aside0 ((ys.length : Int) = (pos + 7) / 8) ∧ Aside0 (pkBits a1 (l0.drop k) ys pos = R) ∧ Aside0 (IsPk w wq wr.heap.size ys pos a1) ∧ Aside0 (Below w.heap.size w wq)) (fun i _ => l0.length - (intOf i).toNat)
        case atStart => exact ⟨0, l0.length, [], 0, rfl, ⟨by omega⟩, ⟨by have := HSm.out; simp; exact this⟩, ⟨by simp⟩, ⟨by have := HR.out; simpa using this⟩, ⟨IsPk.new w wr a1 HB.out.size⟩, ⟨below_alloc HB.out _⟩⟩
        case round =>
          clear HR HD HSm hkl hge hbig HB HS
          obtain ⟨k, d, ys, pos, rfl, HD, HP, HN, HR, HI, HB⟩ := hrel
          have hkl : k ≤ l0.length := by have := HD.out; omega
          cases d with
          | zero =>
            have hge : ¬ k < l0.length := by have := HD.out; omega
            have HE2 := Aside0.mk (show R = ys by
              have h := HR.out
              rw [List.drop_eq_nil_of_le (by omega)] at h
              simp only [pkBits] at h
              exact h.symm)
            obtain ⟨vv, hbk, hok, hgk⟩ := HI.out
            have c0' := blk_cell hbk 0
            simp at c0'
            have hcv := own_string (P := Try.prog) Try.underlying34 Try.underlying5 Try.underlying9 hok
            clear hbk hok hgk
            go_wp2
            go_ret
            exact ⟨by rw [HE.out, HE2.out]; rfl, by repeat (first | exact HB.out | apply below_alloc | apply pw_below_drewN | apply below_drew1)⟩
          | succ d =>
            have hlt : k < l0.length := by have := HD.out; omega
            obtain ⟨ad, hA0, hx0, hx1⟩ := at_T59 (Kd.C_below HR0.out HB.out) (k : Int) (by omega) (by omega)
            obtain ⟨⟨x, z⟩, hxx⟩ : ∃ x, x = rd_T59 l0 k := ⟨_, rfl⟩
            rw [← hxx] at hx0 hx1
            simp only [Int.toNat_natCast] at hx0 hx1
            have hok := bitOk_of (all_at HAll.out hlt hxx)
            obtain ⟨Z, rfl⟩ : ∃ Z : Nat, z = Z := ⟨z.toNat, by omega⟩
            rw [Int.toNat_natCast] at hok
            have p2 := pow2_32 (D := Z) (by omega)
            have HQ := Aside0.mk (show (0 ≤ x ∧ x ≤ 9223372036854775807) ∧ Z ≤ 64 by omega)
            have HT := Aside0.mk (show pos ≤ 72000 ∧ 0 ≤ pos + Z ∧ pos + Z + bitsSum (l0.drop (k + 1)) ≤ 72000 by
              have h1 := HP.out
              have h2 := bits_tail hlt hxx
              have h3 := bitsSum_nn (l0.drop (k + 1)) (List.all_eq_true.2 fun y hy => List.all_eq_true.1 HAll.out y (List.mem_of_mem_drop hy))
              omega)
            have HX := Aside0.mk (show pkBits a1 (l0.drop (k + 1)) (pkPut x Z a1 0 ys pos Z) (pos + Z) = R by rw [← pkBits_step hlt hxx]; exact HR.out)
            subst hA0
            clear hxx hok p2 HR
            go_wp2_with (go_at_call 72; refine (impl_packer_put.calls _ ys pos x Z a1 w _ HN.out HQ.out.2 HP.out.1 (by have := HT.out; omega) HQ.out.1.1 HQ.out.1.2 (HI.out.alloc _) (below_alloc HB.out _)).mono ?_; rintro e w' ⟨rfl, hi, hb⟩; have HI2 := Aside0.mk hi; have HB2 := Aside0.mk hb; clear hi hb)
            go_roundw
            case rel => exact ⟨k + 1, d, _, pos + Z, by go_num, ⟨by have := HD.out; omega⟩, ⟨by have := HT.out; omega⟩, ⟨pkPut_len x Z a1 Z 0 ys pos HP.out.1 HN.out⟩, HX, HI2, HB2⟩
            case measure => simp [intOf]; omega
    | succ d =>
      have hlt : k < l0.length := by have := HD.out; omega
      obtain ⟨ad, hA0, hx0, hx1⟩ := at_T59 (Kd.C_below HR0.out HB.out) (k : Int) (by omega) (by omega)
      obtain ⟨⟨x, z⟩, hxx⟩ : ∃ x, x = rd_T59 l0 k := ⟨_, rfl⟩
      rw [← hxx] at hx0 hx1
      simp only [Int.toNat_natCast] at hx0 hx1
      have HX := Aside0.mk (bitsScan_step (s := s) hlt hxx)
      have hs := HS.out
      have hs1 := hs.1
      have hs2 := hs.2
      clear hxx hs
      subst hA0
      by_cases hz : 0 ≤ z ∧ z ≤ 24
      · have h1 := Aside0.mk (show impl_in.f z 0 24 = some true by rw [in_eq0]; simp [hz])
        obtain ⟨Z, rfl⟩ : ∃ Z : Nat, z = Z := ⟨z.toNat, by omega⟩
        have p1 := pow2_1 Z
        have p2 := pow2_32 (D := Z) (by omega)
        by_cases hv : 0 ≤ x ∧ x ≤ 2 ^ Z - 1
        · have h2 := Aside0.mk (show impl_in.f x 0 (2 ^ Z - 1) = some true by rw [in_eq0]; simp [hv])
          have HY := Aside0.mk (show bitsScan (l0.drop (k + 1)) (s + Z) = bitsScan l0 0 by
            rw [← HSc.out, HX.out, if_pos]
            unfold bitOk bitIn
            simp [hv, hz])
          clear HX HSc
          go_wp2
          go_quiet ((first | (go_at_call 51; with_reducible exact Calls.quiet_of ((impl_in.calls (Z : Int) 0 24 true _ h1.out).mono fun _ _ hh => ⟨hh.1, hh.2.out⟩)) | (go_at_call 51; with_reducible exact Calls.quiet_of ((impl_in.calls x 0 (2 ^ Z - 1) true _ h2.out).mono fun _ _ hh => ⟨hh.1, hh.2.out⟩))))
          go_wp2
          go_roundw
          case rel => exact ⟨k + 1, d, s + Z, by go_num, rfl, ⟨by have := HD.out; omega⟩, ⟨by omega⟩, HY, ⟨by repeat (first | exact HB.out | apply below_alloc | apply pw_below_drewN | apply below_drew1)⟩⟩
          case measure => simp [intOf]; omega
        · have h2 := Aside0.mk (show impl_in.f x 0 (2 ^ Z - 1) = some false by rw [in_eq0]; simpa using hv)
          have HE := Aside0.mk (show r = ⟨#[]⟩ from bits_bad (by
            rw [← HSc.out, HX.out, if_neg]
            unfold bitOk bitIn
            simpa [hz] using hv) HF.out)
          clear HX HSc HF
          go_wp2
          go_quiet ((first | (go_at_call 51; with_reducible exact Calls.quiet_of ((impl_in.calls (Z : Int) 0 24 true _ h1.out).mono fun _ _ hh => ⟨hh.1, hh.2.out⟩)) | (go_at_call 51; with_reducible exact Calls.quiet_of ((impl_in.calls x 0 (2 ^ Z - 1) false _ h2.out).mono fun _ _ hh => ⟨hh.1, hh.2.out⟩))))
          go_wp2
          go_ret
          exact ⟨by rw [HE.out]; rfl, by repeat (first | exact HB.out | apply below_alloc | apply pw_below_drewN | apply below_drew1)⟩
      · have h1 := Aside0.mk (show impl_in.f z 0 24 = some false by rw [in_eq0]; simpa using hz)
        have HE := Aside0.mk (show r = ⟨#[]⟩ from bits_bad (by
          rw [← HSc.out, HX.out, if_neg]
          intro hb
          exact hz (bitOk_of hb).1) HF.out)
        clear HX HSc HF
        go_wp2
        go_quiet ((go_at_call 51; with_reducible exact Calls.quiet_of ((impl_in.calls z 0 24 false _ h1.out).mono fun _ _ hh => ⟨hh.1, hh.2.out⟩)))
        go_wp2
        go_ret
        exact ⟨by rw [HE.out]; rfl, by repeat (first | exact HB.out | apply below_alloc | apply pw_below_drewN | apply below_drew1)⟩

end Go.Proofs.Yteikopjhekhchaa.P
