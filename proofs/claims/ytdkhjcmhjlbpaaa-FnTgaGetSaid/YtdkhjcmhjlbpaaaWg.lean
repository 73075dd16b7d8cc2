/- impl: tgaHead. -/
import Derived.Test.YtdkhjcmhjlbpaaaWf
set_option linter.unusedVariables false
set_option maxRecDepth 10000
namespace Go.Proofs.Ytdkhjcmhjlbpaaa.G
open Go
section
variable {g : Nat} {s : ByteArray} {p : Nat} {bad : Bool}
def GotS (s : ByteArray) (p : Nat) (bad : Bool) (z : Int) (p2 : Nat) (bad2 : Bool) (x : ByteArray) : Prop :=
  p2 ≤ s.size ∧ (x.size : Int) = z ∧ (bad2 = false → bad = false ∧ (p2 : Int) = p + z ∧ x = s.extract p p2) ∧ (bad2 = true → bad = true ∨ (s.size : Int) < p + z)
def GotST (P : Program) (f : FuncId) (args : List Value) (g : Nat) (s : ByteArray) (p : Nat) (bad : Bool) (z : Int) : Prop :=
  Trip P f args [(g, sc s p bad)] (fun v F' ns => ∃ p2 bad2 x, v = .string x ∧ F' = [(g, sc s p2 bad2)] ∧ ns = [] ∧ GotS s p bad z p2 bad2 x)
theorem take_g {m : Int} (hs : s.size ≤ 1000000000000) (hp : p ≤ s.size) (h1 : 0 ≤ m) (h2 : m ≤ 1000000000) : GotST Try.prog 58 [ptr g, .int .i64 m] g s p bad m := by
  obtain ⟨z, rfl⟩ := Int.eq_ofNat_of_zero_le h1
  by_cases h : bad = false ∧ p + z ≤ s.size
  · obtain ⟨rfl, h⟩ := h
    exact (take_t hs h).mono fun v F' ns ⟨h3, h4, h5⟩ => ⟨_, _, _, h3, h4, h5, h, by rw [size_extract h], fun _ => ⟨rfl, by omega, rfl⟩, fun h => by cases h⟩
  · refine (take_f hs hp (by omega) (nope h)).mono fun v F' ns ⟨h3, h4, h5⟩ => ⟨_, _, _, h3, h4, h5, hp, by rw [zeros_size], fun h => (by cases h), fun _ => (nope h).imp id fun h => (by omega)⟩
end
theorem gs_sct {P : Program} {ops os : List Oper} {H : Option (List Hint)} {K : Env → GL → Prop} {e : Env} {l : GL} {d : Nat} {T : TypeId} {pos : String} {af : Array Edge} {g : Nat} {s : ByteArray} {p : Nat} {bad : Bool} {f : FuncId} {xs : Array Operand} {ts : Array TypeId} {z : Int} (hent : Ent P f) (h : GotST P f (xs.toList.map (gev e)) g s p bad z) (k : ∀ p2 bad2 x, GotS s p bad z p2 bad2 x → gseq P ops os (tl? H) K (upd e d (.string x)) ((g, sc s p2 bad2) :: l)) (hh : hE [0] H := by trivial) : gseq P ops (⟨some d, .call { callee := .value (.func f), args := xs, argTypes := ts }, T, pos, af, none⟩ :: os) H K e ((g, sc s p bad) :: l) := by
  refine gs_call [0] hent rfl (by decide) h (fun v F' ns ho _ _ => ?_) hh
  obtain ⟨p2, bad2, x, rfl, rfl, rfl, hg⟩ := ho
  simpa [setAll, updo] using k p2 bad2 x hg
/-- What a head must say; x0 .. as they are read. -/
structure Hd where
  (ahead has number frm many bits zero wide high depth last : Int)
def Hd.runs (h : Hd) : Prop := 8 ≤ h.number
instance (h : Hd) : Decidable h.runs := by unfold Hd.runs; infer_instance
def Hd.num (h : Hd) : Int := if h.runs then h.number - 8 else h.number
def Hd.kind (h : Hd) : Int := tK h.num h.depth
def Hd.lst (h : Hd) : Int := if h.kind = 3 then h.last - 8 else h.last
def Hd.colors (h : Hd) : Prop := if h.kind = 4 then h.has = 1 ∧ h.bits = 24 ∧ (1 ≤ h.many ∧ h.many ≤ 256) else h.has = 0 ∧ h.bits = 0 ∧ h.many = 0
instance (h : Hd) : Decidable h.colors := by unfold Hd.colors; infer_instance
def Hd.ok (h : Hd) : Prop := h.colors ∧ h.frm = 0 ∧ h.zero = 0 ∧ tT h.kind h.depth = h.num ∧ h.num ≠ 0 ∧ dOk h.kind h.depth ∧ (h.lst = 0 ∨ h.lst = 32)
instance (h : Hd) : Decidable h.ok := by unfold Hd.ok; infer_instance
def Hd.size (h : Hd) : Prop := (1 ≤ h.wide ∧ h.wide ≤ 20) ∧ (1 ≤ h.high ∧ h.high ≤ 20)
instance (h : Hd) : Decidable h.size := by unfold Hd.size; infer_instance
def Hd.rng (h : Hd) : Prop := (0 ≤ h.ahead ∧ h.ahead ≤ 255) ∧ (0 ≤ h.number ∧ h.number ≤ 255) ∧ (0 ≤ h.many ∧ h.many ≤ 65535) ∧ (0 ≤ h.last ∧ h.last ≤ 255)
/-- The fields of a text. -/
def hdOf (s : ByteArray) : Hd := ⟨byt s 0, byt s 1, byt s 2, fld s 3 2 false 2, fld s 5 2 false 2, byt s 7, fld s 8 4 false 4, fld s 12 2 false 2, fld s 14 2 false 2, byt s 16, byt s 17⟩
section
variable {g : Nat} {s : ByteArray}
def HeadOut (g : Nat) (s : ByteArray) : OutT := fun v F' ns => ∃ p bad k d w h a n c runs down q, v = .tuple #[img k d w h (.slice a n c) (.slice none 0 0), .bool runs, .bool down] ∧ F' = [(g, sc s p bad)] ∧ ns = [q] ∧ (bad = true ∧ ¬ (18 ≤ s.size ∧ (hdOf s).ok ∧ (hdOf s).size ∧ 18 + (hdOf s).ahead + 3 * (hdOf s).many ≤ s.size) ∨ (bad = false ∧
  (18 ≤ s.size ∧ (hdOf s).ok ∧ (hdOf s).size ∧ k = (hdOf s).kind ∧ d = (hdOf s).depth ∧ w = (hdOf s).wide ∧ h = (hdOf s).high ∧ runs = decide (hdOf s).runs ∧ down = decide ((hdOf s).lst = 0) ∧
    (p : Int) = 18 + (hdOf s).ahead + 3 * (hdOf s).many ∧ p ≤ s.size ∧ OI (.slice a n c) q (cols (s.extract (18 + (hdOf s).ahead.toNat) p) 3 false (hdOf s).many.toNat))))
set_option maxHeartbeats 400000 in
theorem tgaHead_w (hs : s.size ≤ 9000) : Trip Try.prog 83 [ptr g] [(g, sc s 0 false)] (HeadOut g s) := by
  have hs' : s.size ≤ 1000000000000 := by omega
  refine trip_of Try.func83 rfl (by simp [Try.ntmps83]) ?_
  refine gw_seq (gw_text rfl ?_)
  refine gs_alloc tyT_ok rfl fun b2 => ?_
  repeat (first | refine gs_n tyT_ok 0 ?_ | refine gs_gn tyT_ok 0 rfl ?_ | refine gs_no rfl ?_ | refine gs_end ?_ | refine gs_end' ?_ | refine gw_seq ?_ | refine gw_text rfl ?_ | refine gw_skip ?_ | refine gw_yes rfl ?_ | refine gw_no rfl ?_ | refine gw_exit ?_ | refine gw_block ?_ | refine gw_label ?_ | (refine gs_n tyT_ok 0 ?_ (hp := ?hp); case hp => exact ⟨by decide, by decide⟩))
  refine gs_got ent126 (byte_g hs' (by omega)) fun p1 c1 x1 h1 => ?_
  repeat (first | refine gs_n tyT_ok 0 ?_ | refine gs_gn tyT_ok 0 rfl ?_ | refine gs_no rfl ?_ | refine gs_end ?_ | refine gs_end' ?_ | refine gw_seq ?_ | refine gw_text rfl ?_ | refine gw_skip ?_ | refine gw_yes rfl ?_ | refine gw_no rfl ?_ | refine gw_exit ?_ | refine gw_block ?_ | refine gw_label ?_ | (refine gs_n tyT_ok 0 ?_ (hp := ?hp); case hp => exact ⟨by decide, by decide⟩))
  refine gs_got ent126 (byte_g hs' h1.2.2.1) fun p2 c2 x2 h2 => ?_
  repeat (first | refine gs_n tyT_ok 0 ?_ | refine gs_gn tyT_ok 0 rfl ?_ | refine gs_no rfl ?_ | refine gs_end ?_ | refine gs_end' ?_ | refine gw_seq ?_ | refine gw_text rfl ?_ | refine gw_skip ?_ | refine gw_yes rfl ?_ | refine gw_no rfl ?_ | refine gw_exit ?_ | refine gw_block ?_ | refine gw_label ?_ | (refine gs_n tyT_ok 0 ?_ (hp := ?hp); case hp => exact ⟨by decide, by decide⟩))
  refine gs_got ent126 (byte_g hs' h2.2.2.1) fun p3 c3 x3 h3 => ?_
  repeat (first | refine gs_n tyT_ok 0 ?_ | refine gs_gn tyT_ok 0 rfl ?_ | refine gs_no rfl ?_ | refine gs_end ?_ | refine gs_end' ?_ | refine gw_seq ?_ | refine gw_text rfl ?_ | refine gw_skip ?_ | refine gw_yes rfl ?_ | refine gw_no rfl ?_ | refine gw_exit ?_ | refine gw_block ?_ | refine gw_label ?_ | (refine gs_n tyT_ok 0 ?_ (hp := ?hp); case hp => exact ⟨by decide, by decide⟩))
  refine gs_got ent57 (number_g (z := 2) hs' h3.2.2.1 (by omega) (by omega)) fun p4 c4 x4 h4 => ?_
  repeat (first | refine gs_n tyT_ok 0 ?_ | refine gs_gn tyT_ok 0 rfl ?_ | refine gs_no rfl ?_ | refine gs_end ?_ | refine gs_end' ?_ | refine gw_seq ?_ | refine gw_text rfl ?_ | refine gw_skip ?_ | refine gw_yes rfl ?_ | refine gw_no rfl ?_ | refine gw_exit ?_ | refine gw_block ?_ | refine gw_label ?_ | (refine gs_n tyT_ok 0 ?_ (hp := ?hp); case hp => exact ⟨by decide, by decide⟩))
  refine gs_got ent57 (number_g (z := 2) hs' h4.2.2.1 (by omega) (by omega)) fun p5 c5 x5 h5 => ?_
  repeat (first | refine gs_n tyT_ok 0 ?_ | refine gs_gn tyT_ok 0 rfl ?_ | refine gs_no rfl ?_ | refine gs_end ?_ | refine gs_end' ?_ | refine gw_seq ?_ | refine gw_text rfl ?_ | refine gw_skip ?_ | refine gw_yes rfl ?_ | refine gw_no rfl ?_ | refine gw_exit ?_ | refine gw_block ?_ | refine gw_label ?_ | (refine gs_n tyT_ok 0 ?_ (hp := ?hp); case hp => exact ⟨by decide, by decide⟩))
  refine gs_got ent126 (byte_g hs' h5.2.2.1) fun p6 c6 x6 h6 => ?_
  repeat (first | refine gs_n tyT_ok 0 ?_ | refine gs_gn tyT_ok 0 rfl ?_ | refine gs_no rfl ?_ | refine gs_end ?_ | refine gs_end' ?_ | refine gw_seq ?_ | refine gw_text rfl ?_ | refine gw_skip ?_ | refine gw_yes rfl ?_ | refine gw_no rfl ?_ | refine gw_exit ?_ | refine gw_block ?_ | refine gw_label ?_ | (refine gs_n tyT_ok 0 ?_ (hp := ?hp); case hp => exact ⟨by decide, by decide⟩))
  refine gs_got ent57 (number_g (z := 4) hs' h6.2.2.1 (by omega) (by omega)) fun p7 c7 x7 h7 => ?_
  repeat (first | refine gs_n tyT_ok 0 ?_ | refine gs_gn tyT_ok 0 rfl ?_ | refine gs_no rfl ?_ | refine gs_end ?_ | refine gs_end' ?_ | refine gw_seq ?_ | refine gw_text rfl ?_ | refine gw_skip ?_ | refine gw_yes rfl ?_ | refine gw_no rfl ?_ | refine gw_exit ?_ | refine gw_block ?_ | refine gw_label ?_ | (refine gs_n tyT_ok 0 ?_ (hp := ?hp); case hp => exact ⟨by decide, by decide⟩))
  refine gs_got ent57 (number_g (z := 2) hs' h7.2.2.1 (by omega) (by omega)) fun p8 c8 x8 h8 => ?_
  repeat (first | refine gs_n tyT_ok 0 ?_ | refine gs_gn tyT_ok 0 rfl ?_ | refine gs_no rfl ?_ | refine gs_end ?_ | refine gs_end' ?_ | refine gw_seq ?_ | refine gw_text rfl ?_ | refine gw_skip ?_ | refine gw_yes rfl ?_ | refine gw_no rfl ?_ | refine gw_exit ?_ | refine gw_block ?_ | refine gw_label ?_ | (refine gs_n tyT_ok 0 ?_ (hp := ?hp); case hp => exact ⟨by decide, by decide⟩))
  refine gs_got ent57 (number_g (z := 2) hs' h8.2.2.1 (by omega) (by omega)) fun p9 c9 x9 h9 => ?_
  repeat (first | refine gs_n tyT_ok 0 ?_ | refine gs_gn tyT_ok 0 rfl ?_ | refine gs_no rfl ?_ | refine gs_end ?_ | refine gs_end' ?_ | refine gw_seq ?_ | refine gw_text rfl ?_ | refine gw_skip ?_ | refine gw_yes rfl ?_ | refine gw_no rfl ?_ | refine gw_exit ?_ | refine gw_block ?_ | refine gw_label ?_ | (refine gs_n tyT_ok 0 ?_ (hp := ?hp); case hp => exact ⟨by decide, by decide⟩))
  refine gs_got ent126 (byte_g hs' h9.2.2.1) fun p10 c10 x10 h10 => ?_
  repeat (first | refine gs_n tyT_ok 0 ?_ | refine gs_gn tyT_ok 0 rfl ?_ | refine gs_no rfl ?_ | refine gs_end ?_ | refine gs_end' ?_ | refine gw_seq ?_ | refine gw_text rfl ?_ | refine gw_skip ?_ | refine gw_yes rfl ?_ | refine gw_no rfl ?_ | refine gw_exit ?_ | refine gw_block ?_ | refine gw_label ?_ | (refine gs_n tyT_ok 0 ?_ (hp := ?hp); case hp => exact ⟨by decide, by decide⟩))
  refine gs_alloc tyT_ok rfl fun b12 => ?_
  refine gs_store tyT_ok 2 rfl rfl rfl rfl rfl rfl (Nat.le_of_ble_eq_true rfl) (Nat.le_of_ble_eq_true rfl) ?_
  repeat (first | refine gs_n tyT_ok 0 ?_ | refine gs_gn tyT_ok 0 rfl ?_ | refine gs_no rfl ?_ | refine gs_end ?_ | refine gs_end' ?_ | refine gw_seq ?_ | refine gw_text rfl ?_ | refine gw_skip ?_ | refine gw_yes rfl ?_ | refine gw_no rfl ?_ | refine gw_exit ?_ | refine gw_block ?_ | refine gw_label ?_ | (refine gs_n tyT_ok 0 ?_ (hp := ?hp); case hp => exact ⟨by decide, by decide⟩))
  refine gs_got ent126 (byte_g hs' h10.2.2.1) fun p11 c11 x11 h11 => ?_
  repeat (first | refine gs_n tyT_ok 0 ?_ | refine gs_gn tyT_ok 0 rfl ?_ | refine gs_no rfl ?_ | refine gs_end ?_ | refine gs_end' ?_ | refine gw_seq ?_ | refine gw_text rfl ?_ | refine gw_skip ?_ | refine gw_yes rfl ?_ | refine gw_no rfl ?_ | refine gw_exit ?_ | refine gw_block ?_ | refine gw_label ?_ | (refine gs_n tyT_ok 0 ?_ (hp := ?hp); case hp => exact ⟨by decide, by decide⟩))
  refine gs_sct ent58 (take_g hs' h11.2.2.1 h1.1 (by have := h1.2.1; simp only [bnd] at this; omega)) fun p12 c12 t12 h12 => ?_
  obtain ⟨H, hH⟩ : ∃ H : Hd, H = ⟨x1, x2, x3, x4, x5, x6, x7, x8, x9, x10, x11⟩ := ⟨_, rfl⟩
  have e1 : x1 = H.ahead := by rw [hH]
  have e2 : x2 = H.has := by rw [hH]
  have e3 : x3 = H.number := by rw [hH]
  have e4 : x4 = H.frm := by rw [hH]
  have e5 : x5 = H.many := by rw [hH]
  have e6 : x6 = H.bits := by rw [hH]
  have e7 : x7 = H.zero := by rw [hH]
  have e8 : x8 = H.wide := by rw [hH]
  have e9 : x9 = H.high := by rw [hH]
  have e10 : x10 = H.depth := by rw [hH]
  have e11 : x11 = H.last := by rw [hH]
  have hfull : c11 = false → H = hdOf s := by
    intro a12
    obtain ⟨a11, b11, d11⟩ := h11.2.2.2.1 a12
    obtain ⟨a10, b10, d10⟩ := h10.2.2.2.1 a11
    obtain ⟨a9, b9, d9⟩ := h9.2.2.2.1 a10
    obtain ⟨a8, b8, d8⟩ := h8.2.2.2.1 a9
    obtain ⟨a7, b7, d7⟩ := h7.2.2.2.1 a8
    obtain ⟨a6, b6, d6⟩ := h6.2.2.2.1 a7
    obtain ⟨a5, b5, d5⟩ := h5.2.2.2.1 a6
    obtain ⟨a4, b4, d4⟩ := h4.2.2.2.1 a5
    obtain ⟨a3, b3, d3⟩ := h3.2.2.2.1 a4
    obtain ⟨a2, b2', d2⟩ := h2.2.2.2.1 a3
    obtain ⟨a1, b1, d1⟩ := h1.2.2.2.1 a2
    subst b1 b2' b3 b4 b5 b6 b7 b8 b9 b10 b11
    rw [hH]
    simp only [hdOf, Hd.mk.injEq, ← fld_byte]
    exact ⟨d1, d2, d3, d4, d5, d6, d7, d8, d9, d10, d11⟩
  have q1 : c1 = false → p1 = 1 := fun h => by
    have a := h1.2.2.2.1 h
    omega
  have b1 : c1 = true → s.size < 18 := fun h => by
    rcases h1.2.2.2.2 h with a | a
    · cases a
    · omega
  have q2 : c2 = false → p2 = 2 := fun h => by
    have a := h2.2.2.2.1 h
    have b := q1 a.1
    omega
  have b2' : c2 = true → s.size < 18 := fun h => by
    rcases h2.2.2.2.2 h with a | a
    · exact b1 a
    · cases hc : c1 with
      | false =>
        have := q1 hc
        omega
      | true => exact b1 hc
  have q3 : c3 = false → p3 = 3 := fun h => by
    have a := h3.2.2.2.1 h
    have b := q2 a.1
    omega
  have b3 : c3 = true → s.size < 18 := fun h => by
    rcases h3.2.2.2.2 h with a | a
    · exact b2' a
    · cases hc : c2 with
      | false =>
        have := q2 hc
        omega
      | true => exact b2' hc
  have q4 : c4 = false → p4 = 5 := fun h => by
    have a := h4.2.2.2.1 h
    have b := q3 a.1
    omega
  have b4 : c4 = true → s.size < 18 := fun h => by
    rcases h4.2.2.2.2 h with a | a
    · exact b3 a
    · cases hc : c3 with
      | false =>
        have := q3 hc
        omega
      | true => exact b3 hc
  have q5 : c5 = false → p5 = 7 := fun h => by
    have a := h5.2.2.2.1 h
    have b := q4 a.1
    omega
  have b5 : c5 = true → s.size < 18 := fun h => by
    rcases h5.2.2.2.2 h with a | a
    · exact b4 a
    · cases hc : c4 with
      | false =>
        have := q4 hc
        omega
      | true => exact b4 hc
  have q6 : c6 = false → p6 = 8 := fun h => by
    have a := h6.2.2.2.1 h
    have b := q5 a.1
    omega
  have b6 : c6 = true → s.size < 18 := fun h => by
    rcases h6.2.2.2.2 h with a | a
    · exact b5 a
    · cases hc : c5 with
      | false =>
        have := q5 hc
        omega
      | true => exact b5 hc
  have q7 : c7 = false → p7 = 12 := fun h => by
    have a := h7.2.2.2.1 h
    have b := q6 a.1
    omega
  have b7 : c7 = true → s.size < 18 := fun h => by
    rcases h7.2.2.2.2 h with a | a
    · exact b6 a
    · cases hc : c6 with
      | false =>
        have := q6 hc
        omega
      | true => exact b6 hc
  have q8 : c8 = false → p8 = 14 := fun h => by
    have a := h8.2.2.2.1 h
    have b := q7 a.1
    omega
  have b8 : c8 = true → s.size < 18 := fun h => by
    rcases h8.2.2.2.2 h with a | a
    · exact b7 a
    · cases hc : c7 with
      | false =>
        have := q7 hc
        omega
      | true => exact b7 hc
  have q9 : c9 = false → p9 = 16 := fun h => by
    have a := h9.2.2.2.1 h
    have b := q8 a.1
    omega
  have b9 : c9 = true → s.size < 18 := fun h => by
    rcases h9.2.2.2.2 h with a | a
    · exact b8 a
    · cases hc : c8 with
      | false =>
        have := q8 hc
        omega
      | true => exact b8 hc
  have q10 : c10 = false → p10 = 17 := fun h => by
    have a := h10.2.2.2.1 h
    have b := q9 a.1
    omega
  have b10 : c10 = true → s.size < 18 := fun h => by
    rcases h10.2.2.2.2 h with a | a
    · exact b9 a
    · cases hc : c9 with
      | false =>
        have := q9 hc
        omega
      | true => exact b9 hc
  have q11 : c11 = false → p11 = 18 := fun h => by
    have a := h11.2.2.2.1 h
    have b := q10 a.1
    omega
  have b11 : c11 = true → s.size < 18 := fun h => by
    rcases h11.2.2.2.2 h with a | a
    · exact b10 a
    · cases hc : c10 with
      | false =>
        have := q10 hc
        omega
      | true => exact b10 hc
  have hbad : c12 = true → s.size < 18 ∨ (H = hdOf s ∧ (s.size : Int) < 18 + H.ahead) := by
    intro hc
    rcases h12.2.2.2 hc with a | a
    · exact .inl (b11 a)
    · cases hc11 : c11 with
      | true => exact .inl (b11 hc11)
      | false =>
        have q := q11 hc11
        refine .inr ⟨hfull hc11, ?_⟩
        rw [← e1]
        omega
  have hgood : c12 = false → 18 ≤ s.size ∧ H = hdOf s ∧ (p12 : Int) = 18 + H.ahead ∧ t12 = s.extract 18 p12 := by
    intro hc
    obtain ⟨a12, b12, d12⟩ := h12.2.2.1 hc
    have q := q11 a12
    have hp := h11.2.2.1
    subst q
    exact ⟨by omega, hfull a12, by rw [← e1]; omega, d12⟩
  clear hfull q1 q2 q3 q4 q5 q6 q7 q8 q9 q10 q11 b1 b2' b3 b4 b5 b6 b7 b8 b9 b10 b11
  have r1 := h1.1
  have r1' : x1 ≤ 255 := h1.2.1
  have r3 := h3.1
  have r3' : x3 ≤ 255 := h3.2.1
  have r5 := h5.1
  have r5' : x5 ≤ 65535 := h5.2.1
  have r11 := h11.1
  have r11' : x11 ≤ 255 := h11.2.1
  rw [e1] at r1 r1'
  rw [e3] at r3 r3'
  rw [e5] at r5 r5'
  rw [e11] at r11 r11'
  have hp12 := h12.1
  clear hH h1 h2 h3 h4 h5 h6 h7 h8 h9 h10 h11 h12
  subst e1 e2 e3 e4 e5 e6 e7 e8 e9 e10 e11
  repeat (first | refine gs_n tyT_ok 0 ?_ | refine gs_gn tyT_ok 0 rfl ?_ | refine gs_no rfl ?_ | refine gs_end ?_ | refine gs_end' ?_ | refine gw_seq ?_ | refine gw_text rfl ?_ | refine gw_skip ?_ | refine gw_label ?_)
  refine gs_n tyT_ok 1 ?_
  repeat (first | refine gs_n tyT_ok 0 ?_ | refine gs_gn tyT_ok 0 rfl ?_ | refine gs_no rfl ?_ | refine gs_end ?_ | refine gs_end' ?_ | refine gw_seq ?_ | refine gw_text rfl ?_ | refine gw_skip ?_ | refine gw_label ?_)
  refine gw_join (α := Unit) (fun _ => [(0, ptr g), (2, ptr b2), (6, .int .i64 H.has), (7, .int .i64 H.num), (8, .int .i64 H.frm), (9, .int .i64 H.many), (10, .int .i64 H.bits), (11, .int .i64 H.zero), (12, ptr b12), (13, .int .i64 H.last), (14, .bool (decide H.runs))]) (fun _ => [(g, sc s p12 c12), (b2, imc 0 0 0 0 (.slice none 0 0) (.slice none 0 0)), (b12, imc 0 H.depth H.wide H.high (.slice none 0 0) (.slice none 0 0))]) (fun _ => True) ?_ fun _ e _ => ?_
  · refine gw_cond (t := decide (8 ≤ H.number)) rfl (fun h => ?_) (fun h => ?_)
    · have hn : H.num = H.number - 8 := if_pos (of_decide_eq_true h)
      rw [hn]
      repeat (first | refine gs_n tyT_ok 0 ?_ | refine gs_gn tyT_ok 0 rfl ?_ | refine gs_no rfl ?_ | refine gs_end ?_ | refine gs_end' ?_ | refine gw_seq ?_ | refine gw_text rfl ?_ | refine gw_skip ?_ | refine gw_label ?_)
      exact ⟨(), trivial, rfl, rfl, rfl, rfl, rfl, rfl, rfl, rfl, rfl, rfl, rfl, rfl, trivial⟩
    · have hn : H.num = H.number := if_neg (of_decide_eq_false h)
      rw [hn]
      repeat (first | refine gs_n tyT_ok 0 ?_ | refine gs_gn tyT_ok 0 rfl ?_ | refine gs_no rfl ?_ | refine gs_end ?_ | refine gs_end' ?_ | refine gw_seq ?_ | refine gw_text rfl ?_ | refine gw_skip ?_ | refine gw_label ?_)
      exact ⟨(), trivial, rfl, rfl, rfl, rfl, rfl, rfl, rfl, rfl, rfl, rfl, rfl, rfl, trivial⟩
  have hnum : 0 ≤ H.num ∧ H.num ≤ 255 := by
    by_cases h : 8 ≤ H.number
    · have : H.num = H.number - 8 := if_pos h
      omega
    · have : H.num = H.number := if_neg h
      omega
  repeat (first | refine gs_n tyT_ok 0 ?_ | refine gs_gn tyT_ok 0 rfl ?_ | refine gs_no rfl ?_ | refine gs_end ?_ | refine gs_end' ?_ | refine gw_seq ?_ | refine gw_text rfl ?_ | refine gw_skip ?_ | refine gw_label ?_)
  refine gw_join (α := Unit) (fun a => [(0, ptr g), (2, ptr b2), (6, .int .i64 H.has), (7, .int .i64 H.num), (8, .int .i64 H.frm), (9, .int .i64 H.many), (10, .int .i64 H.bits), (11, .int .i64 H.zero), (12, ptr b12), (13, .int .i64 H.lst), (14, .bool (decide H.runs))]) (fun a => [(g, sc s p12 c12), (b2, imc 0 0 0 0 (.slice none 0 0) (.slice none 0 0)), (b12, imc H.kind H.depth H.wide H.high (.slice none 0 0) (.slice none 0 0))]) (fun a => True) ?_ fun a e ha => ?_
  · refine gw_block ?_
    by_cases n1 : H.num = 1
    · have n2 := n1
      rw [show H.kind = 4 by simp [Hd.kind, tK, *], show H.lst = H.last by simp [Hd.lst, Hd.kind, tK, *]]
      repeat (first | refine gs_n tyT_ok 0 ?_ | refine gs_gn tyT_ok 0 rfl ?_ | refine gs_no rfl ?_ | refine gs_l tyT_ok 2 ?_ | refine gs_gl tyT_ok 2 rfl ?_ | (refine gs_l tyT_ok 2 ?_ (hp := ?hp); case hp => exact ⟨rfl, Nat.le_of_ble_eq_true rfl⟩) | (refine gs_gl tyT_ok 2 rfl ?_ (hp := ?hp); case hp => exact ⟨rfl, Nat.le_of_ble_eq_true rfl⟩) | refine gs_end ?_ | refine gs_end' ?_ | refine gw_seq ?_ | refine gw_text rfl ?_ | refine gw_skip ?_ | refine gw_yes rfl ?_ | refine gw_no rfl ?_ | refine gw_exit ?_ | refine gw_block ?_ | refine gw_label ?_ | (refine gs_n tyT_ok 0 ?_ (hp := ?hp); case hp => exact ⟨by decide, by decide⟩) | (refine gs_tg tyT_ok rfl ?hb ?_; case hb => first | exact decide_eq_true (by omega) | exact congrArg Bool.not (decide_eq_false (by omega)) | (simp; done) | (simp; omega)) | (refine gs_fg tyT_ok rfl ?hb ?_; case hb => first | exact decide_eq_false (by omega) | exact congrArg Bool.not (decide_eq_true (by omega)) | (simp; done) | (simp; omega)) | (refine gs_t tyT_ok ?hb ?_; case hb => first | exact decide_eq_true (by omega) | exact congrArg Bool.not (decide_eq_false (by omega)) | (simp; done) | (simp; omega)) | (refine gs_f tyT_ok ?hb ?_; case hb => first | exact decide_eq_false (by omega) | exact congrArg Bool.not (decide_eq_true (by omega)) | (simp; done) | (simp; omega)))
      refine gs_store tyT_ok 2 rfl rfl rfl rfl rfl rfl (Nat.le_of_ble_eq_true rfl) (Nat.le_of_ble_eq_true rfl) ?_
      repeat (first | refine gs_n tyT_ok 0 ?_ | refine gs_gn tyT_ok 0 rfl ?_ | refine gs_no rfl ?_ | refine gs_l tyT_ok 2 ?_ | refine gs_gl tyT_ok 2 rfl ?_ | (refine gs_l tyT_ok 2 ?_ (hp := ?hp); case hp => exact ⟨rfl, Nat.le_of_ble_eq_true rfl⟩) | (refine gs_gl tyT_ok 2 rfl ?_ (hp := ?hp); case hp => exact ⟨rfl, Nat.le_of_ble_eq_true rfl⟩) | refine gs_end ?_ | refine gs_end' ?_ | refine gw_seq ?_ | refine gw_text rfl ?_ | refine gw_skip ?_ | refine gw_yes rfl ?_ | refine gw_no rfl ?_ | refine gw_exit ?_ | refine gw_block ?_ | refine gw_label ?_ | (refine gs_n tyT_ok 0 ?_ (hp := ?hp); case hp => exact ⟨by decide, by decide⟩) | (refine gs_tg tyT_ok rfl ?hb ?_; case hb => first | exact decide_eq_true (by omega) | exact congrArg Bool.not (decide_eq_false (by omega)) | (simp; done) | (simp; omega)) | (refine gs_fg tyT_ok rfl ?hb ?_; case hb => first | exact decide_eq_false (by omega) | exact congrArg Bool.not (decide_eq_true (by omega)) | (simp; done) | (simp; omega)) | (refine gs_t tyT_ok ?hb ?_; case hb => first | exact decide_eq_true (by omega) | exact congrArg Bool.not (decide_eq_false (by omega)) | (simp; done) | (simp; omega)) | (refine gs_f tyT_ok ?hb ?_; case hb => first | exact decide_eq_false (by omega) | exact congrArg Bool.not (decide_eq_true (by omega)) | (simp; done) | (simp; omega)))
      exact ⟨(), trivial, rfl, rfl, rfl, rfl, rfl, rfl, rfl, rfl, rfl, rfl, rfl, rfl, trivial⟩
    by_cases n2 : H.num = 2
    · by_cases n3 : H.depth = 24
      · skip
        rw [show H.kind = 2 by simp [Hd.kind, tK, *], show H.lst = H.last by simp [Hd.lst, Hd.kind, tK, *]]
        repeat (first | refine gs_n tyT_ok 0 ?_ | refine gs_gn tyT_ok 0 rfl ?_ | refine gs_no rfl ?_ | refine gs_l tyT_ok 2 ?_ | refine gs_gl tyT_ok 2 rfl ?_ | (refine gs_l tyT_ok 2 ?_ (hp := ?hp); case hp => exact ⟨rfl, Nat.le_of_ble_eq_true rfl⟩) | (refine gs_gl tyT_ok 2 rfl ?_ (hp := ?hp); case hp => exact ⟨rfl, Nat.le_of_ble_eq_true rfl⟩) | refine gs_end ?_ | refine gs_end' ?_ | refine gw_seq ?_ | refine gw_text rfl ?_ | refine gw_skip ?_ | refine gw_yes rfl ?_ | refine gw_no rfl ?_ | refine gw_exit ?_ | refine gw_block ?_ | refine gw_label ?_ | (refine gs_n tyT_ok 0 ?_ (hp := ?hp); case hp => exact ⟨by decide, by decide⟩) | (refine gs_tg tyT_ok rfl ?hb ?_; case hb => first | exact decide_eq_true (by omega) | exact congrArg Bool.not (decide_eq_false (by omega)) | (simp; done) | (simp; omega)) | (refine gs_fg tyT_ok rfl ?hb ?_; case hb => first | exact decide_eq_false (by omega) | exact congrArg Bool.not (decide_eq_true (by omega)) | (simp; done) | (simp; omega)) | (refine gs_t tyT_ok ?hb ?_; case hb => first | exact decide_eq_true (by omega) | exact congrArg Bool.not (decide_eq_false (by omega)) | (simp; done) | (simp; omega)) | (refine gs_f tyT_ok ?hb ?_; case hb => first | exact decide_eq_false (by omega) | exact congrArg Bool.not (decide_eq_true (by omega)) | (simp; done) | (simp; omega)))
        refine gs_store tyT_ok 2 rfl rfl rfl rfl rfl rfl (Nat.le_of_ble_eq_true rfl) (Nat.le_of_ble_eq_true rfl) ?_
        repeat (first | refine gs_n tyT_ok 0 ?_ | refine gs_gn tyT_ok 0 rfl ?_ | refine gs_no rfl ?_ | refine gs_l tyT_ok 2 ?_ | refine gs_gl tyT_ok 2 rfl ?_ | (refine gs_l tyT_ok 2 ?_ (hp := ?hp); case hp => exact ⟨rfl, Nat.le_of_ble_eq_true rfl⟩) | (refine gs_gl tyT_ok 2 rfl ?_ (hp := ?hp); case hp => exact ⟨rfl, Nat.le_of_ble_eq_true rfl⟩) | refine gs_end ?_ | refine gs_end' ?_ | refine gw_seq ?_ | refine gw_text rfl ?_ | refine gw_skip ?_ | refine gw_yes rfl ?_ | refine gw_no rfl ?_ | refine gw_exit ?_ | refine gw_block ?_ | refine gw_label ?_ | (refine gs_n tyT_ok 0 ?_ (hp := ?hp); case hp => exact ⟨by decide, by decide⟩) | (refine gs_tg tyT_ok rfl ?hb ?_; case hb => first | exact decide_eq_true (by omega) | exact congrArg Bool.not (decide_eq_false (by omega)) | (simp; done) | (simp; omega)) | (refine gs_fg tyT_ok rfl ?hb ?_; case hb => first | exact decide_eq_false (by omega) | exact congrArg Bool.not (decide_eq_true (by omega)) | (simp; done) | (simp; omega)) | (refine gs_t tyT_ok ?hb ?_; case hb => first | exact decide_eq_true (by omega) | exact congrArg Bool.not (decide_eq_false (by omega)) | (simp; done) | (simp; omega)) | (refine gs_f tyT_ok ?hb ?_; case hb => first | exact decide_eq_false (by omega) | exact congrArg Bool.not (decide_eq_true (by omega)) | (simp; done) | (simp; omega)))
        exact ⟨(), trivial, rfl, rfl, rfl, rfl, rfl, rfl, rfl, rfl, rfl, rfl, rfl, rfl, trivial⟩
      · skip
        rw [show H.kind = 3 by simp [Hd.kind, tK, *], show H.lst = H.last - 8 by simp [Hd.lst, Hd.kind, tK, *]]
        repeat (first | refine gs_n tyT_ok 0 ?_ | refine gs_gn tyT_ok 0 rfl ?_ | refine gs_no rfl ?_ | refine gs_l tyT_ok 2 ?_ | refine gs_gl tyT_ok 2 rfl ?_ | (refine gs_l tyT_ok 2 ?_ (hp := ?hp); case hp => exact ⟨rfl, Nat.le_of_ble_eq_true rfl⟩) | (refine gs_gl tyT_ok 2 rfl ?_ (hp := ?hp); case hp => exact ⟨rfl, Nat.le_of_ble_eq_true rfl⟩) | refine gs_end ?_ | refine gs_end' ?_ | refine gw_seq ?_ | refine gw_text rfl ?_ | refine gw_skip ?_ | refine gw_yes rfl ?_ | refine gw_no rfl ?_ | refine gw_exit ?_ | refine gw_block ?_ | refine gw_label ?_ | (refine gs_n tyT_ok 0 ?_ (hp := ?hp); case hp => exact ⟨by decide, by decide⟩) | (refine gs_tg tyT_ok rfl ?hb ?_; case hb => first | exact decide_eq_true (by omega) | exact congrArg Bool.not (decide_eq_false (by omega)) | (simp; done) | (simp; omega)) | (refine gs_fg tyT_ok rfl ?hb ?_; case hb => first | exact decide_eq_false (by omega) | exact congrArg Bool.not (decide_eq_true (by omega)) | (simp; done) | (simp; omega)) | (refine gs_t tyT_ok ?hb ?_; case hb => first | exact decide_eq_true (by omega) | exact congrArg Bool.not (decide_eq_false (by omega)) | (simp; done) | (simp; omega)) | (refine gs_f tyT_ok ?hb ?_; case hb => first | exact decide_eq_false (by omega) | exact congrArg Bool.not (decide_eq_true (by omega)) | (simp; done) | (simp; omega)))
        refine gs_store tyT_ok 2 rfl rfl rfl rfl rfl rfl (Nat.le_of_ble_eq_true rfl) (Nat.le_of_ble_eq_true rfl) ?_
        repeat (first | refine gs_n tyT_ok 0 ?_ | refine gs_gn tyT_ok 0 rfl ?_ | refine gs_no rfl ?_ | refine gs_l tyT_ok 2 ?_ | refine gs_gl tyT_ok 2 rfl ?_ | (refine gs_l tyT_ok 2 ?_ (hp := ?hp); case hp => exact ⟨rfl, Nat.le_of_ble_eq_true rfl⟩) | (refine gs_gl tyT_ok 2 rfl ?_ (hp := ?hp); case hp => exact ⟨rfl, Nat.le_of_ble_eq_true rfl⟩) | refine gs_end ?_ | refine gs_end' ?_ | refine gw_seq ?_ | refine gw_text rfl ?_ | refine gw_skip ?_ | refine gw_yes rfl ?_ | refine gw_no rfl ?_ | refine gw_exit ?_ | refine gw_block ?_ | refine gw_label ?_ | (refine gs_n tyT_ok 0 ?_ (hp := ?hp); case hp => exact ⟨by decide, by decide⟩) | (refine gs_tg tyT_ok rfl ?hb ?_; case hb => first | exact decide_eq_true (by omega) | exact congrArg Bool.not (decide_eq_false (by omega)) | (simp; done) | (simp; omega)) | (refine gs_fg tyT_ok rfl ?hb ?_; case hb => first | exact decide_eq_false (by omega) | exact congrArg Bool.not (decide_eq_true (by omega)) | (simp; done) | (simp; omega)) | (refine gs_t tyT_ok ?hb ?_; case hb => first | exact decide_eq_true (by omega) | exact congrArg Bool.not (decide_eq_false (by omega)) | (simp; done) | (simp; omega)) | (refine gs_f tyT_ok ?hb ?_; case hb => first | exact decide_eq_false (by omega) | exact congrArg Bool.not (decide_eq_true (by omega)) | (simp; done) | (simp; omega)))
        exact ⟨(), trivial, rfl, rfl, rfl, rfl, rfl, rfl, rfl, rfl, rfl, rfl, rfl, rfl, trivial⟩
    by_cases n3 : H.num = 3
    · skip
      rw [show H.kind = 1 by simp [Hd.kind, tK, *], show H.lst = H.last by simp [Hd.lst, Hd.kind, tK, *]]
      repeat (first | refine gs_n tyT_ok 0 ?_ | refine gs_gn tyT_ok 0 rfl ?_ | refine gs_no rfl ?_ | refine gs_l tyT_ok 2 ?_ | refine gs_gl tyT_ok 2 rfl ?_ | (refine gs_l tyT_ok 2 ?_ (hp := ?hp); case hp => exact ⟨rfl, Nat.le_of_ble_eq_true rfl⟩) | (refine gs_gl tyT_ok 2 rfl ?_ (hp := ?hp); case hp => exact ⟨rfl, Nat.le_of_ble_eq_true rfl⟩) | refine gs_end ?_ | refine gs_end' ?_ | refine gw_seq ?_ | refine gw_text rfl ?_ | refine gw_skip ?_ | refine gw_yes rfl ?_ | refine gw_no rfl ?_ | refine gw_exit ?_ | refine gw_block ?_ | refine gw_label ?_ | (refine gs_n tyT_ok 0 ?_ (hp := ?hp); case hp => exact ⟨by decide, by decide⟩) | (refine gs_tg tyT_ok rfl ?hb ?_; case hb => first | exact decide_eq_true (by omega) | exact congrArg Bool.not (decide_eq_false (by omega)) | (simp; done) | (simp; omega)) | (refine gs_fg tyT_ok rfl ?hb ?_; case hb => first | exact decide_eq_false (by omega) | exact congrArg Bool.not (decide_eq_true (by omega)) | (simp; done) | (simp; omega)) | (refine gs_t tyT_ok ?hb ?_; case hb => first | exact decide_eq_true (by omega) | exact congrArg Bool.not (decide_eq_false (by omega)) | (simp; done) | (simp; omega)) | (refine gs_f tyT_ok ?hb ?_; case hb => first | exact decide_eq_false (by omega) | exact congrArg Bool.not (decide_eq_true (by omega)) | (simp; done) | (simp; omega)))
      refine gs_store tyT_ok 2 rfl rfl rfl rfl rfl rfl (Nat.le_of_ble_eq_true rfl) (Nat.le_of_ble_eq_true rfl) ?_
      repeat (first | refine gs_n tyT_ok 0 ?_ | refine gs_gn tyT_ok 0 rfl ?_ | refine gs_no rfl ?_ | refine gs_l tyT_ok 2 ?_ | refine gs_gl tyT_ok 2 rfl ?_ | (refine gs_l tyT_ok 2 ?_ (hp := ?hp); case hp => exact ⟨rfl, Nat.le_of_ble_eq_true rfl⟩) | (refine gs_gl tyT_ok 2 rfl ?_ (hp := ?hp); case hp => exact ⟨rfl, Nat.le_of_ble_eq_true rfl⟩) | refine gs_end ?_ | refine gs_end' ?_ | refine gw_seq ?_ | refine gw_text rfl ?_ | refine gw_skip ?_ | refine gw_yes rfl ?_ | refine gw_no rfl ?_ | refine gw_exit ?_ | refine gw_block ?_ | refine gw_label ?_ | (refine gs_n tyT_ok 0 ?_ (hp := ?hp); case hp => exact ⟨by decide, by decide⟩) | (refine gs_tg tyT_ok rfl ?hb ?_; case hb => first | exact decide_eq_true (by omega) | exact congrArg Bool.not (decide_eq_false (by omega)) | (simp; done) | (simp; omega)) | (refine gs_fg tyT_ok rfl ?hb ?_; case hb => first | exact decide_eq_false (by omega) | exact congrArg Bool.not (decide_eq_true (by omega)) | (simp; done) | (simp; omega)) | (refine gs_t tyT_ok ?hb ?_; case hb => first | exact decide_eq_true (by omega) | exact congrArg Bool.not (decide_eq_false (by omega)) | (simp; done) | (simp; omega)) | (refine gs_f tyT_ok ?hb ?_; case hb => first | exact decide_eq_false (by omega) | exact congrArg Bool.not (decide_eq_true (by omega)) | (simp; done) | (simp; omega)))
      exact ⟨(), trivial, rfl, rfl, rfl, rfl, rfl, rfl, rfl, rfl, rfl, rfl, rfl, rfl, trivial⟩
    · skip
      rw [show H.kind = 0 by simp [Hd.kind, tK, *], show H.lst = H.last by simp [Hd.lst, Hd.kind, tK, *]]
      repeat (first | refine gs_n tyT_ok 0 ?_ | refine gs_gn tyT_ok 0 rfl ?_ | refine gs_no rfl ?_ | refine gs_l tyT_ok 2 ?_ | refine gs_gl tyT_ok 2 rfl ?_ | (refine gs_l tyT_ok 2 ?_ (hp := ?hp); case hp => exact ⟨rfl, Nat.le_of_ble_eq_true rfl⟩) | (refine gs_gl tyT_ok 2 rfl ?_ (hp := ?hp); case hp => exact ⟨rfl, Nat.le_of_ble_eq_true rfl⟩) | refine gs_end ?_ | refine gs_end' ?_ | refine gw_seq ?_ | refine gw_text rfl ?_ | refine gw_skip ?_ | refine gw_yes rfl ?_ | refine gw_no rfl ?_ | refine gw_exit ?_ | refine gw_block ?_ | refine gw_label ?_ | (refine gs_n tyT_ok 0 ?_ (hp := ?hp); case hp => exact ⟨by decide, by decide⟩) | (refine gs_tg tyT_ok rfl ?hb ?_; case hb => first | exact decide_eq_true (by omega) | exact congrArg Bool.not (decide_eq_false (by omega)) | (simp; done) | (simp; omega)) | (refine gs_fg tyT_ok rfl ?hb ?_; case hb => first | exact decide_eq_false (by omega) | exact congrArg Bool.not (decide_eq_true (by omega)) | (simp; done) | (simp; omega)) | (refine gs_t tyT_ok ?hb ?_; case hb => first | exact decide_eq_true (by omega) | exact congrArg Bool.not (decide_eq_false (by omega)) | (simp; done) | (simp; omega)) | (refine gs_f tyT_ok ?hb ?_; case hb => first | exact decide_eq_false (by omega) | exact congrArg Bool.not (decide_eq_true (by omega)) | (simp; done) | (simp; omega)))
      exact ⟨(), trivial, rfl, rfl, rfl, rfl, rfl, rfl, rfl, rfl, rfl, rfl, rfl, rfl, trivial⟩
  have hlst : -8 ≤ H.lst ∧ H.lst ≤ 255 := by
    by_cases h : H.kind = 3
    · have : H.lst = H.last - 8 := if_pos h
      omega
    · have : H.lst = H.last := if_neg h
      omega
  repeat refine gw_seq ?_
  refine gw_join (α := Unit) (fun a => [(0, ptr g), (2, ptr b2), (6, .int .i64 H.has), (7, .int .i64 H.num), (8, .int .i64 H.frm), (9, .int .i64 H.many), (10, .int .i64 H.bits), (11, .int .i64 H.zero), (12, ptr b12), (13, .int .i64 H.lst), (14, .bool (decide H.runs)), (15, .bool (decide (H.has = 1 ∧ H.bits = 24 ∧ (1 ≤ H.many ∧ H.many ≤ 256))))]) (fun a => [(g, sc s p12 c12), (b2, imc 0 0 0 0 (.slice none 0 0) (.slice none 0 0)), (b12, imc H.kind H.depth H.wide H.high (.slice none 0 0) (.slice none 0 0))]) (fun a => True) ?_ fun a e ha => ?_
  · refine gw_text rfl ?_
    by_cases m1 : H.has = 1
    case neg =>
      rw [decide_eq_false fun h : H.has = 1 ∧ H.bits = 24 ∧ (1 ≤ H.many ∧ H.many ≤ 256) => m1 h.1]
      repeat (first | refine gs_n tyT_ok 0 ?_ | refine gs_gn tyT_ok 0 rfl ?_ | refine gs_no rfl ?_ | refine gs_end ?_ | refine gs_end' ?_ | refine gw_seq ?_ | refine gw_text rfl ?_ | refine gw_skip ?_ | refine gw_yes rfl ?_ | refine gw_no rfl ?_ | refine gw_exit ?_ | refine gw_block ?_ | refine gw_label ?_ | (refine gs_n tyT_ok 0 ?_ (hp := ?hp); case hp => exact ⟨by decide, by decide⟩) | (refine gs_tg tyT_ok rfl ?hb ?_; case hb => first | exact decide_eq_true (by omega) | exact congrArg Bool.not (decide_eq_false (by omega)) | (simp; done) | (simp; omega)) | (refine gs_fg tyT_ok rfl ?hb ?_; case hb => first | exact decide_eq_false (by omega) | exact congrArg Bool.not (decide_eq_true (by omega)) | (simp; done) | (simp; omega)) | (refine gs_t tyT_ok ?hb ?_; case hb => first | exact decide_eq_true (by omega) | exact congrArg Bool.not (decide_eq_false (by omega)) | (simp; done) | (simp; omega)) | (refine gs_f tyT_ok ?hb ?_; case hb => first | exact decide_eq_false (by omega) | exact congrArg Bool.not (decide_eq_true (by omega)) | (simp; done) | (simp; omega)))
      exact ⟨(), trivial, rfl, rfl, rfl, rfl, rfl, rfl, rfl, rfl, rfl, rfl, rfl, rfl, rfl, trivial⟩
    by_cases m2 : H.bits = 24
    case neg =>
      rw [decide_eq_false fun h : H.has = 1 ∧ H.bits = 24 ∧ (1 ≤ H.many ∧ H.many ≤ 256) => m2 h.2.1]
      repeat (first | refine gs_n tyT_ok 0 ?_ | refine gs_gn tyT_ok 0 rfl ?_ | refine gs_no rfl ?_ | refine gs_end ?_ | refine gs_end' ?_ | refine gw_seq ?_ | refine gw_text rfl ?_ | refine gw_skip ?_ | refine gw_yes rfl ?_ | refine gw_no rfl ?_ | refine gw_exit ?_ | refine gw_block ?_ | refine gw_label ?_ | (refine gs_n tyT_ok 0 ?_ (hp := ?hp); case hp => exact ⟨by decide, by decide⟩) | (refine gs_tg tyT_ok rfl ?hb ?_; case hb => first | exact decide_eq_true (by omega) | exact congrArg Bool.not (decide_eq_false (by omega)) | (simp; done) | (simp; omega)) | (refine gs_fg tyT_ok rfl ?hb ?_; case hb => first | exact decide_eq_false (by omega) | exact congrArg Bool.not (decide_eq_true (by omega)) | (simp; done) | (simp; omega)) | (refine gs_t tyT_ok ?hb ?_; case hb => first | exact decide_eq_true (by omega) | exact congrArg Bool.not (decide_eq_false (by omega)) | (simp; done) | (simp; omega)) | (refine gs_f tyT_ok ?hb ?_; case hb => first | exact decide_eq_false (by omega) | exact congrArg Bool.not (decide_eq_true (by omega)) | (simp; done) | (simp; omega)))
      exact ⟨(), trivial, rfl, rfl, rfl, rfl, rfl, rfl, rfl, rfl, rfl, rfl, rfl, rfl, rfl, trivial⟩
    by_cases m3 : 1 ≤ H.many ∧ H.many ≤ 256
    case neg =>
      rw [decide_eq_false fun h : H.has = 1 ∧ H.bits = 24 ∧ (1 ≤ H.many ∧ H.many ≤ 256) => m3 h.2.2]
      repeat (first | refine gs_n tyT_ok 0 ?_ | refine gs_gn tyT_ok 0 rfl ?_ | refine gs_no rfl ?_ | refine gs_end ?_ | refine gs_end' ?_ | refine gw_seq ?_ | refine gw_text rfl ?_ | refine gw_skip ?_ | refine gw_yes rfl ?_ | refine gw_no rfl ?_ | refine gw_exit ?_ | refine gw_block ?_ | refine gw_label ?_ | (refine gs_n tyT_ok 0 ?_ (hp := ?hp); case hp => exact ⟨by decide, by decide⟩) | (refine gs_tg tyT_ok rfl ?hb ?_; case hb => first | exact decide_eq_true (by omega) | exact congrArg Bool.not (decide_eq_false (by omega)) | (simp; done) | (simp; omega)) | (refine gs_fg tyT_ok rfl ?hb ?_; case hb => first | exact decide_eq_false (by omega) | exact congrArg Bool.not (decide_eq_true (by omega)) | (simp; done) | (simp; omega)) | (refine gs_t tyT_ok ?hb ?_; case hb => first | exact decide_eq_true (by omega) | exact congrArg Bool.not (decide_eq_false (by omega)) | (simp; done) | (simp; omega)) | (refine gs_f tyT_ok ?hb ?_; case hb => first | exact decide_eq_false (by omega) | exact congrArg Bool.not (decide_eq_true (by omega)) | (simp; done) | (simp; omega)))
      refine gs_pug ent59 rfl (in_f m3) ?_
      repeat (first | refine gs_n tyT_ok 0 ?_ | refine gs_gn tyT_ok 0 rfl ?_ | refine gs_no rfl ?_ | refine gs_end ?_ | refine gs_end' ?_ | refine gw_seq ?_ | refine gw_text rfl ?_ | refine gw_skip ?_ | refine gw_yes rfl ?_ | refine gw_no rfl ?_ | refine gw_exit ?_ | refine gw_block ?_ | refine gw_label ?_ | (refine gs_n tyT_ok 0 ?_ (hp := ?hp); case hp => exact ⟨by decide, by decide⟩) | (refine gs_tg tyT_ok rfl ?hb ?_; case hb => first | exact decide_eq_true (by omega) | exact congrArg Bool.not (decide_eq_false (by omega)) | (simp; done) | (simp; omega)) | (refine gs_fg tyT_ok rfl ?hb ?_; case hb => first | exact decide_eq_false (by omega) | exact congrArg Bool.not (decide_eq_true (by omega)) | (simp; done) | (simp; omega)) | (refine gs_t tyT_ok ?hb ?_; case hb => first | exact decide_eq_true (by omega) | exact congrArg Bool.not (decide_eq_false (by omega)) | (simp; done) | (simp; omega)) | (refine gs_f tyT_ok ?hb ?_; case hb => first | exact decide_eq_false (by omega) | exact congrArg Bool.not (decide_eq_true (by omega)) | (simp; done) | (simp; omega)))
      exact ⟨(), trivial, rfl, rfl, rfl, rfl, rfl, rfl, rfl, rfl, rfl, rfl, rfl, rfl, rfl, trivial⟩
    rw [decide_eq_true (show H.has = 1 ∧ H.bits = 24 ∧ (1 ≤ H.many ∧ H.many ≤ 256) from ⟨m1, m2, m3⟩)]
    repeat (first | refine gs_n tyT_ok 0 ?_ | refine gs_gn tyT_ok 0 rfl ?_ | refine gs_no rfl ?_ | refine gs_end ?_ | refine gs_end' ?_ | refine gw_seq ?_ | refine gw_text rfl ?_ | refine gw_skip ?_ | refine gw_yes rfl ?_ | refine gw_no rfl ?_ | refine gw_exit ?_ | refine gw_block ?_ | refine gw_label ?_ | (refine gs_n tyT_ok 0 ?_ (hp := ?hp); case hp => exact ⟨by decide, by decide⟩) | (refine gs_tg tyT_ok rfl ?hb ?_; case hb => first | exact decide_eq_true (by omega) | exact congrArg Bool.not (decide_eq_false (by omega)) | (simp; done) | (simp; omega)) | (refine gs_fg tyT_ok rfl ?hb ?_; case hb => first | exact decide_eq_false (by omega) | exact congrArg Bool.not (decide_eq_true (by omega)) | (simp; done) | (simp; omega)) | (refine gs_t tyT_ok ?hb ?_; case hb => first | exact decide_eq_true (by omega) | exact congrArg Bool.not (decide_eq_false (by omega)) | (simp; done) | (simp; omega)) | (refine gs_f tyT_ok ?hb ?_; case hb => first | exact decide_eq_false (by omega) | exact congrArg Bool.not (decide_eq_true (by omega)) | (simp; done) | (simp; omega)))
    refine gs_pug ent59 rfl (in_t m3) ?_
    repeat (first | refine gs_n tyT_ok 0 ?_ | refine gs_gn tyT_ok 0 rfl ?_ | refine gs_no rfl ?_ | refine gs_end ?_ | refine gs_end' ?_ | refine gw_seq ?_ | refine gw_text rfl ?_ | refine gw_skip ?_ | refine gw_yes rfl ?_ | refine gw_no rfl ?_ | refine gw_exit ?_ | refine gw_block ?_ | refine gw_label ?_ | (refine gs_n tyT_ok 0 ?_ (hp := ?hp); case hp => exact ⟨by decide, by decide⟩) | (refine gs_tg tyT_ok rfl ?hb ?_; case hb => first | exact decide_eq_true (by omega) | exact congrArg Bool.not (decide_eq_false (by omega)) | (simp; done) | (simp; omega)) | (refine gs_fg tyT_ok rfl ?hb ?_; case hb => first | exact decide_eq_false (by omega) | exact congrArg Bool.not (decide_eq_true (by omega)) | (simp; done) | (simp; omega)) | (refine gs_t tyT_ok ?hb ?_; case hb => first | exact decide_eq_true (by omega) | exact congrArg Bool.not (decide_eq_false (by omega)) | (simp; done) | (simp; omega)) | (refine gs_f tyT_ok ?hb ?_; case hb => first | exact decide_eq_false (by omega) | exact congrArg Bool.not (decide_eq_true (by omega)) | (simp; done) | (simp; omega)))
    exact ⟨(), trivial, rfl, rfl, rfl, rfl, rfl, rfl, rfl, rfl, rfl, rfl, rfl, rfl, rfl, trivial⟩
  repeat (first | refine gs_n tyT_ok 0 ?_ | refine gs_gn tyT_ok 0 rfl ?_ | refine gs_no rfl ?_ | refine gs_l tyT_ok 2 ?_ | refine gs_gl tyT_ok 2 rfl ?_ | (refine gs_l tyT_ok 2 ?_ (hp := ?hp); case hp => exact ⟨rfl, Nat.le_of_ble_eq_true rfl⟩) | (refine gs_gl tyT_ok 2 rfl ?_ (hp := ?hp); case hp => exact ⟨rfl, Nat.le_of_ble_eq_true rfl⟩) | refine gs_end ?_ | refine gs_end' ?_ | refine gw_seq ?_ | refine gw_text rfl ?_ | refine gw_skip ?_ | refine gw_label ?_)
  refine gs_n tyT_ok 1 ?_
  repeat (first | refine gs_n tyT_ok 0 ?_ | refine gs_gn tyT_ok 0 rfl ?_ | refine gs_no rfl ?_ | refine gs_end ?_ | refine gs_end' ?_ | refine gw_seq ?_ | refine gw_text rfl ?_ | refine gw_skip ?_ | refine gw_label ?_)
  refine gw_join (α := Unit) (fun a => [(0, ptr g), (2, ptr b2), (6, .int .i64 H.has), (7, .int .i64 H.num), (8, .int .i64 H.frm), (9, .int .i64 H.many), (10, .int .i64 H.bits), (11, .int .i64 H.zero), (12, ptr b12), (13, .int .i64 H.lst), (14, .bool (decide H.runs)), (15, .bool (decide H.colors))]) (fun a => [(g, sc s p12 c12), (b2, imc 0 0 0 0 (.slice none 0 0) (.slice none 0 0)), (b12, imc H.kind H.depth H.wide H.high (.slice none 0 0) (.slice none 0 0))]) (fun a => True) ?_ fun a e ha => ?_
  · refine gw_cond (t := !decide (H.kind = 4)) rfl (fun h => ?_) (fun h => ?_)
    · have m0 : ¬ H.kind = 4 := by simpa using h
      by_cases m1 : H.has = 0
      case neg =>
        rw [decide_eq_false fun h : H.colors => by rw [Hd.colors, if_neg m0] at h; exact m1 h.1]
        repeat (first | refine gs_n tyT_ok 0 ?_ | refine gs_gn tyT_ok 0 rfl ?_ | refine gs_no rfl ?_ | refine gs_end ?_ | refine gs_end' ?_ | refine gw_seq ?_ | refine gw_text rfl ?_ | refine gw_skip ?_ | refine gw_yes rfl ?_ | refine gw_no rfl ?_ | refine gw_exit ?_ | refine gw_block ?_ | refine gw_label ?_ | (refine gs_n tyT_ok 0 ?_ (hp := ?hp); case hp => exact ⟨by decide, by decide⟩) | (refine gs_tg tyT_ok rfl ?hb ?_; case hb => first | exact decide_eq_true (by omega) | exact congrArg Bool.not (decide_eq_false (by omega)) | (simp; done) | (simp; omega)) | (refine gs_fg tyT_ok rfl ?hb ?_; case hb => first | exact decide_eq_false (by omega) | exact congrArg Bool.not (decide_eq_true (by omega)) | (simp; done) | (simp; omega)) | (refine gs_t tyT_ok ?hb ?_; case hb => first | exact decide_eq_true (by omega) | exact congrArg Bool.not (decide_eq_false (by omega)) | (simp; done) | (simp; omega)) | (refine gs_f tyT_ok ?hb ?_; case hb => first | exact decide_eq_false (by omega) | exact congrArg Bool.not (decide_eq_true (by omega)) | (simp; done) | (simp; omega)))
        exact ⟨(), trivial, rfl, rfl, rfl, rfl, rfl, rfl, rfl, rfl, rfl, rfl, rfl, rfl, rfl, trivial⟩
      by_cases m2 : H.bits = 0
      case neg =>
        rw [decide_eq_false fun h : H.colors => by rw [Hd.colors, if_neg m0] at h; exact m2 h.2.1]
        repeat (first | refine gs_n tyT_ok 0 ?_ | refine gs_gn tyT_ok 0 rfl ?_ | refine gs_no rfl ?_ | refine gs_end ?_ | refine gs_end' ?_ | refine gw_seq ?_ | refine gw_text rfl ?_ | refine gw_skip ?_ | refine gw_yes rfl ?_ | refine gw_no rfl ?_ | refine gw_exit ?_ | refine gw_block ?_ | refine gw_label ?_ | (refine gs_n tyT_ok 0 ?_ (hp := ?hp); case hp => exact ⟨by decide, by decide⟩) | (refine gs_tg tyT_ok rfl ?hb ?_; case hb => first | exact decide_eq_true (by omega) | exact congrArg Bool.not (decide_eq_false (by omega)) | (simp; done) | (simp; omega)) | (refine gs_fg tyT_ok rfl ?hb ?_; case hb => first | exact decide_eq_false (by omega) | exact congrArg Bool.not (decide_eq_true (by omega)) | (simp; done) | (simp; omega)) | (refine gs_t tyT_ok ?hb ?_; case hb => first | exact decide_eq_true (by omega) | exact congrArg Bool.not (decide_eq_false (by omega)) | (simp; done) | (simp; omega)) | (refine gs_f tyT_ok ?hb ?_; case hb => first | exact decide_eq_false (by omega) | exact congrArg Bool.not (decide_eq_true (by omega)) | (simp; done) | (simp; omega)))
        exact ⟨(), trivial, rfl, rfl, rfl, rfl, rfl, rfl, rfl, rfl, rfl, rfl, rfl, rfl, rfl, trivial⟩
      by_cases m3 : H.many = 0
      case neg =>
        rw [decide_eq_false fun h : H.colors => by rw [Hd.colors, if_neg m0] at h; exact m3 h.2.2]
        repeat (first | refine gs_n tyT_ok 0 ?_ | refine gs_gn tyT_ok 0 rfl ?_ | refine gs_no rfl ?_ | refine gs_end ?_ | refine gs_end' ?_ | refine gw_seq ?_ | refine gw_text rfl ?_ | refine gw_skip ?_ | refine gw_yes rfl ?_ | refine gw_no rfl ?_ | refine gw_exit ?_ | refine gw_block ?_ | refine gw_label ?_ | (refine gs_n tyT_ok 0 ?_ (hp := ?hp); case hp => exact ⟨by decide, by decide⟩) | (refine gs_tg tyT_ok rfl ?hb ?_; case hb => first | exact decide_eq_true (by omega) | exact congrArg Bool.not (decide_eq_false (by omega)) | (simp; done) | (simp; omega)) | (refine gs_fg tyT_ok rfl ?hb ?_; case hb => first | exact decide_eq_false (by omega) | exact congrArg Bool.not (decide_eq_true (by omega)) | (simp; done) | (simp; omega)) | (refine gs_t tyT_ok ?hb ?_; case hb => first | exact decide_eq_true (by omega) | exact congrArg Bool.not (decide_eq_false (by omega)) | (simp; done) | (simp; omega)) | (refine gs_f tyT_ok ?hb ?_; case hb => first | exact decide_eq_false (by omega) | exact congrArg Bool.not (decide_eq_true (by omega)) | (simp; done) | (simp; omega)))
        exact ⟨(), trivial, rfl, rfl, rfl, rfl, rfl, rfl, rfl, rfl, rfl, rfl, rfl, rfl, rfl, trivial⟩
      rw [decide_eq_true (show H.colors by rw [Hd.colors, if_neg m0]; exact ⟨m1, m2, m3⟩)]
      repeat (first | refine gs_n tyT_ok 0 ?_ | refine gs_gn tyT_ok 0 rfl ?_ | refine gs_no rfl ?_ | refine gs_end ?_ | refine gs_end' ?_ | refine gw_seq ?_ | refine gw_text rfl ?_ | refine gw_skip ?_ | refine gw_yes rfl ?_ | refine gw_no rfl ?_ | refine gw_exit ?_ | refine gw_block ?_ | refine gw_label ?_ | (refine gs_n tyT_ok 0 ?_ (hp := ?hp); case hp => exact ⟨by decide, by decide⟩) | (refine gs_tg tyT_ok rfl ?hb ?_; case hb => first | exact decide_eq_true (by omega) | exact congrArg Bool.not (decide_eq_false (by omega)) | (simp; done) | (simp; omega)) | (refine gs_fg tyT_ok rfl ?hb ?_; case hb => first | exact decide_eq_false (by omega) | exact congrArg Bool.not (decide_eq_true (by omega)) | (simp; done) | (simp; omega)) | (refine gs_t tyT_ok ?hb ?_; case hb => first | exact decide_eq_true (by omega) | exact congrArg Bool.not (decide_eq_false (by omega)) | (simp; done) | (simp; omega)) | (refine gs_f tyT_ok ?hb ?_; case hb => first | exact decide_eq_false (by omega) | exact congrArg Bool.not (decide_eq_true (by omega)) | (simp; done) | (simp; omega)))
      exact ⟨(), trivial, rfl, rfl, rfl, rfl, rfl, rfl, rfl, rfl, rfl, rfl, rfl, rfl, rfl, trivial⟩
    · have m0 : H.kind = 4 := by simpa using h
      repeat (first | refine gs_n tyT_ok 0 ?_ | refine gs_gn tyT_ok 0 rfl ?_ | refine gs_no rfl ?_ | refine gs_end ?_ | refine gs_end' ?_ | refine gw_seq ?_ | refine gw_text rfl ?_ | refine gw_skip ?_ | refine gw_label ?_)
      refine ⟨(), trivial, rfl, rfl, rfl, rfl, rfl, rfl, rfl, rfl, rfl, rfl, rfl, rfl, ?_, trivial⟩
      refine congrArg Value.bool (decide_eq_decide.2 ?_)
      rw [Hd.colors, if_pos m0]
  repeat refine gw_seq ?_
  refine gw_join (α := Unit) (fun a => [(0, ptr g), (2, ptr b2), (6, .int .i64 H.has), (7, .int .i64 H.num), (8, .int .i64 H.frm), (9, .int .i64 H.many), (10, .int .i64 H.bits), (11, .int .i64 H.zero), (12, ptr b12), (13, .int .i64 H.lst), (14, .bool (decide H.runs)), (128, .bool (!decide H.ok))]) (fun a => [(g, sc s p12 c12), (b2, imc 0 0 0 0 (.slice none 0 0) (.slice none 0 0)), (b12, imc H.kind H.depth H.wide H.high (.slice none 0 0) (.slice none 0 0))]) (fun a => True) ?_ fun a e ha => ?_
  · refine gw_text rfl ?_
    by_cases m1 : H.colors
    case neg =>
      rw [decide_eq_false fun h : H.ok => m1 h.1]
      rw [decide_eq_false m1]
      repeat (first | refine gs_n tyT_ok 0 ?_ | refine gs_gn tyT_ok 0 rfl ?_ | refine gs_no rfl ?_ | refine gs_l tyT_ok 2 ?_ | refine gs_gl tyT_ok 2 rfl ?_ | (refine gs_l tyT_ok 2 ?_ (hp := ?hp); case hp => exact ⟨rfl, Nat.le_of_ble_eq_true rfl⟩) | (refine gs_gl tyT_ok 2 rfl ?_ (hp := ?hp); case hp => exact ⟨rfl, Nat.le_of_ble_eq_true rfl⟩) | refine gs_end ?_ | refine gs_end' ?_ | refine gw_seq ?_ | refine gw_text rfl ?_ | refine gw_skip ?_ | refine gw_yes rfl ?_ | refine gw_no rfl ?_ | refine gw_exit ?_ | refine gw_block ?_ | refine gw_label ?_ | (refine gs_n tyT_ok 0 ?_ (hp := ?hp); case hp => exact ⟨by decide, by decide⟩))
      exact ⟨(), trivial, rfl, rfl, rfl, rfl, rfl, rfl, rfl, rfl, rfl, rfl, rfl, rfl, rfl, trivial⟩
    rw [decide_eq_true m1]
    repeat (first | refine gs_n tyT_ok 0 ?_ | refine gs_gn tyT_ok 0 rfl ?_ | refine gs_no rfl ?_ | refine gs_l tyT_ok 2 ?_ | refine gs_gl tyT_ok 2 rfl ?_ | (refine gs_l tyT_ok 2 ?_ (hp := ?hp); case hp => exact ⟨rfl, Nat.le_of_ble_eq_true rfl⟩) | (refine gs_gl tyT_ok 2 rfl ?_ (hp := ?hp); case hp => exact ⟨rfl, Nat.le_of_ble_eq_true rfl⟩))
    by_cases m2 : H.frm = 0
    case neg =>
      rw [decide_eq_false fun h : H.ok => m2 h.2.1]
      (refine gs_tg tyT_ok rfl ?hb ?_; case hb => simp [*])
      repeat (first | refine gs_n tyT_ok 0 ?_ | refine gs_gn tyT_ok 0 rfl ?_ | refine gs_no rfl ?_ | refine gs_l tyT_ok 2 ?_ | refine gs_gl tyT_ok 2 rfl ?_ | (refine gs_l tyT_ok 2 ?_ (hp := ?hp); case hp => exact ⟨rfl, Nat.le_of_ble_eq_true rfl⟩) | (refine gs_gl tyT_ok 2 rfl ?_ (hp := ?hp); case hp => exact ⟨rfl, Nat.le_of_ble_eq_true rfl⟩) | refine gs_end ?_ | refine gs_end' ?_ | refine gw_seq ?_ | refine gw_text rfl ?_ | refine gw_skip ?_ | refine gw_yes rfl ?_ | refine gw_no rfl ?_ | refine gw_exit ?_ | refine gw_block ?_ | refine gw_label ?_ | (refine gs_n tyT_ok 0 ?_ (hp := ?hp); case hp => exact ⟨by decide, by decide⟩))
      exact ⟨(), trivial, rfl, rfl, rfl, rfl, rfl, rfl, rfl, rfl, rfl, rfl, rfl, rfl, rfl, trivial⟩
    (refine gs_fg tyT_ok rfl ?hb ?_; case hb => simp [*])
    repeat (first | refine gs_n tyT_ok 0 ?_ | refine gs_gn tyT_ok 0 rfl ?_ | refine gs_no rfl ?_ | refine gs_l tyT_ok 2 ?_ | refine gs_gl tyT_ok 2 rfl ?_ | (refine gs_l tyT_ok 2 ?_ (hp := ?hp); case hp => exact ⟨rfl, Nat.le_of_ble_eq_true rfl⟩) | (refine gs_gl tyT_ok 2 rfl ?_ (hp := ?hp); case hp => exact ⟨rfl, Nat.le_of_ble_eq_true rfl⟩))
    by_cases m3 : H.zero = 0
    case neg =>
      rw [decide_eq_false fun h : H.ok => m3 h.2.2.1]
      (refine gs_tg tyT_ok rfl ?hb ?_; case hb => simp [*])
      repeat (first | refine gs_n tyT_ok 0 ?_ | refine gs_gn tyT_ok 0 rfl ?_ | refine gs_no rfl ?_ | refine gs_l tyT_ok 2 ?_ | refine gs_gl tyT_ok 2 rfl ?_ | (refine gs_l tyT_ok 2 ?_ (hp := ?hp); case hp => exact ⟨rfl, Nat.le_of_ble_eq_true rfl⟩) | (refine gs_gl tyT_ok 2 rfl ?_ (hp := ?hp); case hp => exact ⟨rfl, Nat.le_of_ble_eq_true rfl⟩) | refine gs_end ?_ | refine gs_end' ?_ | refine gw_seq ?_ | refine gw_text rfl ?_ | refine gw_skip ?_ | refine gw_yes rfl ?_ | refine gw_no rfl ?_ | refine gw_exit ?_ | refine gw_block ?_ | refine gw_label ?_ | (refine gs_n tyT_ok 0 ?_ (hp := ?hp); case hp => exact ⟨by decide, by decide⟩))
      exact ⟨(), trivial, rfl, rfl, rfl, rfl, rfl, rfl, rfl, rfl, rfl, rfl, rfl, rfl, rfl, trivial⟩
    (refine gs_fg tyT_ok rfl ?hb ?_; case hb => simp [*])
    repeat (first | refine gs_n tyT_ok 0 ?_ | refine gs_gn tyT_ok 0 rfl ?_ | refine gs_no rfl ?_ | refine gs_l tyT_ok 2 ?_ | refine gs_gl tyT_ok 2 rfl ?_ | (refine gs_l tyT_ok 2 ?_ (hp := ?hp); case hp => exact ⟨rfl, Nat.le_of_ble_eq_true rfl⟩) | (refine gs_gl tyT_ok 2 rfl ?_ (hp := ?hp); case hp => exact ⟨rfl, Nat.le_of_ble_eq_true rfl⟩))
    refine gs_pug ent78 rfl (tgaType_w (k := H.kind) (d := H.depth) (w := H.wide) (h := H.high) (a1 := none) (n1 := 0) (c1 := 0) (a2 := none) (n2 := 0) (c2 := 0)) ?_
    repeat (first | refine gs_n tyT_ok 0 ?_ | refine gs_gn tyT_ok 0 rfl ?_ | refine gs_no rfl ?_ | refine gs_l tyT_ok 2 ?_ | refine gs_gl tyT_ok 2 rfl ?_ | (refine gs_l tyT_ok 2 ?_ (hp := ?hp); case hp => exact ⟨rfl, Nat.le_of_ble_eq_true rfl⟩) | (refine gs_gl tyT_ok 2 rfl ?_ (hp := ?hp); case hp => exact ⟨rfl, Nat.le_of_ble_eq_true rfl⟩))
    by_cases m4 : tT H.kind H.depth = H.num
    case neg =>
      rw [decide_eq_false fun h : H.ok => m4 h.2.2.2.1]
      (refine gs_tg tyT_ok rfl ?hb ?_; case hb => simp [*])
      repeat (first | refine gs_n tyT_ok 0 ?_ | refine gs_gn tyT_ok 0 rfl ?_ | refine gs_no rfl ?_ | refine gs_l tyT_ok 2 ?_ | refine gs_gl tyT_ok 2 rfl ?_ | (refine gs_l tyT_ok 2 ?_ (hp := ?hp); case hp => exact ⟨rfl, Nat.le_of_ble_eq_true rfl⟩) | (refine gs_gl tyT_ok 2 rfl ?_ (hp := ?hp); case hp => exact ⟨rfl, Nat.le_of_ble_eq_true rfl⟩) | refine gs_end ?_ | refine gs_end' ?_ | refine gw_seq ?_ | refine gw_text rfl ?_ | refine gw_skip ?_ | refine gw_yes rfl ?_ | refine gw_no rfl ?_ | refine gw_exit ?_ | refine gw_block ?_ | refine gw_label ?_ | (refine gs_n tyT_ok 0 ?_ (hp := ?hp); case hp => exact ⟨by decide, by decide⟩))
      exact ⟨(), trivial, rfl, rfl, rfl, rfl, rfl, rfl, rfl, rfl, rfl, rfl, rfl, rfl, rfl, trivial⟩
    (refine gs_fg tyT_ok rfl ?hb ?_; case hb => simp [*])
    repeat (first | refine gs_n tyT_ok 0 ?_ | refine gs_gn tyT_ok 0 rfl ?_ | refine gs_no rfl ?_ | refine gs_l tyT_ok 2 ?_ | refine gs_gl tyT_ok 2 rfl ?_ | (refine gs_l tyT_ok 2 ?_ (hp := ?hp); case hp => exact ⟨rfl, Nat.le_of_ble_eq_true rfl⟩) | (refine gs_gl tyT_ok 2 rfl ?_ (hp := ?hp); case hp => exact ⟨rfl, Nat.le_of_ble_eq_true rfl⟩))
    by_cases m5 : H.num ≠ 0
    case neg =>
      rw [decide_eq_false fun h : H.ok => m5 h.2.2.2.2.1]
      (refine gs_tg tyT_ok rfl ?hb ?_; case hb => exact decide_eq_true (by omega))
      repeat (first | refine gs_n tyT_ok 0 ?_ | refine gs_gn tyT_ok 0 rfl ?_ | refine gs_no rfl ?_ | refine gs_l tyT_ok 2 ?_ | refine gs_gl tyT_ok 2 rfl ?_ | (refine gs_l tyT_ok 2 ?_ (hp := ?hp); case hp => exact ⟨rfl, Nat.le_of_ble_eq_true rfl⟩) | (refine gs_gl tyT_ok 2 rfl ?_ (hp := ?hp); case hp => exact ⟨rfl, Nat.le_of_ble_eq_true rfl⟩) | refine gs_end ?_ | refine gs_end' ?_ | refine gw_seq ?_ | refine gw_text rfl ?_ | refine gw_skip ?_ | refine gw_yes rfl ?_ | refine gw_no rfl ?_ | refine gw_exit ?_ | refine gw_block ?_ | refine gw_label ?_ | (refine gs_n tyT_ok 0 ?_ (hp := ?hp); case hp => exact ⟨by decide, by decide⟩))
      exact ⟨(), trivial, rfl, rfl, rfl, rfl, rfl, rfl, rfl, rfl, rfl, rfl, rfl, rfl, rfl, trivial⟩
    (refine gs_fg tyT_ok rfl ?hb ?_; case hb => exact decide_eq_false m5)
    repeat (first | refine gs_n tyT_ok 0 ?_ | refine gs_gn tyT_ok 0 rfl ?_ | refine gs_no rfl ?_ | refine gs_l tyT_ok 2 ?_ | refine gs_gl tyT_ok 2 rfl ?_ | (refine gs_l tyT_ok 2 ?_ (hp := ?hp); case hp => exact ⟨rfl, Nat.le_of_ble_eq_true rfl⟩) | (refine gs_gl tyT_ok 2 rfl ?_ (hp := ?hp); case hp => exact ⟨rfl, Nat.le_of_ble_eq_true rfl⟩))
    by_cases m6 : dOk H.kind H.depth
    case neg =>
      rw [decide_eq_false fun h : H.ok => m6 h.2.2.2.2.2.1]
      refine gs_pug ent61 rfl (depth_f m6) ?_
      repeat (first | refine gs_n tyT_ok 0 ?_ | refine gs_gn tyT_ok 0 rfl ?_ | refine gs_no rfl ?_ | refine gs_l tyT_ok 2 ?_ | refine gs_gl tyT_ok 2 rfl ?_ | (refine gs_l tyT_ok 2 ?_ (hp := ?hp); case hp => exact ⟨rfl, Nat.le_of_ble_eq_true rfl⟩) | (refine gs_gl tyT_ok 2 rfl ?_ (hp := ?hp); case hp => exact ⟨rfl, Nat.le_of_ble_eq_true rfl⟩) | refine gs_end ?_ | refine gs_end' ?_ | refine gw_seq ?_ | refine gw_text rfl ?_ | refine gw_skip ?_ | refine gw_yes rfl ?_ | refine gw_no rfl ?_ | refine gw_exit ?_ | refine gw_block ?_ | refine gw_label ?_ | (refine gs_n tyT_ok 0 ?_ (hp := ?hp); case hp => exact ⟨by decide, by decide⟩))
      exact ⟨(), trivial, rfl, rfl, rfl, rfl, rfl, rfl, rfl, rfl, rfl, rfl, rfl, rfl, rfl, trivial⟩
    refine gs_pug ent61 rfl (depth_t m6) ?_
    repeat (first | refine gs_n tyT_ok 0 ?_ | refine gs_gn tyT_ok 0 rfl ?_ | refine gs_no rfl ?_ | refine gs_l tyT_ok 2 ?_ | refine gs_gl tyT_ok 2 rfl ?_ | (refine gs_l tyT_ok 2 ?_ (hp := ?hp); case hp => exact ⟨rfl, Nat.le_of_ble_eq_true rfl⟩) | (refine gs_gl tyT_ok 2 rfl ?_ (hp := ?hp); case hp => exact ⟨rfl, Nat.le_of_ble_eq_true rfl⟩))
    by_cases m7 : H.lst = 0
    · rw [decide_eq_true (show H.ok from ⟨m1, m2, m3, m4, m5, m6, .inl m7⟩)]
      (refine gs_fg tyT_ok rfl ?hb ?_; case hb => simp [*])
      repeat (first | refine gs_n tyT_ok 0 ?_ | refine gs_gn tyT_ok 0 rfl ?_ | refine gs_no rfl ?_ | refine gs_l tyT_ok 2 ?_ | refine gs_gl tyT_ok 2 rfl ?_ | (refine gs_l tyT_ok 2 ?_ (hp := ?hp); case hp => exact ⟨rfl, Nat.le_of_ble_eq_true rfl⟩) | (refine gs_gl tyT_ok 2 rfl ?_ (hp := ?hp); case hp => exact ⟨rfl, Nat.le_of_ble_eq_true rfl⟩) | refine gs_end ?_ | refine gs_end' ?_ | refine gw_seq ?_ | refine gw_text rfl ?_ | refine gw_skip ?_ | refine gw_yes rfl ?_ | refine gw_no rfl ?_ | refine gw_exit ?_ | refine gw_block ?_ | refine gw_label ?_ | (refine gs_n tyT_ok 0 ?_ (hp := ?hp); case hp => exact ⟨by decide, by decide⟩))
      exact ⟨(), trivial, rfl, rfl, rfl, rfl, rfl, rfl, rfl, rfl, rfl, rfl, rfl, rfl, rfl, trivial⟩
    (refine gs_tg tyT_ok rfl ?hb ?_; case hb => simp [*])
    repeat (first | refine gs_n tyT_ok 0 ?_ | refine gs_gn tyT_ok 0 rfl ?_ | refine gs_no rfl ?_ | refine gs_l tyT_ok 2 ?_ | refine gs_gl tyT_ok 2 rfl ?_ | (refine gs_l tyT_ok 2 ?_ (hp := ?hp); case hp => exact ⟨rfl, Nat.le_of_ble_eq_true rfl⟩) | (refine gs_gl tyT_ok 2 rfl ?_ (hp := ?hp); case hp => exact ⟨rfl, Nat.le_of_ble_eq_true rfl⟩))
    by_cases m8 : H.lst = 32
    · rw [decide_eq_true (show H.ok from ⟨m1, m2, m3, m4, m5, m6, .inr m8⟩)]
      (refine gs_fg tyT_ok rfl ?hb ?_; case hb => simp [*])
      repeat (first | refine gs_n tyT_ok 0 ?_ | refine gs_gn tyT_ok 0 rfl ?_ | refine gs_no rfl ?_ | refine gs_l tyT_ok 2 ?_ | refine gs_gl tyT_ok 2 rfl ?_ | (refine gs_l tyT_ok 2 ?_ (hp := ?hp); case hp => exact ⟨rfl, Nat.le_of_ble_eq_true rfl⟩) | (refine gs_gl tyT_ok 2 rfl ?_ (hp := ?hp); case hp => exact ⟨rfl, Nat.le_of_ble_eq_true rfl⟩) | refine gs_end ?_ | refine gs_end' ?_ | refine gw_seq ?_ | refine gw_text rfl ?_ | refine gw_skip ?_ | refine gw_yes rfl ?_ | refine gw_no rfl ?_ | refine gw_exit ?_ | refine gw_block ?_ | refine gw_label ?_ | (refine gs_n tyT_ok 0 ?_ (hp := ?hp); case hp => exact ⟨by decide, by decide⟩))
      exact ⟨(), trivial, rfl, rfl, rfl, rfl, rfl, rfl, rfl, rfl, rfl, rfl, rfl, rfl, rfl, trivial⟩
    · rw [decide_eq_false fun h : H.ok => h.2.2.2.2.2.2.elim m7 m8]
      (refine gs_tg tyT_ok rfl ?hb ?_; case hb => simp [*])
      repeat (first | refine gs_n tyT_ok 0 ?_ | refine gs_gn tyT_ok 0 rfl ?_ | refine gs_no rfl ?_ | refine gs_l tyT_ok 2 ?_ | refine gs_gl tyT_ok 2 rfl ?_ | (refine gs_l tyT_ok 2 ?_ (hp := ?hp); case hp => exact ⟨rfl, Nat.le_of_ble_eq_true rfl⟩) | (refine gs_gl tyT_ok 2 rfl ?_ (hp := ?hp); case hp => exact ⟨rfl, Nat.le_of_ble_eq_true rfl⟩) | refine gs_end ?_ | refine gs_end' ?_ | refine gw_seq ?_ | refine gw_text rfl ?_ | refine gw_skip ?_ | refine gw_yes rfl ?_ | refine gw_no rfl ?_ | refine gw_exit ?_ | refine gw_block ?_ | refine gw_label ?_ | (refine gs_n tyT_ok 0 ?_ (hp := ?hp); case hp => exact ⟨by decide, by decide⟩))
      exact ⟨(), trivial, rfl, rfl, rfl, rfl, rfl, rfl, rfl, rfl, rfl, rfl, rfl, rfl, rfl, trivial⟩
  repeat (first | refine gs_n tyT_ok 0 ?_ | refine gs_gn tyT_ok 0 rfl ?_ | refine gs_no rfl ?_ | refine gs_end ?_ | refine gs_end' ?_ | refine gw_seq ?_ | refine gw_text rfl ?_ | refine gw_skip ?_ | refine gw_label ?_)
  refine gw_join (α := Unit) (fun a => [(0, ptr g), (2, ptr b2), (6, .int .i64 H.has), (7, .int .i64 H.num), (8, .int .i64 H.frm), (9, .int .i64 H.many), (10, .int .i64 H.bits), (11, .int .i64 H.zero), (12, ptr b12), (13, .int .i64 H.lst), (14, .bool (decide H.runs))]) (fun a => [(g, sc s p12 (c12 || !decide H.ok)), (b2, imc 0 0 0 0 (.slice none 0 0) (.slice none 0 0)), (b12, imc H.kind H.depth H.wide H.high (.slice none 0 0) (.slice none 0 0))]) (fun a => True) ?_ fun a e ha => ?_
  · refine gw_cond (t := !decide H.ok) rfl (fun h => ?_) (fun h => ?_)
    · rw [h, Bool.or_true]
      repeat (first | refine gs_n tyT_ok 0 ?_ | refine gs_gn tyT_ok 0 rfl ?_ | refine gs_no rfl ?_ | refine gs_l tyT_ok 0 ?_ | refine gs_gl tyT_ok 0 rfl ?_ | (refine gs_l tyT_ok 0 ?_ (hp := ?hp); case hp => exact ⟨rfl, Nat.le_of_ble_eq_true rfl⟩) | (refine gs_gl tyT_ok 0 rfl ?_ (hp := ?hp); case hp => exact ⟨rfl, Nat.le_of_ble_eq_true rfl⟩) | refine gs_end ?_ | refine gs_end' ?_ | refine gw_seq ?_ | refine gw_text rfl ?_ | refine gw_skip ?_ | refine gw_yes rfl ?_ | refine gw_no rfl ?_ | refine gw_exit ?_ | refine gw_block ?_ | refine gw_label ?_ | (refine gs_n tyT_ok 0 ?_ (hp := ?hp); case hp => exact ⟨by decide, by decide⟩) | (refine gs_tg tyT_ok rfl ?hb ?_; case hb => first | exact decide_eq_true (by omega) | exact congrArg Bool.not (decide_eq_false (by omega)) | (simp; done) | (simp; omega)) | (refine gs_fg tyT_ok rfl ?hb ?_; case hb => first | exact decide_eq_false (by omega) | exact congrArg Bool.not (decide_eq_true (by omega)) | (simp; done) | (simp; omega)) | (refine gs_t tyT_ok ?hb ?_; case hb => first | exact decide_eq_true (by omega) | exact congrArg Bool.not (decide_eq_false (by omega)) | (simp; done) | (simp; omega)) | (refine gs_f tyT_ok ?hb ?_; case hb => first | exact decide_eq_false (by omega) | exact congrArg Bool.not (decide_eq_true (by omega)) | (simp; done) | (simp; omega)))
      refine gs_store tyT_ok 0 rfl rfl rfl rfl rfl rfl (Nat.le_of_ble_eq_true rfl) (Nat.le_of_ble_eq_true rfl) ?_
      repeat (first | refine gs_n tyT_ok 0 ?_ | refine gs_gn tyT_ok 0 rfl ?_ | refine gs_no rfl ?_ | refine gs_l tyT_ok 0 ?_ | refine gs_gl tyT_ok 0 rfl ?_ | (refine gs_l tyT_ok 0 ?_ (hp := ?hp); case hp => exact ⟨rfl, Nat.le_of_ble_eq_true rfl⟩) | (refine gs_gl tyT_ok 0 rfl ?_ (hp := ?hp); case hp => exact ⟨rfl, Nat.le_of_ble_eq_true rfl⟩) | refine gs_end ?_ | refine gs_end' ?_ | refine gw_seq ?_ | refine gw_text rfl ?_ | refine gw_skip ?_ | refine gw_yes rfl ?_ | refine gw_no rfl ?_ | refine gw_exit ?_ | refine gw_block ?_ | refine gw_label ?_ | (refine gs_n tyT_ok 0 ?_ (hp := ?hp); case hp => exact ⟨by decide, by decide⟩) | (refine gs_tg tyT_ok rfl ?hb ?_; case hb => first | exact decide_eq_true (by omega) | exact congrArg Bool.not (decide_eq_false (by omega)) | (simp; done) | (simp; omega)) | (refine gs_fg tyT_ok rfl ?hb ?_; case hb => first | exact decide_eq_false (by omega) | exact congrArg Bool.not (decide_eq_true (by omega)) | (simp; done) | (simp; omega)) | (refine gs_t tyT_ok ?hb ?_; case hb => first | exact decide_eq_true (by omega) | exact congrArg Bool.not (decide_eq_false (by omega)) | (simp; done) | (simp; omega)) | (refine gs_f tyT_ok ?hb ?_; case hb => first | exact decide_eq_false (by omega) | exact congrArg Bool.not (decide_eq_true (by omega)) | (simp; done) | (simp; omega)))
      exact ⟨(), trivial, rfl, rfl, rfl, rfl, rfl, rfl, rfl, rfl, rfl, rfl, rfl, rfl, trivial⟩
    · rw [h, Bool.or_false]
      repeat (first | refine gs_n tyT_ok 0 ?_ | refine gs_gn tyT_ok 0 rfl ?_ | refine gs_no rfl ?_ | refine gs_l tyT_ok 0 ?_ | refine gs_gl tyT_ok 0 rfl ?_ | (refine gs_l tyT_ok 0 ?_ (hp := ?hp); case hp => exact ⟨rfl, Nat.le_of_ble_eq_true rfl⟩) | (refine gs_gl tyT_ok 0 rfl ?_ (hp := ?hp); case hp => exact ⟨rfl, Nat.le_of_ble_eq_true rfl⟩) | refine gs_end ?_ | refine gs_end' ?_ | refine gw_seq ?_ | refine gw_text rfl ?_ | refine gw_skip ?_ | refine gw_yes rfl ?_ | refine gw_no rfl ?_ | refine gw_exit ?_ | refine gw_block ?_ | refine gw_label ?_ | (refine gs_n tyT_ok 0 ?_ (hp := ?hp); case hp => exact ⟨by decide, by decide⟩) | (refine gs_tg tyT_ok rfl ?hb ?_; case hb => first | exact decide_eq_true (by omega) | exact congrArg Bool.not (decide_eq_false (by omega)) | (simp; done) | (simp; omega)) | (refine gs_fg tyT_ok rfl ?hb ?_; case hb => first | exact decide_eq_false (by omega) | exact congrArg Bool.not (decide_eq_true (by omega)) | (simp; done) | (simp; omega)) | (refine gs_t tyT_ok ?hb ?_; case hb => first | exact decide_eq_true (by omega) | exact congrArg Bool.not (decide_eq_false (by omega)) | (simp; done) | (simp; omega)) | (refine gs_f tyT_ok ?hb ?_; case hb => first | exact decide_eq_false (by omega) | exact congrArg Bool.not (decide_eq_true (by omega)) | (simp; done) | (simp; omega)))
      exact ⟨(), trivial, rfl, rfl, rfl, rfl, rfl, rfl, rfl, rfl, rfl, rfl, rfl, rfl, trivial⟩
  obtain ⟨cb, hcb⟩ : ∃ cb, cb = (c12 || !decide H.ok) := ⟨_, rfl⟩
  rw [← hcb]
  repeat refine gw_seq ?_
  refine gw_join (α := Unit) (fun a => [(0, ptr g), (2, ptr b2), (9, .int .i64 H.many), (12, ptr b12), (13, .int .i64 H.lst), (14, .bool (decide H.runs)), (147, .bool (!decide H.size || cb))]) (fun a => [(g, sc s p12 cb), (b2, imc 0 0 0 0 (.slice none 0 0) (.slice none 0 0)), (b12, imc H.kind H.depth H.wide H.high (.slice none 0 0) (.slice none 0 0))]) (fun a => True) ?_ fun a e ha => ?_
  · refine gw_text rfl ?_
    repeat (first | refine gs_n tyT_ok 0 ?_ | refine gs_gn tyT_ok 0 rfl ?_ | refine gs_no rfl ?_ | refine gs_l tyT_ok 2 ?_ | refine gs_gl tyT_ok 2 rfl ?_ | (refine gs_l tyT_ok 2 ?_ (hp := ?hp); case hp => exact ⟨rfl, Nat.le_of_ble_eq_true rfl⟩) | (refine gs_gl tyT_ok 2 rfl ?_ (hp := ?hp); case hp => exact ⟨rfl, Nat.le_of_ble_eq_true rfl⟩))
    by_cases m1 : 1 ≤ H.wide ∧ H.wide ≤ 20
    case neg =>
      rw [decide_eq_false fun h : H.size => m1 h.1]
      refine gs_pu ent59 (in_f m1) ?_
      repeat (first | refine gs_n tyT_ok 0 ?_ | refine gs_gn tyT_ok 0 rfl ?_ | refine gs_no rfl ?_ | refine gs_l tyT_ok 0 ?_ | refine gs_gl tyT_ok 0 rfl ?_ | (refine gs_l tyT_ok 0 ?_ (hp := ?hp); case hp => exact ⟨rfl, Nat.le_of_ble_eq_true rfl⟩) | (refine gs_gl tyT_ok 0 rfl ?_ (hp := ?hp); case hp => exact ⟨rfl, Nat.le_of_ble_eq_true rfl⟩) | refine gs_l tyT_ok 2 ?_ | refine gs_gl tyT_ok 2 rfl ?_ | (refine gs_l tyT_ok 2 ?_ (hp := ?hp); case hp => exact ⟨rfl, Nat.le_of_ble_eq_true rfl⟩) | (refine gs_gl tyT_ok 2 rfl ?_ (hp := ?hp); case hp => exact ⟨rfl, Nat.le_of_ble_eq_true rfl⟩) | refine gs_end ?_ | refine gs_end' ?_ | refine gw_seq ?_ | refine gw_text rfl ?_ | refine gw_skip ?_ | refine gw_yes rfl ?_ | refine gw_no rfl ?_ | refine gw_exit ?_ | refine gw_block ?_ | refine gw_label ?_ | (refine gs_n tyT_ok 0 ?_ (hp := ?hp); case hp => exact ⟨by decide, by decide⟩))
      exact ⟨(), trivial, rfl, rfl, rfl, rfl, rfl, rfl, rfl, rfl, trivial⟩
    refine gs_pu ent59 (in_t m1) ?_
    repeat (first | refine gs_n tyT_ok 0 ?_ | refine gs_gn tyT_ok 0 rfl ?_ | refine gs_no rfl ?_ | refine gs_l tyT_ok 2 ?_ | refine gs_gl tyT_ok 2 rfl ?_ | (refine gs_l tyT_ok 2 ?_ (hp := ?hp); case hp => exact ⟨rfl, Nat.le_of_ble_eq_true rfl⟩) | (refine gs_gl tyT_ok 2 rfl ?_ (hp := ?hp); case hp => exact ⟨rfl, Nat.le_of_ble_eq_true rfl⟩))
    by_cases m2 : 1 ≤ H.high ∧ H.high ≤ 20
    case neg =>
      rw [decide_eq_false fun h : H.size => m2 h.2]
      refine gs_pug ent59 rfl (in_f m2) ?_
      repeat (first | refine gs_n tyT_ok 0 ?_ | refine gs_gn tyT_ok 0 rfl ?_ | refine gs_no rfl ?_ | refine gs_l tyT_ok 0 ?_ | refine gs_gl tyT_ok 0 rfl ?_ | (refine gs_l tyT_ok 0 ?_ (hp := ?hp); case hp => exact ⟨rfl, Nat.le_of_ble_eq_true rfl⟩) | (refine gs_gl tyT_ok 0 rfl ?_ (hp := ?hp); case hp => exact ⟨rfl, Nat.le_of_ble_eq_true rfl⟩) | refine gs_l tyT_ok 2 ?_ | refine gs_gl tyT_ok 2 rfl ?_ | (refine gs_l tyT_ok 2 ?_ (hp := ?hp); case hp => exact ⟨rfl, Nat.le_of_ble_eq_true rfl⟩) | (refine gs_gl tyT_ok 2 rfl ?_ (hp := ?hp); case hp => exact ⟨rfl, Nat.le_of_ble_eq_true rfl⟩) | refine gs_end ?_ | refine gs_end' ?_ | refine gw_seq ?_ | refine gw_text rfl ?_ | refine gw_skip ?_ | refine gw_yes rfl ?_ | refine gw_no rfl ?_ | refine gw_exit ?_ | refine gw_block ?_ | refine gw_label ?_ | (refine gs_n tyT_ok 0 ?_ (hp := ?hp); case hp => exact ⟨by decide, by decide⟩))
      exact ⟨(), trivial, rfl, rfl, rfl, rfl, rfl, rfl, rfl, rfl, trivial⟩
    rw [decide_eq_true (show H.size from ⟨m1, m2⟩)]
    refine gs_pug ent59 rfl (in_t m2) ?_
    repeat (first | refine gs_n tyT_ok 0 ?_ | refine gs_gn tyT_ok 0 rfl ?_ | refine gs_no rfl ?_ | refine gs_l tyT_ok 0 ?_ | refine gs_gl tyT_ok 0 rfl ?_ | (refine gs_l tyT_ok 0 ?_ (hp := ?hp); case hp => exact ⟨rfl, Nat.le_of_ble_eq_true rfl⟩) | (refine gs_gl tyT_ok 0 rfl ?_ (hp := ?hp); case hp => exact ⟨rfl, Nat.le_of_ble_eq_true rfl⟩) | refine gs_l tyT_ok 2 ?_ | refine gs_gl tyT_ok 2 rfl ?_ | (refine gs_l tyT_ok 2 ?_ (hp := ?hp); case hp => exact ⟨rfl, Nat.le_of_ble_eq_true rfl⟩) | (refine gs_gl tyT_ok 2 rfl ?_ (hp := ?hp); case hp => exact ⟨rfl, Nat.le_of_ble_eq_true rfl⟩) | refine gs_end ?_ | refine gs_end' ?_ | refine gw_seq ?_ | refine gw_text rfl ?_ | refine gw_skip ?_ | refine gw_yes rfl ?_ | refine gw_no rfl ?_ | refine gw_exit ?_ | refine gw_block ?_ | refine gw_label ?_ | (refine gs_n tyT_ok 0 ?_ (hp := ?hp); case hp => exact ⟨by decide, by decide⟩))
    exact ⟨(), trivial, rfl, rfl, rfl, rfl, rfl, rfl, rfl, rfl, trivial⟩
  refine gw_join (α := Unit) (fun a => [(0, ptr g), (2, ptr b2), (9, .int .i64 H.many), (12, ptr b12), (13, .int .i64 H.lst), (14, .bool (decide H.runs))]) (fun a => [(g, sc s p12 cb), (b2, imc 0 0 0 0 (.slice none 0 0) (.slice none 0 0)), (b12, imc H.kind H.depth H.wide H.high (.slice none 0 0) (.slice none 0 0))]) (fun a => cb = false ∧ H.size) ?_ fun a e ha => ?_
  · refine gw_cond (t := !decide H.size || cb) rfl (fun h => ?_) (fun h => ?_)
    · repeat (first | refine gs_n tyT_ok 0 ?_ | refine gs_gn tyT_ok 0 rfl ?_ | refine gs_no rfl ?_ | refine gs_end ?_ | refine gs_end' ?_ | refine gw_seq ?_ | refine gw_text rfl ?_ | refine gw_skip ?_ | refine gw_label ?_)
      refine gs_store tyT_ok 0 rfl rfl rfl rfl rfl rfl (Nat.le_of_ble_eq_true rfl) (Nat.le_of_ble_eq_true rfl) ?_
      repeat (first | refine gs_n tyT_ok 0 ?_ | refine gs_gn tyT_ok 0 rfl ?_ | refine gs_no rfl ?_ | refine gs_end ?_ | refine gs_end' ?_ | refine gw_seq ?_ | refine gw_text rfl ?_ | refine gw_skip ?_ | refine gw_label ?_)
      refine gs_store tyT_ok 1 rfl rfl rfl rfl rfl rfl (Nat.le_of_ble_eq_true rfl) (Nat.le_of_ble_eq_true rfl) ?_
      repeat (first | refine gs_n tyT_ok 0 ?_ | refine gs_gn tyT_ok 0 rfl ?_ | refine gs_no rfl ?_ | refine gs_end ?_ | refine gs_end' ?_ | refine gw_seq ?_ | refine gw_text rfl ?_ | refine gw_skip ?_ | refine gw_label ?_)
      refine gw_nil ?_
      refine gw_ret ⟨_, [(g, sc s p12 true)], [(0, .none)], [0, 3], rv_cell tyT_ok 1 rfl rfl rfl rfl rfl (Nat.le_of_ble_eq_true rfl) (.tmp (.tmp .nil)), ⟨p12, true, 0, 0, 0, 0, _, _, _, _, _, _, rfl, rfl, rfl, .inl ⟨rfl, ?_⟩⟩, rfl, rfl, by decide⟩
      rintro ⟨f1, f2, f3, f4⟩
      have hHs : H = hdOf s := by
        cases hc : c12 with
        | false => exact (hgood hc).2.1
        | true => exact (hbad hc).elim (fun h => by omega) fun h => h.1
      rw [← hHs] at f2 f3 f4
      have hcb2 : cb = true := by simpa [f3] using h
      rw [hcb2] at hcb
      have hc12 : c12 = true := by simpa [f2] using hcb.symm
      rcases hbad hc12 with h | h
      · omega
      · omega
    · repeat (first | refine gs_n tyT_ok 0 ?_ | refine gs_gn tyT_ok 0 rfl ?_ | refine gs_no rfl ?_ | refine gs_end ?_ | refine gs_end' ?_ | refine gw_seq ?_ | refine gw_text rfl ?_ | refine gw_skip ?_ | refine gw_label ?_)
      have h : H.size ∧ cb = false := by simpa using h
      exact ⟨(), ⟨h.2, h.1⟩, rfl, rfl, rfl, rfl, rfl, rfl, rfl, trivial⟩
  obtain ⟨hc, hsize⟩ := ha
  subst hc
  obtain ⟨c12f, hok⟩ : c12 = false ∧ H.ok := by
    have := hcb.symm
    simpa using this
  obtain ⟨g1, g2, g3, g4⟩ := hgood c12f
  have hmany : H.many ≤ 256 := by
    have := hok.1
    unfold Hd.colors at this
    split at this <;> omega
  repeat (first | refine gs_n tyT_ok 0 ?_ | refine gs_gn tyT_ok 0 rfl ?_ | refine gs_no rfl ?_ | refine gs_end ?_ | refine gs_end' ?_ | refine gw_seq ?_ | refine gw_text rfl ?_ | refine gw_skip ?_ | refine gw_label ?_)
  refine gs_sct ent58 (take_g hs' hp12 (by omega) (by omega)) fun p13 c13 t13 h13 => ?_
  refine gs_call [] ent60 rfl (by decide) (colorsGet_w (s := t13) (z := 3) (big := false) (by have := h13.2.1; omega) (by omega) (by omega)) fun v F' ns ho _ _ => ?_
  obtain ⟨rfl, q, rfl, hq⟩ := ho
  have hq2 := hq
  obtain ⟨a, c, rfl, hl⟩ := hq2.ls
  repeat (first | refine gs_n tyT_ok 0 ?_ | refine gs_gn tyT_ok 0 rfl ?_ | refine gs_no rfl ?_ | refine gs_end ?_ | refine gs_end' ?_ | refine gw_seq ?_ | refine gw_text rfl ?_ | refine gw_skip ?_ | refine gw_label ?_)
  refine gs_store tyT_ok 2 rfl rfl rfl rfl rfl rfl (Nat.le_of_ble_eq_true rfl) (Nat.le_of_ble_eq_true rfl) ?_
  repeat (first | refine gs_n tyT_ok 0 ?_ | refine gs_gn tyT_ok 0 rfl ?_ | refine gs_no rfl ?_ | refine gs_l tyT_ok 2 ?_ | refine gs_gl tyT_ok 2 rfl ?_ | (refine gs_l tyT_ok 2 ?_ (hp := ?hp); case hp => exact ⟨rfl, Nat.le_of_ble_eq_true rfl⟩) | (refine gs_gl tyT_ok 2 rfl ?_ (hp := ?hp); case hp => exact ⟨rfl, Nat.le_of_ble_eq_true rfl⟩) | refine gs_end ?_ | refine gs_end' ?_ | refine gw_seq ?_ | refine gw_text rfl ?_ | refine gw_skip ?_ | refine gw_label ?_)
  refine gs_n tyT_ok 1 ?_
  refine gs_store tyT_ok 1 rfl rfl rfl rfl rfl rfl (Nat.le_of_ble_eq_true rfl) (Nat.le_of_ble_eq_true rfl) ?_
  repeat (first | refine gs_n tyT_ok 0 ?_ | refine gs_gn tyT_ok 0 rfl ?_ | refine gs_no rfl ?_ | refine gs_end ?_ | refine gs_end' ?_ | refine gw_seq ?_ | refine gw_text rfl ?_ | refine gw_skip ?_ | refine gw_label ?_)
  refine gw_ret ⟨_, [(g, sc s p13 c13)], [q], [0, 3], rv_cell tyT_ok 1 rfl rfl rfl rfl rfl (Nat.le_of_ble_eq_true rfl) (.tmp (.tmp .nil)), ⟨p13, c13, _, _, _, _, _, _, _, _, _, _, rfl, rfl, rfl, ?_⟩, rfl, rfl, by decide⟩
  cases c13
  · obtain ⟨k1, k2, k3⟩ := h13.2.2.1 rfl
    have hp := h13.1
    rw [← g2]
    refine .inr ⟨rfl, g1, hok, hsize, rfl, rfl, rfl, rfl, rfl, rfl, by omega, hp, ?_⟩
    have e1 : 18 + H.ahead.toNat = p12 := by omega
    have e2 : t13.size / 3 = H.many.toNat := by have := h13.2.1; omega
    rw [e1, ← k3, ← e2]
    exact hq
  · refine .inl ⟨rfl, ?_⟩
    rintro ⟨f1, f2, f3, f4⟩
    rw [← g2] at f4
    rcases h13.2.2.2 rfl with h | h
    · cases h
    · omega
end
end Go.Proofs.Ytdkhjcmhjlbpaaa.G
