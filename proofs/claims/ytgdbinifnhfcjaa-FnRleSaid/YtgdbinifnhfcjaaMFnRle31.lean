/- Texts of one law put together (wip/merge2.py). -/
import Derived.Test.YtgdbinifnhfcjaaMFnRle24
import Derived.Test.YtgdbinifnhfcjaaMFnRle28
import Derived.Test.YtgdbinifnhfcjaaMFnRle30
/- FnRle: rows that were packed come out just as they went in. -/
set_option linter.unusedVariables false
set_option linter.unusedSimpArgs false
namespace Go.Proofs.Ytgdbinifnhfcjaa.P
open Go.RowKit Go.Proofs.Ytgdbinifnhfcjaa.Lib Go.Proofs.YtgdbinifnhfcjaaW.PrintWords Go.Proofs.YtgdbinifnhfcjaaW.PrintLast Go.Proofs.YtgdbinifnhfcjaaW.PrintMore
open Go.Proofs.Ytgdbinifnhfcjaa.Pure (small rleDrawn)
/-- What is drawn: rows that share nothing. -/
theorem drawrleput_any (l : List Int) (hl : ∀ x ∈ l, 0 ≤ x ∧ x ≤ 255) : ∃ rows, rleDrawn rows ∧ ∀ (A : Option Addr) (c : Nat) (w : World), Kd.C (Kd.int .u8) w A l.length l → l.length ≤ c →
    Calls Try.prog 20 #[.slice A l.length c] w fun e w' => ∃ v, e = .returned v ∧ Kd.S (Kd.slice 3 (Kd.int .i64)) 31 w' w.heap.size (fun _ => True) v rows ∧ Below w.heap.size w w' := by
  obtain ⟨⟨b, p⟩, ho, h1, h2⟩ := Pure.open_ok l
  obtain ⟨_, ho⟩ := ho.rounds
  simp only at h1 h2
  subst h1 h2
  have hb := Pure.byte_take hl 2000
  generalize hbb : l.take 2000 = b at hb ho
  have hall : Ok (fun k => (spec_l14Rows.f k b 0).bind fun r => (spec_l1Rd_pick.f k b r.2 16).bind fun s => some (r, s)) (fun x => (x.1.1.length ≤ 4 ∧ ∃ W, W ≤ 6 ∧ ∀ y ∈ x.1.1, y.length = W)) := by
    refine (Pure.rows_ok b hb 0 (by omega)).bind fun r hr => ?_
    obtain ⟨h3, h4, h5, h6⟩ := hr
    refine (Pure.pick_at b hb r.2 16 ⟨by omega, by omega⟩ (by omega)).bind fun s hs => ?_
    exact Ok.now _ ⟨h3, h4⟩
  obtain ⟨⟨⟨rows, q⟩, ⟨v, q2⟩⟩, hev, h3, W, hW, h4⟩ := hall
  obtain ⟨k, hk⟩ := hev.rounds
  obtain ⟨r, hr, hk⟩ := Option.bind_eq_some_iff.mp hk
  obtain ⟨s, hs, hk⟩ := Option.bind_eq_some_iff.mp hk
  simp only [Option.some.injEq, Prod.mk.injEq] at hk
  obtain ⟨rfl, rfl⟩ := hk
  simp only at h3 h4 hs
  cases rows with
  | nil => exact ⟨[], ⟨by simp, W, hW, .inl h4⟩, fun A c w hC hc => drawrleput_none k A c l b 0 q w hC hc ho hr⟩
  | cons r rest =>
    by_cases hv : v = 0
    · subst hv
      refine ⟨(r ++ [256]) :: rest, ⟨by simpa using h3, W, hW, .inr ⟨r, rest, rfl, h4 r List.mem_cons_self, fun x hx => h4 x (List.mem_cons_of_mem _ hx)⟩⟩, fun A c w hC hc => ?_⟩
      have := h4 r List.mem_cons_self
      exact drawrleput_grow k A c l b 0 (r :: rest) q q2 w hC hc ho hr (by simp) (by show r.length ≤ _; omega) hs
    · exact ⟨r :: rest, ⟨h3, W, hW, .inl h4⟩, fun A c w hC hc => drawrleput_plain k A c l b 0 (r :: rest) q v q2 w hC hc ho hr (by simp) hs hv⟩
theorem drawn_small {rows : List (List Int)} (h : rleDrawn rows) : small rows := by
  obtain ⟨h1, W, hW, h2⟩ := h
  refine ⟨by omega, fun r hr => ?_⟩
  rcases h2 with h2 | ⟨q, l, rfl, h3, h4⟩
  · have := h2 r hr; omega
  · rcases List.mem_cons.1 hr with rfl | hr
    · rw [List.length_append, List.length_singleton]; omega
    · have := h4 r hr; omega
set_option maxHeartbeats 8000000 in
set_option maxRecDepth 100000 in
theorem law_FnRle (a : Option Addr) (len cap : Nat) (z : List Int) (w : World) (w0 : (a = none ∧ len = 0 ∧ cap = 0 ∧ z = []) ∨ ∃ x, a = some x ∧ len ≤ cap ∧ cap ≤ maxLen ∧ z.length = cap ∧ (∀ i, i < z.length → w.cell? (x.add i) = some (.int .u8 (z.getD i 0))) ∧ ∀ n ∈ z, (Lit.int .u8 n).wf = true) (y0 : len * 1 ≤ 140737488351232) :
    Calls Try.prog 5 #[.slice a len cap] w fun e w' => e = .returned (.bool true) ∧ Below w.heap.size w w' := by
  obtain ⟨l, rfl, hr0, hm0, hw0, hc0⟩ := ReadsInt.ofRowC w0
  have HRC := Aside0.mk (Kd.C_of_reads (d := (0 : Int)) (h1 := fun _ => rfl) hr0)
  have HCC := Aside0.mk hc0
  obtain ⟨rows, hdr, hdraw⟩ := drawrleput_any l (Pure.byte_wf hw0)
  have HD := Aside0.mk hdraw
  have HSM := Aside0.mk (drawn_small hdr)
  obtain ⟨s, hi, hs, hback⟩ := Pure.rle_law rows hdr
  obtain ⟨k1, h1⟩ := hi.rounds
  obtain ⟨k2, h2⟩ := hs.rounds
  have K1 := Aside0.mk h1
  have K2 := Aside0.mk h2
  have HB0 := Aside0.mk (Below.refl w.heap.size w)
  clear hr0 hw0 hdraw hdr w0 hc0 hi hs h1 h2
  by_cases hz : 1048576 < l.length
  · have s1 : decide (1048576 < (l.length : Int)) = true := decide_eq_true (by omega)
    have s2 : decide (1048576 < l.length) = true := decide_eq_true hz
    clear hz hback
    go_enter Try.func5, Try.ntmps5
    go_wp2
    go_ret
    exact ⟨rfl, HB0.out⟩
  have s1 : decide (1048576 < (l.length : Int)) = false := decide_eq_false (by omega)
  have s2 : decide (1048576 < l.length) = false := decide_eq_false hz
  clear hz y0 hm0
  by_cases hem : s.toList = ([] : List UInt8)
  · have e1 : (s.toList == ([] : List UInt8)) = true := beq_iff_eq.2 hem
    clear hback hem
    go_enter Try.func5, Try.ntmps5
    go_wp2_with (first
      | (go_at_call 20; (with_reducible refine (HD.out _ _ _ ?s1 HCC.out).mono ?_); (case s1 => exact HRC.out); rintro e w1 ⟨v1, rfl, hs1, hb1⟩; obtain ⟨A1, c1, rfl⟩ := Kd.S_slice hs1; have HS1 := Aside0.mk hs1; have HB1 := Aside0.mk hb1; clear hs1 hb1)
      | (go_at_call 21; (with_reducible refine (impl_RlePut.calls k1 A1 c1 rows s _ (Kd.S_reads' HS1.out).2.2 (Kd.S_reads' HS1.out).2.1 K1.out).mono ?_); rintro e w2 ⟨rfl, hb2⟩; have HS2 := Aside0.mk (Kd.S_below HS1.out hb2); have HB2 := Aside0.mk (below_step HB1.out hb2); clear hb2)
      | (go_at_call 22; have _t := HB2; (with_reducible refine (spec_RlePut.calls k2 A1 c1 rows s _ (Kd.S_reads' HS2.out).2.2 (Kd.S_reads' HS2.out).2.1 K2.out).mono ?_); rintro e w3 ⟨rfl, hb3⟩; have HS3 := Aside0.mk (Kd.S_below HS2.out hb3); have HB3 := Aside0.mk (below_step HB2.out hb3); clear hb3 HS2 HB2)
      | (go_at_call 22; (with_reducible refine (spec_RlePut.calls k2 A1 c1 rows s _ (Kd.S_reads' HS3.out).2.2 (Kd.S_reads' HS3.out).2.1 K2.out).mono ?_); rintro e w4 ⟨rfl, hb4⟩; have HB4 := Aside0.mk (below_step HB3.out hb4); clear hb4))
    go_ret
    exact ⟨rfl, HB4.out⟩
  have e1 : (s.toList == ([] : List UInt8)) = false := beq_eq_false_iff_ne.2 hem
  have hR := hback.resolve_left (fun h => hem ((text_nil s).2 (by rw [h]; rfl)))
  clear hback hem
  by_cases hlt : 0 < rows.length
  · rw [if_pos hlt] at hR
    have t1 : decide ((0 : Int) < (rows.length : Int)) = true := decide_eq_true (by omega)
    have t2 : decide (0 < rows.length) = true := decide_eq_true hlt
    have t3 : ((0 : Int) < (rows.length : Int)) = True := eq_true (by omega)
    have t4 : (0 < rows.length) = True := eq_true hlt
    have HLT := Aside0.mk hlt
    obtain ⟨n0, hn0⟩ : ∃ n0, n0 = (rows.getD 0 []).length := ⟨_, rfl⟩
    rw [← hn0] at hR
    have HN := Aside0.mk hn0
    have HC1 : ∀ w, Aside0 (Calls Try.prog 13 #[.string s, .int .i64 (n0 : Int), .int .i64 (rows.length : Int)] w fun e w' => (∃ v, e = .returned (.tuple #[v, .bool true]) ∧ Kd.S (Kd.slice 3 (Kd.int .i64)) 31 w' w.heap.size (fun _ => True) v rows) ∧ Below w.heap.size w w') := fun w => ⟨by have h := rleget_any s (n0 : Int) (rows.length : Int) w; rw [hR] at h; exact h⟩
    clear hR hn0 hlt
    go_enter Try.func5, Try.ntmps5
    go_wp2_with (first
      | (go_at_call 20; (with_reducible refine (HD.out _ _ _ ?s1 HCC.out).mono ?_); (case s1 => exact HRC.out); rintro e w1 ⟨v1, rfl, hs1, hb1⟩; obtain ⟨q1, c1, rfl, _, _, _⟩ := Kd.S_form hs1 HLT.out; have HS1 := Aside0.mk hs1; have HB1 := Aside0.mk hb1; clear hs1 hb1)
      | (go_at_call 21; (with_reducible refine (impl_RlePut.calls k1 (some ⟨q1, 0, none⟩) c1 rows s _ (Kd.S_reads' HS1.out).2.2 (Kd.S_reads' HS1.out).2.1 K1.out).mono ?_); rintro e w2 ⟨rfl, hb2⟩; have HS2 := Aside0.mk (Kd.S_below HS1.out hb2); have HB2 := Aside0.mk (below_step HB1.out hb2); clear hb2)
      | (go_at_call 22; (with_reducible refine (spec_RlePut.calls k2 (some ⟨q1, 0, none⟩) c1 rows s _ (Kd.S_reads' HS2.out).2.2 (Kd.S_reads' HS2.out).2.1 K2.out).mono ?_); rintro e w3 ⟨rfl, hb3⟩; have HS3 := Aside0.mk (Kd.S_below HS2.out hb3); have HB3 := Aside0.mk (below_step HB2.out hb3); obtain ⟨ok3, A3, c3, hx3, _, _⟩ := first_lent HS3.out HLT.out rfl; rw [← HN.out] at hx3; clear hb3)
      | (go_at_call 13; (with_reducible refine (HC1 _).out.mono ?_); rintro e w4 ⟨⟨v4, rfl, hs4⟩, hb4⟩; obtain ⟨A4, c4, rfl⟩ := Kd.S_slice hs4; have HS4 := Aside0.mk hs4; have HW4 := Aside0.mk (Kd.S_below HS3.out hb4); have HB4 := Aside0.mk (below_step HB3.out hb4); clear hs4 hb4 hx3)
      | (go_at_call 18; (with_reducible refine (wis_any _ _ _ _ _ _ _ _ _ _ _ _ _ _ HSM.out HS4.out HW4.out).mono ?_); rintro e w' ⟨rfl, ⟨n1, rfl⟩⟩))
    go_ret
    exact ⟨rfl, pw_below_drewN HB4.out _⟩
  · rw [if_neg hlt] at hR
    have t1 : decide ((0 : Int) < (rows.length : Int)) = false := decide_eq_false (by omega)
    have t2 : decide (0 < rows.length) = false := decide_eq_false hlt
    have HC1 : ∀ w, Aside0 (Calls Try.prog 13 #[.string s, .int .i64 0, .int .i64 (rows.length : Int)] w fun e w' => (∃ v, e = .returned (.tuple #[v, .bool true]) ∧ Kd.S (Kd.slice 3 (Kd.int .i64)) 31 w' w.heap.size (fun _ => True) v rows) ∧ Below w.heap.size w w') := fun w => ⟨by have h := rleget_any s ((0 : Nat) : Int) (rows.length : Int) w; rw [hR] at h; exact h⟩
    clear hR hlt
    go_enter Try.func5, Try.ntmps5
    go_wp2_with (first
      | (go_at_call 20; (with_reducible refine (HD.out _ _ _ ?s1 HCC.out).mono ?_); (case s1 => exact HRC.out); rintro e w1 ⟨v1, rfl, hs1, hb1⟩; obtain ⟨A1, c1, rfl⟩ := Kd.S_slice hs1; have HS1 := Aside0.mk hs1; have HB1 := Aside0.mk hb1; clear hs1 hb1)
      | (go_at_call 21; (with_reducible refine (impl_RlePut.calls k1 A1 c1 rows s _ (Kd.S_reads' HS1.out).2.2 (Kd.S_reads' HS1.out).2.1 K1.out).mono ?_); rintro e w2 ⟨rfl, hb2⟩; have HS2 := Aside0.mk (Kd.S_below HS1.out hb2); have HB2 := Aside0.mk (below_step HB1.out hb2); clear hb2)
      | (go_at_call 22; (with_reducible refine (spec_RlePut.calls k2 A1 c1 rows s _ (Kd.S_reads' HS2.out).2.2 (Kd.S_reads' HS2.out).2.1 K2.out).mono ?_); rintro e w3 ⟨rfl, hb3⟩; have HS3 := Aside0.mk (Kd.S_below HS2.out hb3); have HB3 := Aside0.mk (below_step HB2.out hb3); clear hb3)
      | (go_at_call 13; (with_reducible refine (HC1 _).out.mono ?_); rintro e w4 ⟨⟨v4, rfl, hs4⟩, hb4⟩; obtain ⟨A4, c4, rfl⟩ := Kd.S_slice hs4; have HS4 := Aside0.mk hs4; have HW4 := Aside0.mk (Kd.S_below HS3.out hb4); have HB4 := Aside0.mk (below_step HB3.out hb4); clear hs4 hb4)
      | (go_at_call 18; (with_reducible refine (wis_any _ _ _ _ _ _ _ _ _ _ _ _ _ _ HSM.out HS4.out HW4.out).mono ?_); rintro e w' ⟨rfl, ⟨n1, rfl⟩⟩))
    go_ret
    exact ⟨rfl, pw_below_drewN HB4.out _⟩
end Go.Proofs.Ytgdbinifnhfcjaa.P
