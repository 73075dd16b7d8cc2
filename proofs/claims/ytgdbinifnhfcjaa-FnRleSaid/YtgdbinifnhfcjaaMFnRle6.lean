/- Texts of one law put together (wip/merge2.py). -/
import Derived.Test.YtgdbinifnhfcjaaMFnRle5
/- impl.RleGet and spec.RleGet in all cases: both hand back the same rows. -/
set_option linter.unusedVariables false
set_option linter.unusedSimpArgs false
namespace Go.Proofs.Ytgdbinifnhfcjaa.P
open Go.RowKit Go.Proofs.YtgdbinifnhfcjaaW.PrintWords Go.Proofs.YtgdbinifnhfcjaaW.PrintLast Go.Proofs.YtgdbinifnhfcjaaW.PrintMore
def rleOk (s : ByteArray) (a1 a2 : Int) : Prop := (0 ≤ a1 ∧ a1 ≤ 100) ∧ (0 ≤ a2 ∧ a2 ≤ 100) ∧ s.size ≤ 9000
instance (s : ByteArray) (a1 a2 : Int) : Decidable (rleOk s a1 a2) := by unfold rleOk; infer_instance
def rleR (s : ByteArray) (a1 a2 : Int) : Option (List (List Int)) := if rleOk s a1 a2 then rleV s (s.size + 1) 0 (zeroRows a1.toNat a2.toNat) 0 0 else none
/-- Rows of one's own, no two of which share, and whether there are any. -/
def RowsRes (w : World) (R : Option (List (List Int))) (e : Ending) (w' : World) : Prop :=
  ∃ v, e = .returned (.tuple #[v, .bool R.isSome]) ∧ Kd.S (Kd.slice 3 (Kd.int .i64)) 31 w' w.heap.size (fun _ => True) v (R.getD [])
theorem in100 (a : Int) : impl_in.f a 0 100 = some (decide (0 ≤ a ∧ a ≤ 100)) := by
  unfold impl_in.f
  by_cases h : a ≥ 0
  · rw [if_pos h]
    congr 1
    exact decide_eq_decide.2 ⟨fun h2 => ⟨h, h2⟩, fun h2 => h2.2⟩
  · rw [if_neg h, decide_eq_false (by omega)]
theorem lin100 (a : Int) : spec_l1In.f a 0 100 = some (decide (0 ≤ a ∧ a ≤ 100)) := by
  unfold spec_l1In.f
  by_cases h : a ≥ 0
  · rw [if_pos h]
    congr 1
    exact decide_eq_decide.2 ⟨fun h2 => ⟨h, h2⟩, fun h2 => h2.2⟩
  · rw [if_neg h, decide_eq_false (by omega)]
theorem rle_cases {s : ByteArray} {a1 a2 : Int} (h : ¬ rleOk s a1 a2) : decide (0 ≤ a1 ∧ a1 ≤ 100) = false ∨ decide (0 ≤ a1 ∧ a1 ≤ 100) = true ∧ decide (0 ≤ a2 ∧ a2 ≤ 100) = false ∨ decide (0 ≤ a1 ∧ a1 ≤ 100) = true ∧ decide (0 ≤ a2 ∧ a2 ≤ 100) = true ∧ 9000 < s.size := by
  unfold rleOk at h
  by_cases h1 : 0 ≤ a1 ∧ a1 ≤ 100
  · by_cases h2 : 0 ≤ a2 ∧ a2 ≤ 100
    · exact .inr (.inr ⟨decide_eq_true h1, decide_eq_true h2, by omega⟩)
    · exact .inr (.inl ⟨decide_eq_true h1, decide_eq_false h2⟩)
  · exact .inl (decide_eq_false h1)
set_option maxHeartbeats 8000000 in
set_option maxRecDepth 100000 in
theorem rleget_any (s : ByteArray) (a1 a2 : Int) (w : World) :
    Calls Try.prog 13 #[.string s, .int .i64 a1, .int .i64 a2] w fun e w' => RowsRes w (rleR s a1 a2) e w' ∧ Below w.heap.size w w' := by
  unfold rleR
  by_cases ho : rleOk s a1 a2
  · rw [if_pos ho]
    obtain ⟨h1, h2, h3⟩ := ho
    obtain ⟨W, rfl⟩ := Int.eq_ofNat_of_zero_le h1.1
    obtain ⟨H, rfl⟩ := Int.eq_ofNat_of_zero_le h2.1
    rw [Int.toNat_natCast, Int.toNat_natCast]
    refine (rleget_yes s W H w h3 (by omega) (by omega)).mono fun e w' ⟨hr, hb⟩ => ⟨?_, hb⟩
    unfold RowsOut at hr
    unfold RowsRes
    cases hR : rleV s (s.size + 1) 0 (zeroRows W H) 0 0 with
    | none => rw [hR] at hr; exact ⟨_, hr, Kd.S_nil _ _ _ _ _⟩
    | some rows => rw [hR] at hr; exact hr
  · rw [if_neg ho]
    have I1 := Aside0.mk (in100 a1)
    have I2 := Aside0.mk (in100 a2)
    rcases rle_cases ho with h1 | ⟨h1, h2⟩ | ⟨h1, h2, h3⟩
    · rw [h1] at I1
      clear ho h1 I2
      go_enter Try.func13, Try.ntmps13
      go_wp2_with (go_at_call 45; (with_reducible refine (impl_in.calls a1 0 100 false _ I1.out).mono ?_); rintro e w' ⟨rfl, ⟨n1, rfl⟩⟩)
      go_ret2
      exact ⟨⟨_, rfl, Kd.S_nil _ _ _ _ _⟩, pw_below_drewN (Below.refl _ _) _⟩
    · rw [h1] at I1
      rw [h2] at I2
      clear ho h1 h2
      go_enter Try.func13, Try.ntmps13
      go_wp2_with (first | (go_at_call 45; (with_reducible refine (impl_in.calls a1 0 100 true _ I1.out).mono ?_); rintro e w' ⟨rfl, ⟨n1, rfl⟩⟩; clear I1) | (go_at_call 45; (with_reducible refine (impl_in.calls a2 0 100 false _ I2.out).mono ?_); rintro e w' ⟨rfl, ⟨n2, rfl⟩⟩))
      go_ret2
      exact ⟨⟨_, rfl, Kd.S_nil _ _ _ _ _⟩, pw_below_drewN (Below.refl _ _) _⟩
    · rw [h1] at I1
      rw [h2] at I2
      have s1 : decide ((9000 : Int) < (s.size : Int)) = true := decide_eq_true (by omega)
      have s2 : decide (9000 < s.size) = true := decide_eq_true h3
      clear ho h1 h2 h3
      go_enter Try.func13, Try.ntmps13
      go_wp2_with (first | (go_at_call 45; (with_reducible refine (impl_in.calls a1 0 100 true _ I1.out).mono ?_); rintro e w' ⟨rfl, ⟨n1, rfl⟩⟩; clear I1) | (go_at_call 45; (with_reducible refine (impl_in.calls a2 0 100 true _ I2.out).mono ?_); rintro e w' ⟨rfl, ⟨n2, rfl⟩⟩))
      go_ret2
      exact ⟨⟨_, rfl, Kd.S_nil _ _ _ _ _⟩, pw_below_drewN (Below.refl _ _) _⟩
theorem empty_rows {P : Program} {ops : Array Oper} {rest : List Oper} {o : Oper} {a : Act} {Q : Exit → Act → World → Prop} {w0 W : World} (hgd : o.guard = none) {N : Tmp} (hd : o.dst = some N)
    (hrun : (execOp a.eval o).run P W = .ok (.value (.slice (some ⟨W.heap.size, 0, none⟩) 0 0)) (W.alloc (.cells #[] 31))) (HB : Below w0.heap.size w0 W)
    (h : ∀ v1 w1, Kd.S (Kd.slice 3 (Kd.int .i64)) 31 w1 w0.heap.size (fun _ => True) v1 [] → Below w0.heap.size w0 w1 → wpList P ops Q rest (a.put o.dst v1) w1) : wpList P ops Q (o :: rest) a W :=
  Kd.S_lit (Kd.slice 3 (Kd.int .i64)) w0.heap.size 31 hgd (N := N) hd (xs := []) (inner := []) (ok := fun _ => True) (okp := fun _ => True) hrun (Reps.none _ _) (fun _ h => h) trivial HB HB.size (by simp) (fun v1 w1 h1 h2 _ _ => h v1 w1 h1 h2)
set_option maxHeartbeats 8000000 in
set_option maxRecDepth 100000 in
theorem srleget_any (s : ByteArray) (a1 a2 : Int) (w : World) :
    Calls Try.prog 12 #[.string s, .int .i64 a1, .int .i64 a2] w fun e w' => RowsRes w (rleR s a1 a2) e w' ∧ Below w.heap.size w w' := by
  unfold rleR
  have I1 := Aside0.mk (lin100 a1)
  have I2 := Aside0.mk (lin100 a2)
  have HB0 := Aside0.mk (Below.refl w.heap.size w)
  by_cases ho : rleOk s a1 a2
  · rw [if_pos ho]
    obtain ⟨h1, h2, h3⟩ := ho
    rw [decide_eq_true h1] at I1
    rw [decide_eq_true h2] at I2
    obtain ⟨W, rfl⟩ := Int.eq_ofNat_of_zero_le h1.1
    obtain ⟨H, rfl⟩ := Int.eq_ofNat_of_zero_le h2.1
    rw [Int.toNat_natCast, Int.toNat_natCast]
    have s1 : decide ((9000 : Int) < (s.size : Int)) = false := decide_eq_false (by omega)
    have s2 : decide (9000 < s.size) = false := decide_eq_false (by omega)
    have HW := Aside0.mk (show s.size ≤ 9000 ∧ W ≤ 100 ∧ H ≤ 100 by omega)
    have HC : ∀ w, Aside0 (Calls Try.prog 44 #[.string s, .int .i64 (W : Int), .int .i64 (H : Int)] w fun e w' => RowsL w (rleV s (s.size + 1) 0 (zeroRows W H) 0 0) e w' ∧ Below w.heap.size w w') := fun w => ⟨l7rows_any s W H w HW.out.1 HW.out.2.1 HW.out.2.2⟩
    generalize rleV s (s.size + 1) 0 (zeroRows W H) 0 0 = R at HC ⊢
    clear h1 h2 h3
    cases R with
    | none =>
      go_enter Try.func12, Try.ntmps12
      go_wp2_with (first | (go_at_call 43; (with_reducible refine (spec_l1In.calls (W : Int) 0 100 true _ I1.out).mono ?_); rintro e w' ⟨rfl, ⟨n1, rfl⟩⟩; clear I1) | (go_at_call 43; (with_reducible refine (spec_l1In.calls (H : Int) 0 100 true _ I2.out).mono ?_); rintro e w' ⟨rfl, ⟨n2, rfl⟩⟩; clear I2) | (go_at_call 44; (with_reducible refine (HC _).out.mono ?_); rintro e w3 ⟨⟨v, rows, ok, rfl, _, hok, _⟩, hb⟩; have hkf : ok = false := (by cases ok with | false => rfl | true => exact absurd (hok rfl) (by simp)); subst hkf; have HB3 := Aside0.mk (below_step (pw_below_drewN HB0.out _) hb); clear hok hb) | ((with_reducible refine gate_dst (N := 33) rfl ?_); refine empty_rows (w0 := w) ?hg (N := 33) ?hd ?hr ?hB ?_; (case hg => rfl); (case hd => rfl); (case hr => first | (go_simp; done) | (go_simp; rfl)); (case hB => exact HB3.out); intro v4 w4 hs4 hb4; have HS4 := Aside0.mk hs4; have HB4 := Aside0.mk hb4; clear hs4 hb4))
      go_ret2
      exact ⟨⟨_, rfl, HS4.out⟩, HB4.out⟩
    | some rows =>
      go_enter Try.func12, Try.ntmps12
      go_wp2_with (first | (go_at_call 43; (with_reducible refine (spec_l1In.calls (W : Int) 0 100 true _ I1.out).mono ?_); rintro e w' ⟨rfl, ⟨n1, rfl⟩⟩; clear I1) | (go_at_call 43; (with_reducible refine (spec_l1In.calls (H : Int) 0 100 true _ I2.out).mono ?_); rintro e w' ⟨rfl, ⟨n2, rfl⟩⟩; clear I2) | (go_at_call 44; (with_reducible refine (HC _).out.mono ?_); rintro e w3 ⟨⟨v, rows', ok, rfl, hs3, hok, hno⟩, hb⟩; have hkt : ok = true := (by cases ok with | true => rfl | false => exact absurd (hno rfl) (by simp)); subst hkt; have hre : rows = rows' := Option.some.inj (hok rfl); have HB3 := Aside0.mk (below_step (pw_below_drewN HB0.out _) hb); rw [← hre] at hs3; have HS3 := Aside0.mk (Kd.S_lower hs3 (below_size (pw_below_drewN HB0.out _))); clear hok hb hno hre hs3))
      go_ret2
      exact ⟨⟨_, rfl, HS3.out⟩, HB3.out⟩
  · rw [if_neg ho]
    by_cases h9 : 9000 < s.size
    · have s1 : decide ((9000 : Int) < (s.size : Int)) = true := decide_eq_true (by omega)
      have s2 : decide (9000 < s.size) = true := decide_eq_true h9
      clear ho h9
      go_enter Try.func12, Try.ntmps12
      go_wp2_with ((with_reducible refine gate_dst (N := 23) rfl ?_); refine empty_rows (w0 := w) ?hg (N := 23) ?hd ?hr ?hB ?_; (case hg => rfl); (case hd => rfl); (case hr => first | (go_simp; done) | (go_simp; rfl)); (case hB => exact HB0.out); intro v4 w4 hs4 hb4; have HS4 := Aside0.mk hs4; have HB4 := Aside0.mk hb4; clear hs4 hb4)
      go_ret2
      exact ⟨⟨_, rfl, HS4.out⟩, HB4.out⟩
    have s1 : decide ((9000 : Int) < (s.size : Int)) = false := decide_eq_false (by omega)
    have s2 : decide (9000 < s.size) = false := decide_eq_false h9
    rcases rle_cases ho with h1 | ⟨h1, h2⟩ | ⟨h1, h2, h3⟩
    · rw [h1] at I1
      clear ho h1 I2 h9
      go_enter Try.func12, Try.ntmps12
      go_wp2_with (first | (go_at_call 43; (with_reducible refine (spec_l1In.calls a1 0 100 false _ I1.out).mono ?_); rintro e w' ⟨rfl, ⟨n1, rfl⟩⟩) | ((with_reducible refine gate_dst (N := 23) rfl ?_); refine empty_rows (w0 := w) ?hg (N := 23) ?hd ?hr ?hB ?_; (case hg => rfl); (case hd => rfl); (case hr => first | (go_simp; done) | (go_simp; rfl)); (case hB => exact pw_below_drewN HB0.out _); intro v4 w4 hs4 hb4; have HS4 := Aside0.mk hs4; have HB4 := Aside0.mk hb4; clear hs4 hb4))
      go_ret2
      exact ⟨⟨_, rfl, HS4.out⟩, HB4.out⟩
    · rw [h1] at I1
      rw [h2] at I2
      clear ho h1 h2 h9
      go_enter Try.func12, Try.ntmps12
      go_wp2_with (first | (go_at_call 43; (with_reducible refine (spec_l1In.calls a1 0 100 true _ I1.out).mono ?_); rintro e w' ⟨rfl, ⟨n1, rfl⟩⟩; clear I1) | (go_at_call 43; (with_reducible refine (spec_l1In.calls a2 0 100 false _ I2.out).mono ?_); rintro e w' ⟨rfl, ⟨n2, rfl⟩⟩) | ((with_reducible refine gate_dst (N := 23) rfl ?_); refine empty_rows (w0 := w) ?hg (N := 23) ?hd ?hr ?hB ?_; (case hg => rfl); (case hd => rfl); (case hr => first | (go_simp; done) | (go_simp; rfl)); (case hB => exact pw_below_drewN HB0.out _); intro v4 w4 hs4 hb4; have HS4 := Aside0.mk hs4; have HB4 := Aside0.mk hb4; clear hs4 hb4))
      go_ret2
      exact ⟨⟨_, rfl, HS4.out⟩, HB4.out⟩
    · exact absurd h3 h9
end Go.Proofs.Ytgdbinifnhfcjaa.P
