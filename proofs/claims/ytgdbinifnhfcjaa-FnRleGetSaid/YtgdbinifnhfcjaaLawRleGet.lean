/- laws.FnExactRleGet: at every text, width and height the program's RleGet returns what the reference's returns, rows of its own that may be written. -/
import Derived.Test.YtgdbinifnhfcjaaWalkRleBoth
import Derived.Test.YtgdbinifnhfcjaaWalkMarks
import Derived.OpenShut
set_option linter.unusedVariables false
set_option linter.unusedSimpArgs false
namespace Go.Proofs.Ytgdbinifnhfcjaa.P
open Go.RowKit Go.Proofs.YtgdbinifnhfcjaaW.PrintWords Go.Proofs.YtgdbinifnhfcjaaW.PrintLast Go.Proofs.YtgdbinifnhfcjaaW.PrintMore
open Go.Proofs.Ytgdbinifnhfcjaa.Pure (small total markRows marks markRows_length total_le marks_length)
/-! the rows' shape -/
def sameShape (a b : List (List Int)) : Prop := a.map List.length = b.map List.length
theorem putR_shape (rows : List (List Int)) (x y : Nat) (b : Int) : sameShape (putR rows x y b) rows := by
  unfold sameShape putR
  by_cases h : y < rows.length
  · rw [List.map_set]
    apply List.ext_getElem
    · simp
    · intro i h1 h2
      rw [List.getElem_set]
      split
      · rename_i he
        subst he
        simp [List.getD_eq_getElem?_getD, List.getElem?_eq_getElem h]
      · rfl
  · rw [List.set_eq_of_length_le (by omega)]
theorem putL_shape : ∀ (l : List Int) (rows : List (List Int)) (x y : Nat) (q : List (List Int) × Nat), putL l rows x y = some q → sameShape q.1 rows
  | [], rows, x, y, q, h => by
    simp only [putL, Option.some.injEq] at h
    subst h
    rfl
  | b :: l, rows, x, y, q, h => by
    simp only [putL] at h
    split at h
    · exact (putL_shape l _ _ _ q h).trans (putR_shape rows x y b)
    · cases h
theorem rleV_shape (s : ByteArray) : ∀ (d p : Nat) (rows : List (List Int)) (x y : Nat) (rs : List (List Int)), rleV s d p rows x y = some rs → sameShape rs rows
  | 0, p, rows, x, y, rs, h => by cases h
  | d + 1, p, rows, x, y, rs, h => by
    simp only [rleV] at h
    split at h
    · split at h
      · obtain ⟨q, h1, h2⟩ := Option.bind_eq_some_iff.mp h
        exact (rleV_shape s d _ _ _ _ rs h2).trans (putL_shape _ _ _ _ q h1)
      · split at h
        · exact rleV_shape s d _ _ _ _ rs h
        · split at h
          · split at h
            · cases h
            · rw [← Option.some.inj h]; rfl
          · split at h
            · split at h
              · cases h
              · exact rleV_shape s d _ _ _ _ rs h
            · split at h
              · cases h
              · obtain ⟨q, h1, h2⟩ := Option.bind_eq_some_iff.mp h
                exact (rleV_shape s d _ _ _ _ rs h2).trans (putL_shape _ _ _ _ q h1)
    · cases h
theorem shape_small {a b : List (List Int)} (h : sameShape a b) (hb : small b) : small a := by
  unfold sameShape at h
  refine ⟨?_, fun r hr => ?_⟩
  · have := congrArg List.length h
    simp only [List.length_map] at this
    rw [this]
    exact hb.1
  · have hm : r.length ∈ b.map List.length := by rw [← h]; exact List.mem_map_of_mem hr
    obtain ⟨r2, h2, h3⟩ := List.mem_map.1 hm
    rw [← h3]
    exact hb.2 r2 h2
theorem rleR_small (s : ByteArray) (a1 a2 : Int) : small ((rleR s a1 a2).getD []) := by
  unfold rleR
  split
  · rename_i ho
    obtain ⟨h1, h2, h3⟩ := ho
    cases hR : rleV s (s.size + 1) 0 (zeroRows a1.toNat a2.toNat) 0 0 with
    | none => exact ⟨by simp, fun r hr => by simp at hr⟩
    | some rs =>
      refine shape_small (rleV_shape s _ _ _ _ _ rs hR) ⟨?_, fun r hr => ?_⟩
      · unfold zeroRows
        rw [List.length_replicate]
        omega
      · unfold zeroRows at hr
        rw [(List.mem_replicate.1 hr).2, List.length_replicate]
        omega
  · exact ⟨by simp, fun r hr => by simp at hr⟩
theorem heldss_any (A : Option Addr) (n c : Nat) (R : List (List Int)) (e base : Nat) (ok : Nat → Prop) (w : World) (kh : Nat) (hS : Kd.S (Kd.slice 3 (Kd.int .i64)) e w base ok (.slice A n c) (markRows R 1)) (h : laws_heldIntSS.f kh (markRows R 1) 1 = some (1 + (total R : Int))) :
    Calls Try.prog 16 #[.slice A n c, .int .i64 1] w fun e w' => e = .returned (.int .i64 (1 + (total R : Int))) ∧ Drawn0 w w' := by
  obtain ⟨h1, h2, h3⟩ := Kd.S_reads' hS
  subst h1
  exact laws_heldIntSS.calls kh A c (markRows R 1) 1 _ w h3 h2 h
set_option maxHeartbeats 8000000 in
set_option maxRecDepth 100000 in
theorem law_FnExactRleGet (s : ByteArray) (a1 a2 : Int) (w : World) (hs : s.size ≤ 140737488351232) (_h1 : (Lit.int .i64 a1).wf = true) (_h2 : (Lit.int .i64 a2).wf = true) :
    Calls Try.prog 3 #[.string s, .int .i64 a1, .int .i64 a2] w fun e w' => e = .returned (.bool true) ∧ Below w.heap.size w w' := by
  have hsm := rleR_small s a1 a2
  obtain ⟨ke, he⟩ := (Pure.sames_ok _ hsm).rounds
  obtain ⟨kh, hh⟩ := (Pure.helds_ok _ hsm).rounds
  have HC1 : ∀ w, Aside0 (Calls Try.prog 13 #[.string s, .int .i64 a1, .int .i64 a2] w fun e w' => RowsRes w (rleR s a1 a2) e w' ∧ Below w.heap.size w w') := fun w => ⟨rleget_any s a1 a2 w⟩
  have HC2 : ∀ w, Aside0 (Calls Try.prog 12 #[.string s, .int .i64 a1, .int .i64 a2] w fun e w' => RowsRes w (rleR s a1 a2) e w' ∧ Below w.heap.size w w') := fun w => ⟨srleget_any s a1 a2 w⟩
  unfold RowsRes at HC1 HC2
  generalize (rleR s a1 a2).isSome = ok at HC1 HC2
  generalize (rleR s a1 a2).getD [] = R at HC1 HC2 he hh hsm
  have HE := Aside0.mk he
  have HH := Aside0.mk hh
  have HSM := Aside0.mk hsm
  have HB0 := Aside0.mk (Below.refl w.heap.size w)
  have ht9 := total_le R hsm.2
  have ht8 := hsm.1
  have ht7 : 1000 * R.length ≤ 1000 * 1000 := Nat.mul_le_mul_left _ ht8
  have t1 : decide ((1 : Int) + (total R : Int) < 0) = false := decide_eq_false (by omega)
  have t0 : (0 : Int) ≤ (total R : Int) := by omega
  have t9 : (total R : Int) ≤ 1000000 := by omega
  clear he hh hsm ht9 ht8 ht7
  by_cases hz : 1048576 < s.size
  · have s1 : decide (1048576 < (s.size : Int)) = true := decide_eq_true (by omega)
    have s2 : decide (1048576 < s.size) = true := decide_eq_true hz
    clear hz
    go_enter Try.func3, Try.ntmps3
    go_wp2
    go_ret
    exact ⟨rfl, HB0.out⟩
  · have s1 : decide (1048576 < (s.size : Int)) = false := decide_eq_false (by omega)
    have s2 : decide (1048576 < s.size) = false := decide_eq_false hz
    clear hz
    have tok1 : True := trivial
    have tok2 : True := trivial
    have tok3 : True := trivial
    have tok4 : True := trivial
    go_enter Try.func3, Try.ntmps3
    go_wp2_with (first
      | (go_at_call 12; (with_reducible refine (HC2 _).out.mono ?_); rintro e w1 ⟨⟨v1, rfl, hs1⟩, hb1⟩; obtain ⟨A1, c1, rfl⟩ := Kd.S_slice hs1; have HS1 := Aside0.mk hs1; have HB1 := Aside0.mk hb1; clear hs1 hb1)
      | (go_at_call 13; have _t := tok1; (with_reducible refine (HC1 _).out.mono ?_); rintro e w2 ⟨⟨v2, rfl, hs2⟩, hb2⟩; obtain ⟨A2, c2, rfl⟩ := Kd.S_slice hs2; have HS2 := Aside0.mk hs2; have HB12 := Aside0.mk hb2; have HW1 := Aside0.mk (Kd.S_old HS1.out hb2); clear hs2 hb2 tok1)
      | (go_at_call 14; have _t := tok2; (with_reducible refine (laws_eqIntSS.calls ke _ _ R _ _ R true _ (Kd.S_reads' HS2.out).2.2 (Kd.S_reads' HS2.out).2.1 (Kd.S_reads' HW1.out).2.2 (Kd.S_reads' HW1.out).2.1 HE.out).mono ?_); rintro e w' ⟨rfl, ⟨n1, rfl⟩⟩; clear tok2)
      | (go_at_call 15; (with_reducible refine (markss_any _ R 1 (fun k => w1.heap.size ≤ k) w1 _ HSM.out ⟨by omega, by omega⟩ ?m1 ?m2 ?m3).mono ?_); (case m1 => exact pw_below_drewN HB12.out _); (case m2 => exact (fun k hk => Nat.le_trans HB12.out.size hk)); (case m3 => exact (Kd.S_mono (Kd.S_bound (Kd.S_drewN HS2.out _)) (fun k hk => hk.2.1))); rintro e w3 ⟨rfl, hs3, hb3, hk3⟩; have HS3 := Aside0.mk hs3; have HB3 := Aside0.mk hb3; have HW3 := Aside0.mk (Kd.S_step (Kd.S_drewN HW1.out n1) (fun k hk hlt => hk3.2 k hlt (fun h => Nat.lt_irrefl _ (Nat.lt_of_lt_of_le hk.2 h)))); clear hs3 hb3 hk3)
      | (go_at_call 16; have _t := tok3; (with_reducible refine (heldss_any _ _ _ R _ _ _ _ kh HS3.out HH.out).mono ?_); rintro e w' ⟨rfl, ⟨n2, rfl⟩⟩; clear tok3)
      | (go_at_call 13; (with_reducible refine (HC1 _).out.mono ?_); rintro e w4 ⟨⟨v4, rfl, hs4⟩, hb4⟩; obtain ⟨A4, c4, rfl⟩ := Kd.S_slice hs4; have HS4 := Aside0.mk hs4; have HG4 := Aside0.mk (Kd.S_below (Kd.S_drewN HS3.out n2) hb4); have HW4 := Aside0.mk (Kd.S_below (Kd.S_drewN HW3.out n2) hb4); have HB4 := Aside0.mk (below_step HB1.out (below_step (pw_below_drewN HB3.out n2) hb4)); clear hs4 hb4)
      | (go_at_call 14; (with_reducible refine (laws_eqIntSS.calls ke _ _ R _ _ R true _ (Kd.S_reads' HS4.out).2.2 (Kd.S_reads' HS4.out).2.1 (Kd.S_reads' HW4.out).2.2 (Kd.S_reads' HW4.out).2.1 HE.out).mono ?_); rintro e w' ⟨rfl, ⟨n3, rfl⟩⟩)
      | (go_at_call 16; (with_reducible refine (heldss_any _ _ _ R _ _ _ _ kh (Kd.S_drewN HG4.out n3) HH.out).mono ?_); rintro e w' ⟨rfl, ⟨n4, rfl⟩⟩))
    go_ret
    exact ⟨rfl, pw_below_drewN HB4.out _⟩
end Go.Proofs.Ytgdbinifnhfcjaa.P
