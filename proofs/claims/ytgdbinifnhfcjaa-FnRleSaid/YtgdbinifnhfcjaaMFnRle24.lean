/- Texts of one law put together (wip/merge2.py). -/
import Derived.Test.YtgdbinifnhfcjaaMFnRle12
import Derived.Test.YtgdbinifnhfcjaaMFnRle13
import Derived.Test.YtgdbinifnhfcjaaMFnRle23
/- Rows read anew, wider and higher by one: the same rows stand in them. And: rows stand beside themselves as equal. -/
set_option linter.unusedVariables false
set_option linter.unusedSimpArgs false
namespace Go.Proofs.Ytgdbinifnhfcjaa.Pure
open Go.RowKit Go.Proofs.Ytgdbinifnhfcjaa.P Go.Proofs.Ytgdbinifnhfcjaa.Lib Go.Proofs.YtgdbinifnhfcjaaW.PrintWords Go.Proofs.YtgdbinifnhfcjaaW.PrintLast Go.Proofs.YtgdbinifnhfcjaaW.PrintMore
theorem wi_run (l : List Int) (hl : l.length ≤ 1048576) (d : Nat) : ∀ (i : Nat), i + d = l.length → Ok (fun n => laws_wiInts.l0 n l l (i : Int)) (· = true) := by
  induction d with
  | zero =>
    intro i hi
    refine Ok.succ ?_
    simp only [laws_wiInts.l0]
    exact Ok.no (by omega) (Ok.now _ rfl)
  | succ d ih =>
    intro i hi
    refine Ok.succ ?_
    simp only [laws_wiInts.l0]
    rw [inc i (by omega)]
    exact Ok.yes (by omega) (Ok.yes (by omega) (Ok.yes (by omega) (Ok.yes (by simp) (ih (i + 1) (by omega)))))
theorem wi_ok (l : List Int) (hl : l.length ≤ 1048576) : Ok (fun n => laws_wiInts.f n l l) (· = true) := by
  unfold laws_wiInts.f
  exact Ok.yes rfl (wi_run l hl l.length 0 (by omega))
theorem wis_run (l : List (List Int)) (hl : small l) (d : Nat) : ∀ (i : Nat), i + d = l.length → Ok (fun n => laws_wiRows.l0 n l l (i : Int)) (· = true) := by
  obtain ⟨h1, h2⟩ := hl
  induction d with
  | zero =>
    intro i hi
    refine Ok.succ ?_
    simp only [laws_wiRows.l0]
    exact Ok.no (by omega) (Ok.now _ rfl)
  | succ d ih =>
    intro i hi
    refine Ok.succ ?_
    simp only [laws_wiRows.l0]
    rw [inc i (by omega)]
    have hr := h2 _ (List.getElem_mem (show i < l.length by omega))
    rw [← rdL_at l i (by omega)] at hr
    refine Ok.yes (by omega) (Ok.yes (by omega) (Ok.yes (by omega) ((wi_ok _ (by omega)).bind fun x hx => ?_)))
    subst hx
    exact Ok.yes rfl (ih (i + 1) (by omega))
theorem wis_ok (l : List (List Int)) (hl : small l) : Ok (fun n => laws_wiRows.f n l l) (· = true) := by
  unfold laws_wiRows.f
  exact Ok.yes rfl (wis_run l hl l.length 0 (by omega))
end Go.Proofs.Ytgdbinifnhfcjaa.Pure
namespace Go.Proofs.Ytgdbinifnhfcjaa.P
open Go.RowKit Go.Proofs.YtgdbinifnhfcjaaW.PrintWords Go.Proofs.YtgdbinifnhfcjaaW.PrintLast Go.Proofs.YtgdbinifnhfcjaaW.PrintMore
def big (H W : Nat) (rows more : List (List Int)) : Prop := rows.length = H ∧ more.length = H + 1 ∧ ∀ y, y < H → (rows.getD y []).length = W ∧ (more.getD y []).length = W + 1 ∧ (more.getD y []).take W = rows.getD y []
theorem big_can {H W : Nat} {rows more : List (List Int)} (h : big H W rows more) (x y : Nat) (hc : canPut rows x y = true) : canPut more x y = true := by
  obtain ⟨h1, h2, h3⟩ := h
  unfold canPut at hc ⊢
  rw [Bool.and_eq_true, decide_eq_true_eq, decide_eq_true_eq] at hc ⊢
  obtain ⟨h4, h5, h6⟩ := h3 y (by omega)
  omega
theorem getD_set_row (l : List (List Int)) (y z : Nat) (v : List Int) (hy : y < l.length) : (l.set y v).getD z [] = if y = z then v else l.getD z [] := by
  rw [List.getD_eq_getElem?_getD, List.getD_eq_getElem?_getD, List.getElem?_set]
  split
  · rename_i h
    subst h
    simp [hy]
  · rfl
theorem big_put {H W : Nat} {rows more : List (List Int)} (h : big H W rows more) (x y : Nat) (b : Int) (hc : canPut rows x y = true) : big H W (putR rows x y b) (putR more x y b) := by
  obtain ⟨h1, h2, h3⟩ := h
  unfold canPut at hc
  rw [Bool.and_eq_true, decide_eq_true_eq, decide_eq_true_eq] at hc
  unfold putR
  refine ⟨by rw [List.length_set]; exact h1, by rw [List.length_set]; exact h2, fun z hz => ?_⟩
  rw [getD_set_row rows y z _ hc.1, getD_set_row more y z _ (by omega)]
  by_cases e : y = z
  · subst e
    rw [if_pos rfl, if_pos rfl, List.length_set, List.length_set]
    obtain ⟨h4, h5, h6⟩ := h3 y hz
    exact ⟨h4, h5, by rw [List.take_set, h6]⟩
  · rw [if_neg e, if_neg e]
    exact h3 z hz
theorem big_putL {H W : Nat} : ∀ (l : List Int) (rows more : List (List Int)) (x y : Nat) (q : List (List Int) × Nat), big H W rows more → putL l rows x y = some q → ∃ m, putL l more x y = some (m, q.2) ∧ big H W q.1 m
  | [], rows, more, x, y, q, hb, h => by
    simp only [putL, Option.some.injEq] at h
    subst h
    exact ⟨more, rfl, hb⟩
  | b :: l, rows, more, x, y, q, hb, h => by
    simp only [putL] at h ⊢
    split at h
    · rename_i hc
      rw [if_pos (big_can hb x y hc)]
      exact big_putL l _ _ _ y q (big_put hb x y b hc) h
    · cases h
theorem big_rleV {H W : Nat} (s : ByteArray) : ∀ (d p : Nat) (rows more : List (List Int)) (x y : Nat) (rs : List (List Int)), big H W rows more → rleV s d p rows x y = some rs → ∃ m, rleV s d p more x y = some m ∧ big H W rs m
  | 0, p, rows, more, x, y, rs, hb, h => by cases h
  | d + 1, p, rows, more, x, y, rs, hb, h => by
    simp only [rleV] at h ⊢
    split at h
    · rename_i c1
      rw [if_pos c1]
      split at h
      · rename_i c2
        rw [if_pos c2]
        obtain ⟨q, h1, h2⟩ := Option.bind_eq_some_iff.mp h
        obtain ⟨m, hm, hb2⟩ := big_putL _ _ _ _ _ q hb h1
        rw [hm, Option.bind_some]
        exact big_rleV s d _ _ _ _ _ rs hb2 h2
      · rename_i c2
        rw [if_neg c2]
        split at h
        · rename_i c3
          rw [if_pos c3]
          exact big_rleV s d _ _ _ _ _ rs hb h
        · rename_i c3
          rw [if_neg c3]
          split at h
          · rename_i c4
            rw [if_pos c4]
            split at h
            · cases h
            · rename_i c5
              rw [if_neg c5]
              rw [← Option.some.inj h]
              exact ⟨more, rfl, hb⟩
          · rename_i c4
            rw [if_neg c4]
            split at h
            · rename_i c5
              rw [if_pos c5]
              split at h
              · cases h
              · rename_i c6
                rw [if_neg c6]
                exact big_rleV s d _ _ _ _ _ rs hb h
            · rename_i c5
              rw [if_neg c5]
              split at h
              · cases h
              · rename_i c6
                rw [if_neg c6]
                obtain ⟨q, h1, h2⟩ := Option.bind_eq_some_iff.mp h
                obtain ⟨m, hm, hb2⟩ := big_putL _ _ _ _ _ q hb h1
                rw [hm, Option.bind_some]
                exact big_rleV s d _ _ _ _ _ rs hb2 h2
    · cases h
theorem big_zero (H W : Nat) : big H W (zeroRows W H) (zeroRows (W + 1) (H + 1)) := by
  unfold zeroRows
  refine ⟨List.length_replicate, List.length_replicate, fun y hy => ?_⟩
  rw [List.getD_eq_getElem?_getD, List.getD_eq_getElem?_getD, List.getElem?_replicate, List.getElem?_replicate, if_pos hy, if_pos (by omega), Option.getD_some, Option.getD_some]
  exact ⟨List.length_replicate, List.length_replicate, by rw [List.take_replicate, Nat.min_eq_left (by omega)]⟩
theorem rleR_none (s : ByteArray) (a1 a2 : Int) (h : ¬ rleOk s a1 a2) : rleR s a1 a2 = none := by
  unfold rleR
  rw [if_neg h]
/-- What is read: so many rows, so wide; and wider and higher by one, as far as there is room. -/
theorem rleR_some (s : ByteArray) (a1 a2 : Int) (R : List (List Int)) (h : rleR s a1 a2 = some R) : ∃ W H : Nat, a1 = (W : Int) ∧ a2 = (H : Int) ∧ W ≤ 100 ∧ H ≤ 100 ∧
    ((W < 100 ∧ H < 100) → ∃ M, rleR s ((W + 1 : Nat) : Int) ((H + 1 : Nat) : Int) = some M ∧ big H W R M) ∧ (¬ (W < 100 ∧ H < 100) → rleR s ((W + 1 : Nat) : Int) ((H + 1 : Nat) : Int) = none) ∧ R.length = H ∧ ∀ y, y < H → (R.getD y []).length = W := by
  by_cases ho : rleOk s a1 a2
  · unfold rleR at h
    rw [if_pos ho] at h
    obtain ⟨⟨h1, h2⟩, ⟨h3, h4⟩, h5⟩ := ho
    obtain ⟨W, rfl⟩ := Int.eq_ofNat_of_zero_le h1
    obtain ⟨H, rfl⟩ := Int.eq_ofNat_of_zero_le h3
    rw [Int.toNat_natCast, Int.toNat_natCast] at h
    obtain ⟨M, hM, hb⟩ := big_rleV s _ _ _ _ _ _ R (big_zero H W) h
    refine ⟨W, H, rfl, rfl, by omega, by omega, fun hlt => ⟨M, ?_, hb⟩, fun hge => rleR_none s _ _ (fun hk => hge ?_), hb.1, fun y hy => (hb.2.2 y hy).1⟩
    · unfold rleR
      rw [if_pos ⟨by omega, by omega, h5⟩, Int.toNat_natCast, Int.toNat_natCast]
      exact hM
    · obtain ⟨h6, h7, h8⟩ := hk
      omega
  · rw [rleR_none s a1 a2 ho] at h
    cases h
end Go.Proofs.Ytgdbinifnhfcjaa.P
namespace Go.Proofs.Ytgdbinifnhfcjaa.P
open Go.RowKit Go.Proofs.YtgdbinifnhfcjaaW.PrintWords Go.Proofs.YtgdbinifnhfcjaaW.PrintLast Go.Proofs.YtgdbinifnhfcjaaW.PrintMore
open Go.Proofs.Ytgdbinifnhfcjaa.Pure (small)
theorem wplus (n : Nat) (h : n ≤ 1000) : wrap64 ((n : Int) + 1) = ((n + 1 : Nat) : Int) := Pure.inc n (by omega)
theorem rd_row (R : List (List Int)) (j : Nat) : rd_L1 R (j : Int) = R.getD j [] := by
  unfold rd_L1
  rw [Int.toNat_natCast]
theorem wis_any (A1 : Option Addr) (n1 c1 : Nat) (A2 : Option Addr) (n2 c2 : Nat) (R : List (List Int)) (e1 b1 e2 b2 : Nat) (ok1 ok2 : Nat → Prop) (w : World) (hR : small R) (hS1 : Kd.S (Kd.slice 3 (Kd.int .i64)) e1 w b1 ok1 (.slice A1 n1 c1) R) (hS2 : Kd.S (Kd.slice 3 (Kd.int .i64)) e2 w b2 ok2 (.slice A2 n2 c2) R) :
    Calls Try.prog 18 #[.slice A1 n1 c1, .slice A2 n2 c2] w fun e w' => e = .returned (.bool true) ∧ Drawn0 w w' := by
  obtain ⟨k, hk⟩ := (Pure.wis_ok R hR).rounds
  obtain ⟨h1, h2, h3⟩ := Kd.S_reads' hS1
  obtain ⟨h4, h5, h6⟩ := Kd.S_reads' hS2
  subst h1
  subst h4
  exact laws_wiRows.calls k A1 c1 R A2 c2 R true w h3 h2 h6 h5 hk
theorem wi_any (A1 : Option Addr) (c1 : Nat) (A2 : Option Addr) (c2 : Nat) (r : List Int) (n1 n2 : Nat) (e1 : n1 = r.length) (e2 : n2 = r.length) (w : World) (hl : r.length ≤ 1000) (h1 : (Kd.int .i64).C w A1 r.length r) (h2 : r.length ≤ c1) (h3 : (Kd.int .i64).C w A2 r.length r) (h4 : r.length ≤ c2) :
    Calls Try.prog 19 #[.slice A1 n1 c1, .slice A2 n2 c2] w fun e w' => e = .returned (.bool true) ∧ Drawn0 w w' := by
  obtain ⟨k, hk⟩ := (Pure.wi_ok r (by omega)).rounds
  subst e1
  subst e2
  exact laws_wiInts.calls k A1 c1 r A2 c2 r true w h1 h2 h3 h4 hk
theorem S_row {e base : Nat} {w : World} {ok : Nat → Prop} {A : Option Addr} {n c : Nat} {R : List (List Int)} (hS : Kd.S (Kd.slice 3 (Kd.int .i64)) e w base ok (.slice A n c) R) (j : Nat) (hj : j < R.length) :
    ∃ ad A0 c0, A = some ad ∧ w.cell? (ad.add j) = some (.slice A0 (R.getD j []).length c0) ∧ (R.getD j []).length ≤ c0 ∧ (Kd.int .i64).C w A0 (R.getD j []).length (R.getD j []) := by
  obtain ⟨h1, _, h3⟩ := Kd.S_reads' hS
  obtain ⟨ad, A0, c0, ea, hx, hl, hC⟩ := at_L1 h3 (j : Int) (by omega) (by omega)
  rw [rd_row] at hx hl hC
  rw [Int.toNat_natCast] at hx
  exact ⟨ad, A0, c0, ea, hx, hl, hC⟩
set_option maxHeartbeats 8000000 in
set_option maxRecDepth 100000 in
theorem law_FnRleGet (a : Option Addr) (len cap : Nat) (z : List Int) (w : World) (w0 : (a = none ∧ len = 0 ∧ cap = 0 ∧ z = []) ∨ ∃ x, a = some x ∧ len ≤ cap ∧ cap ≤ maxLen ∧ z.length = cap ∧ (∀ i, i < z.length → w.cell? (x.add i) = some (.int .u8 (z.getD i 0))) ∧ ∀ n ∈ z, (Lit.int .u8 n).wf = true) (y0 : len * 1 ≤ 140737488351232) :
    Calls Try.prog 4 #[.slice a len cap] w fun e w' => e = .returned (.bool true) ∧ Below w.heap.size w w' := by
  obtain ⟨l, rfl, hr0, hm0, hw0, hc0⟩ := ReadsInt.ofRowC w0
  have HRC := Aside0.mk (Kd.C_of_reads (d := (0 : Int)) (h1 := fun _ => rfl) hr0)
  have HCC := Aside0.mk hc0
  obtain ⟨⟨s, a1, a2⟩, hev, -⟩ := Pure.drawrleget_ok l (Pure.byte_wf hw0)
  obtain ⟨kd, hd⟩ := hev.rounds
  have HD := Aside0.mk hd
  have HSM := Aside0.mk (rleR_small s a1 a2)
  have HB0 := Aside0.mk (Below.refl w.heap.size w)
  clear hr0 hw0 hd hev w0 hc0
  by_cases hz : 1048576 < l.length
  · have s1 : decide (1048576 < (l.length : Int)) = true := decide_eq_true (by omega)
    have s2 : decide (1048576 < l.length) = true := decide_eq_true hz
    clear hz
    go_enter Try.func4, Try.ntmps4
    go_wp2
    go_ret
    exact ⟨rfl, HB0.out⟩
  have s1 : decide (1048576 < (l.length : Int)) = false := decide_eq_false (by omega)
  have s2 : decide (1048576 < l.length) = false := decide_eq_false hz
  clear hz y0 hm0
  have HC1 : ∀ w, Aside0 (Calls Try.prog 13 #[.string s, .int .i64 a1, .int .i64 a2] w fun e w' => RowsRes w (rleR s a1 a2) e w' ∧ Below w.heap.size w w') := fun w => ⟨rleget_any s a1 a2 w⟩
  have HC2 : ∀ w, Aside0 (Calls Try.prog 12 #[.string s, .int .i64 a1, .int .i64 a2] w fun e w' => RowsRes w (rleR s a1 a2) e w' ∧ Below w.heap.size w w') := fun w => ⟨srleget_any s a1 a2 w⟩
  unfold RowsRes at HC1 HC2
  cases hR : rleR s a1 a2 with
  | none =>
    rw [hR] at HC1 HC2 HSM
    simp only [Option.getD_none, Option.isSome_none] at HC1 HC2 HSM
    have h9 : ((([] : List (List Int)).length : Int) == 0) = true := rfl
    have h8 : (([] : List (List Int)).length == 0) = true := rfl
    generalize ([] : List (List Int)) = R at HC1 HC2 HSM h9 h8
    clear hR
    have tok1 : True := trivial
    go_enter Try.func4, Try.ntmps4
    go_wp2_with (first
      | (go_at_call 17; (with_reducible refine (spec_DrawRleGet.calls kd _ _ l s a1 a2 _ ?s1 ?s2 HD.out).mono ?_); (case s1 => repeat (first | exact HRC.out | (with_reducible refine Kd.C_alloc ?_ _) | (with_reducible refine Kd.C_drewN ?_ _) | (with_reducible refine Kd.C_drew ?_))); (case s2 => exact HCC.out); rintro e w1 ⟨rfl, hb1⟩; have HB1 := Aside0.mk (below_step HB0.out hb1); clear hb1)
      | (go_at_call 13; (with_reducible refine (HC1 _).out.mono ?_); rintro e w2 ⟨⟨v2, rfl, hs2⟩, hb2⟩; obtain ⟨A2, c2, rfl⟩ := Kd.S_slice hs2; have HS2 := Aside0.mk hs2; have HB2 := Aside0.mk (below_step HB1.out hb2); clear hs2 hb2)
      | (go_at_call 12; (with_reducible refine (HC2 _).out.mono ?_); rintro e w3 ⟨⟨v3, rfl, hs3⟩, hb3⟩; obtain ⟨A3, c3, rfl⟩ := Kd.S_slice hs3; have HS3 := Aside0.mk hs3; have HW3 := Aside0.mk (Kd.S_below HS2.out hb3); have HB3 := Aside0.mk (below_step HB2.out hb3); clear hs3 hb3)
      | (go_at_call 18; (with_reducible refine (wis_any _ _ _ _ _ _ _ _ _ _ _ _ _ _ HSM.out HW3.out HS3.out).mono ?_); rintro e w' ⟨rfl, ⟨n1, rfl⟩⟩))
    go_ret
    exact ⟨rfl, pw_below_drewN HB3.out _⟩
  | some R =>
    obtain ⟨W, H, rfl, rfl, hW, hH, hmore, hno, hlen, hwide⟩ := rleR_some s a1 a2 R hR
    rw [hR] at HC1 HC2 HSM
    simp only [Option.getD_some, Option.isSome_some] at HC1 HC2 HSM
    clear hR
    have HWH := Aside0.mk (show W ≤ 100 ∧ H ≤ 100 from ⟨hW, hH⟩)
    have HLEN := Aside0.mk hlen
    have HWIDE := Aside0.mk hwide
    have HC3 : ∀ w, Aside0 (Calls Try.prog 13 #[.string s, .int .i64 (wrap64 ((W : Int) + 1)), .int .i64 (wrap64 ((H : Int) + 1))] w fun e w' => RowsRes w (rleR s ((W + 1 : Nat) : Int) ((H + 1 : Nat) : Int)) e w' ∧ Below w.heap.size w w') := fun w => ⟨by rw [wplus W (by omega), wplus H (by omega)]; exact rleget_any s _ _ w⟩
    unfold RowsRes at HC3
    have h9 : ((R.length : Int) == (H : Int)) = true := beq_iff_eq.2 (by omega)
    have h8 : (R.length == H) = true := beq_iff_eq.2 hlen
    by_cases hlt : W < 100 ∧ H < 100
    · obtain ⟨M, hM, hbig⟩ := hmore hlt
      rw [hM] at HC3
      simp only [Option.getD_some, Option.isSome_some] at HC3
      have HBIG := Aside0.mk hbig
      clear hmore hno hM hbig hlen hwide hW hH hlt
      have tok1 : True := trivial
      have tok2 : True := trivial
      go_enter Try.func4, Try.ntmps4
      go_wp2_with (first
        | (go_at_call 17; (with_reducible refine (spec_DrawRleGet.calls kd _ _ l s _ _ _ ?s1 ?s2 HD.out).mono ?_); (case s1 => repeat (first | exact HRC.out | (with_reducible refine Kd.C_alloc ?_ _) | (with_reducible refine Kd.C_drewN ?_ _) | (with_reducible refine Kd.C_drew ?_))); (case s2 => exact HCC.out); rintro e w1 ⟨rfl, hb1⟩; have HB1 := Aside0.mk (below_step HB0.out hb1); clear hb1)
        | (go_at_call 13; have _t := tok1; (with_reducible refine (HC1 _).out.mono ?_); rintro e w2 ⟨⟨v2, rfl, hs2⟩, hb2⟩; obtain ⟨A2, c2, rfl⟩ := Kd.S_slice hs2; have HS2 := Aside0.mk hs2; have HB2 := Aside0.mk (below_step HB1.out hb2); clear hs2 hb2 tok1)
        | (go_at_call 12; (with_reducible refine (HC2 _).out.mono ?_); rintro e w3 ⟨⟨v3, rfl, hs3⟩, hb3⟩; obtain ⟨A3, c3, rfl⟩ := Kd.S_slice hs3; have HS3 := Aside0.mk hs3; have HW3 := Aside0.mk (Kd.S_below HS2.out hb3); have HB3 := Aside0.mk (below_step HB2.out hb3); clear hs3 hb3)
        | (go_at_call 18; (with_reducible refine (wis_any _ _ _ _ _ _ _ _ _ _ _ _ _ _ HSM.out HW3.out HS3.out).mono ?_); rintro e w' ⟨rfl, ⟨n1, rfl⟩⟩)
        | (go_at_call 13; (with_reducible refine (HC3 _).out.mono ?_); rintro e w4 ⟨⟨v4, rfl, hs4⟩, hb4⟩; obtain ⟨A4, c4, rfl⟩ := Kd.S_slice hs4; have HS4 := Aside0.mk hs4; have HG4 := Aside0.mk (Kd.S_below (Kd.S_drewN HW3.out n1) hb4); have HB4 := Aside0.mk (below_step (pw_below_drewN HB3.out n1) hb4); clear hs4 hb4))
      go_loopg [12] H (fun kq v12 wr => ∃ j : Nat, v12 = .int .i64 (j : Int) ∧ Aside0 (j + kq = H) ∧ Drawn0 w4 wr)
      case atStart => exact ⟨0, rfl, ⟨by omega⟩, by repeat (first | exact Drawn0.refl _ | apply Drawn0.step)⟩
      case round =>
        obtain ⟨j, rfl, hJ, ⟨n, rfl⟩⟩ := hrel
        by_cases hj : j < H
        · obtain ⟨hb1, hb2, hb3⟩ := HBIG.out
          obtain ⟨hb4, hb5, hb6⟩ := hb3 j hj
          obtain ⟨q2, A5, c5, e5, x5, l5, k5⟩ := S_row HG4.out j (by omega)
          obtain ⟨q4, A6, c6, e6, x6, l6, k6⟩ := S_row HS4.out j (by omega)
          cases e5
          cases e6
          have k6' := Kd.C_take (m := W) k6 (by omega)
          rw [hb6] at k6'
          rw [hb4] at x5
          rw [hb5] at x6 l6
          have x5' := x5
          have x6' := x6
          rw [← Int.toNat_natCast j] at x5' x6'
          obtain ⟨i0, hi0, _, _, _⟩ := info_parts info3
          have hcut := cut_to (P := Try.prog) 31 3 .i64 Try.underlying31 hi0 A6 (W + 1) c6 (W : Int) (by omega) (by omega) l6
          rw [Int.toNat_natCast] at hcut
          have t1 : decide ((j : Int) < (H : Int)) = true := decide_eq_true (by omega)
          have t2 : decide (j < H) = true := decide_eq_true hj
          have f1 : (0 ≤ (j : Int)) = True := eq_true (by omega)
          have f2 : ((j : Int) < (R.length : Int)) = True := eq_true (by omega)
          have f3 : (j < R.length) = True := eq_true (by omega)
          have f4 : ((j : Int) < (M.length : Int)) = True := eq_true (by omega)
          have f5 : (j < M.length) = True := eq_true (by omega)
          have j9 : j ≤ 1000 := by have := HWH.out.2; omega
          have hrl : (R.getD j []).length ≤ 1000 := by have := HWH.out.1; omega
          have hc6 : (R.getD j []).length ≤ c6 := by omega
          generalize hrow : R.getD j [] = row at hb4 l5 k5 k6' hrl hc6
          have CW := Aside0.mk (fun w5 => wi_any A6 c6 A5 c5 row W W hb4.symm hb4.symm w5 hrl)
          have CA := Aside0.mk k6'
          have CB := Aside0.mk k5
          have L5 := Aside0.mk l5
          have L6 := Aside0.mk hc6
          have HJ1 := Aside0.mk hj
          clear hb1 hb2 hb3 hb4 hb5 hb6 hrow hrl hc6 l5 k5 k6' k6 l6 hi0 hj HBIG
          have J9 := Aside0.mk j9
          clear j9
          go_wp2_with (first | (go_at_call 19; (with_reducible refine (CW.out _ ?sa L6.out ?sb L5.out).mono ?_); (case sa => repeat (first | exact CA.out | (with_reducible refine Kd.C_alloc ?_ _) | (with_reducible refine Kd.C_drewN ?_ _) | (with_reducible refine Kd.C_drew ?_))); (case sb => repeat (first | exact CB.out | (with_reducible refine Kd.C_alloc ?_ _) | (with_reducible refine Kd.C_drewN ?_ _) | (with_reducible refine Kd.C_drew ?_))); rintro e w' ⟨rfl, ⟨n5, rfl⟩⟩))
          repeat (go_quiet (first | (go_at_call 19; (with_reducible refine (CW.out _ ?sa L6.out ?sb L5.out).mono ?_); (case sa => repeat (first | exact CA.out | (with_reducible refine Kd.C_alloc ?_ _) | (with_reducible refine Kd.C_drewN ?_ _) | (with_reducible refine Kd.C_drew ?_))); (case sb => repeat (first | exact CB.out | (with_reducible refine Kd.C_alloc ?_ _) | (with_reducible refine Kd.C_drewN ?_ _) | (with_reducible refine Kd.C_drew ?_))); rintro e w' ⟨rfl, ⟨n5, rfl⟩⟩; (try first | exact ⟨rfl, _, World.drewN_drewN _ _ _⟩ | exact ⟨rfl, _, Eq.trans (World.drewN_drewN _ _ _) (congrArg (World.drewN _) (Nat.add_assoc _ _ _))⟩))); try go_wp2)
          go_roundg (gk - 1)
          case measure => have := hJ.out; have := HJ1.out; omega
          case rel => exact ⟨j + 1, by rw [← wplus j J9.out], ⟨by have := hJ.out; have := HJ1.out; omega⟩, by repeat (first | exact Drawn0.refl _ | apply Drawn0.step)⟩
        · have t1 : decide ((j : Int) < (H : Int)) = false := decide_eq_false (by omega)
          have t2 : decide (j < H) = false := decide_eq_false hj
          clear hj
          go_wp2
          go_ret
          exact ⟨rfl, pw_below_drewN HB4.out _⟩
    · rw [hno hlt] at HC3
      simp only [Option.getD_none, Option.isSome_none] at HC3
      generalize ([] : List (List Int)) = M at HC3
      have HLT := Aside0.mk hlt
      clear hmore hno hlen hwide hW hH hlt
      have tok1 : True := trivial
      have tok2 : True := trivial
      go_enter Try.func4, Try.ntmps4
      go_wp2_with (first
        | (go_at_call 17; (with_reducible refine (spec_DrawRleGet.calls kd _ _ l s _ _ _ ?s1 ?s2 HD.out).mono ?_); (case s1 => repeat (first | exact HRC.out | (with_reducible refine Kd.C_alloc ?_ _) | (with_reducible refine Kd.C_drewN ?_ _) | (with_reducible refine Kd.C_drew ?_))); (case s2 => exact HCC.out); rintro e w1 ⟨rfl, hb1⟩; have HB1 := Aside0.mk (below_step HB0.out hb1); clear hb1)
        | (go_at_call 13; have _t := tok1; (with_reducible refine (HC1 _).out.mono ?_); rintro e w2 ⟨⟨v2, rfl, hs2⟩, hb2⟩; obtain ⟨A2, c2, rfl⟩ := Kd.S_slice hs2; have HS2 := Aside0.mk hs2; have HB2 := Aside0.mk (below_step HB1.out hb2); clear hs2 hb2 tok1)
        | (go_at_call 12; (with_reducible refine (HC2 _).out.mono ?_); rintro e w3 ⟨⟨v3, rfl, hs3⟩, hb3⟩; obtain ⟨A3, c3, rfl⟩ := Kd.S_slice hs3; have HS3 := Aside0.mk hs3; have HW3 := Aside0.mk (Kd.S_below HS2.out hb3); have HB3 := Aside0.mk (below_step HB2.out hb3); clear hs3 hb3)
        | (go_at_call 18; (with_reducible refine (wis_any _ _ _ _ _ _ _ _ _ _ _ _ _ _ HSM.out HW3.out HS3.out).mono ?_); rintro e w' ⟨rfl, ⟨n1, rfl⟩⟩)
        | (go_at_call 13; (with_reducible refine (HC3 _).out.mono ?_); rintro e w4 ⟨⟨v4, rfl, hs4⟩, hb4⟩; obtain ⟨A4, c4, rfl⟩ := Kd.S_slice hs4; have HS4 := Aside0.mk hs4; have HG4 := Aside0.mk (Kd.S_below (Kd.S_drewN HW3.out n1) hb4); have HB4 := Aside0.mk (below_step (pw_below_drewN HB3.out n1) hb4); clear hs4 hb4))
      go_loopg [12] H (fun kq v12 wr => ∃ j : Nat, v12 = .int .i64 (j : Int) ∧ Aside0 (j + kq = H) ∧ Drawn0 w4 wr)
      case atStart => exact ⟨0, rfl, ⟨by omega⟩, by repeat (first | exact Drawn0.refl _ | apply Drawn0.step)⟩
      case round =>
        obtain ⟨j, rfl, hJ, ⟨n, rfl⟩⟩ := hrel
        by_cases hj : j < H
        · have hb4 := HWIDE.out j hj
          have hjR : j < R.length := by have := HLEN.out; omega
          obtain ⟨q2, A5, c5, e5, x5, l5, k5⟩ := S_row HG4.out j hjR
          cases e5
          rw [hb4] at x5
          have x5' := x5
          rw [← Int.toNat_natCast j] at x5'
          have t1 : decide ((j : Int) < (H : Int)) = true := decide_eq_true (by omega)
          have t2 : decide (j < H) = true := decide_eq_true hj
          have f1 : (0 ≤ (j : Int)) = True := eq_true (by omega)
          have f2 : ((j : Int) < (R.length : Int)) = True := eq_true (by omega)
          have f3 : (j < R.length) = True := eq_true (by omega)
          have j9 : j ≤ 1000 := by have := HWH.out.2; omega
          have HJ1 := Aside0.mk hj
          have J9 := Aside0.mk j9
          clear hb4 hjR l5 k5 hj j9
          go_wp2
          repeat (go_quiet (fail); try go_wp2)
          go_roundg (gk - 1)
          case measure => have := hJ.out; have := HJ1.out; omega
          case rel => exact ⟨j + 1, by rw [← wplus j J9.out], ⟨by have := hJ.out; have := HJ1.out; omega⟩, by repeat (first | exact Drawn0.refl _ | apply Drawn0.step)⟩
        · have t1 : decide ((j : Int) < (H : Int)) = false := decide_eq_false (by omega)
          have t2 : decide (j < H) = false := decide_eq_false hj
          clear hj
          by_cases hw9 : 100 ≤ W
          · have g1 : decide ((100 : Int) ≤ (W : Int)) = true := decide_eq_true (by omega)
            have g2 : decide (100 ≤ W) = true := decide_eq_true hw9
            clear hw9
            go_wp2
            repeat (go_quiet (fail); try go_wp2)
            go_ret
            exact ⟨rfl, pw_below_drewN HB4.out _⟩
          · have g1 : decide ((100 : Int) ≤ (W : Int)) = false := decide_eq_false (by omega)
            have g2 : decide (100 ≤ W) = false := decide_eq_false hw9
            have g3 : decide ((100 : Int) ≤ (H : Int)) = true := decide_eq_true (by have := HLT.out; omega)
            have g4 : decide (100 ≤ H) = true := decide_eq_true (by have := HLT.out; omega)
            clear hw9
            go_wp2
            repeat (go_quiet (fail); try go_wp2)
            go_ret
            exact ⟨rfl, pw_below_drewN HB4.out _⟩
end Go.Proofs.Ytgdbinifnhfcjaa.P
