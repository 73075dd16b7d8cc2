/- Texts of one law put together (wip/merge2.py). -/
import Derived.Test.YtgdbinifnhfcjaaMFnRle29
/- spec.DrawRlePut where nothing is appended: rows that share nothing. -/
set_option linter.unusedVariables false
set_option linter.unusedSimpArgs false
namespace Go.Proofs.Ytgdbinifnhfcjaa.P
open Go.RowKit Go.Proofs.YtgdbinifnhfcjaaW.PrintWords Go.Proofs.YtgdbinifnhfcjaaW.PrintLast Go.Proofs.YtgdbinifnhfcjaaW.PrintMore
set_option maxHeartbeats 8000000 in
set_option maxRecDepth 100000 in
theorem drawrleput_none (k : Nat) (A : Option Addr) (c : Nat) (l : List Int) (b : List Int) (p : Int) (q : Int) (w : World) (hr0 : Kd.C (Kd.int .u8) w A l.length l) (hc0 : l.length ≤ c) (h1 : spec_l1Open.f l = some (b, p)) (h2 : spec_l14Rows.f k b p = some ([], q)) :
    Calls Try.prog 20 #[.slice A l.length c] w fun e w' => ∃ v, e = .returned v ∧ Kd.S (Kd.slice 3 (Kd.int .i64)) 31 w' w.heap.size (fun _ => True) v ([] : List (List Int)) ∧ Below w.heap.size w w' := by
  have HR := Aside0.mk hr0
  have HC := Aside0.mk hc0
  have H1 := Aside0.mk h1
  have H2 := Aside0.mk h2
  have HB := Aside0.mk (Below.refl w.heap.size w)
  clear hr0 hc0 h1 h2
  go_enter Try.func20, Try.ntmps20
  go_wp2_with (first
    | (go_at_call 50; (with_reducible refine (spec_l1Open.calls _ _ l b p w _ ?s1 ?s2 ?s3 H1.out).mono ?_); (case s1 => exact HB.out); (case s2 => exact HR.out); (case s3 => exact HC.out); rintro e w6 ⟨g, rfl, hi, hb, hb2⟩; have HI := Aside0.mk hi; have HB6 := Aside0.mk hb; clear hi hb hb2)
    | (go_at_call 51; (with_reducible refine (l14rows_own k g b p [] q w _ ?s1 ?s2 H2.out).mono ?_); (case s1 => exact HI.out); (case s2 => exact HB6.out); rintro e w7 ⟨v7, rfl, hs, hi, hb, hk⟩; obtain ⟨A7, c7, rfl⟩ := Kd.S_slice hs; have HS7 := Aside0.mk (Kd.S_lower (Kd.S_mono (ok' := fun _ => True) hs (fun _ _ => trivial)) (below_size HB6.out)); have HB7 := Aside0.mk hb; clear hs hi hb hk))
  go_ret
  exact ⟨_, rfl, HS7.out, HB7.out⟩
set_option maxHeartbeats 8000000 in
set_option maxRecDepth 100000 in
theorem drawrleput_plain (k : Nat) (A : Option Addr) (c : Nat) (l : List Int) (b : List Int) (p : Int) (rows : List (List Int)) (q v q2 : Int) (w : World) (hr0 : Kd.C (Kd.int .u8) w A l.length l) (hc0 : l.length ≤ c) (h1 : spec_l1Open.f l = some (b, p)) (h2 : spec_l14Rows.f k b p = some (rows, q)) (h0 : 0 < rows.length) (h3 : spec_l1Rd_pick.f k b q 16 = some (v, q2)) (h4 : v ≠ 0) :
    Calls Try.prog 20 #[.slice A l.length c] w fun e w' => ∃ v, e = .returned v ∧ Kd.S (Kd.slice 3 (Kd.int .i64)) 31 w' w.heap.size (fun _ => True) v rows ∧ Below w.heap.size w w' := by
  have HR := Aside0.mk hr0
  have HC := Aside0.mk hc0
  have H1 := Aside0.mk h1
  have H2 := Aside0.mk h2
  have H3 := Aside0.mk h3
  have HB := Aside0.mk (Below.refl w.heap.size w)
  have t1 : decide ((0 : Int) < (rows.length : Int)) = true := decide_eq_true (by omega)
  have t2 : decide (0 < rows.length) = true := decide_eq_true h0
  have t3 : (v == 0) = false := beq_eq_false_iff_ne.2 h4
  clear hr0 hc0 h1 h2 h3 h0 h4
  go_enter Try.func20, Try.ntmps20
  go_wp2_with (first
    | (go_at_call 50; (with_reducible refine (spec_l1Open.calls _ _ l b p w _ ?s1 ?s2 ?s3 H1.out).mono ?_); (case s1 => exact HB.out); (case s2 => exact HR.out); (case s3 => exact HC.out); rintro e w6 ⟨g, rfl, hi, hb, hb2⟩; have HI := Aside0.mk hi; have HB6 := Aside0.mk hb; clear hi hb hb2)
    | (go_at_call 51; (with_reducible refine (l14rows_own k g b p rows q w _ ?s1 ?s2 H2.out).mono ?_); (case s1 => exact HI.out); (case s2 => exact HB6.out); rintro e w7 ⟨v7, rfl, hs, hi, hb, hk⟩; obtain ⟨A7, c7, rfl⟩ := Kd.S_slice hs; have HS7 := Aside0.mk (Kd.S_lower (Kd.S_mono (ok' := fun k_ => k_ ≠ g) hs (fun k_ hk_ => IsS104.fresh HI.out k_ hk_)) (below_size HB6.out)); have HB7 := Aside0.mk hb; have HI7 := Aside0.mk hi; clear hs hi hb hk)
    | (go_at_call 52; (with_reducible refine (spec_l1Rd_pick.calls k g b q 16 v q2 w _ ?s1 ?s2 H3.out).mono ?_); (case s1 => exact HI7.out); (case s2 => exact HB7.out); rintro e w8 ⟨rfl, hi, hb, hk⟩; have HS8 := Aside0.mk (Kd.S_keep HS7.out hk (fun _ h => h)); have HB8 := Aside0.mk hb; clear hi hb hk))
  go_ret
  exact ⟨_, rfl, Kd.S_mono HS8.out (fun _ _ => trivial), HB8.out⟩
/-- The first row, lent: what its cell holds, its own row, and the others' (the rows are of one's own and share nothing). -/
theorem first_lent {w : World} {base q n cap : Nat} {rows : List (List Int)} {row : List Int} (h : Kd.S (Kd.slice 3 (Kd.int .i64)) 31 w base (fun _ => True) (.slice (some ⟨q, 0, none⟩) n cap) rows) (hn : 0 < n) (hr : row = rows.getD 0 []) :
    ∃ (oki : Nat → Prop) (A : Option Addr) (c : Nat), w.cell? ⟨q, 0, none⟩ = some (.slice A row.length c) ∧ Kd.R (Kd.int .i64) 3 w base oki (.slice A row.length c) row ∧ Kd.H (Kd.slice 3 (Kd.int .i64)) 31 w base (fun _ => True) (.slice (some ⟨q, 0, none⟩) n cap) rows 0 oki [.slice A row.length c] := by
  subst hr
  obtain ⟨oki, cc, hcl, hM, hcc, hfr, hoki, hH⟩ := Kd.S_elem h [] (0 : Int) (by omega) (by omega)
  obtain ⟨u, rfl, hR⟩ := hM
  have hR : Kd.R (Kd.int .i64) 3 w base oki u (rows.getD 0 []) := hR
  obtain ⟨A, c, rfl⟩ := Kd.R_slice hR
  exact ⟨oki, A, c, by simpa [Kd.slice] using hcc 0 _ rfl, hR, hH⟩
theorem infosz31 : (Try.prog.info? 31).map (·.size) = some 1 := by kernel_rfl
set_option maxHeartbeats 8000000 in
set_option maxRecDepth 100000 in
theorem drawrleput_grow (k : Nat) (A : Option Addr) (c : Nat) (l : List Int) (b : List Int) (p : Int) (rows : List (List Int)) (q q2 : Int) (w : World) (hr0 : Kd.C (Kd.int .u8) w A l.length l) (hc0 : l.length ≤ c) (h1 : spec_l1Open.f l = some (b, p)) (h2 : spec_l14Rows.f k b p = some (rows, q)) (h0 : 0 < rows.length) (h9 : (rows.getD 0 []).length ≤ 1000000) (h3 : spec_l1Rd_pick.f k b q 16 = some (0, q2)) :
    Calls Try.prog 20 #[.slice A l.length c] w fun e w' => ∃ v, e = .returned v ∧ Kd.S (Kd.slice 3 (Kd.int .i64)) 31 w' w.heap.size (fun _ => True) v (rows.set 0 (rows.getD 0 [] ++ [256])) ∧ Below w.heap.size w w' := by
  have HR := Aside0.mk hr0
  have HC := Aside0.mk hc0
  have H0 := Aside0.mk h0
  have H1 := Aside0.mk h1
  have H2 := Aside0.mk h2
  have H3 := Aside0.mk h3
  have HB := Aside0.mk (Below.refl w.heap.size w)
  have t1 : decide ((0 : Int) < (rows.length : Int)) = true := decide_eq_true (by omega)
  have t2 : decide (0 < rows.length) = true := decide_eq_true h0
  have t4 : ((0 : Int) < (rows.length : Int)) = True := eq_true (by omega)
  have t5 : (0 < rows.length) = True := eq_true h0
  obtain ⟨row, hrow⟩ : ∃ row, row = rows.getD 0 [] := ⟨_, rfl⟩
  rw [← hrow] at h9 ⊢
  have HW := Aside0.mk hrow
  have H9 := Aside0.mk h9
  clear hr0 hc0 h1 h2 h3 h0 h9 hrow
  go_enter Try.func20, Try.ntmps20
  go_wp2_with (first
    | (go_at_call 50; (with_reducible refine (spec_l1Open.calls _ _ l b p w _ ?s1 ?s2 ?s3 H1.out).mono ?_); (case s1 => exact HB.out); (case s2 => exact HR.out); (case s3 => exact HC.out); rintro e w6 ⟨g, rfl, hi, hb, hb2⟩; have HI := Aside0.mk hi; have HB6 := Aside0.mk hb; clear hi hb hb2)
    | (go_at_call 51; (with_reducible refine (l14rows_own k g b p rows q w _ ?s1 ?s2 H2.out).mono ?_); (case s1 => exact HI.out); (case s2 => exact HB6.out); rintro e w7 ⟨v7, rfl, hs, hi, hb, hk⟩; obtain ⟨q7, c7, rfl, _, _, _⟩ := Kd.S_form hs H0.out; have HS7 := Aside0.mk (Kd.S_lower (Kd.S_mono (ok' := fun k_ => k_ ≠ g) hs (fun k_ hk_ => IsS104.fresh HI.out k_ hk_)) (below_size HB6.out)); have HB7 := Aside0.mk hb; have HI7 := Aside0.mk hi; clear hs hi hb hk)
    | (go_at_call 52; (with_reducible refine (spec_l1Rd_pick.calls k g b q 16 0 q2 w _ ?s1 ?s2 H3.out).mono ?_); (case s1 => exact HI7.out); (case s2 => exact HB7.out); rintro e w8 ⟨rfl, hi, hb, hk⟩; obtain ⟨oki, A8, c8, hx0, hR, hH⟩ := first_lent (Kd.S_mono (ok' := fun _ => True) (Kd.S_keep HS7.out hk (fun _ h => h)) (fun _ _ => trivial)) H0.out HW.out; have HR8 := Aside0.mk hR; have HH8 := Aside0.mk hH; have HB8 := Aside0.mk hb; clear hi hb hk hH hR)
    | (at_builtin; refine Kd.R_append (Kd.int .i64) w.heap.size rfl (.tmp 20) (.tmp 21) 31 3 (.int .i64 0) 8 rfl Try.underlying31 info3 rfl (by decide) (by omega) (.slice A8 row.length c8) row 256 [.int .i64 256] (fun k_ => oki k_ ∨ True ∧ w8.heap.size ≤ k_) (fun _ => False) rfl rfl ?aP (fun _ hk => hk.elim) ?aF ?aO HB8.out ?aS ?aL ?_; (case aP => exact rfl); (case aF => exact (fun k_ hk_ => .inr ⟨trivial, hk_⟩)); (case aO => exact Kd.R_mono HR8.out (fun _ h => .inl h)); (case aS => exact below_size HB8.out); (case aL => have := H9.out; omega); intro v9 w9 ho hb hg hat; have HO9 := Aside0.mk ho; have HB9 := Aside0.mk hb; have HH9 := Aside0.mk (Kd.H_grown (Kd.H_widen HH8.out) hg (fun k_ hk_ => .inl (HR8.out.1 k_ hk_))); clear ho hb hg hat)
    | ((with_reducible refine gate_store (t := 31) (p := 23) rfl ?_); refine Kd.H_store (Kd.slice 3 (Kd.int .i64)) w.heap.size rfl rfl 31 (.tmp 23) (.tmp 22) rfl 31 (0 : Int) 0 rows (row ++ [256]) v9 [v9] [.slice A8 row.length c8] (fun _ => True) (fun k_ => oki k_ ∨ True ∧ w8.heap.size ≤ k_) (fun k_ => oki k_ ∨ True ∧ w8.heap.size ≤ k_) rfl rfl rfl ?aU ?aT ?aV HH9.out ?aA ?aI ?aJ ?aM (fun _ h => h) HB9.out ?_; (case aU => exact (Kd.R_val HO9.out).1); (case aT => exact infosz31); (case aV => exact (fun q_ hq_ => by rw [List.mem_singleton.1 hq_]; exact (Kd.R_val HO9.out).2)); (case aA => omega); (case aI => have := H0.out; omega); (case aJ => exact Nat.le_refl _); (case aM => exact ⟨v9, rfl, HO9.out⟩); intro w10 hs hb hg; have HS10 := Aside0.mk hs; have HB10 := Aside0.mk hb; clear hs hb hg))
  go_ret
  exact ⟨_, rfl, HS10.out, HB10.out⟩
end Go.Proofs.Ytgdbinifnhfcjaa.P
