/- Texts of one law put together (wip/merge2.py). -/
import Derived.Test.YtgdbinifnhfcjaaMFnRle1
/- spec.l7Rle: what reads rows: byte, put, walked. -/
set_option linter.unusedVariables false
set_option linter.unusedSimpArgs false
namespace Go.Proofs.Ytgdbinifnhfcjaa.P
open Go.RowKit Go.Proofs.YtgdbinifnhfcjaaW.PrintWords Go.Proofs.YtgdbinifnhfcjaaW.PrintLast Go.Proofs.YtgdbinifnhfcjaaW.PrintMore
def IsL (w0 w : World) (g : Nat) (s : ByteArray) (p : Nat) (rows : List (List Int)) (x y : Nat) (ok : Bool) : Prop :=
  ∃ v, w.heap[g]? = some (.cells #[.string s, .int .i64 (p : Int), v, .int .i64 (x : Int), .int .i64 (y : Int), .bool ok] 99 (0, 0)) ∧ w0.heap.size ≤ g ∧ Kd.S (Kd.slice 3 (Kd.int .i64)) 31 w w0.heap.size (fun k => k ≠ g) v rows
theorem IsL.step {w0 w w' : World} {g : Nat} {s : ByteArray} {p : Nat} {rows : List (List Int)} {x y : Nat} {ok : Bool} (h : IsL w0 w g s p rows x y ok) (hb : Below w.heap.size w w') : IsL w0 w' g s p rows x y ok := by
  obtain ⟨v, h1, h2, h3⟩ := h
  exact ⟨v, blk_below h1 hb, h2, Kd.S_below h3 hb⟩
theorem IsL.drew {w0 w : World} {g : Nat} {s : ByteArray} {p : Nat} {rows : List (List Int)} {x y : Nat} {ok : Bool} (h : IsL w0 w g s p rows x y ok) : IsL w0 w.drew g s p rows x y ok := h.step (below_drew (Below.refl _ _))
theorem IsL.drewN {w0 w : World} {g : Nat} {s : ByteArray} {p : Nat} {rows : List (List Int)} {x y : Nat} {ok : Bool} (h : IsL w0 w g s p rows x y ok) (m : Nat) : IsL w0 (w.drewN m) g s p rows x y ok := h.step (pw_below_drewN (Below.refl _ _) m)
theorem IsL.ge {w0 w : World} {g : Nat} {s : ByteArray} {p : Nat} {rows : List (List Int)} {x y : Nat} {ok : Bool} (h : IsL w0 w g s p rows x y ok) : w0.heap.size ≤ g := by
  obtain ⟨v, h1, h2, h3⟩ := h
  exact h2
theorem IsL.at_ {w0 w : World} {g : Nat} {s : ByteArray} {p : Nat} {rows : List (List Int)} {x y : Nat} {ok : Bool} (h : IsL w0 w g s p rows x y ok) (p' : Nat) : IsL w0 (w.setCell ⟨g, 1, none⟩ (.int .i64 (p' : Int))) g s p' rows x y ok := by
  obtain ⟨v, h1, h2, h3⟩ := h
  exact ⟨v, blk_put h1 1 (.int .i64 (p' : Int)) rfl, h2, Kd.S_far (p := ⟨g, 1, none⟩) h3 (fun _ h => h) _⟩
theorem IsL.x_ {w0 w : World} {g : Nat} {s : ByteArray} {p : Nat} {rows : List (List Int)} {x y : Nat} {ok : Bool} (h : IsL w0 w g s p rows x y ok) (x' : Nat) : IsL w0 (w.setCell ⟨g, 3, none⟩ (.int .i64 (x' : Int))) g s p rows x' y ok := by
  obtain ⟨v, h1, h2, h3⟩ := h
  exact ⟨v, blk_put h1 3 (.int .i64 (x' : Int)) rfl, h2, Kd.S_far (p := ⟨g, 3, none⟩) h3 (fun _ h => h) _⟩
theorem IsL.y_ {w0 w : World} {g : Nat} {s : ByteArray} {p : Nat} {rows : List (List Int)} {x y : Nat} {ok : Bool} (h : IsL w0 w g s p rows x y ok) (y' : Nat) : IsL w0 (w.setCell ⟨g, 4, none⟩ (.int .i64 (y' : Int))) g s p rows x y' ok := by
  obtain ⟨v, h1, h2, h3⟩ := h
  exact ⟨v, blk_put h1 4 (.int .i64 (y' : Int)) rfl, h2, Kd.S_far (p := ⟨g, 4, none⟩) h3 (fun _ h => h) _⟩
theorem IsL.ok_ {w0 w : World} {g : Nat} {s : ByteArray} {p : Nat} {rows : List (List Int)} {x y : Nat} {ok : Bool} (h : IsL w0 w g s p rows x y ok) (ok' : Bool) : IsL w0 (w.setCell ⟨g, 5, none⟩ (.bool ok')) g s p rows x y ok' := by
  obtain ⟨v, h1, h2, h3⟩ := h
  exact ⟨v, blk_put h1 5 (.bool ok') rfl, h2, Kd.S_far (p := ⟨g, 5, none⟩) h3 (fun _ h => h) _⟩
theorem IsL.cells {w0 w : World} {g : Nat} {s : ByteArray} {p : Nat} {rows : List (List Int)} {x y : Nat} {ok : Bool} (h : IsL w0 w g s p rows x y ok) :
    (w.cell? ⟨g, 0, none⟩ = some (.string s) ∧ w.cell? ⟨g, 1, none⟩ = some (.int .i64 (p : Int)) ∧ w.cell? ⟨g, 3, none⟩ = some (.int .i64 (x : Int)) ∧ w.cell? ⟨g, 4, none⟩ = some (.int .i64 (y : Int)) ∧ w.cell? ⟨g, 5, none⟩ = some (.bool ok)) ∧ (∀ j, w.frozen? ⟨g, j, none⟩ = false) := by
  obtain ⟨v, h1, h2, h3⟩ := h
  exact ⟨⟨(blk_cell h1 0).trans rfl, (blk_cell h1 1).trans rfl, (blk_cell h1 3).trans rfl, (blk_cell h1 4).trans rfl, (blk_cell h1 5).trans rfl⟩, fun j => blk_frozen h1 j⟩
/-- The byte at a place, 0 if there is none; and the place behind it. -/
def byV (s : ByteArray) (p : Nat) : Nat := if p < s.size then bN s p else 0
def nxt (s : ByteArray) (p : Nat) : Nat := if p < s.size then p + 1 else p
theorem byV_le (s : ByteArray) (p : Nat) : byV s p ≤ 255 := by
  unfold byV
  have := bN_le s p
  split <;> omega
theorem nxt_le (s : ByteArray) (p : Nat) : nxt s p ≤ p + 1 := by
  unfold nxt
  split <;> omega
set_option maxHeartbeats 4000000 in
set_option maxRecDepth 100000 in
/-- A byte, or no more. -/
theorem l7_byte (w0 w : World) (g : Nat) (s : ByteArray) (p : Nat) (rows : List (List Int)) (x y : Nat) (ok : Bool) (hp : p ≤ 1000000000) (hB : Below w0.heap.size w0 w) (hI : IsL w0 w g s p rows x y ok) :
    Calls Try.prog 99 #[.pointer (some ⟨g, 0, none⟩)] w fun e w' => e = .returned (.int .i64 (byV s p : Int)) ∧ IsL w0 w' g s (nxt s p) rows x y (ok && decide (p < s.size)) ∧ Below w0.heap.size w0 w' := by
  have HI := Aside0.mk hI
  have HB := Aside0.mk hB
  obtain ⟨⟨c0, c1, c3, c4, c5⟩, z⟩ := hI.cells
  have z1 := z 1
  have z5 := z 5
  clear hI hB z
  by_cases hlt : p < s.size
  · have e0 : byV s p = bN s p := by unfold byV; rw [if_pos hlt]
    have e9 : nxt s p = p + 1 := by unfold nxt; rw [if_pos hlt]
    rw [e0, e9, decide_eq_true hlt, Bool.and_true]
    clear e0 e9
    have d1 : decide ((s.size : Int) ≤ (p : Int)) = false := decide_eq_false (by omega)
    have d2 : decide (s.size ≤ p) = false := decide_eq_false (by omega)
    have p9 : (p : Int) ≤ 1000000000 := by omega
    go_enter Try.func99, Try.ntmps99
    go_wp2
    go_quiet (fail)
    go_upto_region 5 with (fail)
    have HI2 := Aside0.mk (show IsL w0 ((w.drewN nq).setCell ⟨g, 1, none⟩ (.int .i64 ((p : Int) + 1))) g s (p + 1) rows x y ok from (HI.out.drewN nq).at_ (p + 1))
    have HB2 := Aside0.mk (below_set (j := 1) (v := .int .i64 ((p : Int) + 1)) (pw_below_drewN HB.out nq) HI.out.ge)
    generalize (w.drewN nq).setCell ⟨g, 1, none⟩ (.int .i64 ((p : Int) + 1)) = w2 at HI2 HB2 ⊢
    obtain ⟨⟨k0, k1, _, _, _⟩, _⟩ := HI2.out.cells
    have k2 : w2.cell? ⟨g, 1, none⟩ = some (.int .i64 ((p : Int) + 1)) := k1
    have f1 : (0 ≤ (p : Int)) = True := eq_true (by omega)
    have f2 : ((p : Int) < (s.size : Int)) = True := eq_true (by omega)
    have hx := bN_at s p
    have h9 : (bN s p : Int) ≤ 255 := by have := bN_le s p; omega
    have e1 : wrap64 ((p : Int) + 1 - 1) = (p : Int) := by unfold wrap64; omega
    clear k1 c0 c1 c3 c4 c5 z1 z5 hlt
    go_quiet (fail)
    go_wp2
    go_ret
    exact ⟨rfl, HI2.out.drewN _, pw_below_drewN HB2.out _⟩
  · have e0 : byV s p = 0 := by unfold byV; rw [if_neg hlt]
    have e9 : nxt s p = p := by unfold nxt; rw [if_neg hlt]
    rw [e0, e9, decide_eq_false hlt, Bool.and_false]
    clear e0 e9
    have d1 : decide ((s.size : Int) ≤ (p : Int)) = true := decide_eq_true (by omega)
    have d2 : decide (s.size ≤ p) = true := decide_eq_true (by omega)
    clear hlt
    go_enter Try.func99, Try.ntmps99
    go_wp2
    go_quiet (fail)
    go_wp2
    go_ret
    exact ⟨rfl, (HI.out.drewN _).ok_ false, below_set (pw_below_drewN HB.out _) HI.out.ge⟩
set_option maxHeartbeats 4000000 in
set_option maxRecDepth 100000 in
theorem l7_put_no (w0 w : World) (g : Nat) (s : ByteArray) (p : Nat) (rows : List (List Int)) (x y : Nat) (ok : Bool) (b : Int) (hx : x ≤ 1000000000) (hy : y ≤ 1000000000) (hB : Below w0.heap.size w0 w) (hI : IsL w0 w g s p rows x y ok) (hc : canPut rows x y = false) :
    Calls Try.prog 101 #[.pointer (some ⟨g, 0, none⟩), .int .i64 b] w fun e w' => e = .returned (.tuple #[]) ∧ IsL w0 w' g s p rows x y false ∧ Below w0.heap.size w0 w' := by
  have HI := Aside0.mk hI
  have HB := Aside0.mk hB
  obtain ⟨⟨_, _, c3, c4, c5⟩, z⟩ := hI.cells
  have z5 := z 5
  obtain ⟨v, hb, hg, hS⟩ := hI
  clear hB z
  by_cases hlt : y < rows.length
  · have hlx : ¬ x < (rows.getD y []).length := by
      intro h
      unfold canPut at hc
      rw [decide_eq_true hlt, decide_eq_true h] at hc
      cases hc
    obtain ⟨q, cap, rfl, _, _, _⟩ := Kd.S_form hS (by omega)
    have c2 : w.cell? ⟨g, 2, none⟩ = some (.slice (some ⟨q, 0, none⟩) rows.length cap) := (blk_cell hb 2).trans rfl
    obtain ⟨hn, _, hC⟩ := Kd.S_reads' hS
    obtain ⟨oki, c, hcl, hM, hcc, _, _, _⟩ := Kd.S_elem hS [] (y : Int) (by omega) (by omega)
    obtain ⟨u, rfl, hR⟩ := hM
    obtain ⟨A, cp, rfl⟩ := Kd.R_slice hR
    rw [Int.toNat_natCast] at hcc
    have h5 : w.cell? ⟨q, y, none⟩ = some (.slice A (rows.getD y []).length cp) := by simpa [Kd.slice] using hcc 0 _ rfl
    generalize hrow : rows.getD y [] = row at hlx h5
    have HL := Aside0.mk hlt
    have d1 : decide ((rows.length : Int) ≤ (y : Int)) = false := decide_eq_false (by omega)
    have d2 : decide ((row.length : Int) ≤ (x : Int)) = true := decide_eq_true (by omega)
    have e1 : decide (rows.length ≤ y) = false := decide_eq_false (by omega)
    have e2 : decide (row.length ≤ x) = true := decide_eq_true (by omega)
    have f1 : (0 ≤ (y : Int)) = True := eq_true (by omega)
    have f2 : ((y : Int) < (rows.length : Int)) = True := eq_true (by omega)
    clear hb hS hC hR hcc hcl hrow hlt hlx hn hx hy hg hc
    go_enter Try.func101, Try.ntmps101
    go_wp2
    go_quiet (fail)
    go_wp2
    refine bodyPost_ret (v := .tuple #[]) (results_none rfl _ _ _) rfl ?_
    exact ⟨rfl, (HI.out.drewN _).ok_ false, below_set (pw_below_drewN HB.out _) HI.out.ge⟩
  · have HL := Aside0.mk hlt
    obtain ⟨A, cp, rfl⟩ := Kd.S_slice hS
    have c2 : w.cell? ⟨g, 2, none⟩ = some (.slice A rows.length cp) := (blk_cell hb 2).trans rfl
    have d1 : decide ((rows.length : Int) ≤ (y : Int)) = true := decide_eq_true (by omega)
    have e1 : decide (rows.length ≤ y) = true := decide_eq_true (by omega)
    clear hb hS hlt hx hy hg hc
    go_enter Try.func101, Try.ntmps101
    go_wp2
    go_quiet (fail)
    go_wp2
    refine bodyPost_ret (v := .tuple #[]) (results_none rfl _ _ _) rfl ?_
    exact ⟨rfl, (HI.out.drewN _).ok_ false, below_set (pw_below_drewN HB.out _) HI.out.ge⟩
set_option maxHeartbeats 4000000 in
set_option maxRecDepth 100000 in
theorem l7_put_yes (w0 w : World) (g : Nat) (s : ByteArray) (p0 : Nat) (rows : List (List Int)) (x y : Nat) (ok : Bool) (b : Int) (hx : x ≤ 1000000000) (hy : y ≤ 1000000000) (hB : Below w0.heap.size w0 w) (hI : IsL w0 w g s p0 rows x y ok) (hc : canPut rows x y = true) :
    Calls Try.prog 101 #[.pointer (some ⟨g, 0, none⟩), .int .i64 b] w fun e w' => e = .returned (.tuple #[]) ∧ IsL w0 w' g s p0 (putR rows x y b) (x + 1) y ok ∧ Below w0.heap.size w0 w' := by
  obtain ⟨v, hb, hg, hS⟩ := hI
  unfold canPut at hc
  simp only [Bool.and_eq_true, decide_eq_true_eq] at hc
  obtain ⟨hlt, hlx⟩ := hc
  obtain ⟨q, cap, rfl, hbq, hql, _⟩ := Kd.S_form hS (by omega)
  have c0 : w.cell? ⟨g, 2, none⟩ = some (.slice (some ⟨q, 0, none⟩) rows.length cap) := (blk_cell hb 2).trans rfl
  have c1 : w.cell? ⟨g, 3, none⟩ = some (.int .i64 (x : Int)) := (blk_cell hb 3).trans rfl
  have c2 : w.cell? ⟨g, 4, none⟩ = some (.int .i64 (y : Int)) := (blk_cell hb 4).trans rfl
  have z1 := blk_frozen hb 3
  obtain ⟨hn, _, hC⟩ := Kd.S_reads' hS
  obtain ⟨oki, c, hcl, hM, hcc, _, hoki, hH⟩ := Kd.S_elem hS [] (y : Int) (by omega) (by omega)
  rw [Int.toNat_natCast] at hcc hM
  have HM := hM
  obtain ⟨u, rfl, hR⟩ := hM
  obtain ⟨p, cp, rfl, hbp, hpl, _⟩ := Kd.R_form hR (by omega)
  have h5 : w.cell? ⟨q, y, none⟩ = some (.slice (some ⟨p, 0, none⟩) (rows.getD y []).length cp) := by simpa [Kd.slice] using hcc 0 _ rfl
  have hpg : p ≠ g ∧ p ≠ q := hoki p (hR.1 p (by simp [Value.ownBlock]))
  obtain ⟨ce, hce, hMe, hcx, hfx⟩ := Kd.R_elem hR 0 (x : Int) (by omega) (by omega)
  have h6 : w.cell? ⟨p, x, none⟩ = some (.int .i64 ((rows.getD y []).getD x 0)) := by
    have e : ce = [.int .i64 ((rows.getD y []).getD x 0)] := hMe
    subst e
    simpa [Kd.int, Kd.scalar] using hcx 0 _ rfl
  have h7 : w.frozen? ⟨p, x, none⟩ = false := by simpa [Kd.int, Kd.scalar] using hfx 0
  generalize hrow : rows.getD y [] = row at hlx h5 h6 hR HM hH
  have Hrow := Aside0.mk hrow
  have HL := Aside0.mk hlt
  have d1 : decide ((rows.length : Int) ≤ (y : Int)) = false := decide_eq_false (by omega)
  have d2 : decide ((row.length : Int) ≤ (x : Int)) = false := decide_eq_false (by omega)
  have e1 : decide (rows.length ≤ y) = false := decide_eq_false (by omega)
  have e2 : decide (row.length ≤ x) = false := decide_eq_false (by omega)
  have f1 : (0 ≤ (y : Int)) = True := eq_true (by omega)
  have f2 : ((y : Int) < (rows.length : Int)) = True := eq_true (by omega)
  have f3 : (0 ≤ (x : Int)) = True := eq_true (by omega)
  have f4 : ((x : Int) < (row.length : Int)) = True := eq_true (by omega)
  have f5 : (x : Int) ≤ 1000000000 := by omega
  have HB := Aside0.mk hB
  have HBK := Aside0.mk hb
  have HR := Aside0.mk hR
  have HH := Aside0.mk hH
  have HP := Aside0.mk hpg
  have HG := Aside0.mk hg
  have HX := Aside0.mk hlx
  clear hb hS hC hR hcc hcl hrow hlt hlx hn hx hy hg hB hH hpg HM hoki hce hMe hcx hfx
  go_enter Try.func101, Try.ntmps101
  go_wp2
  go_quiet (fail)
  go_wp2
  have n1 := HP.out.1
  have n2 := HP.out.2
  have n3 : g ≠ p := fun e => n1 e.symm
  have n4 : q ≠ p := fun e => n2 e.symm
  go_region_held3 (fun w' => w'.cell? ⟨g, 2, none⟩ = some (.slice (some ⟨q, 0, none⟩) rows.length cap) ∧ w'.cell? ⟨g, 3, none⟩ = some (.int .i64 (x : Int)) ∧ w'.cell? ⟨g, 4, none⟩ = some (.int .i64 (y : Int)) ∧ w'.cell? ⟨q, y, none⟩ = some (.slice (some ⟨p, 0, none⟩) row.length cp)) (go_keep) (fail)
  have HR2 := (HR.out : Kd.R (Kd.int .i64) 3 w w0.heap.size oki (.slice (some ⟨p, 0, none⟩) row.length cp) row)
  obtain ⟨k1, k2⟩ := Kd.R_putg (enc := Value.int .i64) (h1 := fun _ => rfl) (Kd.R_drewN HR2 (nq + 1)) (x : Int) b
  rw [Int.toNat_natCast] at k1 k2
  have hH2 := Kd.H_grown (Kd.H_drewN HH.out (nq + 1)) k2 (fun k hk => by rw [← Option.some.inj hk]; exact HR2.1 p (by simp [Value.ownBlock]))
  have hS2 := Kd.H_back hH2 (x' := row.set x b) (okp := oki) ⟨_, rfl, k1⟩ (fun _ h => h)
  rw [Int.toNat_natCast] at hS2
  have hb2 := blk_far (p := ⟨p, x, none⟩) (blk_drewN HBK.out (nq + 1)) n3 (.int .i64 b)
  have HB2 := below_set (j := x) (v := .int .i64 b) (pw_below_drewN HB.out (nq + 1)) hbp
  generalize (w.drewN (nq + 1)).setCell ⟨p, x, none⟩ (.int .i64 b) = w2 at hS2 hb2 HB2 ⊢
  have HS3 := Aside0.mk (Kd.S_far (p := ⟨g, 3, none⟩) hS2 (fun _ h => h) (.int .i64 ((x : Int) + 1)))
  have HB3 := Aside0.mk (below_set (j := 3) (v := .int .i64 ((x : Int) + 1)) HB2 HG.out)
  have HK3 := Aside0.mk (blk_put hb2 3 (.int .i64 ((x : Int) + 1)) rfl)
  have m1 : w2.cell? ⟨g, 3, none⟩ = some (.int .i64 (x : Int)) := (blk_cell hb2 3).trans rfl
  have m2 := blk_frozen hb2 3
  clear hS2 hb2 HB2 k1 k2 hH2 HR2 c0 c1 c2 h5 h6 h7 z1
  go_wp2
  go_end0
  refine ⟨rfl, ⟨.slice (some ⟨q, 0, none⟩) rows.length cap, ?_, HG.out, ?_⟩, HB3.out⟩
  · rw [show ((x + 1 : Nat) : Int) = (x : Int) + 1 by omega]
    exact HK3.out
  · unfold putR
    rw [Hrow.out]
    exact HS3.out
end Go.Proofs.Ytgdbinifnhfcjaa.P
