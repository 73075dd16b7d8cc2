/- Texts of one law put together (wip/merge2.py). -/
import Derived.Test.YtgdbinifnhfcjaaProg
import Derived.Below
import Derived.Deep.Draws
import Derived.Deep.AppendLies
import Derived.Maps.AppendAt
import Derived.OwnWalk
import Derived.Laws.BytesArg
import Derived.Laws.MakeOwn
import Derived.Laws.OwnMore
import Derived.Deep.OwnRows
import Derived.Tactics
import Derived.Lib.ConvBytes
import Derived.Laws.Slices
import Derived.WalkKit
import Derived.KernelRfl
import Derived.RowKit3
import Derived.Deep.LoopGhost
import Derived.Deep.QuietTactic
import Derived.BigQuiet
import Derived.WideLaws
import Derived.Deep.DeepCutAuto
import Derived.Deep.CutBlock
import Derived.Deep.RegionHeld3
import Derived.Laws.Rows
import Derived.Lib.AppendStr
import Derived.ArgAppend
import Derived.Laws.IdiomCopy
import Derived.OrdersHeld
import Derived.Laws.BitsLemmas
import Derived.RowKit
import Derived.RegionTactic
import Derived.BigRegion
import Derived.ChangeAlike
import Derived.Lib.Strings
import Derived.Lib.IndexBytes
import Derived.Test.YtgdbinifnhfcjaaLibPatch
import Derived.Test.YtgdbinifnhfcjaaWWords
import Derived.Test.YtgdbinifnhfcjaaWLast
import Derived.Test.YtgdbinifnhfcjaaWTab
import Derived.Test.YtgdbinifnhfcjaaWFour
import Derived.Test.YtgdbinifnhfcjaaWQPut
import Derived.Test.YtgdbinifnhfcjaaWApart
import Derived.Test.YtgdbinifnhfcjaaWArr
import Derived.Test.YtgdbinifnhfcjaaWZeros
import Derived.Test.YtgdbinifnhfcjaaWFoot
import Derived.Test.YtgdbinifnhfcjaaWKept
import Derived.Test.YtgdbinifnhfcjaaWShare
import Derived.Test.YtgdbinifnhfcjaaWN
import Derived.Test.YtgdbinifnhfcjaaWFootNe
import Derived.Test.YtgdbinifnhfcjaaWAt
import Derived.Test.YtgdbinifnhfcjaaWEqStruct
import Derived.Test.YtgdbinifnhfcjaaWRepsOne
import Derived.Test.YtgdbinifnhfcjaaWInv
import Derived.Test.YtgdbinifnhfcjaaWInvWords
import Derived.Test.YtgdbinifnhfcjaaWGuard
import Derived.Test.YtgdbinifnhfcjaaWNEv
import Derived.Test.YtgdbinifnhfcjaaWMore
-- Written by a program of this session (wip/myprint.py) through the print of the kit: not trusted, Lean checks it.
namespace Go.Proofs.Ytgdbinifnhfcjaa.P
open Go.RowKit Go.Proofs.YtgdbinifnhfcjaaW.PrintWords Go.Proofs.YtgdbinifnhfcjaaW.PrintLast Go.Proofs.YtgdbinifnhfcjaaW.PrintMore
attribute [local go_sem] max2_int min2_int max_two min_two max_three min_three max_four min_four   -- for this text's walks alone
set_option linter.unusedVariables false
set_option linter.unusedSimpArgs false



def errW : Option Int → Value
  | none => .nilIface
  | some c => .iface 0 (.int .i64 c)
theorem errW_none : errW none = .nilIface := rfl
theorem errW_some (c : Int) : errW (some c) = .iface 0 (.int .i64 c) := rfl

theorem info3 : (Try.prog.info? 3).map (fun i => (i.zero, i.size, i.bytes)) = some (some (.int .i64 0), 1, 8) := by kernel_rfl
theorem info5 : (Try.prog.info? 5).map (fun i => (i.zero, i.size, i.bytes)) = some (some (.int .u8 0), 1, 1) := by kernel_rfl
theorem info31 : (Try.prog.info? 31).map (fun i => (i.zero, i.size, i.bytes)) = some (some (.slice none 0 0), 1, 24) := by kernel_rfl
-- the values' own types
def rd_L1 (xs : List (List Int)) (i : Int) : (List Int) := xs.getD i.toNat ([] : List Int)
theorem at_L1 {w : World} {A : Option Addr} {n : Nat} {xs : List (List Int)} (h : Kd.C (Kd.slice 3 (Kd.int .i64)) w A n xs) (i : Int) (h0 : 0 ≤ i) (h1 : i < n) : ∃ ad A0 c0, A = some ad ∧ w.cell? (ad.add i.toNat) = some (.slice A0 (rd_L1 xs i).length c0) ∧ (rd_L1 xs i).length ≤ c0 ∧ (Kd.int .i64).C w A0 (rd_L1 xs i).length (rd_L1 xs i) := by
  obtain ⟨ad, c, e, _, hK, hc0⟩ := Kd.C_get h ([] : List Int) i h0 h1
  have hc : ∀ j u, c[j]? = some u → w.cell? (ad.add (i.toNat * 1 + j)) = some u := hc0
  obtain ⟨A0, c0, rfl, l0, g0⟩ := hK
  exact ⟨ad, A0, c0, e, by have hq := hc 0 _ rfl; rwa [Nat.mul_one, Nat.add_zero] at hq, l0, g0⟩

end Go.Proofs.Ytgdbinifnhfcjaa.P
/- impl.field: rows into which bytes are put; put, walked. -/
set_option linter.unusedVariables false
set_option linter.unusedSimpArgs false
namespace Go.Proofs.Ytgdbinifnhfcjaa.P
open Go.RowKit Go.Proofs.YtgdbinifnhfcjaaW.PrintWords Go.Proofs.YtgdbinifnhfcjaaW.PrintLast Go.Proofs.YtgdbinifnhfcjaaW.PrintMore
/-- A field: its rows, and where it stands. -/
def IsF (w0 w : World) (g : Nat) (rows : List (List Int)) (x y : Nat) : Prop :=
  ∃ v, w.heap[g]? = some (.cells #[v, .int .i64 (x : Int), .int .i64 (y : Int)] 57 (0, 0)) ∧ w0.heap.size ≤ g ∧ Kd.S (Kd.slice 3 (Kd.int .i64)) 31 w w0.heap.size (fun k => k ≠ g) v rows
def canPut (rows : List (List Int)) (x y : Nat) : Bool := decide (y < rows.length) && decide (x < (rows.getD y []).length)
def putR (rows : List (List Int)) (x y : Nat) (b : Int) : List (List Int) := rows.set y ((rows.getD y []).set x b)
theorem IsF.step {w0 w w' : World} {g : Nat} {rows : List (List Int)} {x y : Nat} (h : IsF w0 w g rows x y) (hb : Below w.heap.size w w') : IsF w0 w' g rows x y := by
  obtain ⟨v, h1, h2, h3⟩ := h
  exact ⟨v, blk_below h1 hb, h2, Kd.S_below h3 hb⟩
theorem IsF.drew {w0 w : World} {g : Nat} {rows : List (List Int)} {x y : Nat} (h : IsF w0 w g rows x y) : IsF w0 w.drew g rows x y := h.step (below_drew (Below.refl _ _))
theorem IsF.drewN {w0 w : World} {g : Nat} {rows : List (List Int)} {x y : Nat} (h : IsF w0 w g rows x y) (m : Nat) : IsF w0 (w.drewN m) g rows x y := h.step (pw_below_drewN (Below.refl _ _) m)
/-- Where it stands may be told anew. -/
theorem IsF.move {w0 w : World} {g : Nat} {rows : List (List Int)} {x y : Nat} (h : IsF w0 w g rows x y) (x' y' : Nat) : IsF w0 ((w.setCell ⟨g, 1, none⟩ (.int .i64 (x' : Int))).setCell ⟨g, 2, none⟩ (.int .i64 (y' : Int))) g rows x' y' := by
  obtain ⟨v, h1, h2, h3⟩ := h
  exact ⟨v, blk_put (blk_put h1 1 (.int .i64 (x' : Int)) rfl) 2 (.int .i64 (y' : Int)) rfl, h2, Kd.S_far (p := ⟨g, 2, none⟩) (Kd.S_far (p := ⟨g, 1, none⟩) h3 (fun _ h => h) _) (fun _ h => h) _⟩
theorem IsF.ge {w0 w : World} {g : Nat} {rows : List (List Int)} {x y : Nat} (h : IsF w0 w g rows x y) : w0.heap.size ≤ g := by
  obtain ⟨v, h1, h2, h3⟩ := h
  exact h2
set_option maxHeartbeats 4000000 in
set_option maxRecDepth 100000 in
theorem field_put_no (w0 w : World) (g : Nat) (rows : List (List Int)) (x y : Nat) (b : Int) (hx : x ≤ 1000000000) (hy : y ≤ 1000000000) (hI : IsF w0 w g rows x y) (hc : canPut rows x y = false) :
    Calls Try.prog 46 #[.pointer (some ⟨g, 0, none⟩), .int .u8 b] w fun e w' => e = .returned (.bool false) ∧ ∃ n, w' = w.drewN n := by
  obtain ⟨v, hb, hg, hS⟩ := hI
  have c0 := (blk_cell hb 0).trans rfl
  have c1 : w.cell? ⟨g, 1, none⟩ = some (.int .i64 (x : Int)) := (blk_cell hb 1).trans rfl
  have c2 : w.cell? ⟨g, 2, none⟩ = some (.int .i64 (y : Int)) := (blk_cell hb 2).trans rfl
  by_cases hlt : y < rows.length
  · have hlx : ¬ x < (rows.getD y []).length := by
      intro h
      unfold canPut at hc
      rw [decide_eq_true hlt, decide_eq_true h] at hc
      cases hc
    obtain ⟨q, cap, rfl, _, _, _⟩ := Kd.S_form hS (by omega)
    obtain ⟨hn, _, hC⟩ := Kd.S_reads' hS
    obtain ⟨oki, c, hcl, hM, hcc, _, _, _⟩ := Kd.S_elem hS [] (y : Int) (by omega) (by omega)
    obtain ⟨u, rfl, hR⟩ := hM
    obtain ⟨A, cp, rfl⟩ := Kd.R_slice hR
    rw [Int.toNat_natCast] at hcc
    have h5 : w.cell? ⟨q, y, none⟩ = some (.slice A (rows.getD y []).length cp) := by simpa [Kd.slice] using hcc 0 _ rfl
    generalize hrow : rows.getD y [] = row at hlx h5
    have HL := Aside0.mk hlt
    have d1 : decide ((rows.length : Int) ≤ (y : Int)) = false := decide_eq_false (by omega)
    have d2 : decide ((row.length : Int) ≤ (x : Int)) = true := decide_eq_true (by omega)
    have e1 : decide (rows.length ≤ y) = false := decide_eq_false (by omega)
    have e2 : decide (row.length ≤ x) = true := decide_eq_true (by omega)
    have f1 : (0 ≤ (y : Int)) = True := eq_true (by omega)
    have f2 : ((y : Int) < (rows.length : Int)) = True := eq_true (by omega)
    clear hb hS hC hR hcc hcl hrow hlt hlx hn hx hy hg hc
    go_enter Try.func46, Try.ntmps46
    go_wp2
    go_quiet (fail)
    go_wp2
    go_ret
    exact ⟨rfl, nq, rfl⟩
  · have HL := Aside0.mk hlt
    obtain ⟨A, cp, rfl⟩ := Kd.S_slice hS
    have d1 : decide ((rows.length : Int) ≤ (y : Int)) = true := decide_eq_true (by omega)
    have e1 : decide (rows.length ≤ y) = true := decide_eq_true (by omega)
    clear hb hS hlt hx hy hg hc
    go_enter Try.func46, Try.ntmps46
    go_wp2
    go_quiet (fail)
    go_wp2
    go_ret
    exact ⟨rfl, nq, rfl⟩
set_option maxHeartbeats 4000000 in
set_option maxRecDepth 100000 in
theorem field_put_yes (w0 w : World) (g : Nat) (rows : List (List Int)) (x y : Nat) (b : Int) (hx : x ≤ 1000000000) (hy : y ≤ 1000000000) (hB : Below w0.heap.size w0 w) (hbb : 0 ≤ b ∧ b ≤ 255) (hI : IsF w0 w g rows x y) (hc : canPut rows x y = true) :
    Calls Try.prog 46 #[.pointer (some ⟨g, 0, none⟩), .int .u8 b] w fun e w' => e = .returned (.bool true) ∧ IsF w0 w' g (putR rows x y b) (x + 1) y ∧ Below w0.heap.size w0 w' := by
  obtain ⟨v, hb, hg, hS⟩ := hI
  unfold canPut at hc
  simp only [Bool.and_eq_true, decide_eq_true_eq] at hc
  obtain ⟨hlt, hlx⟩ := hc
  obtain ⟨q, cap, rfl, hbq, hql, _⟩ := Kd.S_form hS (by omega)
  have c0 : w.cell? ⟨g, 0, none⟩ = some (.slice (some ⟨q, 0, none⟩) rows.length cap) := (blk_cell hb 0).trans rfl
  have c1 : w.cell? ⟨g, 1, none⟩ = some (.int .i64 (x : Int)) := (blk_cell hb 1).trans rfl
  have c2 : w.cell? ⟨g, 2, none⟩ = some (.int .i64 (y : Int)) := (blk_cell hb 2).trans rfl
  have z1 := blk_frozen hb 1
  obtain ⟨hn, _, hC⟩ := Kd.S_reads' hS
  obtain ⟨oki, c, hcl, hM, hcc, _, hoki, hH⟩ := Kd.S_elem hS [] (y : Int) (by omega) (by omega)
  rw [Int.toNat_natCast] at hcc hM
  have HM := hM
  obtain ⟨u, rfl, hR⟩ := hM
  obtain ⟨p, cp, rfl, hbp, hpl, _⟩ := Kd.R_form hR (by omega)
  have h5 : w.cell? ⟨q, y, none⟩ = some (.slice (some ⟨p, 0, none⟩) (rows.getD y []).length cp) := by simpa [Kd.slice] using hcc 0 _ rfl
  have hpg : p ≠ g ∧ p ≠ q := hoki p (hR.1 p (by simp [Value.ownBlock]))
  obtain ⟨ce, hce, hMe, hcx, hfx⟩ := Kd.R_elem hR 0 (x : Int) (by omega) (by omega)
  have h6 : w.cell? ⟨p, x, none⟩ = some (.int .i64 ((rows.getD y []).getD x 0)) := by
    have e : ce = [.int .i64 ((rows.getD y []).getD x 0)] := hMe
    subst e
    simpa [Kd.int, Kd.scalar] using hcx 0 _ rfl
  have h7 : w.frozen? ⟨p, x, none⟩ = false := by simpa [Kd.int, Kd.scalar] using hfx 0
  have hwb : IntKind.i64.wrap b = b := by rw [IntKind.wrap_i64]; omega
  generalize hrow : rows.getD y [] = row at hlx h5 h6 hR HM hH
  have Hrow := Aside0.mk hrow
  have HL := Aside0.mk hlt
  have d1 : decide ((rows.length : Int) ≤ (y : Int)) = false := decide_eq_false (by omega)
  have d2 : decide ((row.length : Int) ≤ (x : Int)) = false := decide_eq_false (by omega)
  have e1 : decide (rows.length ≤ y) = false := decide_eq_false (by omega)
  have e2 : decide (row.length ≤ x) = false := decide_eq_false (by omega)
  have f1 : (0 ≤ (y : Int)) = True := eq_true (by omega)
  have f2 : ((y : Int) < (rows.length : Int)) = True := eq_true (by omega)
  have f3 : (0 ≤ (x : Int)) = True := eq_true (by omega)
  have f4 : ((x : Int) < (row.length : Int)) = True := eq_true (by omega)
  have f5 : (x : Int) ≤ 1000000000 := by omega
  have HB := Aside0.mk hB
  have HBK := Aside0.mk hb
  have HR := Aside0.mk hR
  have HH := Aside0.mk hH
  have HP := Aside0.mk hpg
  have HG := Aside0.mk hg
  have HX := Aside0.mk hlx
  clear hb hS hC hR hcc hcl hrow hlt hlx hn hx hy hg hB hH hpg HM hoki hce hMe hcx hfx
  go_enter Try.func46, Try.ntmps46
  go_wp2
  go_quiet (fail)
  go_wp2
  have n1 := HP.out.1
  have n2 := HP.out.2
  have n3 : g ≠ p := fun e => n1 e.symm
  have n4 : q ≠ p := fun e => n2 e.symm
  go_region_held3 (fun w' => w'.cell? ⟨g, 0, none⟩ = some (.slice (some ⟨q, 0, none⟩) rows.length cap) ∧ w'.cell? ⟨g, 1, none⟩ = some (.int .i64 (x : Int)) ∧ w'.cell? ⟨g, 2, none⟩ = some (.int .i64 (y : Int)) ∧ w'.cell? ⟨q, y, none⟩ = some (.slice (some ⟨p, 0, none⟩) row.length cp)) (go_keep) (fail)
  have HR2 := (HR.out : Kd.R (Kd.int .i64) 3 w w0.heap.size oki (.slice (some ⟨p, 0, none⟩) row.length cp) row)
  obtain ⟨k1, k2⟩ := Kd.R_putg (enc := Value.int .i64) (h1 := fun _ => rfl) (Kd.R_drewN HR2 (nq + 1)) (x : Int) b
  rw [Int.toNat_natCast] at k1 k2
  have hH2 := Kd.H_grown (Kd.H_drewN HH.out (nq + 1)) k2 (fun k hk => by rw [← Option.some.inj hk]; exact HR2.1 p (by simp [Value.ownBlock]))
  have hS2 := Kd.H_back hH2 (x' := row.set x b) (okp := oki) ⟨_, rfl, k1⟩ (fun _ h => h)
  rw [Int.toNat_natCast] at hS2
  have hb2 := blk_far (p := ⟨p, x, none⟩) (blk_drewN HBK.out (nq + 1)) n3 (.int .i64 b)
  have HB2 := below_set (j := x) (v := .int .i64 b) (pw_below_drewN HB.out (nq + 1)) hbp
  generalize (w.drewN (nq + 1)).setCell ⟨p, x, none⟩ (.int .i64 b) = w2 at hS2 hb2 HB2 ⊢
  have HS3 := Aside0.mk (Kd.S_far (p := ⟨g, 1, none⟩) hS2 (fun _ h => h) (.int .i64 ((x : Int) + 1)))
  have HB3 := Aside0.mk (below_set (j := 1) (v := .int .i64 ((x : Int) + 1)) HB2 HG.out)
  have HK3 := Aside0.mk (blk_put hb2 1 (.int .i64 ((x : Int) + 1)) rfl)
  have m1 : w2.cell? ⟨g, 1, none⟩ = some (.int .i64 (x : Int)) := (blk_cell hb2 1).trans rfl
  have m2 := blk_frozen hb2 1
  clear hS2 hb2 HB2 k1 k2 hH2 HR2 c0 c1 c2 h5 h6 h7 z1
  go_wp2
  go_ret
  refine ⟨rfl, ⟨.slice (some ⟨q, 0, none⟩) rows.length cap, ?_, HG.out, ?_⟩, HB3.out⟩
  · rw [show ((x + 1 : Nat) : Int) = (x : Int) + 1 by omega]
    exact HK3.out
  · unfold putR
    rw [Hrow.out]
    exact HS3.out
end Go.Proofs.Ytgdbinifnhfcjaa.P
-- Written by a program of this session (wip/myprint.py) through the print of the kit: not trusted, Lean checks it.
namespace Go.Proofs.Ytgdbinifnhfcjaa.P
open Go.RowKit Go.Proofs.YtgdbinifnhfcjaaW.PrintWords Go.Proofs.YtgdbinifnhfcjaaW.PrintLast Go.Proofs.YtgdbinifnhfcjaaW.PrintMore
attribute [local go_sem] max2_int min2_int max_two min_two max_three min_three max_four min_four   -- for this text's walks alone
set_option linter.unusedVariables false
set_option linter.unusedSimpArgs false

/-! ### impl_in: function 45 -/
def impl_in.f (a0 : Int) (a1 : Int) (a2 : Int) : Option (Bool) := if a0 ≥ a1 then (some (decide (a0 ≤ a2))) else (some false)
set_option maxHeartbeats 8000000 in
set_option maxRecDepth 100000 in
theorem impl_in.calls (a0 : Int) (a1 : Int) (a2 : Int) (r : Bool) (w : World) (h : impl_in.f a0 a1 a2 = some r) :
    Calls Try.prog 45 #[.int .i64 a0, .int .i64 a1, .int .i64 a2] w fun e w' => e = .returned (.bool r) ∧ Drawn0 w w' := by
  have H : (if a0 ≥ a1 then (some (decide (a0 ≤ a2))) else (some false)) = some r := h
  clear h
  by_cases c4 : a0 ≥ a1
  · rw [if_pos c4] at H
    have c4b0 : decide (a1 ≤ a0) = true := decide_eq_true c4
    clear c4
    obtain rfl := Option.some.inj H
    go_enter Try.func45, Try.ntmps45
    go_wp2
    go_ret
    exact ⟨by first | rfl | (simp; done) | (simp [*]; done), by repeat (first | exact Drawn0.refl _ | apply Drawn0.step)⟩
  · rw [if_neg c4] at H
    have c4b0 : decide (a1 ≤ a0) = false := decide_eq_false c4
    clear c4
    obtain rfl := Option.some.inj H
    go_enter Try.func45, Try.ntmps45
    go_wp2
    go_ret
    exact ⟨by first | rfl | (simp; done) | (simp [*]; done), by repeat (first | exact Drawn0.refl _ | apply Drawn0.step)⟩

end Go.Proofs.Ytgdbinifnhfcjaa.P
