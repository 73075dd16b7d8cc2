/- laws.FnExactRep, the row: at every form and picture the law returns true, and the picture reads as it did. (Written after the rows that wip/myprint.py prints; the opening of a picture by hand.) -/
import Derived.Test.YtjcamejbdcaokaaRows
import Derived.Test.YtjcamejbdcaokaaF7
import Derived.Test.YtjcamejbdcaokaaPureFnExactRep
import Derived.WalkKit
import Derived.ProofKit
import Derived.OpenShut
import Derived.ShutString
import Derived.ChangeOld
import Derived.Below
import Derived.SizedLaws
import Derived.Test.YtjcamejbdcaokaaWSized
namespace Go.Proofs.Ytjcamejbdcaokaa.fnExactRep
open Go.ChangeShapes Go.WideShapes Go.ChangeAt Go.RowKit Go.Proofs.YtjcamejbdcaokaaW.PrintWords
open Go.ChangeMaps (open_string shut_string)
set_option linter.unusedVariables false
theorem own : ownKnob Try.prog.godebug = none := by kernel_rfl
theorem laidOut : laidOutB Try.prog = true := by kernel_rfl
def IsRow (k : IntKind) (w : World) (a : Option Addr) (len cap : Nat) (zs : List Int) : Prop :=
  (a = none ∧ len = 0 ∧ cap = 0 ∧ zs = []) ∨
  ∃ x, a = some x ∧ len ≤ cap ∧ cap ≤ maxLen ∧ zs.length = cap ∧ (∀ i, i < zs.length → w.cell? (x.add i) = some (.int k (zs.getD i 0))) ∧ ∀ n ∈ zs, (Lit.int k n).wf = true
theorem six_of {α : Type} {l : List α} (h : l.length = 6) : ∃ a b c d e f, l = [a, b, c, d, e, f] := by
  match l, h with
  | [a, b, c, d, e, f], _ => exact ⟨a, b, c, d, e, f, rfl⟩
theorem rowOf {H : Type} {enc : TypeId × Value → H} {W : World} {held : Bool} {fuel : Nat} {v : Value} {x : DataW H × List MemPlace}
    (h : DataW.trod enc Try.prog W 0 (fun _ => true) held fuel 42 [v] = some x) : ∃ a len cap zs, v = .slice a len cap ∧ IsRow .i64 W a len cap zs := by
  rcases open_ints Try.underlying42 Try.underlying3 (by kernel_rfl) h with ⟨hcs, _⟩ | ⟨x, l, c, zs, hcs, _, hl, hm, hz, _, hcell, hwz⟩
  · injection hcs with h1 _
    exact ⟨none, 0, 0, [], h1, .inl ⟨rfl, rfl, rfl, rfl⟩⟩
  · injection hcs with h1 _
    exact ⟨_, l, c, zs, h1, .inr ⟨_, rfl, hl, hm, by simpa using hz, hcell, hwz⟩⟩
/-- A picture, as the walk reads it. -/
theorem opened {H : Type} {enc : TypeId × Value → H} {W : World} {held : Bool} {fuel : Nat} {cs : List Value} {x : DataW H × List MemPlace} (hlen : cs.length = 6)
    (h : DataW.trod enc Try.prog W 0 (fun _ => true) held fuel 44 cs = some x) :
    ∃ n0 n1 n2 n3 A4 len4 cap4 z4 A5 len5 cap5 z5, cs = [.int .i64 n0, .int .i64 n1, .int .i64 n2, .int .i64 n3, .slice A4 len4 cap4, .slice A5 len5 cap5] ∧ IsRow .i64 W A4 len4 cap4 z4 ∧ IsRow .i64 W A5 len5 cap5 z5 := by
  obtain ⟨ys, n', _, _, _, hyl, hf⟩ := DataW.trod_struct Try.underlying44 h
  obtain ⟨c0, c1, c2, c3, c4, c5, rfl⟩ := six_of hlen
  have hc3 : Try.prog.cellsOf 3 = 1 := by kernel_rfl
  have hcs : Try.prog.cellsOf 42 = 1 := by kernel_rfl
  have hy : ∀ i, i < 6 → ∃ y, ys[i]? = some y := fun i hi => ⟨ys[i]'(by rw [hyl]; exact hi), List.getElem?_eq_getElem _⟩
  obtain ⟨y0, hy0⟩ := hy 0 (by decide)
  obtain ⟨y1, hy1⟩ := hy 1 (by decide)
  obtain ⟨y2, hy2⟩ := hy 2 (by decide)
  obtain ⟨y3, hy3⟩ := hy 3 (by decide)
  obtain ⟨y4, hy4⟩ := hy 4 (by decide)
  obtain ⟨y5, hy5⟩ := hy 5 (by decide)
  have g0 := hf 0 _ rfl
  have g1 := hf 1 _ rfl
  have g2 := hf 2 _ rfl
  have g3 := hf 3 _ rfl
  have g4 := hf 4 _ rfl
  have g5 := hf 5 _ rfl
  rw [hy0] at g0
  rw [hy1] at g1
  rw [hy2] at g2
  rw [hy3] at g3
  rw [hy4] at g4
  rw [hy5] at g5
  obtain ⟨n0, hz0, _, _⟩ := DataW.trod_int (k := .i64) (by kernel_rfl) g0
  obtain ⟨n1, hz1, _, _⟩ := DataW.trod_int (k := .i64) (by kernel_rfl) g1
  obtain ⟨n2, hz2, _, _⟩ := DataW.trod_int (k := .i64) (by kernel_rfl) g2
  obtain ⟨n3, hz3, _, _⟩ := DataW.trod_int (k := .i64) (by kernel_rfl) g3
  have g4' : DataW.trod enc Try.prog W 0 (fun _ => true) held n' 42 [c4] = some y4 := by simpa [hcs] using g4
  have g5' : DataW.trod enc Try.prog W 0 (fun _ => true) held n' 42 [c5] = some y5 := by simpa [hcs] using g5
  obtain ⟨A4, len4, cap4, z4, e4, r4⟩ := rowOf g4'
  obtain ⟨A5, len5, cap5, z5, e5, r5⟩ := rowOf g5'
  have e0 : c0 = .int .i64 n0 := by simpa [hc3] using hz0
  have e1 : c1 = .int .i64 n1 := by simpa [hc3] using hz1
  have e2 : c2 = .int .i64 n2 := by simpa [hc3] using hz2
  have e3 : c3 = .int .i64 n3 := by simpa [hc3] using hz3
  exact ⟨n0, n1, n2, n3, A4, len4, cap4, z4, A5, len5, cap5, z5, by rw [e0, e1, e2, e3, e4, e5], r4, r5⟩
set_option maxRecDepth 100000 in
theorem lifted (os : Os) (started : os.Started) (H : Type) (enc : TypeId × Value → H) :
    ReturnsInHanded {} Try.checked os 7 .any (Rows.fnExactRepSpec.pre6 enc Try.prog Try.f7 Rows.fnExactRepRow.domain false) (Rows.fnExactRepSpec.post enc Try.prog Try.f7 false true false false) := by
  refine returnsInHanded_of_change_sized (C := Try.checked) own started (by kernel_rfl) Try.func7
    (ChangeSpec.witness6 (enc := enc) (C := Try.checked) false ⟨#[], #[.int .i64 0, .agg #[.int .i64 0, .int .i64 0, .int .i64 0, .int .i64 0, .slice none 0 0, .slice none 0 0]], []⟩ 8 (by kernel_rfl) (by kernel_rfl) (by kernel_rfl) (by kernel_rfl)) ?_
  intro W base args ds gs before hval0 hW hcnd hsz0 _
  have hval : ∀ (j : Nat) t v, Try.f7.params[j]? = some t → args[j]? = some v → Value.okWide Try.prog W .any base t v := hval0
  have hW' := hW
  obtain ⟨p, q, hA0, hV, rfl, hfz, hnd⟩ := hW
  have hA : DataW.TrodAll enc Try.prog W 0 (fun _ => true) true Try.f7.params.toList args.toList ds p := hA0
  rw [Try.params7] at hA hval
  obtain ⟨v0, vs0, d0, ds0, p0, q0, hargs, rfl, rfl, h0, r0⟩ := trodAll_cons hA
  obtain ⟨v1, vs1, d1, ds1, p1, q1, rfl, rfl, rfl, h1, r1⟩ := trodAll_cons r0
  obtain ⟨rfl, rfl, rfl⟩ := trodAll_nil r1
  obtain rfl : args = #[v0, v1] := by cases args; simp_all
  obtain ⟨rfl, rfl⟩ := trodVars_none hV
  obtain ⟨a0, rfl, rfl, rfl, w0⟩ := open_int Try.underlying3 (hval 0 3 v0 rfl rfl) h0
  obtain ⟨cs, rfl, hsz⟩ := okWide_struct Try.underlying44 (hval 1 44 v1 rfl rfl)
  have k1 := h1
  have lt1 : ∀ x ∈ p1, x.block < W.heap.size := by obtain ⟨m, hm⟩ := k1; exact DataW.trod_lt m _ _ _ hm
  have hc6 : Try.prog.cellsOf 44 = 6 := by kernel_rfl
  rw [hc6] at hsz
  obtain ⟨l⟩ := cs
  obtain ⟨n0, n1, n2, n3, A4, len4, cap4, z4, A5, len5, cap5, z5, rfl, r4, r5⟩ : ∃ n0 n1 n2 n3 A4 len4 cap4 z4 A5 len5 cap5 z5, l = [.int .i64 n0, .int .i64 n1, .int .i64 n2, .int .i64 n3, .slice A4 len4 cap4, .slice A5 len5 cap5] ∧ IsRow .i64 W A4 len4 cap4 z4 ∧ IsRow .i64 W A5 len5 cap5 z5 := by
    obtain ⟨fuel, hf⟩ := h1
    exact opened hsz (by simpa [Value.cells] using hf)
  obtain ⟨l4, rfl, hr4, hm4, _, hc4⟩ := ReadsInt.ofRowC r4
  obtain ⟨l5, rfl, hr5, hm5, _, hc5⟩ := ReadsInt.ofRowC r5
  have hml : maxLen ≤ 9223372036854775807 := by decide
  obtain ⟨k, hk⟩ := Pure.FnExactRep a0 n0 n1 n2 n3 l4 l5 (Nat.le_trans hm4 hml) (Nat.le_trans hm5 hml)
  clear hA0 hval0 hsz0
  refine (P.laws_FnExactRep.calls k a0 n0 n1 n2 n3 A4 cap4 l4 A5 cap5 l5 true W (Kd.C_of_reads (d := (0 : Int)) (h1 := fun _ => rfl) hr4) hc4 (Kd.C_of_reads (d := (0 : Int)) (h1 := fun _ => rfl) hr5) hc5 hk).mono fun e W' ⟨he, bel⟩ => ?_
  subst he
  exact ⟨_, rfl, _, _, _, [], _, [], hW', trodAll_mk1 (shut_bool Try.underlying4 _), (trodAll_cons_mk (shut_int Try.underlying3 w0) (trodAll_cons_mk (Below.trod laidOut (by kernel_rfl) (of_decide_eq_true (by kernel_rfl)) k1 bel lt1) trodAll_mk0)), rfl, bel.frame _, fun h => by cases h⟩
theorem over : Rows.fnExactRepRow.holds Try.pinned (OpenSpec.ofChange Rows.fnExactRepSpec) :=
  OpenClaim.holds_of_wide 7 Try.f7 rfl rfl rfl rfl rfl rfl rfl ⟨rfl, rfl, rfl, rfl, rfl⟩ rfl rfl rfl rfl rfl (by kernel_rfl) Try.func7 (by kernel_rfl)
    (of_decide_eq_true (by kernel_rfl)) (by unfold Func.isWrapper; first | (rw [if_pos (by decide +kernel)]; kernel_rfl) | (rw [if_neg (by decide +kernel)]; exact ⟨rfl, rfl⟩))
    (fun os started H enc _ => lifted os started H enc)
theorem proved : Rows.FnExactRepSaid := over
#print axioms proved
end Go.Proofs.Ytjcamejbdcaokaa.fnExactRep
namespace Go.Proofs.Ytjcamejbdcaokaa
/-- The row, under a short name, for the claim. -/
theorem fnExactRep_holds : Rows.FnExactRepSaid := fnExactRep.proved
end Go.Proofs.Ytjcamejbdcaokaa
