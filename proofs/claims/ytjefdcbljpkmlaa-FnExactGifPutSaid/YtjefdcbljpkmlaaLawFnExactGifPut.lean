/- laws.FnExactGifPut, the row: at every argument the law returns true, and what came in reads as it did. -/
import Derived.Test.YtjefdcbljpkmlaaRows
import Derived.Test.YtjefdcbljpkmlaaKFnExactGifPut39
import Derived.WalkKit
import Derived.ProofKit
import Derived.OpenShut
import Derived.ShutString
import Derived.ChangeOld
import Derived.Below
import Derived.SizedLaws
namespace Go.Proofs.Ytjefdcbljpkmlaa.fnExactGifPut
open Go.ChangeShapes Go.WideShapes Go.ChangeAt Go.RowKit
open Go.ChangeMaps (open_string shut_string)
set_option linter.unusedVariables false
theorem own : ownKnob Try.prog.godebug = none := by kernel_rfl
theorem laidOut : laidOutB Try.prog = true := by kernel_rfl
def IsRow (k : IntKind) (w : World) (a : Option Addr) (len cap : Nat) (zs : List Int) : Prop :=
  (a = none ∧ len = 0 ∧ cap = 0 ∧ zs = []) ∨
  ∃ x, a = some x ∧ len ≤ cap ∧ cap ≤ maxLen ∧ zs.length = cap ∧ (∀ i, i < zs.length → w.cell? (x.add i) = some (.int k (zs.getD i 0))) ∧ ∀ n ∈ zs, (Lit.int k n).wf = true
theorem six_of {α : Type} {l : List α} (h : l.length = 6) : ∃ a b c d e f, l = [a, b, c, d, e, f] := by
  match l, h with
  | [a, b, c, d, e, f], _ => exact ⟨a, b, c, d, e, f, rfl⟩
theorem rowOf {H : Type} {enc : TypeId × Value → H} {W : World} {held : Bool} {fuel : Nat} {v : Value} {x : DataW H × List MemPlace}
    (h : DataW.trod enc Try.prog W 0 (fun _ => true) held fuel 22 [v] = some x) : ∃ a len cap zs, v = .slice a len cap ∧ IsRow .i64 W a len cap zs := by
  rcases open_ints Try.underlying22 Try.underlying3 (by kernel_rfl) h with ⟨hcs, _⟩ | ⟨x, l, c, zs, hcs, _, hl, hm, hz, _, hcell, hwz⟩
  · injection hcs with h1 _
    exact ⟨none, 0, 0, [], h1, .inl ⟨rfl, rfl, rfl, rfl⟩⟩
  · injection hcs with h1 _
    exact ⟨_, l, c, zs, h1, .inr ⟨_, rfl, hl, hm, by simpa using hz, hcell, hwz⟩⟩
/-- A picture, as the walk reads it. -/
theorem opened {H : Type} {enc : TypeId × Value → H} {W : World} {held : Bool} {fuel : Nat} {cs : List Value} {x : DataW H × List MemPlace} (hlen : cs.length = 6)
    (h : DataW.trod enc Try.prog W 0 (fun _ => true) held fuel 24 cs = some x) :
    ∃ n0 n1 n2 n3 A4 len4 cap4 z4 A5 len5 cap5 z5, cs = [.int .i64 n0, .int .i64 n1, .int .i64 n2, .int .i64 n3, .slice A4 len4 cap4, .slice A5 len5 cap5] ∧ IsRow .i64 W A4 len4 cap4 z4 ∧ IsRow .i64 W A5 len5 cap5 z5 := by
  obtain ⟨ys, n', _, _, _, hyl, hf⟩ := DataW.trod_struct Try.underlying24 h
  obtain ⟨c0, c1, c2, c3, c4, c5, rfl⟩ := six_of hlen
  have hc3 : Try.prog.cellsOf 3 = 1 := by kernel_rfl
  have hcs : Try.prog.cellsOf 22 = 1 := by kernel_rfl
  have hy : ∀ i, i < 6 → ∃ y, ys[i]? = some y := fun i hi => ⟨ys[i]'(by rw [hyl]; exact hi), List.getElem?_eq_getElem _⟩
  obtain ⟨y0, hy0⟩ := hy 0 (by decide)
  obtain ⟨y1, hy1⟩ := hy 1 (by decide)
  obtain ⟨y2, hy2⟩ := hy 2 (by decide)
  obtain ⟨y3, hy3⟩ := hy 3 (by decide)
  obtain ⟨y4, hy4⟩ := hy 4 (by decide)
  obtain ⟨y5, hy5⟩ := hy 5 (by decide)
  have g0 := hf 0 _ rfl
  have g1 := hf 1 _ rfl
  have g2 := hf 2 _ rfl
  have g3 := hf 3 _ rfl
  have g4 := hf 4 _ rfl
  have g5 := hf 5 _ rfl
  rw [hy0] at g0
  rw [hy1] at g1
  rw [hy2] at g2
  rw [hy3] at g3
  rw [hy4] at g4
  rw [hy5] at g5
  obtain ⟨n0, hz0, _, _⟩ := DataW.trod_int (k := .i64) (by kernel_rfl) g0
  obtain ⟨n1, hz1, _, _⟩ := DataW.trod_int (k := .i64) (by kernel_rfl) g1
  obtain ⟨n2, hz2, _, _⟩ := DataW.trod_int (k := .i64) (by kernel_rfl) g2
  obtain ⟨n3, hz3, _, _⟩ := DataW.trod_int (k := .i64) (by kernel_rfl) g3
  have g4' : DataW.trod enc Try.prog W 0 (fun _ => true) held n' 22 [c4] = some y4 := by simpa [hcs] using g4
  have g5' : DataW.trod enc Try.prog W 0 (fun _ => true) held n' 22 [c5] = some y5 := by simpa [hcs] using g5
  obtain ⟨A4, len4, cap4, z4, e4, r4⟩ := rowOf g4'
  obtain ⟨A5, len5, cap5, z5, e5, r5⟩ := rowOf g5'
  have e0 : c0 = .int .i64 n0 := by simpa [hc3] using hz0
  have e1 : c1 = .int .i64 n1 := by simpa [hc3] using hz1
  have e2 : c2 = .int .i64 n2 := by simpa [hc3] using hz2
  have e3 : c3 = .int .i64 n3 := by simpa [hc3] using hz3
  exact ⟨n0, n1, n2, n3, A4, len4, cap4, z4, A5, len5, cap5, z5, by rw [e0, e1, e2, e3, e4, e5], r4, r5⟩
set_option maxRecDepth 100000 in
theorem lifted (os : Os) (started : os.Started) (H : Type) (enc : TypeId × Value → H) :
    ReturnsInHanded {} Try.checked os 11 .any (Rows.fnExactGifPutSpec.pre6 enc Try.prog Try.f11 Rows.fnExactGifPutRow.domain false) (Rows.fnExactGifPutSpec.post enc Try.prog Try.f11 false true false false) := by
  refine returnsInHanded_of_change_sized (C := Try.checked) own started (by kernel_rfl) Try.func11
    (ChangeSpec.witness6 (enc := enc) (C := Try.checked) false ⟨#[], #[.agg #[.int .i64 0, .int .i64 0, .int .i64 0, .int .i64 0, .slice none 0 0, .slice none 0 0], .bool false], []⟩ 8 (by kernel_rfl) (by kernel_rfl) (by kernel_rfl) (by kernel_rfl)) ?_
  intro W base args ds gs before hval0 hW hcnd hsz0 _
  have hval : ∀ (j : Nat) t v, Try.f11.params[j]? = some t → args[j]? = some v → Value.okWide Try.prog W .any base t v := hval0
  have hW' := hW
  obtain ⟨p, q, hA0, hV, rfl, hfz, hnd⟩ := hW
  have hA : DataW.TrodAll enc Try.prog W 0 (fun _ => true) true Try.f11.params.toList args.toList ds p := hA0
  rw [Try.params11] at hA hval
  obtain ⟨v0, vs0, d0, ds0, p0, q0, hargs, rfl, rfl, h0, r0⟩ := trodAll_cons hA
  obtain ⟨v1, vs1, d1, ds1, p1, q1, rfl, rfl, rfl, h1, r1⟩ := trodAll_cons r0
  obtain ⟨rfl, rfl, rfl⟩ := trodAll_nil r1
  obtain rfl : args = #[v0, v1] := by cases args; simp_all
  obtain ⟨rfl, rfl⟩ := trodVars_none hV
  have hml : maxLen ≤ 9223372036854775807 := by decide
  obtain ⟨cs0, rfl, hsz0⟩ := okWide_struct Try.underlying24 (hval 0 24 v0 rfl rfl)
  have k0 := h0
  have lt0 : ∀ x ∈ p0, x.block < W.heap.size := by obtain ⟨m, hm⟩ := k0; exact DataW.trod_lt m _ _ _ hm
  have hc60 : Try.prog.cellsOf 24 = 6 := by kernel_rfl
  rw [hc60] at hsz0
  obtain ⟨l0⟩ := cs0
  obtain ⟨n00, n10, n20, n30, A40, len40, cap40, z40, A50, len50, cap50, z50, rfl, r40, r50⟩ : ∃ n0 n1 n2 n3 A4 len4 cap4 z4 A5 len5 cap5 z5, l0 = [.int .i64 n0, .int .i64 n1, .int .i64 n2, .int .i64 n3, .slice A4 len4 cap4, .slice A5 len5 cap5] ∧ IsRow .i64 W A4 len4 cap4 z4 ∧ IsRow .i64 W A5 len5 cap5 z5 := by
    obtain ⟨fuel, hf⟩ := h0
    exact opened hsz0 (by simpa [Value.cells] using hf)
  obtain ⟨a1, rfl, rfl, rfl⟩ := open_bool Try.underlying4 (hval 1 4 v1 rfl rfl) h1
  clear hA0 hval0 hsz0
  refine (P.law_FnExactGifPut n00 n10 n20 n30 A40 len40 cap40 z40 A50 len50 cap50 z50 a1 W r40 r50 ).mono fun e W' ⟨he, bel⟩ => ?_
  subst he
  exact ⟨_, rfl, _, _, _, [], _, [], hW', trodAll_mk1 (shut_bool Try.underlying4 _), (trodAll_cons_mk (Below.trod laidOut (by kernel_rfl) (of_decide_eq_true (by kernel_rfl)) k0 bel lt0) (trodAll_cons_mk (shut_bool Try.underlying4 _) trodAll_mk0)), rfl, bel.frame _, fun h => by cases h⟩
theorem over : Rows.fnExactGifPutRow.holds Try.pinned (OpenSpec.ofChange Rows.fnExactGifPutSpec) :=
  OpenClaim.holds_of_wide 11 Try.f11 rfl rfl rfl rfl rfl rfl rfl ⟨rfl, rfl, rfl, rfl, rfl⟩ rfl rfl rfl rfl rfl (by kernel_rfl) Try.func11 (by kernel_rfl)
    (of_decide_eq_true (by kernel_rfl)) (by unfold Func.isWrapper; first | (rw [if_pos (by decide +kernel)]; kernel_rfl) | (rw [if_neg (by decide +kernel)]; exact ⟨rfl, rfl⟩))
    (fun os started H enc _ => lifted os started H enc)
theorem proved : Rows.FnExactGifPutSaid := over
#print axioms proved
end Go.Proofs.Ytjefdcbljpkmlaa.fnExactGifPut
namespace Go.Proofs.Ytjefdcbljpkmlaa
/-- The row, under a short name, for the claim. -/
theorem fnExactGifPut_holds : Rows.FnExactGifPutSaid := fnExactGifPut.proved
end Go.Proofs.Ytjefdcbljpkmlaa
