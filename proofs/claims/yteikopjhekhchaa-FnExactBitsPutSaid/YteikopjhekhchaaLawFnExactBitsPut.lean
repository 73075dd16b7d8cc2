/- laws.FnExactBitsPut, the row: at every list of bits and every order the law returns true, and the list reads as it did. (Written after the rows that wip/myprint.py prints; the opening of a list of records by hand.) -/
import Derived.Test.YteikopjhekhchaaRows
import Derived.Test.YteikopjhekhchaaGFnExactBitsPutF11
import Derived.Test.YteikopjhekhchaaHFnExactBitsPut
import Derived.WalkKit
import Derived.ProofKit
import Derived.OpenShut
import Derived.ShutString
import Derived.ChangeOld
import Derived.Below
import Derived.SizedLaws
import Derived.Deep.Slices
import Derived.Deep.Fields
import Derived.Test.YteikopjhekhchaaWSized
namespace Go.Proofs.Yteikopjhekhchaa.fnExactBitsPut
open Go.ChangeShapes Go.WideShapes Go.ChangeAt Go.RowKit
open Go.ChangeMaps (open_string shut_string)
set_option linter.unusedVariables false
theorem own : ownKnob Try.prog.godebug = none := by kernel_rfl
theorem laidOut : laidOutB Try.prog = true := by kernel_rfl
theorem two_of {α : Type} {l : List α} (h : l.length = 2) : ∃ a b, l = [a, b] := by
  match l, h with
  | [a, b], _ => exact ⟨a, b, rfl⟩
/-- A list of records of two ints, as the walk reads it. -/
theorem opened {H : Type} {enc : TypeId × Value → H} {W : World} {held : Bool} {fuel : Nat} {x : DataW H × List MemPlace} {a0 : Option Addr} {len0 cap0 : Nat}
    (h : DataW.trod enc Try.prog W 0 (fun _ => true) held fuel 47 [.slice a0 len0 cap0] = some x) :
    ∃ l : List P.S92, l.length = len0 ∧ len0 ≤ cap0 ∧ len0 ≤ 9223372036854775807 ∧ YteikopjhekhchaaW.PrintWords.Kd.C P.k92 W a0 len0 l := by
  rcases Go.Deep.open_slice Try.underlying47 h with ⟨hcs, _⟩ | ⟨a, len, cap, m, n, D, Pl, hcs, _, hl, hm, hmm, _, hi⟩
  · injection hcs with h1 _
    injection h1 with h1 h2 h3
    subst h1 h2 h3
    exact ⟨[], rfl, by omega, by omega, rfl, by omega, fun h => by omega⟩
  · injection hcs with h1 _
    injection h1 with h1 h2 h3
    subst h1 h2 h3
    have hmm2 : m = cap0 := by simpa using hmm
    have hc2 : Try.prog.cellsOf 92 = 2 := by kernel_rfl
    have key : ∀ i, ∃ s : P.S92, i < m → W.cell? (a.add (i * 2 + 0)) = some (.int .i64 s.f0) ∧ W.cell? (a.add (i * 2 + 1)) = some (.int .i64 s.f1) := by
      intro i
      by_cases him : i < m
      · obtain ⟨cs, hcells, ht⟩ := hi i him
        rw [hc2] at hcells
        obtain ⟨_, hcl, hat⟩ := World.cells?_some hcells
        obtain ⟨ys, n', _, _, _, hyl, hf⟩ := DataW.trod_struct Try.underlying92 ht
        obtain ⟨c0, c1, rfl⟩ := two_of hcl
        have g0 := hf 0 _ rfl
        have g1 := hf 1 _ rfl
        have hy0 : ∃ y, ys[0]? = some y := ⟨ys[0]'(by rw [hyl]; decide), List.getElem?_eq_getElem _⟩
        have hy1 : ∃ y, ys[1]? = some y := ⟨ys[1]'(by rw [hyl]; decide), List.getElem?_eq_getElem _⟩
        obtain ⟨y0, hy0⟩ := hy0
        obtain ⟨y1, hy1⟩ := hy1
        rw [hy0] at g0
        rw [hy1] at g1
        obtain ⟨z0, hz0, _, _⟩ := DataW.trod_int (k := .i64) (by kernel_rfl) g0
        obtain ⟨z1, hz1, _, _⟩ := DataW.trod_int (k := .i64) (by kernel_rfl) g1
        have e0 : c0 = .int .i64 z0 := by
          have hc3 : Try.prog.cellsOf 3 = 1 := by kernel_rfl
          simpa [hc3] using hz0
        have e1 : c1 = .int .i64 z1 := by
          have hc3 : Try.prog.cellsOf 3 = 1 := by kernel_rfl
          simpa [hc3] using hz1
        refine ⟨⟨z0, z1⟩, fun _ => ⟨?_, ?_⟩⟩
        · rw [← Go.Deep.add_add, hat 0 (by decide), e0]; rfl
        · rw [← Go.Deep.add_add, hat 1 (by decide), e1]; rfl
      · exact ⟨⟨0, 0⟩, fun h => absurd h him⟩
    obtain ⟨f, hf⟩ : ∃ f : Nat → P.S92, ∀ i, i < m → W.cell? (a.add (i * 2 + 0)) = some (.int .i64 (f i).f0) ∧ W.cell? (a.add (i * 2 + 1)) = some (.int .i64 (f i).f1) :=
      ⟨fun i => Classical.choose (key i), fun i => Classical.choose_spec (key i)⟩
    have hml : maxLen ≤ 9223372036854775807 := by decide
    refine ⟨(List.range len0).map f, by simp, hl, by omega, by simp, by omega, fun _ => ⟨a, rfl, fun j p hj => ?_⟩⟩
    have hjl : j < len0 := by
      have := (List.getElem?_eq_some_iff.1 hj).1
      simpa using this
    rw [List.getElem?_map, List.getElem?_range hjl] at hj
    have hj : f j = p := Option.some.inj hj
    subst hj
    obtain ⟨g0, g1⟩ := hf j (by omega)
    refine ⟨[.int .i64 (f j).f0, .int .i64 (f j).f1], rfl, P.k92_mk W (f j), fun i u hu => ?_⟩
    match i, hu with
    | 0, hu => rw [← Option.some.inj hu]; exact g0
    | 1, hu => rw [← Option.some.inj hu]; exact g1
set_option maxRecDepth 100000 in
theorem lifted (os : Os) (started : os.Started) (H : Type) (enc : TypeId × Value → H) :
    ReturnsInHanded {} Try.checked os 11 .any (Rows.fnExactBitsPutSpec.pre6 enc Try.prog Try.f11 Rows.fnExactBitsPutRow.domain false) (Rows.fnExactBitsPutSpec.post enc Try.prog Try.f11 false true false false) := by
  refine returnsInHanded_of_change_sized (C := Try.checked) own started (by kernel_rfl) Try.func11
    (ChangeSpec.witness6 (enc := enc) (C := Try.checked) false ⟨#[], #[.slice none 0 0, .bool false], []⟩ 8 (by kernel_rfl) (by kernel_rfl) (by kernel_rfl) (by kernel_rfl)) ?_
  intro W base args ds gs before hval0 hW hcnd hsz0 _
  have hval : ∀ (j : Nat) t v, Try.f11.params[j]? = some t → args[j]? = some v → Value.okWide Try.prog W .any base t v := hval0
  have hW' := hW
  obtain ⟨p, q, hA0, hV, rfl, hfz, hnd⟩ := hW
  have hA : DataW.TrodAll enc Try.prog W 0 (fun _ => true) true Try.f11.params.toList args.toList ds p := hA0
  rw [Try.params11] at hA hval
  obtain ⟨v0, vs0, d0, ds0, p0, q0, hargs, rfl, rfl, h0, r0⟩ := trodAll_cons hA
  obtain ⟨v1, vs1, d1, ds1, p1, q1, rfl, rfl, rfl, h1, r1⟩ := trodAll_cons r0
  obtain ⟨rfl, rfl, rfl⟩ := trodAll_nil r1
  obtain rfl : args = #[v0, v1] := by cases args; simp_all
  obtain ⟨rfl, rfl⟩ := trodVars_none hV
  obtain ⟨a0, len0, cap0, rfl⟩ := okWide_slice Try.underlying47 (hval 0 47 v0 rfl rfl)
  have k0 := h0
  have lt0 : ∀ x ∈ p0, x.block < W.heap.size := by obtain ⟨m, hm⟩ := k0; exact DataW.trod_lt m _ _ _ hm
  obtain ⟨l0, hlen, hcap, hsz, hC⟩ : ∃ l : List P.S92, l.length = len0 ∧ len0 ≤ cap0 ∧ len0 ≤ 9223372036854775807 ∧ YteikopjhekhchaaW.PrintWords.Kd.C P.k92 W a0 len0 l := by
    obtain ⟨fuel, hf⟩ := h0
    exact opened (by simpa [Value.cells] using hf)
  obtain ⟨b1, rfl, rfl, rfl⟩ := open_bool Try.underlying4 (hval 1 4 v1 rfl rfl) h1
  subst hlen
  obtain ⟨k, hk⟩ := Pure.FnExactBitsPut l0 b1 hsz
  clear hA0 hval0 hsz0
  refine (P.laws_FnExactBitsPut.calls k a0 cap0 l0 b1 true W hC hcap hk).mono fun e W' ⟨he, bel⟩ => ?_
  subst he
  exact ⟨_, rfl, _, _, _, [], _, [], hW', trodAll_mk1 (shut_bool Try.underlying4 _), (trodAll_cons_mk (Below.trod laidOut (by kernel_rfl) (of_decide_eq_true (by kernel_rfl)) k0 bel lt0) (trodAll_cons_mk (shut_bool Try.underlying4 _) trodAll_mk0)), rfl, bel.frame _, fun h => by cases h⟩
theorem over : Rows.fnExactBitsPutRow.holds Try.pinned (OpenSpec.ofChange Rows.fnExactBitsPutSpec) :=
  OpenClaim.holds_of_wide 11 Try.f11 rfl rfl rfl rfl rfl rfl rfl ⟨rfl, rfl, rfl, rfl, rfl⟩ rfl rfl rfl rfl rfl (by kernel_rfl) Try.func11 (by kernel_rfl)
    (of_decide_eq_true (by kernel_rfl)) (by unfold Func.isWrapper; first | (rw [if_pos (by decide +kernel)]; kernel_rfl) | (rw [if_neg (by decide +kernel)]; exact ⟨rfl, rfl⟩))
    (fun os started H enc _ => lifted os started H enc)
theorem proved : Rows.FnExactBitsPutSaid := over
#print axioms proved
end Go.Proofs.Yteikopjhekhchaa.fnExactBitsPut
namespace Go.Proofs.Yteikopjhekhchaa
/-- The row, under a short name, for the claim. -/
theorem fnExactBitsPut_holds : Rows.FnExactBitsPutSaid := fnExactBitsPut.proved
end Go.Proofs.Yteikopjhekhchaa
