/- laws.FnExactChunksPut, the row and its tied card: at every list of pieces the law returns true, and the list reads as it did. (Written after the rows that wip/myprint.py prints; the opening of a list of records of two texts, and the card, by hand.) -/
import Derived.Test.YtdhpekdfpoeboaaDoorRows
import Derived.Test.YtdhpekdfpoeboaaDoorCards
import Derived.Test.YtdhpekdfpoeboaaDoorTie
import Derived.Test.YtdhpekdfpoeboaaDoorF3
import Derived.Test.YtdhpekdfpoeboaaDoorPureFnExactChunksPut
import Derived.WalkKit
import Derived.ProofKit
import Derived.OpenShut
import Derived.ShutString
import Derived.ChangeOld
import Derived.Below
import Derived.SizedLaws
import Derived.Deep.Slices
import Derived.Deep.Fields
import Derived.LaidMore
import Derived.Lay
import Derived.SevenTiedAt
import Derived.Stop.Joined
import Derived.Test.YtdhpekdfpoeboaaDoorWSized
namespace Go.Proofs.YtdhpekdfpoeboaaDoor.fnExactChunksPut
open Go.ChangeShapes Go.WideShapes Go.ChangeAt Go.RowKit
open Go.ChangeMaps (open_string shut_string)
set_option linter.unusedVariables false
theorem own : ownKnob Tryd.prog.godebug = none := by kernel_rfl
theorem laidOut : laidOutB Tryd.prog = true := by kernel_rfl
theorem two_of {α : Type} {l : List α} (h : l.length = 2) : ∃ a b, l = [a, b] := by
  match l, h with
  | [a, b], _ => exact ⟨a, b, rfl⟩
/-- A list of records of two texts, as the walk reads it. -/
theorem opened {H : Type} {enc : TypeId × Value → H} {W : World} {held : Bool} {fuel : Nat} {x : DataW H × List MemPlace} {a0 : Option Addr} {len0 cap0 : Nat}
    (h : DataW.trod enc Tryd.prog W 0 (fun _ => true) held fuel 22 [.slice a0 len0 cap0] = some x) :
    ∃ l : List P.S40, l.length = len0 ∧ len0 ≤ cap0 ∧ len0 ≤ 9223372036854775807 ∧ (∀ c ∈ l, c.f0.size ≤ 9223372036854775807 ∧ c.f1.size ≤ 9223372036854775807) ∧ YtdhpekdfpoeboaaDoorW.PrintWords.Kd.C P.k40 W a0 len0 l := by
  have hml : maxLen ≤ 9223372036854775807 := by decide
  rcases Go.Deep.open_slice Tryd.underlying22 h with ⟨hcs, _⟩ | ⟨a, len, cap, m, n, D, Pl, hcs, _, hl, hm, hmm, _, hi⟩
  · injection hcs with h1 _
    injection h1 with h1 h2 h3
    subst h1 h2 h3
    exact ⟨[], rfl, by omega, by omega, (fun c hc => by cases hc), rfl, by omega, fun h => by omega⟩
  · injection hcs with h1 _
    injection h1 with h1 h2 h3
    subst h1 h2 h3
    have hmm2 : m = cap0 := by simpa using hmm
    have hc2 : Tryd.prog.cellsOf 40 = 2 := by kernel_rfl
    have hc9 : Tryd.prog.cellsOf 9 = 1 := by kernel_rfl
    have key : ∀ i, ∃ s : P.S40, (s.f0.size ≤ 9223372036854775807 ∧ s.f1.size ≤ 9223372036854775807) ∧ (i < m → W.cell? (a.add (i * 2 + 0)) = some (.string s.f0) ∧ W.cell? (a.add (i * 2 + 1)) = some (.string s.f1)) := by
      intro i
      by_cases him : i < m
      · obtain ⟨cs, hcells, ht⟩ := hi i him
        rw [hc2] at hcells
        obtain ⟨_, hcl, hat⟩ := World.cells?_some hcells
        obtain ⟨ys, n', _, _, _, hyl, hf⟩ := DataW.trod_struct Tryd.underlying40 ht
        obtain ⟨c0, c1, rfl⟩ := two_of hcl
        have g0 := hf 0 _ rfl
        have g1 := hf 1 _ rfl
        have hy0 : ∃ y, ys[0]? = some y := ⟨ys[0]'(by rw [hyl]; decide), List.getElem?_eq_getElem _⟩
        have hy1 : ∃ y, ys[1]? = some y := ⟨ys[1]'(by rw [hyl]; decide), List.getElem?_eq_getElem _⟩
        obtain ⟨y0, hy0⟩ := hy0
        obtain ⟨y1, hy1⟩ := hy1
        rw [hy0] at g0
        rw [hy1] at g1
        obtain ⟨z0, hz0, _, hs0⟩ := DataW.trod_string (by kernel_rfl) g0
        obtain ⟨z1, hz1, _, hs1⟩ := DataW.trod_string (by kernel_rfl) g1
        have e0 : c0 = .string z0 := by simpa [hc9] using hz0
        have e1 : c1 = .string z1 := by simpa [hc9] using hz1
        refine ⟨⟨z0, z1⟩, ⟨Nat.le_trans hs0 hml, Nat.le_trans hs1 hml⟩, fun _ => ⟨?_, ?_⟩⟩
        · rw [← Go.Deep.add_add, hat 0 (by decide), e0]; rfl
        · rw [← Go.Deep.add_add, hat 1 (by decide), e1]; rfl
      · exact ⟨⟨⟨#[]⟩, ⟨#[]⟩⟩, ⟨by decide, by decide⟩, fun h => absurd h him⟩
    obtain ⟨f, hfs, hf⟩ : ∃ f : Nat → P.S40, (∀ i, (f i).f0.size ≤ 9223372036854775807 ∧ (f i).f1.size ≤ 9223372036854775807) ∧ ∀ i, i < m → W.cell? (a.add (i * 2 + 0)) = some (.string (f i).f0) ∧ W.cell? (a.add (i * 2 + 1)) = some (.string (f i).f1) :=
      ⟨fun i => Classical.choose (key i), fun i => (Classical.choose_spec (key i)).1, fun i => (Classical.choose_spec (key i)).2⟩
    refine ⟨(List.range len0).map f, by simp, hl, by omega, fun c hc => ?_, by simp, by omega, fun _ => ⟨a, rfl, fun j p hj => ?_⟩⟩
    · obtain ⟨i, _, rfl⟩ := List.mem_map.1 hc
      exact hfs i
    have hjl : j < len0 := by
      have := (List.getElem?_eq_some_iff.1 hj).1
      simpa using this
    rw [List.getElem?_map, List.getElem?_range hjl] at hj
    have hj : f j = p := Option.some.inj hj
    subst hj
    obtain ⟨g0, g1⟩ := hf j (by omega)
    refine ⟨[.string (f j).f0, .string (f j).f1], rfl, P.k40_mk W (f j), fun i u hu => ?_⟩
    match i, hu with
    | 0, hu => rw [← Option.some.inj hu]; exact g0
    | 1, hu => rw [← Option.some.inj hu]; exact g1
set_option maxRecDepth 100000 in
theorem lifted (os : Os) (started : os.Started) (H : Type) (enc : TypeId × Value → H) :
    ReturnsInHanded {} Tryd.checked os 3 .any (fun w args => (Rows.fnExactChunksPutSpec.pre enc Tryd.prog Tryd.f3 Rows.fnExactChunksPutRow.domain false w args ∧ laidMetH Tryd.prog Rows.fnExactChunksPutRow.laid w) ∧ sizedMet enc Tryd.prog Tryd.f3 (OpenSpec.ofChange Rows.fnExactChunksPutSpec) false w args)
      (Rows.fnExactChunksPutSpec.post enc Tryd.prog Tryd.f3 false true false false) := by
  refine returnsInHanded_of_change_and (C := Tryd.checked) (X := fun w _ => laidMetH Tryd.prog Rows.fnExactChunksPutRow.laid w) (fun _ _ _ hh h => h.of_heap hh) own started (by kernel_rfl) Tryd.func3
    (ChangeSpec.witness_shaped (enc := enc) (C := Tryd.checked) (os := os) (X := fun w _ => laidMetH Tryd.prog Rows.fnExactChunksPutRow.laid w) false (World.laidAll Tryd.prog os Rows.fnExactChunksPutRow.laid) #[.slice none 0 0] 8 (World.laidAll_os _ _ _)
      (World.shaped_of_ZipB (by kernel_rfl) (by kernel_rfl)) (by kernel_rfl) (by kernel_rfl) (by kernel_rfl)
      (by rw [MakeChecks.laidMetH_plain _ _ _ (by kernel_rfl)]; exact laidMet_laidAll _ (by kernel_rfl) (by kernel_rfl))) ?_
  intro W base args ds gs before hval0 hW hcnd hsz0 _ _
  have hval : ∀ (j : Nat) t v, Tryd.f3.params[j]? = some t → args[j]? = some v → Value.okWide Tryd.prog W .any base t v := hval0
  have hW' := hW
  obtain ⟨p, q, hA0, hV, rfl, hfz, hnd⟩ := hW
  have hA : DataW.TrodAll enc Tryd.prog W 0 (fun _ => true) true Tryd.f3.params.toList args.toList ds p := hA0
  rw [Tryd.params3] at hA hval
  obtain ⟨v0, vs0, d0, ds0, p0, q0, hargs, rfl, rfl, h0, r0⟩ := trodAll_cons hA
  obtain ⟨rfl, rfl, rfl⟩ := trodAll_nil r0
  obtain rfl : args = #[v0] := by cases args; simp_all
  obtain ⟨rfl, rfl⟩ := trodVars_none hV
  obtain ⟨a0, len0, cap0, rfl⟩ := okWide_slice Tryd.underlying22 (hval 0 22 v0 rfl rfl)
  have k0 := h0
  have lt0 : ∀ x ∈ p0, x.block < W.heap.size := by obtain ⟨m, hm⟩ := k0; exact DataW.trod_lt m _ _ _ hm
  obtain ⟨l0, hlen, hcap, hsz, hby, hC⟩ : ∃ l : List P.S40, l.length = len0 ∧ len0 ≤ cap0 ∧ len0 ≤ 9223372036854775807 ∧ (∀ c ∈ l, c.f0.size ≤ 9223372036854775807 ∧ c.f1.size ≤ 9223372036854775807) ∧ YtdhpekdfpoeboaaDoorW.PrintWords.Kd.C P.k40 W a0 len0 l := by
    obtain ⟨fuel, hf⟩ := h0
    exact opened (by simpa [Value.cells] using hf)
  subst hlen
  obtain ⟨k, hk⟩ := Pure.FnExactChunksPut l0 hsz hby
  clear hA0 hval0 hsz0
  refine (P.laws_FnExactChunksPut.calls k a0 cap0 l0 true W hC hcap hk).mono fun e W' ⟨he, bel⟩ => ?_
  subst he
  exact ⟨_, rfl, _, _, _, [], _, [], hW', trodAll_mk1 (shut_bool Tryd.underlying4 _), (trodAll_cons_mk (Below.trod laidOut (by kernel_rfl) (of_decide_eq_true (by kernel_rfl)) k0 bel lt0) trodAll_mk0), rfl, bel.frame _, fun h => by cases h⟩
theorem over : Rows.fnExactChunksPutRow.holds Tryd.pinned (OpenSpec.ofChange Rows.fnExactChunksPutSpec) :=
  OpenClaim.holds_of_wide 3 Tryd.f3 rfl rfl rfl rfl rfl rfl rfl ⟨rfl, rfl, rfl, rfl, rfl⟩ rfl rfl rfl rfl rfl (by kernel_rfl) Tryd.func3 (by kernel_rfl)
    (of_decide_eq_true (by kernel_rfl)) (by unfold Func.isWrapper; first | (rw [if_pos (by decide +kernel)]; kernel_rfl) | (rw [if_neg (by decide +kernel)]; exact ⟨rfl, rfl⟩))
    (fun os started H enc _ => lifted os started H enc)
theorem card : Rows.FnExactChunksPutCardSaid :=
  Claim7.holds_tied_plain_at .later [] [.data, .pinned] true (true, "f3bf648d4024d40fa03dd283c35b336cc95f1bc177ccae77acdc192ca053be5a") false over (fun _ h => by cases h) (by kernel_rfl) (fun _ h => by cases h) fnExactChunksPut_row_tie rfl ⟨rfl, rfl⟩ (by kernel_rfl) rfl
    (fun f fn hf hfn => by
      obtain rfl : f = 3 := Option.some.inj ((show Tryd.prog.funcNamed "loop.example/intarsia/laws.FnExactChunksPut" = some 3 by kernel_rfl).symm.trans hf) |>.symm
      obtain rfl : fn = Tryd.f3 := (Option.some.inj (Tryd.func3.symm.trans hfn)).symm
      exact ⟨by kernel_rfl, fun j t ht => by
        rw [Tryd.params3] at ht
        have hm : t ∈ [22] := by simpa using Array.mem_of_getElem? ht
        have hall : ([22].all fun u => !Tryd.prog.wantsStandIn u) = true := by kernel_rfl
        exact (show Tryd.prog.wantsStandIn t = false by simpa using List.all_eq_true.1 hall t hm)⟩)
    (by kernel_rfl)
#print axioms card
end Go.Proofs.YtdhpekdfpoeboaaDoor.fnExactChunksPut
namespace Go.Proofs.YtdhpekdfpoeboaaDoor
/-- The card, under a short name, for the claim. -/
theorem fnExactChunksPut_holds : Rows.FnExactChunksPutCardSaid := fnExactChunksPut.card
end Go.Proofs.YtdhpekdfpoeboaaDoor
