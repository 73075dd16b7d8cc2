/- What the law FnExactGifPut needs, out of the texts Lr Bi. -/
import Derived.Test.YtjefdcbljpkmlaaKFnExactGifPut20
import Derived.Test.YtjefdcbljpkmlaaKFnExactGifPut34
import Derived.Test.YtjefdcbljpkmlaaKFnExactGifPut37
section
set_option linter.unusedVariables false
set_option maxRecDepth 10000
namespace Go.Proofs.Ytjefdcbljpkmlaa.G
open Go
/-- What a row says of a slice that came in. -/
abbrev RowW (k : IntKind) (w : World) (a : Option Addr) (len cap : Nat) (zs : List Int) : Prop :=
  (a = none ∧ len = 0 ∧ cap = 0 ∧ zs = []) ∨ ∃ x, a = some x ∧ len ≤ cap ∧ cap ≤ maxLen ∧ zs.length = cap ∧ (∀ i, i < zs.length → w.cell? (x.add i) = some (.int k (zs.getD i 0))) ∧ ∀ n ∈ zs, (Lit.int k n).wf = true
theorem RowW.cells {k : IntKind} {w : World} {a : Option Addr} {len cap : Nat} {z : List Int} (w0 : RowW k w a len cap z) :
    len ≤ cap ∧ ∃ zs : List Int, len = zs.length ∧ (∀ x ∈ zs, (Lit.int k x).wf = true) ∧ ((zs = []) ∨ ∃ b o c t fr, a = some ⟨b, o, none⟩ ∧ w.heap[b]? = some (.cells c t fr) ∧ o + zs.length ≤ c.toList.length ∧ (c.toList.drop o).take zs.length = zs.map (Value.int k)) := by
  rcases w0 with ⟨rfl, rfl, rfl, _⟩ | ⟨x, rfl, h1, h2, h3, h4, h5⟩
  · exact ⟨Nat.le_refl _, [], rfl, fun x hx => (by cases hx), .inl rfl⟩
  refine ⟨h1, z.take len, by simp; omega, fun y hy => h5 y (List.mem_of_mem_take hy), ?_⟩
  by_cases hl : len = 0
  · exact .inl (by rw [hl]; rfl)
  right
  have c0 := h4 0 (by omega)
  have hx0 : x.add 0 = x := by simp [Addr.add]
  rw [hx0] at c0
  unfold World.cell? at c0
  split at c0
  case h_2 => cases c0
  case h_1 c t fr hc =>
  obtain ⟨b, o, sp⟩ := x
  have hsp : sp = none := by
    cases sp with
    | none => rfl
    | some s => simp at c0
  subst hsp
  dsimp only at hc
  have hcell : ∀ i, i < z.length → c.toList[o + i]? = some (.int k (z.getD i 0)) := by
    intro i hi
    have := h4 i hi
    unfold World.cell? at this
    have e1 : ((⟨b, o, none⟩ : Addr).add i) = ⟨b, o + i, none⟩ := Addr.add_mid b o i
    rw [e1] at this
    dsimp only at this
    rw [hc] at this
    simpa using this
  have e : (z.take len).length = len := by simp; omega
  refine ⟨b, o, c, t, fr, rfl, hc, ?_, ?_⟩
  · have := (List.getElem?_eq_some_iff.1 (hcell (len - 1) (by omega))).1
    rw [e]
    omega
  · rw [e]
    apply List.ext_getElem?
    intro i
    by_cases hi : i < len
    · rw [List.getElem?_take_of_lt hi, List.getElem?_drop]
      rw [hcell i (by omega), List.getElem?_map, List.getElem?_take_of_lt hi, List.getElem?_eq_getElem (by omega)]
      simp [List.getD, show i < z.length by omega]
    · rw [List.getElem?_eq_none (by simp; omega), List.getElem?_eq_none (by simp; omega)]
theorem RowW.len {k : IntKind} {w : World} {a : Option Addr} {len cap : Nat} {z : List Int} (w0 : RowW k w a len cap z) : len ≤ 9223372036854775807 := by
  have hm : maxLen ≤ 9223372036854775807 := by decide
  rcases w0 with ⟨_, h1, _⟩ | ⟨_, _, h1, h2, _⟩ <;> omega
theorem Turned.below {F F' ns : GL} {w w' : World} (h : Turned F F' ns w w') (hF : ∀ p ∈ F, p.2.own = false) : RowKit.Below w.heap.size w w' := by
  have hf := h.fr
  refine ⟨hf.os, hf.tape, hf.output, hf.size, fun b hb2 => hf.keep b hb2 fun ⟨x, hx, hox⟩ => ?_⟩
  have := hF _ hx
  rw [this] at hox
  cases hox
/-- What the laws' toImage makes of a picture that came in. -/
def ToOut (k d w h : Int) (q1 q2 : Nat × GO) (cs ps : List Int) : OutT := fun v F' ns => F' = [q1, q2] ∧ ∃ v1 v2 e1 e2, v = img k d w h v1 v2 ∧ ns = [e1, e2] ∧ OI v1 e1 cs ∧ OI v2 e2 ps
def TImg (k d w h : Int) (a1 : Option Addr) (n1 c1 : Nat) (a2 : Option Addr) (n2 c2 : Nat) (q1 q2 : Nat × GO) (cs ps : List Int) : Prop :=
  n1 = cs.length ∧ n2 = ps.length ∧ (cs.length ≤ 10000000 → ps.length ≤ 10000000 → Trip Try.prog 16 [img k d w h (.slice a1 n1 c1) (.slice a2 n2 c2)] [q1, q2] (ToOut k d w h q1 q2 cs ps))
theorem sim_two {w : World} {p q : Nat × GO} (hp : p.2.holds w.heap[p.1]?) (hq : q.2.holds w.heap[q.1]?) (hd : p.2.real = true → q.2.real = true → p.1 ≠ q.1) : Sim [p, q] w := by
  refine ⟨fun i j a b hi hj ha hb e => ?_, fun x hx => ?_⟩
  · match i, j, hi, hj with
    | 0, 0, _, _ => rfl
    | 1, 1, _, _ => rfl
    | 0, 1, hi, hj => simp at hi hj; subst hi hj; exact absurd e (hd ha hb)
    | 1, 0, hi, hj => simp at hi hj; subst hi hj; exact absurd e.symm (hd hb ha)
    | _ + 2, _, hi, _ => simp at hi
    | 0, _ + 2, _, hj => simp at hj
    | 1, _ + 2, _, hj => simp at hj
  · rcases List.mem_cons.1 hx with rfl | hx
    · exact hp
    · rw [List.mem_singleton.1 hx]; exact hq
theorem Trip.rM {f : FuncId} {k d wd h : Int} {a1 a2 : Option Addr} {n1 c1 n2 c2 : Nat} {z1 z2 : List Int} {rest : List Value} {w : World} (r1 : RowW .i64 w a1 n1 c1 z1) (r2 : RowW .i64 w a2 n2 c2 z2)
    (hh : ∀ q1 q2 cs ps, TImg k d wd h a1 n1 c1 a2 n2 c2 q1 q2 cs ps → Trip Try.prog f (img k d wd h (.slice a1 n1 c1) (.slice a2 n2 c2) :: rest) [q1, q2] (fun v F' ns => v = .bool true)) :
    Calls Try.prog f (img k d wd h (.slice a1 n1 c1) (.slice a2 n2 c2) :: rest).toArray w fun e w' => e = .returned (.bool true) ∧ RowKit.Below w.heap.size w w' := by
  have fin : ∀ q1 q2 : Nat × GO, Sim [q1, q2] w → q1.2.own = false → q2.2.own = false → (∃ cs ps, TImg k d wd h a1 n1 c1 a2 n2 c2 q1 q2 cs ps) → Calls Try.prog f (img k d wd h (.slice a1 n1 c1) (.slice a2 n2 c2) :: rest).toArray w fun e w' => e = .returned (.bool true) ∧ RowKit.Below w.heap.size w w' := by
    intro q1 q2 hs o1 o2 ⟨cs, ps, ht⟩
    refine (hh q1 q2 cs ps ht w hs).mono fun e w' ⟨v, F', ns, h1, h2, h3⟩ => ⟨by rw [h1, h2], h3.below fun p hp => ?_⟩
    rcases List.mem_cons.1 hp with rfl | hp
    · exact o1
    · rw [List.mem_singleton.1 hp]; exact o2
  obtain ⟨g1, cs, x1, _, e1⟩ := RowW.cells r1
  obtain ⟨g2, ps, x2, _, e2⟩ := RowW.cells r2
  rcases e1 with rfl | ⟨b1, o1, cc1, t1, fr1, rfl, y1, y2, y3⟩ <;> rcases e2 with rfl | ⟨b2, o2, cc2, t2, fr2, rfl, v1, v2, v3⟩
  · exact fin (0, .none) (0, .none) (sim_two trivial trivial fun h => by cases h) rfl rfl ⟨[], [], x1, x2, fun i1 i2 => toImage_w ⟨x1, g1, .inl rfl⟩ ⟨x2, g2, .inl rfl⟩ i1 i2⟩
  · exact fin (0, .none) (b2, .ro cc2.toList) (sim_two trivial ⟨cc2, t2, fr2, v1, List.prefix_refl _⟩ fun h => by cases h) rfl rfl ⟨[], ps, x1, x2, fun i1 i2 => toImage_w ⟨x1, g1, .inl rfl⟩ ⟨x2, g2, .inr ⟨o2, rfl, v2, v3⟩⟩ i1 i2⟩
  · exact fin (b1, .ro cc1.toList) (0, .none) (sim_two ⟨cc1, t1, fr1, y1, List.prefix_refl _⟩ trivial fun _ h => by cases h) rfl rfl ⟨cs, [], x1, x2, fun i1 i2 => toImage_w ⟨x1, g1, .inr ⟨o1, rfl, y2, y3⟩⟩ ⟨x2, g2, .inl rfl⟩ i1 i2⟩
  · by_cases hb : b1 = b2
    · subst hb
      rw [y1] at v1
      cases v1
      exact fin (b1, .ro cc1.toList) (0, .none) (sim_two ⟨cc1, t1, fr1, y1, List.prefix_refl _⟩ trivial fun _ h => by cases h) rfl rfl ⟨cs, ps, x1, x2, fun i1 i2 => toImage_same ⟨x1, g1, .inr ⟨o1, rfl, y2, y3⟩⟩ ⟨x2, g2, .inr ⟨o2, rfl, v2, v3⟩⟩ i1 i2⟩
    · exact fin (b1, .ro cc1.toList) (b2, .ro cc2.toList) (sim_two ⟨cc1, t1, fr1, y1, List.prefix_refl _⟩ ⟨cc2, t2, fr2, v1, List.prefix_refl _⟩ fun _ _ => hb) rfl rfl ⟨cs, ps, x1, x2, fun i1 i2 => toImage_w ⟨x1, g1, .inr ⟨o1, rfl, y2, y3⟩⟩ ⟨x2, g2, .inr ⟨o2, rfl, v2, v3⟩⟩ i1 i2⟩
end Go.Proofs.Ytjefdcbljpkmlaa.G
end

section
set_option linter.unusedVariables false
set_option maxRecDepth 10000
namespace Go.Proofs.Ytjefdcbljpkmlaa.G
open Go
/-- What is left of so much behind a picture. -/
theorem szR_some {n1 n2 : Nat} (hneg : ¬ szR n1 n2 1048576 < 0) : n1 ≤ 1048576 ∧ n2 ≤ 1048576 := by
  have b1 := szL_le (n := n1) (m := 1048576) (by omega)
  unfold szR at hneg
  split at hneg
  · omega
  · unfold szL at *
    omega
end Go.Proofs.Ytjefdcbljpkmlaa.G
namespace Go.Proofs.Ytjefdcbljpkmlaa.P
open Go
end Go.Proofs.Ytjefdcbljpkmlaa.P
end
