/- What the law FnRep needs, out of the texts Lr. -/
import Derived.Test.YtjefdcbljpkmlaaKFnRep24
import Derived.Test.YtjefdcbljpkmlaaKFnRep32
import Derived.Test.YtjefdcbljpkmlaaKFnRep37
section
set_option linter.unusedVariables false
set_option maxRecDepth 10000
namespace Go.Proofs.Ytjefdcbljpkmlaa.G
open Go
/-- What a row says of a slice that came in. -/
abbrev RowW (k : IntKind) (w : World) (a : Option Addr) (len cap : Nat) (zs : List Int) : Prop :=
  (a = none ∧ len = 0 ∧ cap = 0 ∧ zs = []) ∨ ∃ x, a = some x ∧ len ≤ cap ∧ cap ≤ maxLen ∧ zs.length = cap ∧ (∀ i, i < zs.length → w.cell? (x.add i) = some (.int k (zs.getD i 0))) ∧ ∀ n ∈ zs, (Lit.int k n).wf = true
theorem RowW.cells {k : IntKind} {w : World} {a : Option Addr} {len cap : Nat} {z : List Int} (w0 : RowW k w a len cap z) :
    len ≤ cap ∧ ∃ zs : List Int, len = zs.length ∧ (∀ x ∈ zs, (Lit.int k x).wf = true) ∧ ((zs = []) ∨ ∃ b o c t fr, a = some ⟨b, o, none⟩ ∧ w.heap[b]? = some (.cells c t fr) ∧ o + zs.length ≤ c.toList.length ∧ (c.toList.drop o).take zs.length = zs.map (Value.int k)) := by
  rcases w0 with ⟨rfl, rfl, rfl, _⟩ | ⟨x, rfl, h1, h2, h3, h4, h5⟩
  · exact ⟨Nat.le_refl _, [], rfl, fun x hx => (by cases hx), .inl rfl⟩
  refine ⟨h1, z.take len, by simp; omega, fun y hy => h5 y (List.mem_of_mem_take hy), ?_⟩
  by_cases hl : len = 0
  · exact .inl (by rw [hl]; rfl)
  right
  have c0 := h4 0 (by omega)
  have hx0 : x.add 0 = x := by simp [Addr.add]
  rw [hx0] at c0
  unfold World.cell? at c0
  split at c0
  case h_2 => cases c0
  case h_1 c t fr hc =>
  obtain ⟨b, o, sp⟩ := x
  have hsp : sp = none := by
    cases sp with
    | none => rfl
    | some s => simp at c0
  subst hsp
  dsimp only at hc
  have hcell : ∀ i, i < z.length → c.toList[o + i]? = some (.int k (z.getD i 0)) := by
    intro i hi
    have := h4 i hi
    unfold World.cell? at this
    have e1 : ((⟨b, o, none⟩ : Addr).add i) = ⟨b, o + i, none⟩ := Addr.add_mid b o i
    rw [e1] at this
    dsimp only at this
    rw [hc] at this
    simpa using this
  have e : (z.take len).length = len := by simp; omega
  refine ⟨b, o, c, t, fr, rfl, hc, ?_, ?_⟩
  · have := (List.getElem?_eq_some_iff.1 (hcell (len - 1) (by omega))).1
    rw [e]
    omega
  · rw [e]
    apply List.ext_getElem?
    intro i
    by_cases hi : i < len
    · rw [List.getElem?_take_of_lt hi, List.getElem?_drop]
      rw [hcell i (by omega), List.getElem?_map, List.getElem?_take_of_lt hi, List.getElem?_eq_getElem (by omega)]
      simp [List.getD, show i < z.length by omega]
    · rw [List.getElem?_eq_none (by simp; omega), List.getElem?_eq_none (by simp; omega)]
theorem RowW.len {k : IntKind} {w : World} {a : Option Addr} {len cap : Nat} {z : List Int} (w0 : RowW k w a len cap z) : len ≤ 9223372036854775807 := by
  have hm : maxLen ≤ 9223372036854775807 := by decide
  rcases w0 with ⟨_, h1, _⟩ | ⟨_, _, h1, h2, _⟩ <;> omega
theorem wf_byte {y : Int} (h : (Lit.int .u8 y).wf = true) : 0 ≤ y ∧ y ≤ 255 := by
  simp [Lit.wf, IntKind.min, IntKind.max, IntKind.signed, IntKind.bits] at h
  omega
theorem sim_sing' {w : World} {p : Nat × GO} (h : p.2.holds w.heap[p.1]?) : Sim [p] w := ⟨fun i j a b hi hj _ _ _ => by
  have h1 := (List.getElem?_eq_some_iff.1 hi).1
  have h2 := (List.getElem?_eq_some_iff.1 hj).1
  simp at h1 h2
  omega, fun q hq => by rw [List.mem_singleton.1 hq]; exact h⟩
theorem Turned.below {F F' ns : GL} {w w' : World} (h : Turned F F' ns w w') (hF : ∀ p ∈ F, p.2.own = false) : RowKit.Below w.heap.size w w' := by
  have hf := h.fr
  refine ⟨hf.os, hf.tape, hf.output, hf.size, fun b hb2 => hf.keep b hb2 fun ⟨x, hx, hox⟩ => ?_⟩
  have := hF _ hx
  rw [this] at hox
  cases hox
theorem Trip.rB {P : Program} {f : FuncId} {a : Option Addr} {len cap : Nat} {z : List Int} {w : World} (w0 : RowW .u8 w a len cap z)
    (h : ∀ q zs, LB a len cap q zs → q.2.own = false → Trip P f [.slice a len cap] [q] (fun v F' ns => v = .bool true)) : Calls P f #[.slice a len cap] w fun e w' => e = .returned (.bool true) ∧ RowKit.Below w.heap.size w w' := by
  have key : ∃ q zs, LB a len cap q zs ∧ q.2.own = false ∧ q.2.holds w.heap[q.1]? := by
    obtain ⟨h1, zs, h2, h3, rfl | ⟨b, o, c, t, fr, rfl, h4, h5, h6⟩⟩ := RowW.cells w0
    · exact ⟨(0, .none), [], ⟨h2, h1, .inl rfl, fun x hx => by cases hx⟩, rfl, trivial⟩
    · exact ⟨(b, .ro c.toList), zs, ⟨h2, h1, .inr ⟨o, rfl, h5, h6⟩, fun x hx => wf_byte (h3 x hx)⟩, rfl, c, t, fr, h4, List.prefix_refl _⟩
  obtain ⟨q, zs, hb, ho, hq⟩ := key
  exact (h q zs hb ho w (sim_sing' hq)).mono fun e w' ⟨v, F', ns, h1, h2, h3⟩ => ⟨by rw [h1, h2], h3.below fun p hp => by rw [List.mem_singleton.1 hp]; exact ho⟩
end Go.Proofs.Ytjefdcbljpkmlaa.G
end
