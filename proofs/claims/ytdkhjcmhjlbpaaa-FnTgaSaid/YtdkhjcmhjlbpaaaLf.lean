/- From a contract with bytes handed to what a row asks for; the laws FnTga. -/
import Derived.Test.YtdkhjcmhjlbpaaaLe
set_option linter.unusedVariables false
namespace Go.Proofs.Ytdkhjcmhjlbpaaa.G
open Go
theorem wf_u8 {n : Int} (h : (Lit.int .u8 n).wf = true) : 0 ≤ n ∧ n ≤ 255 := by
  simp [Lit.wf, IntKind.min, IntKind.max, IntKind.signed, IntKind.bits] at h
  omega
theorem sim_sing {q : Nat × GO} {w : World} (h : q.2.holds w.heap[q.1]?) : Sim [q] w := by
  refine ⟨fun i j p p' hi hj _ _ _ => ?_, fun p hp => by rw [List.mem_singleton.1 hp]; exact h⟩
  have h1 := (List.getElem?_eq_some_iff.1 hi).1
  have h2 := (List.getElem?_eq_some_iff.1 hj).1
  simp at h1 h2
  omega
theorem Trip.rowB {P : Program} {f : FuncId} {a : Option Addr} {len cap : Nat} {z : List Int} {w : World} (w0 : (a = none ∧ len = 0 ∧ cap = 0 ∧ z = []) ∨ ∃ x, a = some x ∧ len ≤ cap ∧ cap ≤ maxLen ∧ z.length = cap ∧ (∀ i, i < z.length → w.cell? (x.add i) = some (.int .u8 (z.getD i 0))) ∧ ∀ n ∈ z, (Lit.int .u8 n).wf = true)
    (h : ∀ q zs, LB a len cap q zs → q.2.own = false → Trip P f [.slice a len cap] [q] (fun v F' ns => v = .bool true)) : Calls P f #[.slice a len cap] w fun e w' => e = .returned (.bool true) ∧ RowKit.Below w.heap.size w w' := by
  have key : ∃ q zs, LB a len cap q zs ∧ q.2.own = false ∧ q.2.holds w.heap[q.1]? := by
    by_cases hl : len = 0
    · refine ⟨(0, .none), [], ⟨hl, ?_, .inl rfl, fun x hx => by cases hx⟩, rfl, trivial⟩
      rcases w0 with ⟨_, h1, h2, _⟩ | ⟨_, _, h1, _⟩ <;> omega
    · rcases w0 with ⟨_, h1, _⟩ | ⟨x, rfl, h1, h2, h3, h4, h5⟩
      · exact absurd h1 hl
      · have c0 := h4 0 (by omega)
        have hx0 : x.add 0 = x := by simp [Addr.add]
        rw [hx0] at c0
        unfold World.cell? at c0
        split at c0
        case h_2 => cases c0
        case h_1 c t fr hc =>
        obtain ⟨b, o, sp⟩ := x
        have hsp : sp = none := by
          cases sp with
          | none => rfl
          | some s => simp at c0
        subst hsp
        dsimp only at hc
        have hcell : ∀ i, i < z.length → c.toList[o + i]? = some (.int .u8 (z.getD i 0)) := by
          intro i hi
          have := h4 i hi
          unfold World.cell? at this
          have e1 : ((⟨b, o, none⟩ : Addr).add i) = ⟨b, o + i, none⟩ := Addr.add_mid b o i
          rw [e1] at this
          dsimp only at this
          rw [hc] at this
          simpa using this
        refine ⟨(b, .ro c.toList), z.take len, ⟨by simp; omega, h1, .inr ⟨o, rfl, ?_, ?_⟩, ?_⟩, rfl, c, t, fr, hc, List.prefix_refl _⟩
        · have := (List.getElem?_eq_some_iff.1 (hcell (len - 1) (by omega))).1
          simp only [List.length_take, cellsG]
          omega
        · have e : (z.take len).length = len := by simp; omega
          rw [e]
          apply List.ext_getElem?
          intro i
          by_cases hi : i < len
          · rw [List.getElem?_take_of_lt hi, List.getElem?_drop]
            show c.toList[o + i]? = _
            rw [hcell i (by omega), bytesV, List.getElem?_map, List.getElem?_take_of_lt hi, List.getElem?_eq_getElem (by omega)]
            simp [List.getD, show i < z.length by omega]
          · rw [List.getElem?_eq_none (by simp; omega), List.getElem?_eq_none (by simp [bytesV]; omega)]
        · intro y hy
          exact wf_u8 (h5 y (List.mem_of_mem_take hy))
  obtain ⟨q, zs, hb, ho, hq⟩ := key
  refine (h q zs hb ho w (sim_sing hq)).mono fun e w' ⟨v, F', ns, h1, h2, h3⟩ => ⟨by rw [h1, h2], ?_⟩
  have hf := h3.fr
  refine ⟨hf.os, hf.tape, hf.output, hf.size, fun b hb2 => hf.keep b hb2 fun ⟨x, hx, hox⟩ => ?_⟩
  have := List.mem_singleton.1 hx
  rw [← this] at ho
  rw [ho] at hox
  cases hox
end Go.Proofs.Ytdkhjcmhjlbpaaa.G
namespace Go.Proofs.Ytdkhjcmhjlbpaaa.P
open Go
theorem law_FnTga (a : Option Addr) (len cap : Nat) (z : List Int) (w : World) (w0 : (a = none ∧ len = 0 ∧ cap = 0 ∧ z = []) ∨ ∃ x, a = some x ∧ len ≤ cap ∧ cap ≤ maxLen ∧ z.length = cap ∧ (∀ i, i < z.length → w.cell? (x.add i) = some (.int .u8 (z.getD i 0))) ∧ ∀ n ∈ z, (Lit.int .u8 n).wf = true) (y0 : len * 1 ≤ 140737488351232) :
    Calls Try.prog 9 #[.slice a len cap] w fun e w' => e = .returned (.bool true) ∧ RowKit.Below w.heap.size w w' := G.Trip.rowB w0 fun q zs hb _ => G.fnTga_w hb (by omega)
end Go.Proofs.Ytdkhjcmhjlbpaaa.P
