/- What the law FnRep needs, out of the texts Mc. -/
import Derived.Test.YtjefdcbljpkmlaaShelf
import Derived.Test.YtjefdcbljpkmlaaKFnRep10
section
set_option linter.unusedVariables false
set_option linter.unusedSimpArgs false
namespace Go.Proofs.Ytjefdcbljpkmlaa.G
open Go
section
variable {P : Program} {ops os : List Oper} {H : Option (List Hint)} {K : Env → GL → Prop} {e : Env} {l : GL} {dd : Option Nat} {T : TypeId} {pos : String} {af : Array Edge} {F F2 l2 : GL}
end
/-- Ways meet ahead of what is still to come. -/
theorem gw_join {P : Program} {n : Nat} {Q : QT} {K : Env → GL → Prop} {e : Env} {l : GL} {x : Code} {α : Type} (L : α → List (Nat × Value)) (lf : α → GL) (p : α → Prop) (h : GW P n x (thenQ (fun e l => ∃ a, p a ∧ l = lf a ∧ Has e (L a)) Q) e l) (k : ∀ a e, p a → K (upds e (L a)) (lf a)) : GW P n x (thenQ K Q) e l := by
  refine GW.mono h fun ex e l hq => ?_
  cases ex with
  | normal =>
    obtain ⟨a, h1, rfl, h3⟩ := hq
    have := k a e h1
    rw [has_eq h3] at this
    exact this
  | _ => exact hq
theorem lvar {P : Program} {ty : Tys} (hty : TysOk P ty) {t : TypeId} {i : TyI} {b off : Nat} {g : GO} {vs : List Value} (hi : ty t = some i) (ha : i.k.agg = true) (hv : ((cellsG g).drop off).take i.size = vs) (hn : off + i.size ≤ (cellsG g).length) (w : World) (hh : g.holds w.heap[b]?) : (loadVar t ⟨b, off, none⟩).run P w = .ok (.agg vs.toArray) w := by
  have hr := holds_range (n := i.size) (o := off) hh
  have hlen : (((cellsG g).drop off).take i.size).length = i.size := by simp; omega
  have hl := run_loadCells_list (P := P) w ⟨b, off, none⟩ (((cellsG g).drop off).take i.size) (fun j u hu => by rw [addr_add]; exact hr j u hu)
  rw [hlen, hv] at hl
  have := d_load hty hi b off (.agg vs.toArray) w (by rw [ha]; exact ⟨hl, rfl⟩)
  simpa [Instr.loadAt, Instr.sureAddr] using this
/-- A result that lies in memory. -/
theorem rv_cell {P : Program} {ty : Tys} (hty : TysOk P ty) (k : Nat) {e : Env} {l : GL} {a t b off : Nat} {g : GO} {i : TyI} {vs : List Value} {rs : List ResultVar} {us : List Value} (ha : e a = .pointer (some ⟨b, off, none⟩)) (hl : l[k]? = some (b, g)) (hi : ty t = some i) (hg : i.k.agg = true) (hv : ((cellsG g).drop off).take i.size = vs) (hn : off + i.size ≤ (cellsG g).length) (h : RV P e l rs us) : RV P e l (.cell a t :: rs) (.agg vs.toArray :: us) :=
  RV.cell k ha (fun w hw => lvar hty hi hg hv hn w (hw _ hl)) h
end Go.Proofs.Ytjefdcbljpkmlaa.G
end
