/- What the law FnExactLzwPut needs, out of the texts Mc. -/
import Derived.Test.YtjefdcbljpkmlaaShelf
import Derived.Test.YtjefdcbljpkmlaaKFnExactLzwPut10
section
set_option linter.unusedVariables false
set_option linter.unusedSimpArgs false
namespace Go.Proofs.Ytjefdcbljpkmlaa.G
open Go
/-- A call that changes what it is handed. -/
def Wr (P : Program) (f : FuncId) (args : List Value) (F F2 : GL) (r : Value) : Prop := Trip P f args F (fun v F' ns => v = r ∧ F' = F2 ∧ ns = [])
section
variable {P : Program} {ops os : List Oper} {H : Option (List Hint)} {K : Env → GL → Prop} {e : Env} {l : GL} {dd : Option Nat} {T : TypeId} {pos : String} {af : Array Edge} {F F2 l2 : GL}
theorem gs_wr (ks : List Nat) {f : FuncId} {xs : Array Operand} {ts : Array TypeId} {r : Value} (hent : Ent P f) (hp : pick l ks = some F) (nk : ks.Nodup) (h : Wr P f (xs.toList.map (gev e)) F F2 r) (hl : setAll l ks F2 = l2) (k : gseq P ops os (tl? H) K (updo e dd r) l2) (hh : hE ks H := by trivial) : gseq P ops (⟨dd, .call { callee := .value (.func f), args := xs, argTypes := ts }, T, pos, af, none⟩ :: os) H K e l := by
  refine gs_call ks hent hp nk h (fun v F' ns ho _ _ => ?_) hh
  obtain ⟨rfl, rfl, rfl⟩ := ho
  rw [List.append_nil, hl]
  exact k
end
/-- Ways meet ahead of what is still to come. -/
theorem gw_join {P : Program} {n : Nat} {Q : QT} {K : Env → GL → Prop} {e : Env} {l : GL} {x : Code} {α : Type} (L : α → List (Nat × Value)) (lf : α → GL) (p : α → Prop) (h : GW P n x (thenQ (fun e l => ∃ a, p a ∧ l = lf a ∧ Has e (L a)) Q) e l) (k : ∀ a e, p a → K (upds e (L a)) (lf a)) : GW P n x (thenQ K Q) e l := by
  refine GW.mono h fun ex e l hq => ?_
  cases ex with
  | normal =>
    obtain ⟨a, h1, rfl, h3⟩ := hq
    have := k a e h1
    rw [has_eq h3] at this
    exact this
  | _ => exact hq
theorem lvar {P : Program} {ty : Tys} (hty : TysOk P ty) {t : TypeId} {i : TyI} {b off : Nat} {g : GO} {vs : List Value} (hi : ty t = some i) (ha : i.k.agg = true) (hv : ((cellsG g).drop off).take i.size = vs) (hn : off + i.size ≤ (cellsG g).length) (w : World) (hh : g.holds w.heap[b]?) : (loadVar t ⟨b, off, none⟩).run P w = .ok (.agg vs.toArray) w := by
  have hr := holds_range (n := i.size) (o := off) hh
  have hlen : (((cellsG g).drop off).take i.size).length = i.size := by simp; omega
  have hl := run_loadCells_list (P := P) w ⟨b, off, none⟩ (((cellsG g).drop off).take i.size) (fun j u hu => by rw [addr_add]; exact hr j u hu)
  rw [hlen, hv] at hl
  have := d_load hty hi b off (.agg vs.toArray) w (by rw [ha]; exact ⟨hl, rfl⟩)
  simpa [Instr.loadAt, Instr.sureAddr] using this
/-- A result that lies in memory. -/
theorem rv_cell {P : Program} {ty : Tys} (hty : TysOk P ty) (k : Nat) {e : Env} {l : GL} {a t b off : Nat} {g : GO} {i : TyI} {vs : List Value} {rs : List ResultVar} {us : List Value} (ha : e a = .pointer (some ⟨b, off, none⟩)) (hl : l[k]? = some (b, g)) (hi : ty t = some i) (hg : i.k.agg = true) (hv : ((cellsG g).drop off).take i.size = vs) (hn : off + i.size ≤ (cellsG g).length) (h : RV P e l rs us) : RV P e l (.cell a t :: rs) (.agg vs.toArray :: us) :=
  RV.cell k ha (fun w hw => lvar hty hi hg hv hn w (hw _ hl)) h
theorem toList_extract (s : ByteArray) (p e : Nat) : (s.extract p e).data.toList = (s.data.toList.take e).drop p := by
  rw [ByteArray.data_extract, Array.toList_extract, List.extract_eq_take_drop, List.drop_take]
theorem byt_extract {s : ByteArray} {p n i : Nat} (hi : i < n) (h : p + n ≤ s.size) : byt (s.extract p (p + n)) i = byt s (p + i) := by
  have hs : s.data.toList.length = s.size := by simp
  unfold byt
  rw [toList_extract, List.getD_eq_getElem?_getD, List.getD_eq_getElem?_getD, List.getElem?_drop, List.getElem?_take_of_lt (by omega)]
theorem size_extract {s : ByteArray} {p n : Nat} (h : p + n ≤ s.size) : (s.extract p (p + n)).size = n := by
  rw [ByteArray.size_extract]
  omega
end Go.Proofs.Ytjefdcbljpkmlaa.G
end
