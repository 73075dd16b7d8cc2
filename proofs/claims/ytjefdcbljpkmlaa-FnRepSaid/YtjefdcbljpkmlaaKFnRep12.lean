/- What the law FnRep needs, out of the texts Md. -/
import Derived.Test.YtjefdcbljpkmlaaKFnRep11
section
set_option linter.unusedVariables false
set_option linter.unusedSimpArgs false
namespace Go.Proofs.Ytjefdcbljpkmlaa.G
open Go
section
variable {ops os : List Oper} {H : Option (List Hint)} {K : Env → GL → Prop} {e : Env} {l : GL} {d1 d2 : Nat} {T T2 : TypeId} {pos pos2 : String} {af af2 : Array Edge}
/-- append(y, x). -/
theorem gs_push (j : Nat) {x y : Operand} {n : Int} {p : Nat × GO} {v : Value} {zs : List Int} (hx : gev e x = .int .i64 n) (hl : l[j]? = some p) (hv : OI v p zs) (hy : ∀ u, gev (upd e d1 u) y = v) (hz : zs.length ≤ 1000000000000)
    (k : ∀ b a c p2, OI (.slice a (zs.length + 1) c) p2 (zs ++ [n]) → gseq Try.prog ops os (tl? (tl? H)) K (upd (upd e d1 (.slice (some ⟨b, 0, none⟩) 1 1)) d2 (.slice a (zs.length + 1) c)) ((l ++ [(b, GO.row 3 [.int .i64 n] 1)]).set j p2)) (hh : hE [] H := by trivial) (hh2 : hE [j, l.length] (tl? H) := by trivial) :
    gseq Try.prog ops (⟨some d1, .buildSlice 22 1 #[(0, x)], T, pos, af, none⟩ :: ⟨some d2, .call { callee := .builtin .append, args := #[y, .tmp d1], argTypes := #[22, 22] }, T2, pos2, af2, none⟩ :: os) H K e l := by
  refine gs_lit tyT_ok (cs := [.int .i64 n]) rfl rfl rfl (by decide) ?_ (fun b => ?_) hh
  · show fillL _ _ [(0, gev e x)] = _
    rw [hx]
    rfl
  have hj := (List.getElem?_eq_some_iff.1 hl).1
  refine gs_append tyT_ok j l.length (p := p) (q := (b, GO.row 3 [.int .i64 n] 1)) (cs := ints zs) (nw := ints [n]) ?_ ?_ (by omega) rfl rfl rfl ?_ ?_ rfl ?_ (by decide) (by decide) (fun v2 p2 hv2 => ?_) hh2
  · rw [List.getElem?_append_left hj, hl]
  · simp
  · rw [hy]
    exact hv
  · refine .inr ⟨b, 0, 1, 1, ?_, rfl, Nat.le_of_ble_eq_true rfl, rfl⟩
    show upd e d1 _ d1 = _
    simp [upd]
  · simp only [ints, List.length_map, List.length_singleton]
    show (zs.length + 1) * 8 ≤ 140737488355328 * 1
    omega
  · have hv3 : OI v2 p2 (zs ++ [n]) := by
      rw [OI, ← ints_add]
      exact hv2
    obtain ⟨a, c, he, hl3⟩ := hv3.ls
    subst he
    rw [List.length_append] at hv3 ⊢
    exact k b a c p2 hv3
end
/-- So many numbers, each so many times. -/
def many (s : ByteArray) (z a times j : Nat) : List Int := (List.range j).flatMap fun i => List.replicate times (fld s (a + i * z) z false z)
end Go.Proofs.Ytjefdcbljpkmlaa.G
end
