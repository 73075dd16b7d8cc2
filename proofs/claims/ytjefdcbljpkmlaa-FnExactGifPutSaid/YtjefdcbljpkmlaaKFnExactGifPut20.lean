/- What the law FnExactGifPut needs, out of the texts Lb Ba Bc Mj Bd. -/
import Derived.Test.YtjefdcbljpkmlaaKFnExactGifPut13
import Derived.Test.YtjefdcbljpkmlaaKFnExactGifPut16
import Derived.Test.YtjefdcbljpkmlaaKFnExactGifPut17
import Derived.Test.YtjefdcbljpkmlaaKFnExactGifPut18
import Derived.Test.YtjefdcbljpkmlaaKFnExactGifPut19
section
set_option linter.unusedVariables false
namespace Go.Proofs.Ytjefdcbljpkmlaa.G
open Go
theorem imgOk_len {k d w h : Int} {cs ps : List Int} (hok : imgOk k d w h cs ps) : cs.length ≤ 256 ∧ ps.length ≤ 400 ∧ (ps.length : Int) = w * h := by
  obtain ⟨h1, h2, h3, h4, h5, _⟩ := imgOk_iff.1 hok
  refine ⟨?_, ?_, h4⟩
  · obtain ⟨_, c1, c2⟩ := h5
    by_cases hk : k = 4
    · have c3 := (c2 hk).2
      have hd : d = 1 ∨ d = 2 ∨ d = 4 ∨ d = 8 := by unfold dOk at h1; omega
      rcases hd with rfl | rfl | rfl | rfl <;> simp at c3 <;> omega
    · rw [c1 hk]; simp
  · obtain ⟨W, rfl⟩ := Int.eq_ofNat_of_zero_le (show 0 ≤ w by omega)
    obtain ⟨H, rfl⟩ := Int.eq_ofNat_of_zero_le (show 0 ≤ h by omega)
    have : W * H ≤ 20 * 20 := Nat.mul_le_mul (by omega) (by omega)
    rw [← Int.natCast_mul] at h4
    omega
theorem outs_mem {zs : List Int} {m : Int} : outs zs m = false ↔ ∀ x ∈ zs, 0 ≤ x ∧ x ≤ m := by
  simp only [outs, List.any_eq_false]
  constructor
  · intro h x hx
    have := h x hx
    simpa using this
  · intro h x hx
    have := h x hx
    simpa using this
/-- A law that hands back true, and leaves nothing. -/
theorem Trip.row {P : Program} {f : FuncId} {args : List Value} (h : Trip P f args [] (fun v F' ns => v = .bool true)) (w : World) : Calls P f args.toArray w fun e w' => e = .returned (.bool true) ∧ RowKit.Below w.heap.size w w' := by
  refine (h w (sim_nil _)).mono fun e w' ⟨v, F', ns, h1, h2, h3⟩ => ⟨by rw [h1, h2], ?_⟩
  have hf := h3.fr
  exact ⟨hf.os, hf.tape, hf.output, hf.size, fun b hb => hf.keep b hb fun ⟨x, hx, _⟩ => by cases hx⟩
end Go.Proofs.Ytjefdcbljpkmlaa.G
end

section
set_option linter.unusedVariables false
set_option maxRecDepth 10000
namespace Go.Proofs.Ytjefdcbljpkmlaa.G
open Go
/-- Slices that are owned: their values. -/
def OV (v : Value) (p : Nat × GO) (vs : List Value) : Prop := OwnE 22 1 v p vs
theorem OV.nil {b : Nat} : OV (.slice none 0 0) (b, .none) [] := .inl ⟨rfl, rfl, rfl⟩
theorem OV.empty {b m : Nat} : OV (.slice (some ⟨b, 0, none⟩) 0 0) (b, .row 22 [] m) [] := .inr ⟨b, 0, 0, m, rfl, rfl, rfl, Nat.le_refl _, by omega⟩
theorem OV.sl {v : Value} {p : Nat × GO} {vs : List Value} (h : OV v p vs) : ∃ a c, v = .slice a vs.length c := by
  rcases h with ⟨rfl, hp, rfl⟩ | ⟨b, len, cap, n, rfl, rfl, hl, hlc, hcn⟩
  · exact ⟨_, _, rfl⟩
  · have : len = vs.length := by simpa using hl.symm
    subst this
    exact ⟨_, _, rfl⟩
theorem OV.at {a : Option Addr} {n c : Nat} {p : Nat × GO} {vs : List Value} (h : OV (.slice a n c) p vs) {k : Nat} (hk : k < vs.length) : n = vs.length ∧ ∃ u, vs[k]? = some u ∧ a = some ⟨p.1, 0, none⟩ ∧ (cellsG p.2)[0 + k * 1]? = some u := by
  rcases h with ⟨_, _, rfl⟩ | ⟨b, len, cap, n', h, rfl, hl, hlc, hcn⟩
  · simp at hk
  · cases h
    have : n = vs.length := by simpa using hl.symm
    refine ⟨this, vs[k], List.getElem?_eq_getElem hk, rfl, ?_⟩
    rw [Nat.zero_add, Nat.mul_one]
    exact List.getElem?_eq_getElem hk
section
variable {ops os : List Oper} {H : Option (List Hint)} {K : Env → GL → Prop} {e : Env} {l : GL} {d1 d2 : Nat} {T T2 : TypeId} {pos pos2 : String} {af af2 : Array Edge}
end
end Go.Proofs.Ytjefdcbljpkmlaa.G
end

section
set_option linter.unusedVariables false
set_option maxRecDepth 10000
namespace Go.Proofs.Ytjefdcbljpkmlaa.G
open Go
theorem LS.cap {b o n c : Nat} {q : Nat × GO} {zs : List Int} (h : LS (some ⟨b, o, none⟩) n c q zs) : n = zs.length ∧ zs.length ≤ c ∧ b = q.1 := by
  obtain ⟨h1, h2, ⟨h3, _⟩ | ⟨o', h3, _⟩⟩ := h
  · cases h3
  · cases h3
    exact ⟨h1, by omega, rfl⟩
end Go.Proofs.Ytjefdcbljpkmlaa.G
end

section
set_option linter.unusedVariables false
namespace Go.Proofs.Ytjefdcbljpkmlaa.G
open Go
/-- A slice of bytes, with its entry. -/
def LB (a : Option Addr) (n c : Nat) (q : Nat × GO) (zs : List Int) : Prop :=
  n = zs.length ∧ n ≤ c ∧ (zs = [] ∨ ∃ o, a = some ⟨q.1, o, none⟩ ∧ o + zs.length ≤ (cellsG q.2).length ∧ ((cellsG q.2).drop o).take zs.length = bytesV zs) ∧ ∀ x ∈ zs, 0 ≤ x ∧ x ≤ 255
theorem LB.at {a : Option Addr} {n c : Nat} {q : Nat × GO} {zs : List Int} (h : LB a n c q zs) {k : Nat} (hk : k < zs.length) : ∃ o, a = some ⟨q.1, o, none⟩ ∧ (cellsG q.2)[o + k * 1]? = some (.int .u8 (zs.getD k 0)) ∧ 0 ≤ zs.getD k 0 ∧ zs.getD k 0 ≤ 255 := by
  simp only [Nat.mul_one]
  obtain ⟨h1, h2, rfl | ⟨o, rfl, _, h3⟩, h4⟩ := h
  · simp at hk
  · refine ⟨o, rfl, ?_, ?_⟩
    · have : (((cellsG q.2).drop o).take zs.length)[k]? = (bytesV zs)[k]? := by rw [h3]
      rw [List.getElem?_take_of_lt hk, List.getElem?_drop] at this
      rw [this, bytesV, List.getElem?_map, List.getElem?_eq_getElem hk]
      simp [List.getD, List.getElem?_eq_getElem hk]
    · rw [List.getD_eq_getElem?_getD, List.getElem?_eq_getElem hk]
      exact h4 _ (List.getElem_mem hk)
theorem LB.take {a : Option Addr} {n c : Nat} {q : Nat × GO} {zs : List Int} (h : LB a n c q zs) {k : Nat} (hk : k ≤ n) : LB a k c q (zs.take k) := by
  obtain ⟨h1, h2, h3, h4⟩ := h
  have e : (zs.take k).length = k := by simp; omega
  refine ⟨e.symm, by omega, ?_, fun x hx => h4 x (List.mem_of_mem_take hx)⟩
  rcases h3 with h3 | ⟨o, ho, h5, h6⟩
  · exact .inl (by rw [h3]; simp)
  · refine .inr ⟨o, ho, by omega, ?_⟩
    rw [e, show ((cellsG q.2).drop o).take k = (((cellsG q.2).drop o).take zs.length).take k by rw [List.take_take]; congr 1; omega, h6]
    simp [bytesV, List.map_take]
abbrev rdG (v : Value) (at_ : Int) : GO := .row 153 [v, .int .i64 at_] 2
/-- A reader of what is drawn. -/
def RS (g : Nat) (q : Nat × GO) (B : Nat) (p : Nat × GO) : Prop := ∃ a n c zs at_, p = (g, rdG (.slice a n c) ((at_ : Nat) : Int)) ∧ LB a n c q zs ∧ at_ ≤ B
theorem RS.mono {g : Nat} {q : Nat × GO} {B B' : Nat} {p : Nat × GO} (h : RS g q B p) (hb : B ≤ B') : RS g q B' p := by
  obtain ⟨a, n, c, zs, at_, h1, h2, h3⟩ := h
  exact ⟨a, n, c, zs, at_, h1, h2, Nat.le_trans h3 hb⟩
section
variable {ops os : List Oper} {H : Option (List Hint)} {K : Env → GL → Prop} {e : Env} {l : GL} {d : Nat} {T : TypeId} {pos : String} {af : Array Edge}
/-- A byte read. -/
theorem gs_atb (j : Nat) {t : TypeId} {x : Operand} {b off : Nat} {g : GO} {v : Value} {i : TyI} (hi : tyT t = some i) (ha : i.k.agg = false) (hx : gev e x = .pointer (some ⟨b, off, none⟩)) (hl : l[j]? = some (b, g)) (hv : (cellsG g)[off]? = some v) (k : gseq Try.prog ops os (tl? H) K (upd e d v) l) (hh : hL j H := by trivial) :
    gseq Try.prog ops (⟨some d, .load t x, T, pos, af, none⟩ :: os) H K e l := gs_v j (lv_load tyT_ok j rfl hx hl hi ha hv) k hh
end
end Go.Proofs.Ytjefdcbljpkmlaa.G
end

section
set_option linter.unusedVariables false
set_option maxRecDepth 10000
namespace Go.Proofs.Ytjefdcbljpkmlaa.G
open Go
theorem OB.nil {b : Nat} : OB (.slice none 0 0) (b, .none) [] := .inl ⟨rfl, rfl, rfl⟩
theorem OB.sl {v : Value} {p : Nat × GO} {zs : List Int} (h : OB v p zs) : ∃ a c, v = .slice a zs.length c := by
  rcases h with ⟨rfl, hp, hz⟩ | ⟨b, len, cap, n, rfl, rfl, hl, hlc, hcn⟩
  · have : zs = [] := by simpa [bytesV] using hz
    subst this
    exact ⟨_, _, rfl⟩
  · have : len = zs.length := by simpa [bytesV] using hl.symm
    subst this
    exact ⟨_, _, rfl⟩
section
variable {ops os : List Oper} {H : Option (List Hint)} {K : Env → GL → Prop} {e : Env} {l : GL} {d1 d2 : Nat} {T T2 : TypeId} {pos pos2 : String} {af af2 : Array Edge}
end
end Go.Proofs.Ytjefdcbljpkmlaa.G
end
