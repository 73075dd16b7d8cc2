/- impl: tgaHead. -/
import Derived.Test.YtjefdcbljpkmlaaWf
set_option linter.unusedVariables false
set_option maxRecDepth 10000
namespace Go.Proofs.Ytjefdcbljpkmlaa.G
open Go
section
variable {g : Nat} {s : ByteArray} {p : Nat} {bad : Bool}
def GotS (s : ByteArray) (p : Nat) (bad : Bool) (z : Int) (p2 : Nat) (bad2 : Bool) (x : ByteArray) : Prop :=
  p2 ≤ s.size ∧ (x.size : Int) = z ∧ (bad2 = false → bad = false ∧ (p2 : Int) = p + z ∧ x = s.extract p p2) ∧ (bad2 = true → bad = true ∨ (s.size : Int) < p + z)
def GotST (P : Program) (f : FuncId) (args : List Value) (g : Nat) (s : ByteArray) (p : Nat) (bad : Bool) (z : Int) : Prop :=
  Trip P f args [(g, sc s p bad)] (fun v F' ns => ∃ p2 bad2 x, v = .string x ∧ F' = [(g, sc s p2 bad2)] ∧ ns = [] ∧ GotS s p bad z p2 bad2 x)
theorem take_g {m : Int} (hs : s.size ≤ 1000000000000) (hp : p ≤ s.size) (h1 : 0 ≤ m) (h2 : m ≤ 1000000000) : GotST Try.prog 71 [ptr g, .int .i64 m] g s p bad m := by
  obtain ⟨z, rfl⟩ := Int.eq_ofNat_of_zero_le h1
  by_cases h : bad = false ∧ p + z ≤ s.size
  · obtain ⟨rfl, h⟩ := h
    exact (take_t hs h).mono fun v F' ns ⟨h3, h4, h5⟩ => ⟨_, _, _, h3, h4, h5, h, by rw [size_extract h], fun _ => ⟨rfl, by omega, rfl⟩, fun h => by cases h⟩
  · refine (take_f hs hp (by omega) (nope h)).mono fun v F' ns ⟨h3, h4, h5⟩ => ⟨_, _, _, h3, h4, h5, hp, by rw [zeros_size], fun h => (by cases h), fun _ => (nope h).imp id fun h => (by omega)⟩
end
theorem gs_sct {P : Program} {ops os : List Oper} {H : Option (List Hint)} {K : Env → GL → Prop} {e : Env} {l : GL} {d : Nat} {T : TypeId} {pos : String} {af : Array Edge} {g : Nat} {s : ByteArray} {p : Nat} {bad : Bool} {f : FuncId} {xs : Array Operand} {ts : Array TypeId} {z : Int} (hent : Ent P f) (h : GotST P f (xs.toList.map (gev e)) g s p bad z) (k : ∀ p2 bad2 x, GotS s p bad z p2 bad2 x → gseq P ops os (tl? H) K (upd e d (.string x)) ((g, sc s p2 bad2) :: l)) (hh : hE [0] H := by trivial) : gseq P ops (⟨some d, .call { callee := .value (.func f), args := xs, argTypes := ts }, T, pos, af, none⟩ :: os) H K e ((g, sc s p bad) :: l) := by
  refine gs_call [0] hent rfl (by decide) h (fun v F' ns ho _ _ => ?_) hh
  obtain ⟨p2, bad2, x, rfl, rfl, rfl, hg⟩ := ho
  simpa [setAll, updo] using k p2 bad2 x hg
/-- What a head must say; x0 .. as they are read. -/
structure Hd where
  (ahead has number frm many bits zero wide high depth last : Int)
def Hd.runs (h : Hd) : Prop := 8 ≤ h.number
instance (h : Hd) : Decidable h.runs := by unfold Hd.runs; infer_instance
def Hd.num (h : Hd) : Int := if h.runs then h.number - 8 else h.number
def Hd.kind (h : Hd) : Int := tK h.num h.depth
def Hd.lst (h : Hd) : Int := if h.kind = 3 then h.last - 8 else h.last
def Hd.colors (h : Hd) : Prop := if h.kind = 4 then h.has = 1 ∧ h.bits = 24 ∧ (1 ≤ h.many ∧ h.many ≤ 256) else h.has = 0 ∧ h.bits = 0 ∧ h.many = 0
instance (h : Hd) : Decidable h.colors := by unfold Hd.colors; infer_instance
def Hd.ok (h : Hd) : Prop := h.colors ∧ h.frm = 0 ∧ h.zero = 0 ∧ tT h.kind h.depth = h.num ∧ h.num ≠ 0 ∧ dOk h.kind h.depth ∧ (h.lst = 0 ∨ h.lst = 32)
instance (h : Hd) : Decidable h.ok := by unfold Hd.ok; infer_instance
def Hd.size (h : Hd) : Prop := (1 ≤ h.wide ∧ h.wide ≤ 20) ∧ (1 ≤ h.high ∧ h.high ≤ 20)
instance (h : Hd) : Decidable h.size := by unfold Hd.size; infer_instance
def Hd.rng (h : Hd) : Prop := (0 ≤ h.ahead ∧ h.ahead ≤ 255) ∧ (0 ≤ h.number ∧ h.number ≤ 255) ∧ (0 ≤ h.many ∧ h.many ≤ 65535) ∧ (0 ≤ h.last ∧ h.last ≤ 255)
/-- The fields of a text. -/
def hdOf (s : ByteArray) : Hd := ⟨byt s 0, byt s 1, byt s 2, fld s 3 2 false 2, fld s 5 2 false 2, byt s 7, fld s 8 4 false 4, fld s 12 2 false 2, fld s 14 2 false 2, byt s 16, byt s 17⟩
section
variable {g : Nat} {s : ByteArray}
def HeadOut (g : Nat) (s : ByteArray) : OutT := fun v F' ns => ∃ p bad k d w h a n c runs down q, v = .tuple #[img k d w h (.slice a n c) (.slice none 0 0), .bool runs, .bool down] ∧ F' = [(g, sc s p bad)] ∧ ns = [q] ∧ (bad = true ∧ ¬ (18 ≤ s.size ∧ (hdOf s).ok ∧ (hdOf s).size ∧ 18 + (hdOf s).ahead + 3 * (hdOf s).many ≤ s.size) ∨ (bad = false ∧
  (18 ≤ s.size ∧ (hdOf s).ok ∧ (hdOf s).size ∧ k = (hdOf s).kind ∧ d = (hdOf s).depth ∧ w = (hdOf s).wide ∧ h = (hdOf s).high ∧ runs = decide (hdOf s).runs ∧ down = decide ((hdOf s).lst = 0) ∧
    (p : Int) = 18 + (hdOf s).ahead + 3 * (hdOf s).many ∧ p ≤ s.size ∧ OI (.slice a n c) q (cols (s.extract (18 + (hdOf s).ahead.toNat) p) 3 false (hdOf s).many.toNat))))
end
end Go.Proofs.Ytjefdcbljpkmlaa.G
