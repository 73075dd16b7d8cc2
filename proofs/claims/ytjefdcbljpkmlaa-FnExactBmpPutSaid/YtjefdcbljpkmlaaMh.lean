/- Texts made of numbers. -/
import Derived.Test.YtjefdcbljpkmlaaGi
import Derived.Test.YtjefdcbljpkmlaaMf
set_option linter.unusedVariables false
namespace Go.Proofs.Ytjefdcbljpkmlaa.G
open Go
/-- A text of such bytes. -/
abbrev txt (l : List Int) : ByteArray := strOfNums l
theorem txt_nil : txt [] = ⟨#[]⟩ := rfl
theorem txt_app (a b : List Int) : txt a ++ txt b = txt (a ++ b) := by
  apply ByteArray.ext
  simp [strOfNums]
theorem txt_size (l : List Int) : (txt l).size = l.length := strOfNums_size l
theorem wrap_u8 (n : Int) : IntKind.u8.wrap n = n % 256 := by
  simp [IntKind.wrap, IntKind.signed, IntKind.bits]
/-- The lowest byte first. -/
def le (n : Nat) (z : Nat) : List Int := (List.range z).map fun i => ((n / 256 ^ i % 256 : Nat) : Int)
theorem le_len (n z : Nat) : (le n z).length = z := by simp [le]
theorem le_succ (n z : Nat) : le n (z + 1) = le n z ++ [((n / 256 ^ z % 256 : Nat) : Int)] := by simp [le, List.range_succ]
theorem le_zero (n : Nat) : le n 0 = [] := rfl
theorem le_at (n : Nat) {z i : Nat} (h : i < z) : (le n z).getD i 0 = ((n / 256 ^ i % 256 : Nat) : Int) := by simp [le, List.getD, h]
/-- Numbers, one behind the other. -/
def les (z : Nat) (l : List Int) : List Int := l.flatMap fun n => le n.toNat z
theorem les_nil (z : Nat) : les z [] = [] := rfl
theorem les_snoc (z : Nat) (l : List Int) (n : Int) : les z (l ++ [n]) = les z l ++ le n.toNat z := by simp [les]
theorem les_app (z : Nat) (l m : List Int) : les z (l ++ m) = les z l ++ les z m := by simp [les]
theorem les_len (z : Nat) : ∀ l : List Int, (les z l).length = l.length * z
  | [] => by simp [les]
  | n :: l => by
    have := les_len z l
    simp only [les, List.flatMap_cons, List.length_append, le_len, List.length_cons] at this ⊢
    rw [this, Nat.succ_mul, Nat.add_comm]
theorem pow8 {z : Nat} (h1 : 1 ≤ z) (h2 : z ≤ 4) : (1 : Int) * 2 ^ Int.toNat (8 * (z : Int)) = ((256 ^ z : Nat) : Int) ∧ 256 ≤ 256 ^ z ∧ 256 ^ z ≤ 4294967296 := by
  have : z = 1 ∨ z = 2 ∨ z = 3 ∨ z = 4 := by omega
  rcases this with rfl | rfl | rfl | rfl <;> decide
theorem shr8 (n i : Nat) : (n : Int) / 2 ^ Int.toNat (8 * (i : Int)) = ((n / 256 ^ i : Nat) : Int) := by
  have e : Int.toNat (8 * (i : Int)) = 8 * i := by omega
  have e2 : (2 : Int) ^ (8 * i) = ((256 ^ i : Nat) : Int) := by
    rw [Int.pow_mul]
    simp
  rw [e, e2]
  simp
def bytesV (l : List Int) : List Value := l.map (Value.int .u8)
/-- Bytes that are owned. -/
def OB (v : Value) (p : Nat × GO) (zs : List Int) : Prop := OwnE 5 1 v p (bytesV zs)
def lpart (n z i : Nat) : List Int := le n i ++ List.replicate (z - i) 0
theorem lpart_len {n z i : Nat} (h : i ≤ z) : (lpart n z i).length = z := by simp [lpart, le_len]; omega
theorem lpart_set {n z i : Nat} (h : i < z) : put (bytesV (lpart n z i)) i [.int .u8 ((n / 256 ^ i % 256 : Nat) : Int)] = bytesV (lpart n z (i + 1)) := by
  unfold put lpart bytesV
  rw [le_succ, show z - i = z - (i + 1) + 1 by omega, List.replicate_succ]
  have : (List.map (Value.int .u8) (le n i)).length = i := by simp [le_len]
  simp only [List.map_append, List.map_cons, List.append_assoc]
  rw [List.take_append_of_le_length (by omega), List.take_of_length_le (by omega)]
  simp [List.drop_append, le_len]
section
variable {ops os : List Oper} {H : Option (List Hint)} {K : Env → GL → Prop} {e : Env} {l : GL} {d : Nat} {T : TypeId} {pos : String} {af : Array Edge}
/-- string(b) of bytes that lie in a row. -/
theorem gs_txt (j : Nat) {x : Operand} {b len cap : Nat} {t : TypeId} {m : Nat} {xs : List Int} (hx : gev e x = .slice (some ⟨b, 0, none⟩) len cap) (hl : l[j]? = some (b, .row t (bytesV xs) m)) (hn : xs.length = len) (k : gseq Try.prog ops os (tl? H) K (upd e d (.string (txt xs))) l) (hh : hL j H := by trivial) :
    gseq Try.prog ops (⟨some d, .convert 35 9 x, T, pos, af, none⟩ :: os) H K e l := by
  refine gs_v j (lv_text tyT_ok (el := 5) j rfl rfl rfl rfl hx hl hn ?_) k hh
  subst hn
  simp only [cellsG, List.drop_zero, bytesV]
  rw [List.take_of_length_le (by simp)]
/-- An element of a list, guarded. -/
theorem gs_atg (j : Nat) {t : TypeId} {x : Operand} {b off : Nat} {g : GO} {n : Int} {i : TyI} {gd : Nat × Bool} (hw : wantedE ops ⟨some d, .load t x, T, pos, af, some gd⟩ e = true) (hi : tyT t = some i) (ha : i.k.agg = false) (hx : gev e x = .pointer (some ⟨b, off, none⟩)) (hl : l[j]? = some (b, g)) (hv : (cellsG g)[off]? = some (.int .i64 n)) (k : gseq Try.prog ops os (tl? H) K (upd e d (.int .i64 n)) l) (hh : hL j H := by trivial) :
    gseq Try.prog ops (⟨some d, .load t x, T, pos, af, some gd⟩ :: os) H K e l := by
  have hv' : LVal Try.prog ⟨some d, .load t x, T, pos, af, some gd⟩ (gev e) l[j]? (.int .i64 n) := lv_load tyT_ok j rfl hx hl hi ha hv
  exact (hL_or hh).elim (fun q => ⟨.L j, q, hw, _, hv', k⟩) (fun q => ⟨.R, q, .inr ⟨hw, _, ⟨j, hv'⟩, k⟩⟩)
/-- Two texts, one behind the other. -/
theorem gs_cat {x y : Operand} {a b : List Int} {t u : TypeId} (hx : gev e x = .string (txt a)) (hy : gev e y = .string (txt b)) (hs : a.length + b.length ≤ 1000000000000) (k : gseq Try.prog ops os (tl? H) K (upd e d (.string (txt (a ++ b)))) l) (hh : hN H := by trivial) :
    gseq Try.prog ops (⟨some d, .binOp .add t x y u, T, pos, af, none⟩ :: os) H K e l := by
  refine gs_n tyT_ok 0 (p := (txt a).size + (txt b).size ≤ 9223372036854775807) (v := .string (txt (a ++ b))) k ?_ ?_ hh
  · rw [← txt_app]
    simp only [dval, hx, hy, binV]
  · rw [txt_size, txt_size]
    omega
end
end Go.Proofs.Ytjefdcbljpkmlaa.G
