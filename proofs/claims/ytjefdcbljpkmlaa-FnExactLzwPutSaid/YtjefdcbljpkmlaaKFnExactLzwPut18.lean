/- What the law FnExactLzwPut needs, out of the texts Mh. -/
import Derived.Test.YtjefdcbljpkmlaaKFnExactLzwPut07
import Derived.Test.YtjefdcbljpkmlaaKFnExactLzwPut17
section
set_option linter.unusedVariables false
namespace Go.Proofs.Ytjefdcbljpkmlaa.G
open Go
/-- A text of such bytes. -/
abbrev txt (l : List Int) : ByteArray := strOfNums l
theorem txt_size (l : List Int) : (txt l).size = l.length := strOfNums_size l
theorem wrap_u8 (n : Int) : IntKind.u8.wrap n = n % 256 := by
  simp [IntKind.wrap, IntKind.signed, IntKind.bits]
def bytesV (l : List Int) : List Value := l.map (Value.int .u8)
/-- Bytes that are owned. -/
def OB (v : Value) (p : Nat × GO) (zs : List Int) : Prop := OwnE 5 1 v p (bytesV zs)
section
variable {ops os : List Oper} {H : Option (List Hint)} {K : Env → GL → Prop} {e : Env} {l : GL} {d : Nat} {T : TypeId} {pos : String} {af : Array Edge}
/-- string(b) of bytes that lie in a row. -/
theorem gs_txt (j : Nat) {x : Operand} {b len cap : Nat} {t : TypeId} {m : Nat} {xs : List Int} (hx : gev e x = .slice (some ⟨b, 0, none⟩) len cap) (hl : l[j]? = some (b, .row t (bytesV xs) m)) (hn : xs.length = len) (k : gseq Try.prog ops os (tl? H) K (upd e d (.string (txt xs))) l) (hh : hL j H := by trivial) :
    gseq Try.prog ops (⟨some d, .convert 35 9 x, T, pos, af, none⟩ :: os) H K e l := by
  refine gs_v j (lv_text tyT_ok (el := 5) j rfl rfl rfl rfl hx hl hn ?_) k hh
  subst hn
  simp only [cellsG, List.drop_zero, bytesV]
  rw [List.take_of_length_le (by simp)]
end
end Go.Proofs.Ytjefdcbljpkmlaa.G
end
