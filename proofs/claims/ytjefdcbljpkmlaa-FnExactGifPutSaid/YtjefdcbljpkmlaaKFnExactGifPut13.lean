/- What the law FnExactGifPut needs, out of the texts Mc Wf Wg Md Wi Mf Mh. -/
import Derived.Test.YtjefdcbljpkmlaaShelf
import Derived.Test.YtjefdcbljpkmlaaKFnExactGifPut08
import Derived.Test.YtjefdcbljpkmlaaKFnExactGifPut10
import Derived.Test.YtjefdcbljpkmlaaKFnExactGifPut12
section
set_option linter.unusedVariables false
set_option linter.unusedSimpArgs false
namespace Go.Proofs.Ytjefdcbljpkmlaa.G
open Go
/-- A call that changes what it is handed. -/
def Wr (P : Program) (f : FuncId) (args : List Value) (F F2 : GL) (r : Value) : Prop := Trip P f args F (fun v F' ns => v = r ∧ F' = F2 ∧ ns = [])
section
variable {P : Program} {ops os : List Oper} {H : Option (List Hint)} {K : Env → GL → Prop} {e : Env} {l : GL} {dd : Option Nat} {T : TypeId} {pos : String} {af : Array Edge} {F F2 l2 : GL}
theorem gs_wr (ks : List Nat) {f : FuncId} {xs : Array Operand} {ts : Array TypeId} {r : Value} (hent : Ent P f) (hp : pick l ks = some F) (nk : ks.Nodup) (h : Wr P f (xs.toList.map (gev e)) F F2 r) (hl : setAll l ks F2 = l2) (k : gseq P ops os (tl? H) K (updo e dd r) l2) (hh : hE ks H := by trivial) : gseq P ops (⟨dd, .call { callee := .value (.func f), args := xs, argTypes := ts }, T, pos, af, none⟩ :: os) H K e l := by
  refine gs_call ks hent hp nk h (fun v F' ns ho _ _ => ?_) hh
  obtain ⟨rfl, rfl, rfl⟩ := ho
  rw [List.append_nil, hl]
  exact k
end
/-- Ways meet ahead of what is still to come. -/
theorem gw_join {P : Program} {n : Nat} {Q : QT} {K : Env → GL → Prop} {e : Env} {l : GL} {x : Code} {α : Type} (L : α → List (Nat × Value)) (lf : α → GL) (p : α → Prop) (h : GW P n x (thenQ (fun e l => ∃ a, p a ∧ l = lf a ∧ Has e (L a)) Q) e l) (k : ∀ a e, p a → K (upds e (L a)) (lf a)) : GW P n x (thenQ K Q) e l := by
  refine GW.mono h fun ex e l hq => ?_
  cases ex with
  | normal =>
    obtain ⟨a, h1, rfl, h3⟩ := hq
    have := k a e h1
    rw [has_eq h3] at this
    exact this
  | _ => exact hq
theorem lvar {P : Program} {ty : Tys} (hty : TysOk P ty) {t : TypeId} {i : TyI} {b off : Nat} {g : GO} {vs : List Value} (hi : ty t = some i) (ha : i.k.agg = true) (hv : ((cellsG g).drop off).take i.size = vs) (hn : off + i.size ≤ (cellsG g).length) (w : World) (hh : g.holds w.heap[b]?) : (loadVar t ⟨b, off, none⟩).run P w = .ok (.agg vs.toArray) w := by
  have hr := holds_range (n := i.size) (o := off) hh
  have hlen : (((cellsG g).drop off).take i.size).length = i.size := by simp; omega
  have hl := run_loadCells_list (P := P) w ⟨b, off, none⟩ (((cellsG g).drop off).take i.size) (fun j u hu => by rw [addr_add]; exact hr j u hu)
  rw [hlen, hv] at hl
  have := d_load hty hi b off (.agg vs.toArray) w (by rw [ha]; exact ⟨hl, rfl⟩)
  simpa [Instr.loadAt, Instr.sureAddr] using this
/-- A result that lies in memory. -/
theorem rv_cell {P : Program} {ty : Tys} (hty : TysOk P ty) (k : Nat) {e : Env} {l : GL} {a t b off : Nat} {g : GO} {i : TyI} {vs : List Value} {rs : List ResultVar} {us : List Value} (ha : e a = .pointer (some ⟨b, off, none⟩)) (hl : l[k]? = some (b, g)) (hi : ty t = some i) (hg : i.k.agg = true) (hv : ((cellsG g).drop off).take i.size = vs) (hn : off + i.size ≤ (cellsG g).length) (h : RV P e l rs us) : RV P e l (.cell a t :: rs) (.agg vs.toArray :: us) :=
  RV.cell k ha (fun w hw => lvar hty hi hg hv hn w (hw _ hl)) h
theorem toList_extract (s : ByteArray) (p e : Nat) : (s.extract p e).data.toList = (s.data.toList.take e).drop p := by
  rw [ByteArray.data_extract, Array.toList_extract, List.extract_eq_take_drop, List.drop_take]
theorem byt_extract {s : ByteArray} {p n i : Nat} (hi : i < n) (h : p + n ≤ s.size) : byt (s.extract p (p + n)) i = byt s (p + i) := by
  have hs : s.data.toList.length = s.size := by simp
  unfold byt
  rw [toList_extract, List.getD_eq_getElem?_getD, List.getD_eq_getElem?_getD, List.getElem?_drop, List.getElem?_take_of_lt (by omega)]
theorem size_extract {s : ByteArray} {p n : Nat} (h : p + n ≤ s.size) : (s.extract p (p + n)).size = n := by
  rw [ByteArray.size_extract]
  omega
end Go.Proofs.Ytjefdcbljpkmlaa.G
end

section
set_option linter.unusedVariables false
set_option maxRecDepth 8000
namespace Go.Proofs.Ytjefdcbljpkmlaa.G
open Go
def tT (k d : Int) : Int := if k = 4 ∧ d = 8 then 1 else if k = 2 ∨ k = 3 then 2 else if k = 1 ∧ d = 8 then 3 else 0
def tK (n d : Int) : Int := if n = 1 then 4 else if n = 2 then (if d = 24 then 2 else 3) else if n = 3 then 1 else 0
end Go.Proofs.Ytjefdcbljpkmlaa.G
end

section
set_option linter.unusedVariables false
set_option maxRecDepth 10000
namespace Go.Proofs.Ytjefdcbljpkmlaa.G
open Go
section
variable {g : Nat} {s : ByteArray} {p : Nat} {bad : Bool}
end
/-- What a head must say; x0 .. as they are read. -/
structure Hd where
  (ahead has number frm many bits zero wide high depth last : Int)
def Hd.runs (h : Hd) : Prop := 8 ≤ h.number
instance (h : Hd) : Decidable h.runs := by unfold Hd.runs; infer_instance
def Hd.num (h : Hd) : Int := if h.runs then h.number - 8 else h.number
def Hd.kind (h : Hd) : Int := tK h.num h.depth
def Hd.lst (h : Hd) : Int := if h.kind = 3 then h.last - 8 else h.last
def Hd.colors (h : Hd) : Prop := if h.kind = 4 then h.has = 1 ∧ h.bits = 24 ∧ (1 ≤ h.many ∧ h.many ≤ 256) else h.has = 0 ∧ h.bits = 0 ∧ h.many = 0
instance (h : Hd) : Decidable h.colors := by unfold Hd.colors; infer_instance
def Hd.ok (h : Hd) : Prop := h.colors ∧ h.frm = 0 ∧ h.zero = 0 ∧ tT h.kind h.depth = h.num ∧ h.num ≠ 0 ∧ dOk h.kind h.depth ∧ (h.lst = 0 ∨ h.lst = 32)
instance (h : Hd) : Decidable h.ok := by unfold Hd.ok; infer_instance
def Hd.size (h : Hd) : Prop := (1 ≤ h.wide ∧ h.wide ≤ 20) ∧ (1 ≤ h.high ∧ h.high ≤ 20)
instance (h : Hd) : Decidable h.size := by unfold Hd.size; infer_instance
def Hd.rng (h : Hd) : Prop := (0 ≤ h.ahead ∧ h.ahead ≤ 255) ∧ (0 ≤ h.number ∧ h.number ≤ 255) ∧ (0 ≤ h.many ∧ h.many ≤ 65535) ∧ (0 ≤ h.last ∧ h.last ≤ 255)
section
variable {g : Nat} {s : ByteArray}
end
end Go.Proofs.Ytjefdcbljpkmlaa.G
end

section
set_option linter.unusedVariables false
set_option linter.unusedSimpArgs false
namespace Go.Proofs.Ytjefdcbljpkmlaa.G
open Go
section
variable {ops os : List Oper} {H : Option (List Hint)} {K : Env → GL → Prop} {e : Env} {l : GL} {d1 d2 : Nat} {T T2 : TypeId} {pos pos2 : String} {af af2 : Array Edge}
/-- append(y, x). -/
theorem gs_push (j : Nat) {x y : Operand} {n : Int} {p : Nat × GO} {v : Value} {zs : List Int} (hx : gev e x = .int .i64 n) (hl : l[j]? = some p) (hv : OI v p zs) (hy : ∀ u, gev (upd e d1 u) y = v) (hz : zs.length ≤ 1000000000000)
    (k : ∀ b a c p2, OI (.slice a (zs.length + 1) c) p2 (zs ++ [n]) → gseq Try.prog ops os (tl? (tl? H)) K (upd (upd e d1 (.slice (some ⟨b, 0, none⟩) 1 1)) d2 (.slice a (zs.length + 1) c)) ((l ++ [(b, GO.row 3 [.int .i64 n] 1)]).set j p2)) (hh : hE [] H := by trivial) (hh2 : hE [j, l.length] (tl? H) := by trivial) :
    gseq Try.prog ops (⟨some d1, .buildSlice 22 1 #[(0, x)], T, pos, af, none⟩ :: ⟨some d2, .call { callee := .builtin .append, args := #[y, .tmp d1], argTypes := #[22, 22] }, T2, pos2, af2, none⟩ :: os) H K e l := by
  refine gs_lit tyT_ok (cs := [.int .i64 n]) rfl rfl rfl (by decide) ?_ (fun b => ?_) hh
  · show fillL _ _ [(0, gev e x)] = _
    rw [hx]
    rfl
  have hj := (List.getElem?_eq_some_iff.1 hl).1
  refine gs_append tyT_ok j l.length (p := p) (q := (b, GO.row 3 [.int .i64 n] 1)) (cs := ints zs) (nw := ints [n]) ?_ ?_ (by omega) rfl rfl rfl ?_ ?_ rfl ?_ (by decide) (by decide) (fun v2 p2 hv2 => ?_) hh2
  · rw [List.getElem?_append_left hj, hl]
  · simp
  · rw [hy]
    exact hv
  · refine .inr ⟨b, 0, 1, 1, ?_, rfl, Nat.le_of_ble_eq_true rfl, rfl⟩
    show upd e d1 _ d1 = _
    simp [upd]
  · simp only [ints, List.length_map, List.length_singleton]
    show (zs.length + 1) * 8 ≤ 140737488355328 * 1
    omega
  · have hv3 : OI v2 p2 (zs ++ [n]) := by
      rw [OI, ← ints_add]
      exact hv2
    obtain ⟨a, c, he, hl3⟩ := hv3.ls
    subst he
    rw [List.length_append] at hv3 ⊢
    exact k b a c p2 hv3
end
/-- So many numbers, each so many times. -/
def many (s : ByteArray) (z a times j : Nat) : List Int := (List.range j).flatMap fun i => List.replicate times (fld s (a + i * z) z false z)
end Go.Proofs.Ytjefdcbljpkmlaa.G
end

section
set_option linter.unusedVariables false
set_option maxRecDepth 10000
namespace Go.Proofs.Ytjefdcbljpkmlaa.G
open Go
/-- Rows as they come, so many. -/
def rows (W H : Nat) (ps : List Int) (n : Nat) : List Int := (List.range n).flatMap fun y => (List.range W).map fun x => ps.getD ((H - 1 - y) * W + x) 0
end Go.Proofs.Ytjefdcbljpkmlaa.G
end

section
set_option linter.unusedVariables false
namespace Go.Proofs.Ytjefdcbljpkmlaa.G
open Go
def small (l : List Int) : Prop := ∀ x ∈ l, 0 ≤ x ∧ x ≤ 4294967295
theorem OI.empty {b m : Nat} : OI (.slice (some ⟨b, 0, none⟩) 0 0) (b, .row 3 [] m) [] := .inr ⟨b, 0, 0, m, rfl, rfl, rfl, Nat.le_refl _, by omega⟩
theorem put_ints {l : List Int} {i : Nat} {x : Int} (hi : i < l.length) : put (ints l) i [.int .i64 x] = ints (l.set i x) := by
  unfold put
  rw [List.set_eq_take_append_cons_drop, if_pos hi]
  simp [ints, List.map_take, List.map_drop]
/-- A number in a list that is owned is set anew. -/
theorem OI.set {a : Option Addr} {n c : Nat} {p : Nat × GO} {l : List Int} (h : OI (.slice a n c) p l) {i : Nat} (hi : i < l.length) : ∃ b m, a = some ⟨b, 0, none⟩ ∧ p = (b, .row 3 (ints l) m) ∧ l.length ≤ m ∧ ∀ x, OI (.slice a n c) (b, .row 3 (put (ints l) i [.int .i64 x]) m) (l.set i x) := by
  rcases h with ⟨h, _, hz⟩ | ⟨b, len, cap, m, h, rfl, hl, hlc, hcn⟩
  · have : l = [] := by simpa [ints] using hz
    subst this
    simp at hi
  · cases h
    have hl2 : l.length = n := by simpa [ints] using hl
    refine ⟨b, m, rfl, rfl, by omega, fun x => .inr ⟨b, n, c, m, rfl, ?_, ?_, hlc, hcn⟩⟩
    · rw [put_ints hi]
    · simpa [ints] using hl2
/-- So many points told anew. -/
def part (f : Int → Int) (l : List Int) (i : Nat) : List Int := (l.take i).map f ++ l.drop i
end Go.Proofs.Ytjefdcbljpkmlaa.G
end

section
set_option linter.unusedVariables false
namespace Go.Proofs.Ytjefdcbljpkmlaa.G
open Go
/-- A text of such bytes. -/
abbrev txt (l : List Int) : ByteArray := strOfNums l
theorem txt_app (a b : List Int) : txt a ++ txt b = txt (a ++ b) := by
  apply ByteArray.ext
  simp [strOfNums]
theorem txt_size (l : List Int) : (txt l).size = l.length := strOfNums_size l
theorem wrap_u8 (n : Int) : IntKind.u8.wrap n = n % 256 := by
  simp [IntKind.wrap, IntKind.signed, IntKind.bits]
/-- The lowest byte first. -/
def le (n : Nat) (z : Nat) : List Int := (List.range z).map fun i => ((n / 256 ^ i % 256 : Nat) : Int)
theorem le_len (n z : Nat) : (le n z).length = z := by simp [le]
theorem le_succ (n z : Nat) : le n (z + 1) = le n z ++ [((n / 256 ^ z % 256 : Nat) : Int)] := by simp [le, List.range_succ]
theorem le_zero (n : Nat) : le n 0 = [] := rfl
theorem pow8 {z : Nat} (h1 : 1 ≤ z) (h2 : z ≤ 4) : (1 : Int) * 2 ^ Int.toNat (8 * (z : Int)) = ((256 ^ z : Nat) : Int) ∧ 256 ≤ 256 ^ z ∧ 256 ^ z ≤ 4294967296 := by
  have : z = 1 ∨ z = 2 ∨ z = 3 ∨ z = 4 := by omega
  rcases this with rfl | rfl | rfl | rfl <;> decide
theorem shr8 (n i : Nat) : (n : Int) / 2 ^ Int.toNat (8 * (i : Int)) = ((n / 256 ^ i : Nat) : Int) := by
  have e : Int.toNat (8 * (i : Int)) = 8 * i := by omega
  have e2 : (2 : Int) ^ (8 * i) = ((256 ^ i : Nat) : Int) := by
    rw [Int.pow_mul]
    simp
  rw [e, e2]
  simp
def bytesV (l : List Int) : List Value := l.map (Value.int .u8)
/-- Bytes that are owned. -/
def OB (v : Value) (p : Nat × GO) (zs : List Int) : Prop := OwnE 5 1 v p (bytesV zs)
def lpart (n z i : Nat) : List Int := le n i ++ List.replicate (z - i) 0
theorem lpart_len {n z i : Nat} (h : i ≤ z) : (lpart n z i).length = z := by simp [lpart, le_len]; omega
theorem lpart_set {n z i : Nat} (h : i < z) : put (bytesV (lpart n z i)) i [.int .u8 ((n / 256 ^ i % 256 : Nat) : Int)] = bytesV (lpart n z (i + 1)) := by
  unfold put lpart bytesV
  rw [le_succ, show z - i = z - (i + 1) + 1 by omega, List.replicate_succ]
  have : (List.map (Value.int .u8) (le n i)).length = i := by simp [le_len]
  simp only [List.map_append, List.map_cons, List.append_assoc]
  rw [List.take_append_of_le_length (by omega), List.take_of_length_le (by omega)]
  simp [List.drop_append, le_len]
section
variable {ops os : List Oper} {H : Option (List Hint)} {K : Env → GL → Prop} {e : Env} {l : GL} {d : Nat} {T : TypeId} {pos : String} {af : Array Edge}
/-- string(b) of bytes that lie in a row. -/
theorem gs_txt (j : Nat) {x : Operand} {b len cap : Nat} {t : TypeId} {m : Nat} {xs : List Int} (hx : gev e x = .slice (some ⟨b, 0, none⟩) len cap) (hl : l[j]? = some (b, .row t (bytesV xs) m)) (hn : xs.length = len) (k : gseq Try.prog ops os (tl? H) K (upd e d (.string (txt xs))) l) (hh : hL j H := by trivial) :
    gseq Try.prog ops (⟨some d, .convert 35 9 x, T, pos, af, none⟩ :: os) H K e l := by
  refine gs_v j (lv_text tyT_ok (el := 5) j rfl rfl rfl rfl hx hl hn ?_) k hh
  subst hn
  simp only [cellsG, List.drop_zero, bytesV]
  rw [List.take_of_length_le (by simp)]
/-- Two texts, one behind the other. -/
theorem gs_cat {x y : Operand} {a b : List Int} {t u : TypeId} (hx : gev e x = .string (txt a)) (hy : gev e y = .string (txt b)) (hs : a.length + b.length ≤ 1000000000000) (k : gseq Try.prog ops os (tl? H) K (upd e d (.string (txt (a ++ b)))) l) (hh : hN H := by trivial) :
    gseq Try.prog ops (⟨some d, .binOp .add t x y u, T, pos, af, none⟩ :: os) H K e l := by
  refine gs_n tyT_ok 0 (p := (txt a).size + (txt b).size ≤ 9223372036854775807) (v := .string (txt (a ++ b))) k ?_ ?_ hh
  · rw [← txt_app]
    simp only [dval, hx, hy, binV]
  · rw [txt_size, txt_size]
    omega
end
end Go.Proofs.Ytjefdcbljpkmlaa.G
end
