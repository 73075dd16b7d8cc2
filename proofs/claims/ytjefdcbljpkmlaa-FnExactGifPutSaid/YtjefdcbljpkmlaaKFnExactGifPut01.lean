/- What the law FnExactGifPut needs, out of the texts Gb. -/
import Derived.Laws.Entries
import Derived.Laws.Cells
import Derived.Laws.Tables
import Derived.Deep.MidRow
import Derived.Lib.ConvBytes
import Derived.Laws.Strings
import Derived.Laws.BytesArg
import Derived.Test.YtjefdcbljpkmlaaKFnExactGifPut00
section
set_option linter.unusedVariables false
set_option linter.unusedSimpArgs false
namespace Go.Proofs.Ytjefdcbljpkmlaa.G
open Go
inductive TK where
  | bool | int (k : IntKind) | str | slice (e : TypeId) | struct (fs : List (Nat × TypeId)) | arr (n : Nat) (e : TypeId) | ptr | map (k v : TypeId) | func | tup
structure TyI where
  k : TK
  size : Nat
  bytes : Nat
  zero : Value
def TK.ok : TK → TypeDesc → Prop
  | .bool, d => d = .bool
  | .int k, d => d = .int k
  | .str, d => d = .string
  | .slice e, d => d = .slice e
  | .struct fs, d => ∃ f, d = .struct f ∧ f.toList.map (fun x => (x.offset, x.type)) = fs
  | .arr n e, d => d = .array n e
  | .ptr, d => ∃ e, d = .pointer e
  | .map k v, d => d = .map k v
  | .func, d => ∃ a b c, d = .func a b c
  | .tup, d => ∃ a, d = .tuple a
def TK.agg : TK → Bool
  | .struct _ | .arr _ _ => true
  | _ => false
structure TyOk (P : Program) (t : TypeId) (i : TyI) : Prop where
  info : ∃ inf, P.info? t = some inf ∧ inf.size = i.size ∧ inf.bytes = i.bytes ∧ inf.zero = some i.zero
  under : ∃ d, P.underlying t = some d ∧ i.k.ok d
abbrev Tys := TypeId → Option TyI
def TysOk (P : Program) (ty : Tys) : Prop := ∀ t i, ty t = some i → TyOk P t i
abbrev Env := Nat → Value
def upd (e : Env) (d : Nat) (v : Value) : Env := fun i => bif Nat.beq i d then v else e i
def updo (e : Env) : Option Nat → Value → Env
  | some d, v => upd e d v
  | none, _ => e
def gev (e : Env) : Operand → Value
  | .tmp t => e t
  | .const v => v
  | .global g => .pointer (some ⟨g, 0, none⟩)
  | .func f => .func (.func f) #[] #[]
structure Rep (n : Nat) (e : Env) (a : Act) : Prop where
  size : a.tmps.size = n
  defers : a.defers = []
  at_ : ∀ t, a.tmps.getD t undef = e t
theorem Rep.eval {n : Nat} {e : Env} {a : Act} (h : Rep n e a) : a.eval = gev e := by
  funext x
  cases x
  · exact h.at_ _
  all_goals rfl
theorem Rep.put {n : Nat} {e : Env} {a : Act} (h : Rep n e a) (d : Option Nat) (v : Value) (hd : ∀ x, d = some x → x < n) : Rep n (updo e d v) (a.put d v) := by
  cases d with
  | none => exact h
  | some d =>
    refine ⟨by simp [Act.put, h.size], h.defers, fun t => ?_⟩
    have hd := hd d rfl
    have h1 := h.at_ t
    simp only [Act.put, updo, upd, Array.getD_eq_getD_getElem?, Array.getElem?_setIfInBounds] at h1 ⊢
    by_cases e1 : d = t
    · subst e1
      simp [h.size, hd]
    · have : Nat.beq t d = false := by rw [Bool.eq_false_iff]; exact fun h => e1 (Nat.eq_of_beq_eq_true h).symm
      rw [this, if_neg e1]
      exact h1
/-- A whole number of a kind lies in its range. -/
def inr (k : IntKind) (x : Int) : Prop := match k with
  | .i64 => -9223372036854775808 ≤ x ∧ x ≤ 9223372036854775807
  | .u8 => 0 ≤ x ∧ x ≤ 255
  | k => k.min ≤ x ∧ x ≤ k.max
theorem wrap_in {k : IntKind} {x : Int} (h : inr k x) : k.wrap x = x := by
  have h : k.min ≤ x ∧ x ≤ k.max := by cases k <;> exact h
  obtain ⟨h1, h2⟩ := h
  cases k <;> simp [IntKind.min, IntKind.max, IntKind.signed, IntKind.bits] at h1 h2 <;> simp [IntKind.wrap, IntKind.signed, IntKind.bits] <;> (try split) <;> omega
theorem inr_byte (s : ByteArray) (i : Nat) : inr .i64 (((s.data.toList.getD i 0).toNat : Nat) : Int) := by
  have := (s.data.toList.getD i 0).toNat_lt
  simp only [inr]
  omega
/-- A reckoned number: as it is if it lies in range (hint 0), or wrapped (any other hint). -/
def num (h : Nat) (k : IntKind) (x : Int) : Option (Prop × Value) := match h with
  | 0 => some (inr k x, .int k x)
  | _ => some (True, .int k (k.wrap x))
/-- A test: told at a hint but 0 (a walk stops there). -/
def tst (h : Nat) (b : Bool) : Option (Prop × Value) := match h with
  | 0 => none
  | _ => some (True, .bool b)
def binV (h : Nat) (op : BinOp) (x y : Value) : Option (Prop × Value) :=
  match op, x, y with
  | .shl, .int k a, .int _ b => match h with
    | 0 => some (0 ≤ b ∧ b ≤ k.bits ∧ inr k (a * 2 ^ b.toNat), .int k (a * 2 ^ b.toNat))
    | _ => some (0 ≤ b ∧ b ≤ k.bits, .int k (k.wrap (a * 2 ^ b.toNat)))
  | .shr, .int k a, .int _ b => some (0 ≤ b ∧ b ≤ k.bits, .int k (a / 2 ^ b.toNat))
  | .add, .int k a, .int k' b => bif k == k' then num h k (a + b) else none
  | .sub, .int k a, .int k' b => bif k == k' then num h k (a - b) else none
  | .mul, .int k a, .int k' b => bif k == k' then num h k (a * b) else none
  | .quo, .int k a, .int k' b => bif k == k' then (match h with
    | 0 => some (0 ≤ a ∧ 0 < b ∧ inr k (a / b), .int k (a / b))
    | _ => some (b ≠ 0, .int k (k.wrap (a.tdiv b)))) else none
  | .rem, .int k a, .int k' b => bif k == k' then (match h with
    | 0 => some (0 ≤ a ∧ 0 < b, .int k (a % b))
    | _ => some (b ≠ 0, .int k (a.tmod b))) else none
  | .and, .int k a, .int k' b => bif k == k' then some (True, .int k (bits .and k a b)) else none
  | .or, .int k a, .int k' b => bif k == k' then some (True, .int k (bits .or k a b)) else none
  | .xor, .int k a, .int k' b => bif k == k' then some (True, .int k (bits .xor k a b)) else none
  | .andNot, .int k a, .int k' b => bif k == k' then some (True, .int k (bits .andNot k a b)) else none
  | .eql, .int k a, .int k' b => bif k == k' then tst h (decide (a = b)) else none
  | .neq, .int k a, .int k' b => bif k == k' then tst h (!decide (a = b)) else none
  | .lss, .int k a, .int k' b => bif k == k' then tst h (decide (a < b)) else none
  | .leq, .int k a, .int k' b => bif k == k' then tst h (decide (a ≤ b)) else none
  | .gtr, .int k a, .int k' b => bif k == k' then tst h (decide (b < a)) else none
  | .geq, .int k a, .int k' b => bif k == k' then tst h (decide (b ≤ a)) else none
  | .add, .string a, .string b => some (a.size + b.size ≤ 9223372036854775807, .string (a ++ b))
  | .eql, .string a, .string b => tst h (decide (a = b))
  | .neq, .string a, .string b => tst h (!decide (a = b))
  | _, _, _ => none
theorem toList_eq (a b : ByteArray) : (a.toList == b.toList) = decide (a = b) := by
  rw [ByteArray.toList_eq, ByteArray.toList_eq]
  by_cases h : a = b
  · subst h; simp
  · have : a.data ≠ b.data := fun e => h (by cases a; cases b; simp at e; simp [e])
    simp [h, this]
theorem ediv_of (a b : Int) (h : 0 ≤ a) : a.tdiv b = a / b := Int.tdiv_eq_ediv_of_nonneg h
theorem emod_of (a b : Int) (h : 0 ≤ a) : a.tmod b = a % b := Int.tmod_eq_emod_of_nonneg h
theorem binV_run {P : Program} {h : Nat} {op : BinOp} {x y v : Value} {p : Prop} (t : TypeId) (e : binV h op x y = some (p, v)) (hp : p) (w : World) : (binOp op t x y).run P w = .ok v w := by
  unfold binV at e
  split at e
  case h_1 =>
    split at e <;> cases e
    · obtain ⟨h1, h2, h3⟩ := hp
      rw [binOp_shl, shift_shl _ _ _ _ h1 h2, wrap_in h3]; rfl
    · obtain ⟨h1, h2⟩ := hp
      rw [binOp_shl, shift_shl _ _ _ _ h1 h2]; rfl
  case h_2 => cases e; rw [binOp_shr, shift_shr _ _ _ _ hp.1 hp.2]; rfl
  case h_18 =>
    cases e
    simp [binOp, Op.stringOp]
    omega
  case h_19 => unfold tst at e; split at e <;> cases e; simp [binOp, Op.stringOp, toList_eq]
  case h_20 => unfold tst at e; split at e <;> cases e; simp [binOp, Op.stringOp, toList_eq]
  case h_21 => cases e
  all_goals
    rename_i k a k' b
    cases hk : (k == k') with
    | false => rw [hk] at e; cases e
    | true =>
      rw [hk] at e
      have hk := eq_of_beq hk
      subst hk
      simp only [cond_true, num, tst] at e
      first
        | (split at e <;> cases e <;> first
            | (simp [binOp, Op.intArith, wrap_in hp]; done)
            | (simp [binOp, Op.intArith]; done)
            | (obtain ⟨h1, h2, h3⟩ := hp; have : ¬ b = 0 := by omega
               simp [binOp, Op.intDiv, this, ediv_of _ _ h1, wrap_in h3]; done)
            | (obtain ⟨h1, h2⟩ := hp; have : ¬ b = 0 := by omega
               simp [binOp, Op.intDiv, this, emod_of _ _ h1]; done)
            | (simp [binOp, Op.intDiv, hp]; done))
        | (cases e; simp [binOp, Op.intBits, bits]; done)
        | (split at e <;> cases e; simp [binOp, Op.intCmp]; done)
        | (split at e <;> cases e; simp [binOp, Op.intCmp, bne, Bool.beq_eq_decide_eq]; done)
def cellsG : GO → List Value
  | .row _ cs _ => cs
  | .ro cs => cs
  | .map _ | .none => []
theorem holds_cell {g : GO} {w : World} {b o : Nat} {v : Value} (h : g.holds w.heap[b]?) (hv : (cellsG g)[o]? = some v) : w.cell? ⟨b, o, none⟩ = some v := by
  have pre : ∀ (cs : List Value) (c : Array Value), cs <+: c.toList → cs[o]? = some v → c[o]? = some v := by
    rintro cs c ⟨r, hr⟩ hv
    have : c.toList[o]? = some v := by rw [← hr, List.getElem?_append_left (List.getElem?_eq_some_iff.1 hv).1, hv]
    simpa using this
  cases g with
  | row t cs n => obtain ⟨c, fr, e, _, _, hp⟩ := h; simp only [World.cell?, e]; simpa using pre cs c hp hv
  | ro cs => obtain ⟨c, t, fr, e, hp⟩ := h; simp only [World.cell?, e]; simpa using pre cs c hp hv
  | map es => simp [cellsG] at hv
  | none => simp [cellsG] at hv
theorem holds_range {g : GO} {w : World} {b o n : Nat} (h : g.holds w.heap[b]?) : w.rangeAt b o (((cellsG g).drop o).take n) := by
  intro j v hv
  refine holds_cell h ?_
  have hj := (List.getElem?_eq_some_iff.1 hv).1
  rw [List.getElem?_take_of_lt (by simp at hj; omega), List.getElem?_drop] at hv
  exact hv
/-- What an operation that only reads gives: the entry that it may read is x. -/
def LVal (P : Program) (o : Oper) (ev : Operand → Value) (x : Option (Nat × GO)) (v : Value) : Prop :=
  ∀ w, (∀ p, x = some p → p.2.holds w.heap[p.1]?) → (execOp ev o).run P w = .ok (.value v) w
def fillL (fs : List (Nat × Nat)) : List Value → List (Nat × Value) → Option (List Value)
  | cells, [] => some cells
  | cells, (i, v) :: rest => match fs[i]? with
    | some (off, size) => bif Nat.beq v.cells.toList.length size && Nat.ble (off + size) cells.length then fillL fs (cells.take off ++ v.cells.toList ++ cells.drop (off + size)) rest else none
    | none => none
/-- The places of a struct's fields, or of an array's elements. -/
def placesOf (ty : Tys) : TK → Option (List (Nat × Nat))
  | .struct fs => fs.mapM fun p => (ty p.2).map fun i => (p.1, i.size)
  | .arr n e => (ty e).map fun i => (List.range n).map fun j => (j * i.size, i.size)
  | _ => none
def tk (ty : Tys) (t : TypeId) : Option TK := (ty t).map TyI.k
/-- A value, brought into the form of its constructor. -/
def withV (v : Value) : Option (Prop × Value) := match v with
  | .bool b => some (True, .bool b)
  | .int k n => some (True, .int k n)
  | .string s => some (True, .string s)
  | .pointer a => some (True, .pointer a)
  | .slice a n c => some (True, .slice a n c)
  | .map r => some (True, .map r)
  | .func f a c => some (True, .func f a c)
  | .agg c => some (True, .agg c)
  | .tuple c => some (True, .tuple c)
  | _ => none
theorem withV_eq {v u : Value} {p : Prop} (h : withV v = some (p, u)) : u = v := by
  unfold withV at h
  split at h <;> cases h <;> rfl
def dval (ty : Tys) (h : Nat) (op : Op) (ev : Operand → Value) (x : Option (Nat × GO)) : Option (Prop × Value) :=
  match op with
  | .move y | .assign y => withV (ev y)
  | .pick c a b => match ev c with
    | .bool true => withV (ev a)
    | .bool false => withV (ev b)
    | _ => none
  | .nilCheck y => match ev y with
    | .pointer (some a) => some (True, .pointer (some a))
    | _ => none
  | .binOp op t a b _ => match op, ev a, ev b with
    | .eql, .bool c, .bool d => match tk ty t with
      | some .bool => tst h (c == d)
      | _ => none
    | .neq, .bool c, .bool d => match tk ty t with
      | some .bool => tst h (!(c == d))
      | _ => none
    | op, a, b => binV h op a b
  | .unOp op _ y => match op, ev y with
    | .not, .bool b => some (True, .bool (!b))
    | .neg, .int k n => num h k (0 - n)
    | _, _ => none
  | .convert s d y => match ty s, tk ty d, ev y with
    | some _, some (.int k), .int _ n => num h k n
    | some _, some .str, .string t => some (True, .string t)
    | _, _, _ => none
  | .field t y f => match tk ty t, ev y with
    | some (.struct fs), .agg cs => match fs[f]? with
      | some (off, ft) => match ty ft with
        | some i => bif i.k.agg then some (True, .agg ((cs.toList.drop off).take i.size).toArray) else match cs.toList[off]? with
          | some v => some (True, v)
          | none => none
        | none => none
      | none => none
    | _, _ => none
  | .fieldAddr t y f => match tk ty t, ev y with
    | some (.struct fs), .pointer (some ⟨b, o, none⟩) => match fs[f]? with
      | some (off, ft) => match ty ft with
        | some i => match i.size with
          | 0 => none
          | _ + 1 => some (True, .pointer (some ⟨b, o + off, none⟩))
        | none => none
      | none => none
    | _, _ => none
  | .indexAddr t y i => match tk ty t, ev y, ev i with
    | some (.slice e), .slice (some ⟨b, o, none⟩) len _, .int _ j => match ty e with
      | some ie => some (0 ≤ j ∧ j < (len : Int), .pointer (some ⟨b, o + j.toNat * ie.size, none⟩))
      | none => none
    | some (.arr len e), .pointer (some ⟨b, o, none⟩), .int _ j => match ty e with
      | some ie => some (0 ≤ j ∧ j < (len : Int), .pointer (some ⟨b, o + j.toNat * ie.size, none⟩))
      | none => none
    | _, _, _ => none
  | .index t y i => match tk ty t, ev y, ev i with
    | some .str, .string s, .int _ j => some (0 ≤ j ∧ j < (s.size : Int), .int .u8 ((s.data.toList.getD j.toNat 0).toNat : Int))
    | _, _, _ => none
  | .extract y i => match ev y with
    | .tuple vs => match vs.toList[i]? with
      | some v => some (True, v)
      | none => none
    | _ => none
  | .load t y => match ty t, ev y, x with
    | some i, .pointer (some ⟨b, o, none⟩), some (b', g) => bif i.k.agg
        then some (b = b' ∧ o + i.size ≤ (cellsG g).length, .agg (((cellsG g).drop o).take i.size).toArray)
        else match (cellsG g)[o]? with
          | some v => some (b = b', v)
          | none => none
    | _, _, _ => none
  | .slice t y lo hi none => match tk ty t, ev y, (lo.map ev).getD (.int .i64 0) with
    | some .str, .string s, .int _ a => match (hi.map ev).getD (.int .i64 s.size) with
      | .int _ b => some (0 ≤ a ∧ a ≤ b ∧ b ≤ (s.size : Int), .string (s.extract a.toNat b.toNat))
      | _ => none
    | some (.slice e), .slice (some ⟨bl, o, none⟩) len cap, .int _ a => match ty e, (hi.map ev).getD (.int .i64 len) with
      | some ie, .int _ b => match h with
        | 0 => some (0 ≤ a ∧ a ≤ b ∧ b ≤ (cap : Int) ∧ (a = 0 ∨ a < (cap : Int)), .slice (some ⟨bl, o + a.toNat * ie.size, none⟩) (b.toNat - a.toNat) (cap - a.toNat))
        | _ => some (a = (cap : Int) ∧ b = (cap : Int), .slice (some ⟨bl, o, none⟩) 0 0)
      | _, _ => none
    | some (.slice e), .slice none n _, .int _ a => match ty e, (hi.map ev).getD (.int .i64 n) with
      | some _, .int _ b => some (a = 0 ∧ b = 0 ∧ ev y = .slice none 0 0, .slice none 0 0)
      | _, _ => none
    | _, _, _ => none
  | .build t parts => match ty t with
    | some i => match placesOf ty i.k with
      | some pl => match fillL pl i.zero.cells.toList (parts.toList.map fun q => (q.1, ev q.2)) with
        | some cs => some (True, .agg cs.toArray)
        | none => none
      | none => none
    | none => none
  | .makeFunc fn first captured => some (True, .func fn (first.toList.map ev).toArray (captured.toList.map ev).toArray)
  | .call { callee := .builtin .len, args := as, argTypes := ts } => match ts.toList, as.toList with
    | t :: _, y :: _ => match tk ty t, ev y with
      | some .str, .string s => some (True, .int .i64 s.size)
      | some (.slice _), .slice _ n _ => some (True, .int .i64 n)
      | some (.map _ _), .map none => some (True, .int .i64 0)
      | _, _ => none
    | _, _ => none
  | .call { callee := .builtin .max, args := as, argTypes := _ } => match as.toList with
    | [y, z] => match ev y, ev z with
      | .int k a, .int _ b => some (True, .int k (if b > a then b else a))
      | _, _ => none
    | _ => none
  | .call { callee := .builtin .min, args := as, argTypes := _ } => match as.toList with
    | [y, z] => match ev y, ev z with
      | .int k a, .int _ b => some (True, .int k (if b < a then b else a))
      | _, _ => none
    | _ => none
  | _ => none
theorem run_under {P : Program} {ty : Tys} (hty : TysOk P ty) {t : TypeId} {k : TK} (h : tk ty t = some k) : ∃ d, P.underlying t = some d ∧ k.ok d := by
  unfold tk at h
  cases hi : ty t with
  | none => rw [hi] at h; cases h
  | some i =>
    rw [hi] at h
    cases h
    exact (hty t i hi).under
theorem run_agg {P : Program} {ty : Tys} (hty : TysOk P ty) {t : TypeId} {i : TyI} (h : ty t = some i) (w : World) : (isAgg t).run P w = .ok i.k.agg w := by
  obtain ⟨d, hd, hk⟩ := (hty t i h).under
  unfold isAgg
  rw [Sem.run_bind, run_underlying hd w]
  cases hk2 : i.k <;> rw [hk2] at hk <;> simp only [TK.ok] at hk <;> first
    | (subst hk; simp [TK.agg]; done)
    | (obtain ⟨_, rfl, _⟩ := hk; simp [TK.agg]; done)
    | (obtain ⟨_, rfl⟩ := hk; simp [TK.agg]; done)
    | (obtain ⟨_, _, _, rfl⟩ := hk; simp [TK.agg]; done)
theorem run_size {P : Program} {ty : Tys} (hty : TysOk P ty) {t : TypeId} {i : TyI} (h : ty t = some i) (w : World) : (sizeOf t).run P w = .ok i.size w := by
  obtain ⟨inf, h1, h2, _⟩ := (hty t i h).info
  simp [sizeOf, typeInfo, h1, h2]
theorem run_zero {P : Program} {ty : Tys} (hty : TysOk P ty) {t : TypeId} {i : TyI} (h : ty t = some i) (w : World) : (zeroValue t).run P w = .ok i.zero w := by
  obtain ⟨inf, h1, _, _, h4⟩ := (hty t i h).info
  simp [zeroValue, typeInfo, h1, h4]
theorem part_run {P : Program} {ty : Tys} (hty : TysOk P ty) {t : TypeId} {i : TyI} (h : ty t = some i) (cs : Array Value) (off : Nat) (v : Value)
    (hv : (bif i.k.agg then some (.agg ((cs.toList.drop off).take i.size).toArray) else cs.toList[off]?) = some v) (w : World) : (part t cs off).run P w = .ok v w := by
  unfold part
  rw [Sem.run_bind, run_agg hty h]
  cases hk : i.k.agg with
  | true =>
    rw [hk] at hv
    simp only [cond_true, Option.some.injEq] at hv
    simp only [Result.andThen_ok, if_true, Sem.run_bind, run_size hty h, Sem.run_pure]
    rw [← hv]
    congr 2
    apply Array.ext'
    simp [List.extract_eq_take_drop]
  | false =>
    rw [hk] at hv
    simp only [cond_false] at hv
    have : cs[off]? = some v := by simpa using hv
    simp [this]
theorem addr_add (b o n : Nat) : (⟨b, o, none⟩ : Addr).add n = ⟨b, o + n, none⟩ := Addr.add_mid b o n
theorem d_field {P : Program} {ty : Tys} (hty : TysOk P ty) {t : TypeId} {fs : List (Nat × TypeId)} (h : tk ty t = some (.struct fs)) (cs : Array Value) (f : Nat) {off : Nat} {ft : TypeId} {i : TyI} (hf : fs[f]? = some (off, ft)) (hi : ty ft = some i) (v : Value)
    (hv : (bif i.k.agg then some (.agg ((cs.toList.drop off).take i.size).toArray) else cs.toList[off]?) = some v) (w : World) : (Instr.field t (.agg cs) f).run P w = .ok v w := by
  obtain ⟨d, hd, F, rfl, hF⟩ := run_under hty h
  subst hF
  rw [List.getElem?_map] at hf
  cases hg : F.toList[f]? with
  | none => rw [hg] at hf; cases hf
  | some g =>
    rw [hg] at hf
    cases hf
    have hg2 : F[f]? = some g := by simpa using hg
    simp [Instr.field, run_underlying hd, hg2, asAgg, part_run hty hi cs g.offset v hv]
theorem d_fieldAddr {P : Program} {ty : Tys} (hty : TysOk P ty) {t : TypeId} {fs : List (Nat × TypeId)} (h : tk ty t = some (.struct fs)) (b o f : Nat) {off : Nat} {ft : TypeId} {i : TyI} (hf : fs[f]? = some (off, ft)) (hi : ty ft = some i) (hs : i.size ≠ 0) (w : World) :
    (Instr.fieldAt t (.pointer (some ⟨b, o, none⟩)) f).run P w = .ok (.pointer (some ⟨b, o + off, none⟩)) w := by
  obtain ⟨d, hd, F, rfl, hF⟩ := run_under hty h
  subst hF
  rw [List.getElem?_map] at hf
  cases hg : F.toList[f]? with
  | none => rw [hg] at hf; cases hf
  | some g =>
    rw [hg] at hf
    cases hf
    have hg2 : F[f]? = some g := by simpa using hg
    simp [Instr.fieldAt, run_underlying hd, hg2, Instr.sureAddr, fieldPlace, run_size hty hi, hs, addr_add]
theorem d_indexAddr_slice {P : Program} {ty : Tys} (hty : TysOk P ty) {t e : TypeId} (h : tk ty t = some (.slice e)) {i : TyI} (hi : ty e = some i) (b o len cap : Nat) (k : IntKind) (j : Int) (h0 : 0 ≤ j) (h1 : j < (len : Int)) (w : World) :
    (Instr.indexAt t (.slice (some ⟨b, o, none⟩) len cap) (.int k j)).run P w = .ok (.pointer (some ⟨b, o + j.toNat * i.size, none⟩)) w := by
  obtain ⟨d, hd, rfl⟩ := run_under hty h
  simp [Instr.indexAt, run_underlying hd, asIntOf, h0, h1, run_size hty hi, addr_add]
theorem d_indexAddr_arr {P : Program} {ty : Tys} (hty : TysOk P ty) {t e : TypeId} {len : Nat} (h : tk ty t = some (.arr len e)) {i : TyI} (hi : ty e = some i) (b o : Nat) (k : IntKind) (j : Int) (h0 : 0 ≤ j) (h1 : j < (len : Int)) (w : World) :
    (Instr.indexAt t (.pointer (some ⟨b, o, none⟩)) (.int k j)).run P w = .ok (.pointer (some ⟨b, o + j.toNat * i.size, none⟩)) w := by
  obtain ⟨d, hd, rfl⟩ := run_under hty h
  simp [Instr.indexAt, run_underlying hd, asIntOf, Instr.sureAddr, h0, h1, run_size hty hi, addr_add]
theorem d_index_str {P : Program} {ty : Tys} (hty : TysOk P ty) {t : TypeId} (h : tk ty t = some .str) (s : ByteArray) (k : IntKind) (j : Int) (h0 : 0 ≤ j) (h1 : j < (s.size : Int)) (w : World) :
    (Instr.index t (.string s) (.int k j)).run P w = .ok (.int .u8 ((s.data.toList.getD j.toNat 0).toNat : Int)) w := by
  obtain ⟨d, hd, rfl⟩ := run_under hty h
  have hj : j.toNat < s.size := by omega
  have hj2 : j.toNat < s.data.size := hj
  have e : s[j.toNat]? = some (s.data.toList.getD j.toNat 0) := by
    simp [List.getD, hj2]
    rw [getElem?_pos s j.toNat hj, getElem?_pos s.data j.toNat hj2]
    rfl
  simp only [Instr.index, Sem.run_bind, asIntOf, Sem.run_pure, Result.andThen_ok, run_underlying hd, h0, if_true, e]
theorem d_load {P : Program} {ty : Tys} (hty : TysOk P ty) {t : TypeId} {i : TyI} (hi : ty t = some i) (b o : Nat) (v : Value) (w : World)
    (hv : (bif i.k.agg then (loadCells ⟨b, o, none⟩ i.size).run P w = .ok ((v.cells)) w ∧ v = .agg v.cells else w.cell? ⟨b, o, none⟩ = some v)) : (Instr.loadAt t (.pointer (some ⟨b, o, none⟩))).run P w = .ok v w := by
  simp only [Instr.loadAt, Instr.sureAddr, Sem.run_bind, Sem.run_pure, Result.andThen_ok, loadVar, run_agg hty hi]
  cases hk : i.k.agg with
  | true =>
    rw [hk] at hv
    simp only [cond_true] at hv
    rw [hv.2]
    simp [run_size hty hi, hv.1]
  | false =>
    rw [hk] at hv
    simp only [cond_false] at hv
    simp [hv]
theorem bound_run {P : Program} (k : IntKind) (x : Int) (y : Nat) (c : BoundsCode) (h0 : 0 ≤ x) (h1 : x ≤ (y : Int)) (w : World) : (Instr.sliceBound (.int k x) y c).run P w = .ok x.toNat w := by
  simp [Instr.sliceBound, asIntOf, h0, h1]
theorem bounds_run {P : Program} (s : Bool) (len cap : Nat) (lo hi : Option Value) (k1 k2 : IntKind) (a b : Int) (hlo : lo = none ∧ a = 0 ∨ lo = some (.int k1 a)) (hhi : hi = none ∧ b = len ∨ hi = some (.int k2 b)) (h0 : 0 ≤ a) (h1 : a ≤ b) (h2 : b ≤ (cap : Int)) (w : World) :
    (Instr.sliceBounds s len cap lo hi none).run P w = .ok (a.toNat, b.toNat, cap) w := by
  have hb : 0 ≤ b := by omega
  rcases hlo with ⟨rfl, rfl⟩ | rfl <;> rcases hhi with ⟨rfl, rfl⟩ | rfl
  · simp [Instr.sliceBounds]
  · simp [Instr.sliceBounds, bound_run k2 b cap _ hb h2]
  · have : a ≤ (len : Int) := h1
    simp [Instr.sliceBounds, bound_run k1 a len _ h0 this]
  · have : a ≤ ((b.toNat : Nat) : Int) := by omega
    simp [Instr.sliceBounds, bound_run k2 b cap _ hb h2, bound_run k1 a b.toNat _ h0 this]
theorem opt_int {o : Option Value} {d : Value} {k : IntKind} {a : Int} (h : o.getD d = .int k a) : o = none ∧ d = .int k a ∨ o = some (.int k a) := by
  cases o with
  | none => exact .inl ⟨rfl, h⟩
  | some v => exact .inr (by rw [← h]; rfl)
theorem d_slice_str {P : Program} {ty : Tys} (hty : TysOk P ty) {t : TypeId} (h : tk ty t = some .str) (s : ByteArray) (lo hi : Option Value) (k1 k2 : IntKind) (a b : Int) (hlo : lo.getD (.int .i64 0) = .int k1 a) (hhi : hi.getD (.int .i64 s.size) = .int k2 b) (h0 : 0 ≤ a) (h1 : a ≤ b) (h2 : b ≤ (s.size : Int)) (w : World) :
    (Instr.sliceAt t (.string s) lo hi none).run P w = .ok (.string (s.extract a.toNat b.toNat)) w := by
  obtain ⟨d, hd, rfl⟩ := run_under hty h
  have e1 : lo = none ∧ a = 0 ∨ lo = some (.int k1 a) := (opt_int hlo).imp (fun ⟨x, y⟩ => ⟨x, by cases y; rfl⟩) id
  have e2 : hi = none ∧ b = s.size ∨ hi = some (.int k2 b) := (opt_int hhi).imp (fun ⟨x, y⟩ => ⟨x, by cases y; rfl⟩) id
  simp [Instr.sliceAt, run_underlying hd, Instr.slice, bounds_run false s.size s.size lo hi k1 k2 a b e1 e2 h0 h1 h2]
theorem d_slice_slice {P : Program} {ty : Tys} (hty : TysOk P ty) {t e : TypeId} (h : tk ty t = some (.slice e)) {i : TyI} (hi' : ty e = some i) (A : Option Addr) (len cap : Nat) (lo hi : Option Value) (k1 k2 : IntKind) (a b : Int) (hlo : lo.getD (.int .i64 0) = .int k1 a) (hhi : hi.getD (.int .i64 len) = .int k2 b) (h0 : 0 ≤ a) (h1 : a ≤ b) (h2 : b ≤ (cap : Int)) (w : World) :
    (Instr.sliceAt t (.slice A len cap) lo hi none).run P w = .ok (.slice (if cap = a.toNat then A else A.map (·.add (a.toNat * i.size))) (b.toNat - a.toNat) (cap - a.toNat)) w := by
  obtain ⟨d, hd, rfl⟩ := run_under hty h
  have e1 : lo = none ∧ a = 0 ∨ lo = some (.int k1 a) := (opt_int hlo).imp (fun ⟨x, y⟩ => ⟨x, by cases y; rfl⟩) id
  have e2 : hi = none ∧ b = len ∨ hi = some (.int k2 b) := (opt_int hhi).imp (fun ⟨x, y⟩ => ⟨x, by cases y; rfl⟩) id
  simp [Instr.sliceAt, run_underlying hd, Instr.slice, bounds_run true len cap lo hi k1 k2 a b e1 e2 h0 h1 h2, run_size hty hi']
theorem fold_set (off : Nat) : ∀ (vs : List Value) (k : Nat) (cs : List Value), off + k + vs.length ≤ cs.length →
    ((vs.zipIdx k).foldl (fun (c : Array Value) p => c.setIfInBounds (off + p.2) p.1) cs.toArray) = (cs.take (off + k) ++ vs ++ cs.drop (off + k + vs.length)).toArray
  | [], k, cs, h => by simp
  | v :: vs, k, cs, h => by
    simp only [List.length_cons] at h
    have ih := fold_set off vs (k + 1) (cs.set (off + k) v) (by simp; omega)
    simp only [List.zipIdx_cons, List.foldl_cons, List.setIfInBounds_toArray] at ih ⊢
    rw [ih]
    congr 1
    rw [show off + (k + 1) = off + k + 1 from rfl, List.take_set, List.drop_set_of_lt (by omega), List.take_succ_eq_append_getElem (by omega)]
    rw [List.set_append_right _ _ (by simp; omega)]
    simp [show min (off + k) cs.length = off + k by omega]
    congr 1
    omega
theorem fillL_run (pl : List (Nat × Nat)) : ∀ (parts : List (Nat × Value)) (cells cs : List Value), fillL pl cells parts = some cs → Instr.fill (fun x => pl[x]?) cells.toArray parts = some cs.toArray
  | [], cells, cs, h => by simp only [fillL, Option.some.injEq] at h; subst h; rfl
  | (i, v) :: rest, cells, cs, h => by
    simp only [fillL] at h
    split at h
    · rename_i off size hp
      cases hc : (Nat.beq v.cells.toList.length size && Nat.ble (off + size) cells.length) with
      | false => rw [hc] at h; cases h
      | true =>
        rw [hc] at h
        simp only [cond_true] at h
        rw [Bool.and_eq_true] at hc
        have h1 := Nat.eq_of_beq_eq_true hc.1
        have h2 := Nat.le_of_ble_eq_true hc.2
        have ih := fillL_run pl rest _ cs h
        have hsz : v.cells.size = size := by simpa using h1
        have hf := fold_set off v.cells.toList 0 cells (by simp; omega)
        simp only [Nat.add_zero, Array.length_toList] at hf
        rw [hsz] at hf
        rw [← hf] at ih
        simp only [Instr.fill, hp]
        rw [if_neg (by simp; omega)]
        rw [← ih]
        congr 1
        rw [← Array.foldl_toList, Array.toList_zipIdx]
    · cases h
theorem fill_more {f g : Nat → Option (Nat × Nat)} (h : ∀ j p, f j = some p → g j = some p) : ∀ {parts : List (Nat × Value)} {cells cs : Array Value}, Instr.fill f cells parts = some cs → Instr.fill g cells parts = some cs
  | [], cells, cs, e => e
  | (i, v) :: rest, cells, cs, e => by
    simp only [Instr.fill] at e ⊢
    cases hf : f i with
    | none => rw [hf] at e; cases e
    | some p =>
      rw [hf] at e
      rw [h i p hf]
      obtain ⟨off, size⟩ := p
      simp only at e ⊢
      split at e
      · cases e
      · rename_i hc
        rw [if_neg hc]
        exact fill_more h e
theorem places_run {P : Program} {ty : Tys} (hty : TysOk P ty) (w : World) : ∀ (fs : List Field) (pl : List (Nat × Nat)), (fs.map (fun x => (x.offset, x.type))).mapM (fun p => (ty p.2).map fun i => (p.1, i.size)) = some pl →
    fs.mapM (fun f => (P.info? f.type).map fun i => (f.offset, i.size)) = some pl
  | [], pl, h => by simpa using h
  | f :: fs, pl, h => by
    simp only [List.map_cons, List.mapM_cons, Option.bind_eq_bind, Option.pure_def] at h ⊢
    cases hi : ty f.type with
    | none => simp [hi] at h
    | some i =>
      cases hr : (fs.map (fun x => (x.offset, x.type))).mapM (fun p => (ty p.2).map fun i => (p.1, i.size)) with
      | none => simp [hi, hr] at h
      | some r =>
        simp [hi, hr] at h
        obtain ⟨inf, h1, h2, _⟩ := (hty _ _ hi).info
        simp [h1, h2, places_run hty w fs r hr, h]
theorem d_build {P : Program} {ty : Tys} (hty : TysOk P ty) {t : TypeId} {i : TyI} (hi : ty t = some i) {pl : List (Nat × Nat)} (hpl : placesOf ty i.k = some pl) (parts : Array (Nat × Value)) {cs : List Value} (hf : fillL pl i.zero.cells.toList parts.toList = some cs) (w : World) : (Instr.build t parts).run P w = .ok (.agg cs.toArray) w := by
  refine run_build w t parts cs.toArray ?_
  have hr := fillL_run pl parts.toList _ cs hf
  obtain ⟨inf, h1, h2, h3, h4⟩ := (hty t i hi).info
  obtain ⟨d, hd, hk⟩ := (hty t i hi).under
  unfold Program.built
  cases hk2 : i.k with
  | struct fs =>
    rw [hk2] at hk hpl
    obtain ⟨F, rfl, hF⟩ := hk
    subst hF
    simp only [placesOf] at hpl
    simp only [h1, hd, h4, places_run hty w _ _ hpl]
    simpa using hr
  | arr n e =>
    rw [hk2] at hk hpl
    have hk : d = .array n e := hk
    subst hk
    simp only [placesOf] at hpl
    cases he : ty e with
    | none => rw [he] at hpl; cases hpl
    | some ie =>
      rw [he] at hpl
      simp only [Option.map_some, Option.some.injEq] at hpl
      obtain ⟨inf2, g1, g2, _⟩ := (hty e ie he).info
      simp only [h1, hd, h4, g1, g2]
      subst hpl
      rw [Array.toArray_toList] at hr
      refine fill_more (fun j p hp => ?_) hr
      rw [List.getElem?_map] at hp
      cases hj : (List.range n)[j]? with
      | none => rw [hj] at hp; cases hp
      | some q =>
        rw [hj] at hp
        have := (List.getElem?_eq_some_iff.1 hj)
        obtain ⟨hq, e2⟩ := this
        simp at e2
        subst e2
        simpa using hp
  | _ => rw [hk2] at hpl; cases hpl
theorem eq_bool {P : Program} {t : TypeId} (h : P.underlying t = some .bool) (c d : Bool) (w : World) : (Op.equal t (.bool c) (.bool d)).run P w = .ok (c == d) w := by
  have : Op.equal t (.bool c) (.bool d) = Op.equalIn (9999 + 1) t (.bool c) (.bool d) := rfl
  rw [this, Op.equalIn]
  rw [Sem.run_bind, run_underlying h]
  simp
theorem map_pairs (ps : Array (Nat × Operand)) (ev : Operand → Value) : (ps.map fun (i, x) => (i, ev x)).toList = ps.toList.map (fun q => (q.1, ev q.2)) := by simp
theorem dval_ok {P : Program} {ty : Tys} (hty : TysOk P ty) {h : Nat} {o : Oper} {ev : Operand → Value} {x : Option (Nat × GO)} {p : Prop} {v : Value} (e : dval ty h o.op ev x = some (p, v)) (hp : p) : LVal P o ev x v := by
  intro w hx
  unfold execOp
  cases hop : o.op <;> rw [hop] at e <;> simp only [dval] at e <;> (try (cases e; done)) <;> simp only
  case move y => rw [withV_eq e]; rfl
  case assign y => rw [withV_eq e]; rfl
  case pick c a b =>
    split at e
    · rename_i ht
      rw [withV_eq e]
      simp [ht, asBool]
    · rename_i ht
      rw [withV_eq e]
      simp [ht, asBool]
    · cases e
  case nilCheck y =>
    split at e
    · rename_i a ha
      cases e
      rw [ha]; rfl
    · cases e
  case binOp op t a b u =>
    have main : ∀ op', binV h op' (ev a) (ev b) = some (p, v) → (do let y ← (do eqGuard op' t a b (ev a) (ev b); binOp op' t (ev a) (ev b)); pure (Next.value y) : Sem Next).run P w = .ok (.value v) w := by
      intro op' e
      have hr := binV_run (P := P) t e hp w
      have hg : (eqGuard op' t a b (ev a) (ev b)).run P w = .ok () w := by
        unfold binV at e
        split at e <;> (try cases e) <;> (rename_i h1 h2; rw [h1]) <;> first
          | (rw [eqGuard_at_int]; rfl)
          | (rw [eqGuard_at_string]; rfl)
      simp [hg, hr]
    split at e
    · rename_i c d hc hd
      split at e
      · rename_i hk
        unfold tst at e
        split at e <;> cases e
        obtain ⟨dd, h1, rfl⟩ := run_under hty hk
        rw [hc, hd, eqGuard_at_bool]
        simp [binOp, eq_bool h1]
      · cases e
    · rename_i c d hc hd
      split at e
      · rename_i hk
        unfold tst at e
        split at e <;> cases e
        obtain ⟨dd, h1, rfl⟩ := run_under hty hk
        rw [hc, hd, eqGuard_at_bool]
        simp [binOp, eq_bool h1]
      · cases e
    · exact main _ e
  case unOp op t y =>
    split at e
    · rename_i b hb
      cases e
      simp [hb, Op.unary]
    · rename_i k n hb
      unfold num at e
      split at e <;> cases e
      · have := wrap_in hp
        simp [hb, Op.unary, Op.intArith]
        simpa using this
      · simp [hb, Op.unary, Op.intArith]
    · cases e
  case convert s d y =>
    split at e
    · rename_i i k k' n hs hd hv
      obtain ⟨d1, h1, _⟩ := (hty _ _ hs).under
      obtain ⟨d2, h2, rfl⟩ := run_under hty hd
      unfold num at e
      split at e <;> cases e
      · simp [hv, convert, run_underlying h1, run_underlying h2, Conv.intToInt, wrap_in hp]
      · simp [hv, convert, run_underlying h1, run_underlying h2, Conv.intToInt]
    · rename_i i t hs hd hv
      cases e
      obtain ⟨d1, h1, _⟩ := (hty _ _ hs).under
      obtain ⟨d2, h2, rfl⟩ := run_under hty hd
      simp [hv, convert, run_underlying h1, run_underlying h2]
    · cases e
  case field t y f =>
    split at e
    · rename_i fs cs hk hv
      split at e
      · rename_i off ft hf
        split at e
        · rename_i i hi
          have : (bif i.k.agg then some (.agg ((cs.toList.drop off).take i.size).toArray) else cs.toList[off]?) = some v := by
            cases hg : i.k.agg with
            | true => rw [hg] at e; cases e; rfl
            | false =>
              rw [hg] at e
              simp only [cond_false] at e ⊢
              split at e
              · rename_i u hu; cases e; exact hu
              · cases e
          rw [hv, Sem.run_bind, d_field hty hk cs f hf hi v this]
          rfl
        · cases e
      · cases e
    · cases e
  case fieldAddr t y f =>
    split at e
    · rename_i fs b off0 hk hv
      split at e
      · rename_i off ft hf
        split at e
        · rename_i i hi
          split at e
          · cases e
          · rename_i m hm
            cases e
            rw [hv, Sem.run_bind, d_fieldAddr hty hk b _ f hf hi (by omega)]
            rfl
        · cases e
      · cases e
    · cases e
  case indexAddr t y i =>
    split at e
    · rename_i el b off len cap k j hk hv hj
      split at e
      · rename_i ie hi
        cases e
        rw [hv, hj, Sem.run_bind, d_indexAddr_slice hty hk hi _ _ _ _ _ _ hp.1 hp.2]
        rfl
      · cases e
    · rename_i len el b off k j hk hv hj
      split at e
      · rename_i ie hi
        cases e
        rw [hv, hj, Sem.run_bind, d_indexAddr_arr hty hk hi _ _ _ _ hp.1 hp.2]
        rfl
      · cases e
    · cases e
  case index t y i =>
    split at e
    · rename_i s k j hk hv hj
      cases e
      rw [hv, hj, Sem.run_bind, d_index_str hty hk _ _ _ hp.1 hp.2]
      rfl
    · cases e
  case extract y i =>
    split at e
    · rename_i vs hv
      split at e
      · rename_i u hu
        cases e
        have : vs[i]? = some v := by simpa using hu
        simp [hv, Instr.extract, this]
      · cases e
    · cases e
  case load t y =>
    split at e
    · rename_i i b off b' g hi hv
      have hh := hx _ rfl
      cases hg : i.k.agg with
      | true =>
        rw [hg] at e
        simp only [cond_true, Option.some.injEq, Prod.mk.injEq] at e
        obtain ⟨rfl, rfl⟩ := e
        obtain ⟨rfl, hle⟩ := hp
        have hr := holds_range (n := i.size) (o := off) hh
        have hlen : (((cellsG g).drop off).take i.size).length = i.size := by simp; omega
        have hl := run_loadCells_list (P := P) w ⟨b, off, none⟩ (((cellsG g).drop off).take i.size) (fun j u hu => by rw [addr_add]; exact hr j u hu)
        rw [hlen] at hl
        rw [hv, Sem.run_bind, d_load hty hi b off (.agg (((cellsG g).drop off).take i.size).toArray) w (by rw [hg]; exact ⟨hl, rfl⟩)]
        rfl
      | false =>
        rw [hg] at e
        simp only [cond_false] at e
        split at e
        · rename_i u hu
          cases e
          subst hp
          rw [hv, Sem.run_bind, d_load hty hi b off _ w (by rw [hg]; exact holds_cell hh hu)]
          rfl
        · cases e
    · cases e
  case slice t y lo hi mx =>
    cases mx with
    | some m => cases e
    | none =>
      simp only at e
      split at e
      · rename_i s k a hk hv hlo
        split at e
        · rename_i k2 b hhi
          cases e
          rw [hv, Sem.run_bind]
          simp only [Option.map_none]
          rw [d_slice_str hty hk s (lo.map ev) (hi.map ev) k k2 a b hlo hhi hp.1 hp.2.1 hp.2.2]
          rfl
        · cases e
      · rename_i el bl off len cap k a hk hv hlo
        split at e
        · rename_i ie k2 b hi' hhi
          rw [hv, Sem.run_bind]
          simp only [Option.map_none]
          split at e
          · cases e
            obtain ⟨h0, h1, h2, h3⟩ := hp
            rw [d_slice_slice hty hk hi' _ len cap (lo.map ev) (hi.map ev) k k2 a b hlo hhi h0 h1 h2]
            simp only [Result.andThen_ok, Sem.run_pure]
            congr 3
            split
            · rename_i hc
              have : a = 0 := by omega
              subst this
              simp
            · simp [addr_add]
          · cases e
            obtain ⟨rfl, rfl⟩ := hp
            rw [d_slice_slice hty hk hi' _ len cap (lo.map ev) (hi.map ev) k k2 _ _ hlo hhi (by omega) (by omega) (by omega)]
            simp
        · cases e
      · rename_i el n c k a hk hv hlo
        split at e
        · rename_i ie k2 b hi' hhi
          cases e
          obtain ⟨rfl, rfl, hy⟩ := hp
          rw [hv] at hy
          cases hy
          rw [hv, Sem.run_bind]
          simp only [Option.map_none]
          rw [d_slice_slice hty hk hi' none 0 0 (lo.map ev) (hi.map ev) k k2 0 0 hlo hhi (by omega) (by omega) (by omega)]
          simp
        · cases e
      · cases e
  case build t parts =>
    split at e
    · rename_i i hi
      split at e
      · rename_i pl hpl
        split at e
        · rename_i cs hcs
          cases e
          rw [Sem.run_bind, d_build hty hi hpl _ (by rw [map_pairs]; exact hcs)]
          rfl
        · cases e
      · cases e
    · cases e
  case makeFunc fn first cap =>
    cases e
    simp [Instr.makeFunc]
    exact ⟨by apply Array.ext'; simp, by apply Array.ext'; simp⟩
  case call c =>
    obtain ⟨callee, args, ats⟩ := c
    obtain ⟨args⟩ := args
    obtain ⟨ats⟩ := ats
    split at e <;> (rename_i h1; first | cases h1 | (cases e; done)) <;> simp only [resolve, Sem.run_bind, Sem.run_pure, Result.andThen_ok, invoke]
    · split at e
      · rename_i t r1 y r2 hts has
        cases hts
        cases has
        simp only [show ∀ a b c d, builtin .len a b c d = (do pure (.value (← Builtin.len_ a b d))) from fun _ _ _ _ => rfl]
        split at e
        · rename_i s hk hv
          cases e
          obtain ⟨d, hd, rfl⟩ := run_under hty hk
          simp [Builtin.len_, run_underlying hd, hv, goInt]
        · rename_i el a n c hk hv
          cases e
          obtain ⟨d, hd, rfl⟩ := run_under hty hk
          simp [Builtin.len_, run_underlying hd, hv, goInt]
        · rename_i k1 v1 hk hv
          cases e
          obtain ⟨d, hd, rfl⟩ := run_under hty hk
          simp [Builtin.len_, run_underlying hd, hv, goInt]
        · cases e
      · cases e
    · split at e
      · rename_i y z has
        cases has
        simp only [show ∀ a b c d, builtin .max a b c d = (do pure (.value (← Builtin.max_ a b d))) from fun _ _ _ _ => rfl]
        split at e
        · rename_i k a k' b h1 h2
          cases e
          simp [Builtin.max_, h1, h2, Builtin.max2]
        · cases e
      · cases e
    · split at e
      · rename_i y z has
        cases has
        simp only [show ∀ a b c d, builtin .min a b c d = (do pure (.value (← Builtin.min_ a b d))) from fun _ _ _ _ => rfl]
        split at e
        · rename_i k a k' b h1 h2
          cases e
          simp [Builtin.min_, h1, h2, Builtin.min2]
        · cases e
      · cases e
end Go.Proofs.Ytjefdcbljpkmlaa.G
end
