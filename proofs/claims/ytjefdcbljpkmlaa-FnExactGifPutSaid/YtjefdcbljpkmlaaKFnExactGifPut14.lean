/- What the law FnExactGifPut needs, out of the texts Za. -/
import Derived.MapKept
import Derived.Laws.StructEq
import Derived.Test.YtjefdcbljpkmlaaKFnExactGifPut13
section
set_option linter.unusedVariables false
set_option linter.unusedSimpArgs false
set_option maxRecDepth 8000
namespace Go.Proofs.Ytjefdcbljpkmlaa.G
open Go
section
variable {P : Program} {n : Nat} {Q : QT} {e : Env} {l : GL}
/-- A loop told by live temporaries; behind a round less may be known. -/
theorem gw_loopW {c : Code} {α : Type} (L : Nat → α → List (Nat × Value)) (lf : Nat → α → GL) (p : Nat → α → Prop) (m : Nat) (a : α) (h0 : p m a) (hl : ∃ ks, ks.Nodup ∧ pick l ks = some (lf m a)) (hh : Has e (L m a))
    (hr : ∀ m a e, p m a → GW P n c (thenQ (fun e' l' => ∃ m', m' < m ∧ ∃ a', p m' a' ∧ (∃ ks, ks.Nodup ∧ pick l' ks = some (lf m' a')) ∧ Has e' (L m' a')) Q) (upds e (L m a)) (lf m a)) : GW P n (.loop c) Q e l := by
  refine gw_loop (fun m e l => ∃ a, p m a ∧ (∃ ks, ks.Nodup ∧ pick l ks = some (lf m a)) ∧ Has e (L m a)) m ⟨a, h0, hl, hh⟩ fun m e l ⟨a, h1, ⟨ks, nk, hp⟩, h3⟩ => ?_
  have := hr m a e h1
  rw [has_eq h3] at this
  exact gw_weak ks nk hp this
/-- Ways meet; less may be known there. -/
theorem gw_joinW {x y : Code} {α : Type} (L : α → List (Nat × Value)) (lf : α → GL) (p : α → Prop) (h : GW P n x (thenQ (fun e l => ∃ a, p a ∧ (∃ ks, ks.Nodup ∧ pick l ks = some (lf a)) ∧ Has e (L a)) Q) e l) (k : ∀ a e, p a → GW P n y Q (upds e (L a)) (lf a)) : GW P n (.seq x y) Q e l := by
  refine gw_seq (GW.mono h fun ex e l hq => ?_)
  cases ex with
  | normal =>
    obtain ⟨a, h1, ⟨ks, nk, hp⟩, h3⟩ := hq
    have := k a e h1
    rw [has_eq h3] at this
    exact gw_weak ks nk hp this
  | _ => exact hq
end
/-- What stands in a map from texts to numbers. -/
def SM (m : List (ByteArray × Int)) : GO := .map (m.map fun x => (.string x.1, .int .i64 x.2))
def sfind : List (ByteArray × Int) → ByteArray → Option Int
  | [], _ => none
  | (a, v) :: r, k => if k = a then some v else sfind r k
theorem bytes_beq (a b : ByteArray) : (a == b) = decide (a = b) := by rw [beq_toListBytes, toList_eq]
theorem findNow_str {D : TypeDesc} (hD : D = .string) (k : ByteArray) : ∀ (es : List MapEntry) (m : List (ByteArray × Int)) (i : Nat), es.map (fun e => (e.key, e.val)) = m.map (fun x => (Value.string x.1, Value.int .i64 x.2)) →
    ∃ j, Instr.findNow D (.string k) es i = some ((sfind m k).map fun v => (j, .int .i64 v))
  | [], [], i, h => ⟨0, rfl⟩
  | [], x :: r, i, h => by simp at h
  | e :: es, [], i, h => by simp at h
  | e :: es, (a, v) :: r, i, h => by
    subst hD
    simp only [List.map_cons, List.cons.injEq, Prod.mk.injEq] at h
    obtain ⟨⟨h1, h2⟩, h3⟩ := h
    obtain ⟨j, hj⟩ := findNow_str rfl k es r (i + 1) h3
    by_cases hk : k = a
    · refine ⟨i, ?_⟩
      simp [Instr.findNow, Instr.sameNow, h1, h2, hk, sfind, bytes_beq]
    · refine ⟨j, ?_⟩
      simp [Instr.findNow, Instr.sameNow, h1, sfind, hk, hj, bytes_beq]
section
variable {P : Program} {ty : Tys} (hty : TysOk P ty) {o : Oper} {ev : Operand → Value}
include hty
theorem run_find {kt : TypeId} (hk : tk ty kt = some .str) (k : ByteArray) {es : List MapEntry} {m : List (ByteArray × Int)} (h : es.map (fun e => (e.key, e.val)) = m.map (fun x => (Value.string x.1, Value.int .i64 x.2))) (w : World) :
    ∃ j, (Instr.findKey kt (.string k) es).run P w = .ok ((sfind m k).map fun v => (j, .int .i64 v)) w := by
  obtain ⟨d, hd, rfl⟩ := run_under hty hk
  obtain ⟨j, hj⟩ := findNow_str rfl k es m 0 h
  refine ⟨j, ?_⟩
  unfold Instr.findKey
  simp [run_underlying hd, hj]
theorem run_check {kt : TypeId} (hk : tk ty kt = some .str) (k : ByteArray) (b : Bool) (w : World) : (Instr.checkKey b 10000 kt (.string k)).run P w = .ok () w := by
  obtain ⟨d, hd, rfl⟩ := run_under hty hk
  show (Instr.checkKey b (9999 + 1) kt (.string k)).run P w = _
  unfold Instr.checkKey
  simp [run_underlying hd]
/-- A text looked up. -/
theorem lv_lookup {t kt vt : TypeId} {x y : Operand} {ok : Bool} {b : Nat} {m : List (ByteArray × Int)} {k : ByteArray} (hop : o.op = .lookup t x y ok) (ht : tk ty t = some (.map kt vt)) (hk : tk ty kt = some .str) {i : TyI} (hv : ty vt = some i) (hz : i.zero = .int .i64 0) (hx : ev x = .map (some b)) (hy : ev y = .string k) :
    LVal P o ev (some (b, SM m)) (if ok then .tuple #[.int .i64 ((sfind m k).getD 0), .bool (sfind m k).isSome] else .int .i64 ((sfind m k).getD 0)) := by
  intro w hw
  obtain ⟨c, clock, hc, he⟩ := hw _ rfl
  obtain ⟨d, hd, rfl⟩ := run_under hty ht
  obtain ⟨j, hj⟩ := run_find hty hk k he w
  have hzv := run_zero (w := w) hty hv
  rw [hz] at hzv
  unfold execOp
  simp only [hop, hx, hy, Instr.lookup, Sem.run_bind, run_underlying hd, Result.andThen_ok]
  have hg := MapKept.run_getObj_map (P := P) hc
  simp only [hg, Result.andThen_ok, Sem.run_bind, Sem.run_pure, run_check hty hk, hj]
  cases hs : sfind m k with
  | none => cases ok <;> simp [hzv]
  | some v => cases ok <;> simp
omit hty in
theorem e_makeMap {t : TypeId} (hop : o.op = .makeMap t none) : ERun P o ev [] (fun v F' news => ∃ b, v = .map (some b) ∧ F' = [] ∧ news = [(b, SM [])]) := by
  intro w _
  refine ⟨_, _, _, w.alloc (.map #[] 0), .inl ?_, ⟨w.heap.size, rfl, rfl, rfl⟩, turned_new rfl rfl rfl (alloc_size w _) (alloc_old w _) (Nat.le_refl _) ?_⟩
  · unfold execOp
    simp [hop, Instr.makeMap, newObj]
    rfl
  · rw [alloc_new]
    exact ⟨#[], 0, rfl, rfl⟩
/-- A new text comes into a map. -/
theorem e_mapNew {t kt vt : TypeId} {x y z : Operand} {b : Nat} {m : List (ByteArray × Int)} {k : ByteArray} {v : Int} (hop : o.op = .mapUpdate t x y z) (ht : tk ty t = some (.map kt vt)) (hk : tk ty kt = some .str) (hx : ev x = .map (some b)) (hy : ev y = .string k) (hz : ev z = .int .i64 v) (hn : sfind m k = none) :
    ERun P o ev [(b, SM m)] (fun u F' news => u = undef ∧ F' = [(b, SM (m ++ [(k, v)]))] ∧ news = []) := by
  intro w hs
  obtain ⟨c, clock, hc, he⟩ := hs.at_ (b, SM m) (by simp)
  dsimp only at hc
  obtain ⟨d, hd, rfl⟩ := run_under hty ht
  obtain ⟨j, hj⟩ := run_find hty hk k he w
  rw [hn] at hj
  have hb : b < w.heap.size := (Array.getElem?_eq_some_iff.1 hc).1
  have hother : ∀ j, j ≠ b → (w.heap.setIfInBounds b (.map (c.push { key := .string k, val := .int .i64 v, born := clock }) (clock + 1)))[j]? = w.heap[j]? := fun j hj => by
    rw [Array.getElem?_setIfInBounds_ne (fun e => hj e.symm)]
  have hsame : (w.heap.setIfInBounds b (.map (c.push { key := .string k, val := .int .i64 v, born := clock }) (clock + 1)))[b]? = some (.map (c.push { key := .string k, val := .int .i64 v, born := clock }) (clock + 1)) := by
    rw [Array.getElem?_setIfInBounds_self_of_lt hb]
  refine ⟨undef, _, _, { w with heap := w.heap.setIfInBounds b (.map (c.push { key := .string k, val := .int .i64 v, born := clock }) (clock + 1)) }, .inr ⟨?_, rfl⟩, ⟨rfl, rfl, rfl⟩, turned_upd rfl rfl rfl (by simp) rfl hother ?_⟩
  · unfold execOp
    have hg := MapKept.run_getObj_map (P := P) hc
    simp only [hop, hx, hy, hz, Instr.mapUpdate, Sem.run_bind, run_underlying hd, Result.andThen_ok, hg, run_check hty hk, hj, Option.map_none, MapKept.run_setObj_map _ hc]
    rfl
  · show GO.holds _ ((w.heap.setIfInBounds b _)[b]?)
    rw [hsame]
    refine ⟨_, _, rfl, ?_⟩
    simp [he]
end
section
variable {ops os : List Oper} {H : Option (List Hint)} {K : Env → GL → Prop} {e : Env} {l : GL} {d : Nat} {T : TypeId} {pos : String} {af : Array Edge}
theorem gs_makeMap {t : TypeId} (k : ∀ b, gseq Try.prog ops os (tl? H) K (upd e d (.map (some b))) (l ++ [(b, SM [])])) (hh : hE [] H := by trivial) : gseq Try.prog ops (⟨some d, .makeMap t none, T, pos, af, none⟩ :: os) H K e l := by
  refine gs_e [] rfl List.nodup_nil (e_makeMap (P := Try.prog) rfl).spec ?_ hh
  rintro v F' news ⟨b, rfl, rfl, rfl⟩ _ _
  exact k b
theorem gs_mapNew (j : Nat) {t kt vt : TypeId} {x y z : Operand} {b : Nat} {m : List (ByteArray × Int)} {k0 : ByteArray} {v : Int} (ht : tk tyT t = some (.map kt vt)) (hk : tk tyT kt = some .str) (hx : gev e x = .map (some b)) (hy : gev e y = .string k0) (hz : gev e z = .int .i64 v) (hn : sfind m k0 = none) (hl : l[j]? = some (b, SM m))
    (k : gseq Try.prog ops os (tl? H) K e (l.set j (b, SM (m ++ [(k0, v)])))) (hh : hE [j] H := by trivial) : gseq Try.prog ops (⟨none, .mapUpdate t x y z, T, pos, af, none⟩ :: os) H K e l := by
  refine gs_e [j] (F := [(b, SM m)]) (by simp [pick, hl]) (by simp) (e_mapNew tyT_ok rfl ht hk hx hy hz hn).spec ?_ hh
  rintro u F' news ⟨rfl, rfl, rfl⟩ _ _
  simpa [setAll, updo] using k
theorem gs_lookup (j : Nat) {t kt vt : TypeId} {x y : Operand} {ok : Bool} {b : Nat} {m : List (ByteArray × Int)} {k0 : ByteArray} {i : TyI} (ht : tk tyT t = some (.map kt vt)) (hk : tk tyT kt = some .str) (hv : tyT vt = some i) (hz : i.zero = .int .i64 0) (hx : gev e x = .map (some b)) (hy : gev e y = .string k0) (hl : l[j]? = some (b, SM m))
    (k : gseq Try.prog ops os (tl? H) K (upd e d (if ok then .tuple #[.int .i64 ((sfind m k0).getD 0), .bool (sfind m k0).isSome] else .int .i64 ((sfind m k0).getD 0))) l) (hh : hL j H := by trivial) : gseq Try.prog ops (⟨some d, .lookup t x y ok, T, pos, af, none⟩ :: os) H K e l :=
  gs_v j (by rw [hl]; exact lv_lookup tyT_ok rfl ht hk hv hz hx hy) k hh
end
/-- Lists of texts that are owned. -/
def strs (D : List ByteArray) : List Value := D.map Value.string
def OT (v : Value) (p : Nat × GO) (D : List ByteArray) : Prop := OwnE 9 1 v p (strs D)
theorem OT.nil {b : Nat} : OT (.slice none 0 0) (b, .none) [] := .inl ⟨rfl, rfl, rfl⟩
theorem OT.empty {b m : Nat} : OT (.slice (some ⟨b, 0, none⟩) 0 0) (b, .row 9 [] m) [] := .inr ⟨b, 0, 0, m, rfl, rfl, rfl, Nat.le_refl _, by omega⟩
theorem OT.sl {v : Value} {p : Nat × GO} {D : List ByteArray} (h : OT v p D) : ∃ a c, v = .slice a D.length c := by
  rcases h with ⟨rfl, hp, hD⟩ | ⟨b, len, cap, n, rfl, rfl, hl, hlc, hcn⟩
  · have : D = [] := by simpa [strs] using hD
    subst this
    exact ⟨_, _, rfl⟩
  · have : len = D.length := by simpa [strs] using hl.symm
    subst this
    exact ⟨_, _, rfl⟩
theorem OT.at {a : Option Addr} {n c : Nat} {p : Nat × GO} {D : List ByteArray} (h : OT (.slice a n c) p D) {k : Nat} (hk : k < D.length) : n = D.length ∧ a = some ⟨p.1, 0, none⟩ ∧ (cellsG p.2)[0 + k * 1]? = some (.string (D.getD k ⟨#[]⟩)) := by
  rcases h with ⟨_, _, hD⟩ | ⟨b, len, cap, n', h, rfl, hl, hlc, hcn⟩
  · have : D = [] := by simpa [strs] using hD
    subst this
    simp at hk
  · cases h
    have : n = D.length := by simpa [strs] using hl.symm
    refine ⟨this, rfl, ?_⟩
    rw [Nat.zero_add, Nat.mul_one]
    show (strs D)[k]? = _
    rw [strs, List.getElem?_map, List.getElem?_eq_getElem hk]
    simp [List.getD, hk]
section
variable {ops os : List Oper} {H : Option (List Hint)} {K : Env → GL → Prop} {e : Env} {l : GL} {d1 d2 : Nat} {T T2 : TypeId} {pos pos2 : String} {af af2 : Array Edge}
/-- append(y, parts..): elements of any kind, made by a literal of cells nw. -/
theorem gs_pushx (j n : Nat) {parts : Array (Nat × Operand)} {y : Operand} {t el : TypeId} {i : TyI} {p : Nat × GO} {v : Value} {cs nw : List Value} (hk : tk tyT t = some (.slice el)) (hi : tyT el = some i) (hz : i.zero.cells.toList.length = i.size) (hs1 : n * i.size ≤ 16777216)
    (hf : fillL ((List.range n).map fun j => (j * i.size, i.size)) (List.replicate n i.zero.cells.toList).flatten (parts.toList.map fun q => (q.1, gev e q.2)) = some nw) (hnw : nw.length = n * i.size) (h1 : nw.all (·.oneCell') = true) (hsz : 0 < i.size) (hby : 0 < i.bytes) (hl : l[j]? = some p) (hv : OwnE el i.size v p cs) (hy : ∀ u, gev (upd e d1 u) y = v) (hb : (cs.length + nw.length) * i.bytes ≤ 140737488355328 * i.size)
    (k : ∀ b v2 p2, OwnE el i.size v2 p2 (cs ++ nw) → gseq Try.prog ops os (tl? (tl? H)) K (upd (upd e d1 (.slice (some ⟨b, 0, none⟩) n n)) d2 v2) ((l ++ [(b, GO.row el nw nw.length)]).set j p2)) (hh : hE [] H := by trivial) (hh2 : hE [j, l.length] (tl? H) := by trivial) :
    gseq Try.prog ops (⟨some d1, .buildSlice t n parts, T, pos, af, none⟩ :: ⟨some d2, .call { callee := .builtin .append, args := #[y, .tmp d1], argTypes := #[t, t] }, T2, pos2, af2, none⟩ :: os) H K e l := by
  refine gs_lit tyT_ok (cs := nw) hk hi hz hs1 hf (fun b => ?_) hh
  have hj := (List.getElem?_eq_some_iff.1 hl).1
  refine gs_append tyT_ok j l.length (p := p) (q := (b, GO.row el nw nw.length)) (cs := cs) (nw := nw) ?_ ?_ (by omega) hk hi hz ?_ ?_ h1 hb hsz hby (fun v2 p2 hv2 => ?_) hh2
  · rw [List.getElem?_append_left hj, hl]
  · simp
  · rw [hy]
    exact hv
  · refine .inr ⟨b, 0, n, n, ?_, rfl, ?_, ?_⟩
    · show upd e d1 _ d1 = _
      simp [upd]
    · show 0 + n * i.size ≤ nw.length
      omega
    · show (nw.drop 0).take (n * i.size) = nw
      rw [List.drop_zero, List.take_of_length_le (by omega)]
  · exact k b v2 p2 hv2
/-- append(y, x) of one text. -/
theorem gs_pusht (j : Nat) {x y : Operand} {s : ByteArray} {p : Nat × GO} {v : Value} {D : List ByteArray} (hx : gev e x = .string s) (hl : l[j]? = some p) (hv : OT v p D) (hy : ∀ u, gev (upd e d1 u) y = v) (hz : D.length ≤ 1000000000)
    (k : ∀ b a c p2, OT (.slice a (D.length + 1) c) p2 (D ++ [s]) → gseq Try.prog ops os (tl? (tl? H)) K (upd (upd e d1 (.slice (some ⟨b, 0, none⟩) 1 1)) d2 (.slice a (D.length + 1) c)) ((l ++ [(b, GO.row 9 [.string s] 1)]).set j p2)) (hh : hE [] H := by trivial) (hh2 : hE [j, l.length] (tl? H) := by trivial) :
    gseq Try.prog ops (⟨some d1, .buildSlice 116 1 #[(0, x)], T, pos, af, none⟩ :: ⟨some d2, .call { callee := .builtin .append, args := #[y, .tmp d1], argTypes := #[116, 116] }, T2, pos2, af2, none⟩ :: os) H K e l := by
  refine gs_pushx j 1 (nw := [.string s]) (el := 9) rfl rfl rfl (by decide) ?_ rfl rfl (by decide) (by decide) hl hv hy ?_ (fun b v2 p2 hv2 => ?_) hh hh2
  · show fillL _ _ [(0, gev e x)] = _
    rw [hx]
    rfl
  · simp only [strs, List.length_map, List.length_singleton]
    show (D.length + 1) * 16 ≤ 140737488355328 * 1
    omega
  · have hv3 : OT v2 p2 (D ++ [s]) := by
      have e3 : strs D ++ [.string s] = strs (D ++ [s]) := by simp [strs]
      rw [e3] at hv2
      exact hv2
    obtain ⟨a, c, he⟩ := hv3.sl
    subst he
    rw [List.length_append] at hv3 ⊢
    exact k b a c p2 hv3
end
end Go.Proofs.Ytjefdcbljpkmlaa.G
end
