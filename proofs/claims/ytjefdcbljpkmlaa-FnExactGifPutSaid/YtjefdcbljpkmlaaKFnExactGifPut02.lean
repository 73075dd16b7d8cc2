/- What the law FnExactGifPut needs, out of the texts Gc. -/
import Derived.Laws.AppendOwn
import Derived.Laws.MakeOwn
import Derived.ArgAppend
import Derived.Laws.IdiomCopy
import Derived.Test.YtjefdcbljpkmlaaKFnExactGifPut01
section
set_option linter.unusedVariables false
set_option linter.unusedSimpArgs false
namespace Go.Proofs.Ytjefdcbljpkmlaa.G
open Go
abbrev OutT := Value → GL → GL → Prop
def ERun (P : Program) (o : Oper) (ev : Operand → Value) (F : GL) (Out : OutT) : Prop :=
  ∀ w, Sim F w → ∃ v F' news w', ((execOp ev o).run P w = .ok (.value v) w' ∨ ((execOp ev o).run P w = .ok .skip w' ∧ v = undef)) ∧ Out v F' news ∧ Turned F F' news w w'
theorem sim_nil (w : World) : Sim [] w := ⟨fun i j p q h => by simp at h, by simp⟩
theorem sim_one {w : World} {p : Nat × GO} (h : p.2.holds w.heap[p.1]?) : Sim [p] w := ⟨fun i j a b h1 h2 _ _ _ => by
  have := (List.getElem?_eq_some_iff.1 h1).1
  have := (List.getElem?_eq_some_iff.1 h2).1
  simp at *
  omega, by simpa using h⟩
theorem turned_none {F : GL} {w : World} (h : Sim F w) : Turned F F [] w w := ⟨rfl, by simpa using h, Fr.refl _ _, fun p hp hr => .inl ⟨p.2, by simpa using hp, hr⟩, fun p hp hr => .inl ⟨p.2, by simpa using hp, hr⟩⟩
theorem turned_new {w w' : World} {b : Nat} {x : GO} (h1 : w'.os = w.os) (h2 : w'.tape = w.tape) (h3 : w'.output = w.output) (hs : w.heap.size ≤ w'.heap.size) (hk : ∀ k, k < w.heap.size → w'.heap[k]? = w.heap[k]?) (hb : w.heap.size ≤ b) (hx : x.holds w'.heap[b]?) :
    Turned [] [] [(b, x)] w w' :=
  ⟨rfl, sim_one hx, ⟨h1, h2, h3, hs, fun k hk' _ => hk k hk'⟩, fun p hp _ => .inr (by simp at hp; subst hp; exact hb), fun p hp _ => .inr (by simp at hp; subst hp; exact hb)⟩
theorem turned_upd {w w' : World} {b : Nat} {x x' : GO} (h1 : w'.os = w.os) (h2 : w'.tape = w.tape) (h3 : w'.output = w.output) (hs : w'.heap.size = w.heap.size) (ho : x.own = true) (hk : ∀ k, k ≠ b → w'.heap[k]? = w.heap[k]?) (hx : x'.holds w'.heap[b]?) :
    Turned [(b, x)] [(b, x')] [] w w' :=
  ⟨rfl, sim_one hx, ⟨h1, h2, h3, by omega, fun k _ hn => hk k fun e => hn ⟨x, by subst e; simp, ho⟩⟩, fun p hp _ => .inl (by simp at hp; subst hp; exact ⟨x, by simp, GO.real_of_own ho⟩), fun p hp _ => .inl (by simp at hp; subst hp; exact ⟨x, by simp, ho⟩)⟩
theorem alloc_new (w : World) (o : Obj) : (w.alloc o).heap[w.heap.size]? = some o := heap_alloc_new w o
theorem alloc_size (w : World) (o : Obj) : w.heap.size ≤ (w.alloc o).heap.size := by show _ ≤ (w.heap.push o).size; simp
theorem alloc_old (w : World) (o : Obj) (k : Nat) (h : k < w.heap.size) : (w.alloc o).heap[k]? = w.heap[k]? := heap_alloc_old w o k h
theorem row_all (t : TypeId) (c : Array Value) : (GO.row t c.toList c.size).holds (some (.cells c t (0, 0))) := ⟨c, (0, 0), rfl, .inl rfl, rfl, List.prefix_refl _⟩
theorem turned_alloc (w : World) (t : TypeId) (c : Array Value) : Turned [] [] [(w.heap.size, .row t c.toList c.size)] w (w.alloc (.cells c t)) :=
  turned_new rfl rfl rfl (alloc_size w _) (alloc_old w _) (Nat.le_refl _) (by rw [alloc_new]; exact row_all t c)
section
variable {P : Program} {ty : Tys} (hty : TysOk P ty) {o : Oper} {ev : Operand → Value}
include hty
theorem e_alloc {t : TypeId} {i : TyI} (hop : o.op = .alloc t) (hi : ty t = some i) : ERun P o ev [] (fun v F' news => ∃ b, v = .pointer (some ⟨b, 0, none⟩) ∧ F' = [] ∧ news = [(b, .row t i.zero.cells.toList i.zero.cells.toList.length)]) := by
  intro w _
  refine ⟨_, _, _, w.alloc (.cells i.zero.cells t), .inl ?_, ⟨w.heap.size, rfl, rfl, rfl⟩, by simpa using turned_alloc w t i.zero.cells⟩
  unfold execOp
  simp [hop, Instr.alloc, run_zero hty hi, newVar, newRow]
omit hty in
theorem e_box {t : TypeId} {x : Operand} (hop : o.op = .box t x) : ERun P o ev [] (fun v F' news => ∃ b, v = .pointer (some ⟨b, 0, none⟩) ∧ F' = [] ∧ news = [(b, .row t (ev x).cells.toList (ev x).cells.toList.length)]) := by
  intro w _
  refine ⟨_, _, _, w.alloc (.cells (ev x).cells t), .inl ?_, ⟨w.heap.size, rfl, rfl, rfl⟩, by simpa using turned_alloc w t (ev x).cells⟩
  unfold execOp
  simp [hop, Instr.box, newVar, newRow]
omit hty in
theorem zeros_eq (z : Array Value) (len : Nat) : ((Array.range (len * z.size)).map (fun j => z[j % z.size]!)).toList = (List.replicate len z.toList).flatten := by
  apply List.ext_getElem
  · simp [List.length_flatten]
  · intro j h1 h2
    simp only [Array.toList_map, Array.toList_range, List.length_map, List.length_range] at h1
    have hz : 0 < z.size := by
      rcases Nat.eq_zero_or_pos z.size with h | h
      · rw [h] at h1; omega
      · exact h
    have hm : j % z.size < z.size := Nat.mod_lt _ hz
    simp only [Array.toList_map, Array.toList_range, List.getElem_map, List.getElem_range]
    have key : ∀ (len j : Nat), j < len * z.size → ((List.replicate len z.toList).flatten)[j]? = z.toList[j % z.size]? := by
      intro len
      induction len with
      | zero => intro j h; omega
      | succ n ih =>
        intro j h
        rw [List.replicate_succ, List.flatten_cons]
        by_cases hj : j < z.size
        · rw [List.getElem?_append_left (by simpa using hj), Nat.mod_eq_of_lt hj]
        · rw [List.getElem?_append_right (by simp; omega)]
          rw [Nat.add_mul] at h
          have := ih (j - z.size) (by omega)
          rw [Array.length_toList, this, Nat.mod_eq_sub_mod (by omega : j ≥ z.size)]
    have := key len j h1
    rw [List.getElem?_eq_getElem h2] at this
    have h3 : z.toList[j % z.size]? = some z[j % z.size] := by simp [hm]
    rw [h3] at this
    rw [Option.some.inj this]
    simp [hm]
theorem e_buildSlice {t el : TypeId} {len : Nat} {parts : Array (Nat × Operand)} {i : TyI} {cs : List Value} (hop : o.op = .buildSlice t len parts) (hk : tk ty t = some (.slice el)) (hi : ty el = some i) (hz : i.zero.cells.toList.length = i.size) (hs : len * i.size ≤ 16777216)
    (hf : fillL ((List.range len).map fun j => (j * i.size, i.size)) (List.replicate len i.zero.cells.toList).flatten (parts.toList.map fun q => (q.1, ev q.2)) = some cs) :
    ERun P o ev [] (fun v F' news => ∃ b, v = .slice (some ⟨b, 0, none⟩) len len ∧ F' = [] ∧ news = [(b, .row el cs cs.length)]) := by
  intro w _
  obtain ⟨d, hd, rfl⟩ := run_under hty hk
  refine ⟨_, _, _, w.alloc (.cells cs.toArray el), .inl ?_, ⟨w.heap.size, rfl, rfl, rfl⟩, by simpa using turned_alloc w el cs.toArray⟩
  have hr := fillL_run _ _ _ cs hf
  have hsz : i.zero.cells.size = i.size := by simpa using hz
  have hr2 : Instr.fill (fun j => some (j * i.size, i.size)) ((List.replicate len i.zero.cells.toList).flatten.toArray) (parts.toList.map fun q => (q.1, ev q.2)) = some cs.toArray := by
    refine fill_more (fun j p hp => ?_) hr
    rw [List.getElem?_map] at hp
    cases hj : (List.range len)[j]? with
    | none => rw [hj] at hp; cases hp
    | some q =>
      rw [hj] at hp
      obtain ⟨hq, e2⟩ := List.getElem?_eq_some_iff.1 hj
      simp at e2
      subst e2
      simpa using hp
  have hze := zeros_eq i.zero.cells len
  rw [hsz] at hze
  have hze2 : (Array.range (len * i.size)).map (fun j => i.zero.cells[j % i.size]!) = (List.replicate len i.zero.cells.toList).flatten.toArray := by
    apply Array.ext'
    rw [hze]
  have hlim : ¬ (16777216 < len * i.size) := by omega
  unfold execOp
  simp only [hop, Instr.buildSlice, Sem.run_bind, run_underlying hd, Result.andThen_ok, run_size hty hi]
  by_cases h0 : len * i.size = 0
  · have hl : (List.replicate len i.zero.cells.toList).flatten.toArray = #[] := by rw [← hze2, h0]; simp
    rw [hl] at hr2
    have e0 : Array.range 0 = #[] := rfl
    simp [h0, hr2, newRow, e0]
  · simp [h0, hlim, run_zero hty hi, hsz, hze2, hr2, newRow]
omit hty in
theorem heap_setCell_ne (w : World) (a : Addr) (v : Value) (k : Nat) (h : k ≠ a.block) : (w.setCell a v).heap[k]? = w.heap[k]? := by
  simp only [World.setCell]
  rw [Array.getElem?_modify, if_neg fun e => h e.symm]
omit hty in
theorem setCells_other (b : Nat) : ∀ (vs : List Value) (off : Nat) (w : World), (w.setCells b off vs).os = w.os ∧ (w.setCells b off vs).tape = w.tape ∧ (w.setCells b off vs).output = w.output ∧ (w.setCells b off vs).heap.size = w.heap.size ∧ ∀ k, k ≠ b → (w.setCells b off vs).heap[k]? = w.heap[k]?
  | [], off, w => ⟨rfl, rfl, rfl, rfl, fun _ _ => rfl⟩
  | v :: vs, off, w => by
    obtain ⟨h1, h2, h3, h4, h5⟩ := setCells_other b vs (off + 1) (w.setCell ⟨b, off, none⟩ v)
    refine ⟨h1, h2, h3, by simp only [World.setCells]; rw [h4]; simp [World.setCell], fun k hk => ?_⟩
    simp only [World.setCells]
    rw [h5 k hk]
    exact heap_setCell_ne w ⟨b, off, none⟩ v k hk
omit hty in
theorem setCells_block (b : Nat) : ∀ (vs : List Value) (off : Nat) (w : World) (c : Array Value) (t : TypeId) (fr : Nat × Nat), w.heap[b]? = some (.cells c t fr) → off + vs.length ≤ c.size →
    (w.setCells b off vs).heap[b]? = some (.cells (c.toList.take off ++ vs ++ c.toList.drop (off + vs.length)).toArray t fr)
  | [], off, w, c, t, fr, h, _ => by simp [World.setCells, h]
  | v :: vs, off, w, c, t, fr, h, hl => by
    simp only [List.length_cons] at hl
    have h1 : (w.setCell ⟨b, off, none⟩ v).heap[b]? = some (.cells (c.setIfInBounds off v) t fr) := by
      have hb : b < w.heap.size := (Array.getElem?_eq_some_iff.1 h).1
      have hg : w.heap[b] = .cells c t fr := by simpa [Array.getElem?_eq_getElem hb] using h
      simp [World.setCell, Array.getElem?_modify, h]
    have ih := setCells_block b vs (off + 1) _ _ t fr h1 (by simp; omega)
    simp only [World.setCells]
    rw [ih]
    congr 3
    simp only [Array.toList_setIfInBounds, List.length_cons]
    rw [List.take_set, List.drop_set_of_lt (by omega), List.take_succ_eq_append_getElem (by simp; omega)]
    rw [List.set_append_right _ _ (by simp; omega)]
    simp [show min off c.size = off by omega]
    congr 1
    omega
/-- Cells of a row of one's own, written anew. -/
def put (cs : List Value) (off : Nat) (vs : List Value) : List Value := cs.take off ++ vs ++ cs.drop (off + vs.length)
omit hty in
theorem holds_set {w : World} {b n off : Nat} {t : TypeId} {cs : List Value} {c : Array Value} {fr : Nat × Nat} (h1 : w.heap[b]? = some (.cells c t fr)) (h2 : fr.1 = fr.2 ∨ n ≤ fr.1) (h3 : c.size = n) (h4 : cs <+: c.toList) (vs : List Value) (hl : off ≤ cs.length) (hn : off + vs.length ≤ n) :
    (GO.row t (put cs off vs) n).holds (w.setCells b off vs).heap[b]? := by
  refine ⟨_, fr, setCells_block b vs off w c t fr h1 (by omega), h2, ?_, ?_⟩
  · have hc : c.toList.length = n := by simpa using h3
    simp
    omega
  · obtain ⟨r, hr⟩ := h4
    have hc : c.toList.length = n := by simpa using h3
    unfold put
    rw [← hr, List.take_append_of_le_length hl]
    simp only [List.toList_toArray]
    rw [List.append_assoc, List.append_assoc, List.prefix_append_right_inj, List.prefix_append_right_inj]
    by_cases hle : off + vs.length ≤ cs.length
    · rw [List.drop_append_of_le_length hle]
      exact List.prefix_append _ _
    · rw [List.drop_eq_nil_of_le (by omega)]
      exact List.nil_prefix
omit hty in
theorem row_there {w : World} {b n : Nat} {t : TypeId} {cs : List Value} (h : (GO.row t cs n).holds w.heap[b]?) (j : Nat) (hj : j < n) : (w.cell? ⟨b, j, none⟩).isSome = true ∧ w.frozen? ⟨b, j, none⟩ = false := by
  obtain ⟨c, fr, h1, h2, h3, h4⟩ := h
  refine ⟨?_, ?_⟩
  · simp only [World.cell?, h1]
    simp [show j < c.size by omega]
  · simp only [World.frozen?, h1]
    rw [Bool.eq_false_iff]
    intro hh
    rw [Bool.and_eq_true, decide_eq_true_eq, decide_eq_true_eq] at hh
    omega
theorem e_store {t t' : TypeId} {x y : Operand} {i : TyI} {b off n : Nat} {cs : List Value} (hop : o.op = .store t x y) (hx : ev x = .pointer (some ⟨b, off, none⟩)) (hi : ty t = some i) (hl : (ev y).cells.toList.length = i.size) (h1 : (ev y).cells.toList.all (·.oneCell') = true) (hle : off ≤ cs.length) (hn : off + i.size ≤ n) :
    ERun P o ev [(b, .row t' cs n)] (fun v F' news => v = undef ∧ F' = [(b, .row t' (put cs off (ev y).cells.toList) n)] ∧ news = []) := by
  intro w hs
  have hh := hs.at_ (b, .row t' cs n) (by simp)
  have hsz : (ev y).cells.size = i.size := by simpa using hl
  have hrun := run_storeCells_cells (P := P) b off (ev y).cells.toList 0 w (fun j hj => by rw [Nat.add_zero]; exact (row_there hh _ (by omega)).1) (fun j hj => by rw [Nat.add_zero]; exact (row_there hh _ (by omega)).2) (fun v hv => List.all_eq_true.1 h1 v hv)
  obtain ⟨g1, g2, g3, g4, g5⟩ := setCells_other b (ev y).cells.toList off w
  obtain ⟨c, fr, k1, k2, k3, k4⟩ := hh
  refine ⟨undef, _, _, w.setCells b off (ev y).cells.toList, .inr ⟨?_, rfl⟩, ⟨rfl, rfl, rfl⟩, turned_upd g1 g2 g3 g4 rfl g5 (holds_set k1 k2 k3 k4 _ hle (by omega))⟩
  unfold execOp
  simp only [Nat.add_zero] at hrun
  simp [hop, hx, Instr.storeAt, Instr.sureAddr, storeVar, run_size hty hi, hsz, hrun]
omit hty in
theorem turned_lift {l F F' news : GL} {w w' : World} (ks : List Nat) (hp : pick l ks = some F) (nk : ks.Nodup) (hs : Sim l w) (ht : Turned F F' news w w') : Turned l (setAll l ks F') news w w' := by
  obtain ⟨h1, h2⟩ := Turned.frame hp nk hs ht
  have hF' : F'.length = ks.length := by rw [ht.len, pick_length ks l F hp]
  refine ⟨setAll_length _ _ _, h1, h2, fun p hp1 hr => ?_, fun p hp1 hr => ?_⟩
  rotate_left
  · have key : ∀ q ∈ F' ++ news, q.2.own = true → (∃ x, (q.1, x) ∈ l ∧ x.own = true) ∨ w.heap.size ≤ q.1 := by
      intro q hq hqr
      rcases ht.own q hq hqr with ⟨x, hx, hxr⟩ | h
      · obtain ⟨k, hk, e⟩ := (pick_mem ks l F hp _).1 hx
        exact .inl ⟨x, List.mem_of_getElem? e, hxr⟩
      · exact .inr h
    rcases List.mem_append.1 hp1 with h | h
    · rcases setAll_mem ks l F' p hF' h with h | ⟨j, hj, e⟩
      · exact key p (List.mem_append_left _ h) hr
      · exact .inl ⟨p.2, List.mem_of_getElem? e, hr⟩
    · exact key p (List.mem_append_right _ h) hr
  have key : ∀ q ∈ F' ++ news, q.2.real = true → (∃ x, (q.1, x) ∈ l ∧ x.real = true) ∨ w.heap.size ≤ q.1 := by
    intro q hq hqr
    rcases ht.new q hq hqr with ⟨x, hx, hxr⟩ | h
    · obtain ⟨k, hk, e⟩ := (pick_mem ks l F hp _).1 hx
      exact .inl ⟨x, List.mem_of_getElem? e, hxr⟩
    · exact .inr h
  rcases List.mem_append.1 hp1 with h | h
  · rcases setAll_mem ks l F' p hF' h with h | ⟨j, hj, e⟩
    · exact key p (List.mem_append_left _ h) hr
    · exact .inl ⟨p.2, List.mem_of_getElem? e, hr⟩
  · exact key p (List.mem_append_right _ h) hr
/-- A slice that owns the cells cs; p is its entry (a place kept free, where the slice is nil). -/
def OwnE (e size : Nat) (v : Value) (p : Nat × GO) (cs : List Value) : Prop :=
  (v = .slice none 0 0 ∧ p.2 = .none ∧ cs = []) ∨ ∃ b len cap n, v = .slice (some ⟨b, 0, none⟩) len cap ∧ p = (b, .row e cs n) ∧ cs.length = len * size ∧ len ≤ cap ∧ cap * size ≤ n
/-- A slice whose elements are the cells news; q is the entry they lie in. -/
def SrcE (size : Nat) (v : Value) (q : Nat × GO) (news : List Value) : Prop :=
  (v = .slice none 0 0 ∧ news = []) ∨ ∃ b o m c, v = .slice (some ⟨b, o, none⟩) m c ∧ q.1 = b ∧ o + m * size ≤ (cellsG q.2).length ∧ ((cellsG q.2).drop o).take (m * size) = news
omit hty in
theorem row_prefix {w : World} {t : TypeId} {c : Array Value} {cs : List Value} {b : Nat} {fr : Nat × Nat} (h : w.heap[b]? = some (.cells c t fr)) (h2 : fr = (0, 0)) (hp : cs <+: c.toList) (n : Nat) (hn : c.size = n) : (GO.row t cs n).holds w.heap[b]? := ⟨c, fr, h, .inl (by rw [h2]), hn, hp⟩
theorem append_run {t el ty' : TypeId} {i : TyI} (hk : tk ty t = some (.slice el)) (hi : ty el = some i) (hz : i.zero.cells.toList.length = i.size) {s x : Value} {p q : Nat × GO} {cs news : List Value} (hs : OwnE el i.size s p cs) (hx : SrcE i.size x q news) (h1 : news.all (·.oneCell') = true) (hb : (cs.length + news.length) * i.bytes ≤ 140737488355328 * i.size) (hsz : 0 < i.size) (hby : 0 < i.bytes)
    (w : World) (hw : Sim [p, q] w) : ∃ v p' w', (Builtin.append_ #[t, t] ty' #[s, x]).run P w = .ok v w' ∧ OwnE el i.size v p' (cs ++ news) ∧ Turned [p, q] [p', q] [] w w' := by
  obtain ⟨d, hd, rfl⟩ := run_under hty hk
  obtain ⟨inf, i1, i2, i3, i4⟩ := (hty el i hi).info
  have hzs : i.zero.cells.size = i.size := by simpa using hz
  have lift : ∀ p' w', Turned [p] [p'] [] w w' → Turned [p, q] [p', q] [] w w' := fun p' w' h => turned_lift [0] rfl (by simp) hw h
  have same : Turned [p, q] [p, q] [] w w := turned_none hw
  have mul_le : ∀ a b : Nat, a * i.size ≤ b * i.size → a ≤ b := fun a b h => Nat.le_of_mul_le_mul_right h hsz
  rcases hx with ⟨rfl, rfl⟩ | ⟨b2, o2, m, c, rfl, hq, hle, hn⟩
  · rcases hs with ⟨rfl, hp, rfl⟩ | ⟨b, len, cap, n, rfl, rfl, hl, hlc, hcn⟩
    · exact ⟨_, p, w, by simp [Builtin.append_, run_underlying hd, sizeOf, typeInfo, i1, Builtin.lenOf, Builtin.firstCells], .inl ⟨rfl, hp, rfl⟩, same⟩
    · refine ⟨_, _, w, ?_, .inr ⟨b, len, cap, n, rfl, rfl, by simpa using hl, hlc, hcn⟩, by simpa using same⟩
      simp [Builtin.append_, run_underlying hd, sizeOf, typeInfo, i1, Builtin.lenOf, Builtin.firstCells, hlc, storeCells]
  · have hnl : news.length = m * inf.size := by rw [i2, ← hn]; simp; omega
    have hnews : ∀ (w' : World), w'.heap[b2]? = w.heap[b2]? → ∀ j v, news[j]? = some v → w'.cell? ((⟨b2, o2, none⟩ : Addr).add j) = some v := by
      intro w' hw' j v hv
      rw [addr_add]
      rw [← hn] at hv
      have := holds_range (n := m * i.size) (o := o2) (hw.at_ q (by simp)) j v hv
      rw [hq] at this
      simp only [World.cell?] at this ⊢
      rw [hw']
      exact this
    have hnews0 := hnews w rfl
    rcases hs with ⟨rfl, hp, rfl⟩ | ⟨b, len, cap, n, rfl, rfl, hl, hlc, hcn⟩
    · by_cases h0 : m = 0
      · subst h0
        have : news = [] := List.eq_nil_of_length_eq_zero (by omega)
        subst this
        refine ⟨_, p, w, ?_, .inl ⟨rfl, hp, rfl⟩, same⟩
        simp [Builtin.append_, run_underlying hd, sizeOf, typeInfo, i1, Builtin.lenOf, Builtin.firstCells, loadCells, loadCellsFrom]
      · have hmb : m * inf.bytes ≤ 140737488355328 := by
          rw [hnl, i2] at hb
          rw [i3]
          have : m * i.bytes * i.size ≤ 140737488355328 * i.size := by simpa [Nat.mul_comm, Nat.mul_left_comm, Nat.mul_assoc] using hb
          exact mul_le _ _ this
        have hm : m ≤ 140737488355328 := by
          refine Nat.le_trans (Nat.le_mul_of_pos_right m (show 0 < inf.bytes by rw [i3]; exact hby)) hmb
        have hr := run_append_nil (P := P) w t ty' el inf i.zero hd i1 i4 ⟨b2, o2, none⟩ m c news hnl hnews0 (by omega) (by omega) (by omega)
        have hge := grownCap_ge w m 0 el
        refine ⟨_, (w.heap.size, .row el news (grownCap w m 0 el * i.size)), _, hr, .inr ⟨w.heap.size, m, grownCap w m 0 el, _, rfl, by simp, by simpa [i2] using hnl, hge, Nat.le_refl _⟩, lift _ _ ?_⟩
        refine ⟨rfl, sim_one (row_prefix (heap_alloc_new w.drew _) rfl ?_ _ ?_), ⟨rfl, rfl, rfl, by simp, fun k hk _ => heap_alloc_old w.drew _ k hk⟩, fun p' hp' _ => .inr (by simp at hp'; subst hp'; exact Nat.le_refl _), fun p' hp' _ => .inr (by simp at hp'; subst hp'; exact Nat.le_refl _)⟩
        · simp
        · simp only [Array.size_append, List.size_toArray, size_zeroCells, hzs, hnl, i2, ← Nat.add_mul]
          congr 1
          omega
    · have hh := hw.at_ (b, .row el cs n) (by simp)
      by_cases hroom : len + m ≤ cap
      · have hcap : (len + m) * i.size ≤ n := Nat.le_trans (Nat.mul_le_mul_right _ hroom) hcn
        rw [Nat.add_mul] at hcap
        have hr := run_append_room_cells (P := P) w t ty' el inf hd i1 b 0 len cap ⟨b2, o2, none⟩ m c news hnl hnews0 (List.all_eq_true.1 h1) hroom
          (fun j hj => (row_there hh _ (by rw [hnl, i2] at hj; rw [i2]; omega)).1) (fun j hj => (row_there hh _ (by rw [hnl, i2] at hj; rw [i2]; omega)).2)
        rw [i2, Nat.zero_add] at hr
        obtain ⟨g1, g2, g3, g4, g5⟩ := setCells_other b news (len * i.size) w
        obtain ⟨c', fr, k1, k2, k3, k4⟩ := hh
        have hput : put cs (len * i.size) news = cs ++ news := by
          unfold put
          rw [← hl, List.take_length, List.drop_eq_nil_of_le (by omega), List.append_nil]
        have hset := holds_set k1 k2 k3 k4 news (off := len * i.size) (by omega) (by rw [hnl, i2]; omega)
        rw [hput] at hset
        exact ⟨_, (b, .row el (cs ++ news) n), _, hr, .inr ⟨b, len + m, cap, n, rfl, rfl, by rw [List.length_append, hl, hnl, i2, Nat.add_mul], hroom, hcn⟩, lift _ _ (turned_upd g1 g2 g3 g4 rfl g5 hset)⟩
      · have hmb : (len + m) * inf.bytes ≤ 140737488355328 := by
          rw [hnl, hl, i2] at hb
          rw [i3]
          have : (len + m) * i.bytes * i.size ≤ 140737488355328 * i.size := by rw [← Nat.add_mul] at hb; simpa [Nat.mul_comm, Nat.mul_left_comm, Nat.mul_assoc] using hb
          exact mul_le _ _ this
        have hm : len + m ≤ 140737488355328 := by
          refine Nat.le_trans (Nat.le_mul_of_pos_right (len + m) (show 0 < inf.bytes by rw [i3]; exact hby)) hmb
        have holds : ∀ j v, cs[j]? = some v → w.cell? ((⟨b, 0, none⟩ : Addr).add j) = some v := fun j v hv => by
          rw [addr_add, Nat.zero_add]
          exact holds_cell hh hv
        have hr := run_append_grow (P := P) w t ty' el inf i.zero hd i1 i4 ⟨b, 0, none⟩ len cap cs (by rw [i2]; exact hl) holds ⟨b2, o2, none⟩ m c news hnl hnews0 (by omega) (by omega) (growslice_fits (by omega) hmb)
        have hge := grownCap_ge w (len + m) cap el
        refine ⟨_, (w.heap.size, .row el (cs ++ news) (grownCap w (len + m) cap el * i.size)), _, hr, .inr ⟨w.heap.size, len + m, grownCap w (len + m) cap el, _, rfl, rfl, by rw [List.length_append, hl, hnl, i2, Nat.add_mul], hge, Nat.le_refl _⟩, lift _ _ ?_⟩
        refine ⟨rfl, sim_one (row_prefix (heap_alloc_new w.drew _) rfl ?_ _ ?_), ⟨rfl, rfl, rfl, by simp, fun k hk _ => heap_alloc_old w.drew _ k hk⟩, fun p' hp' _ => .inr (by simp at hp'; subst hp'; exact Nat.le_refl _), fun p' hp' _ => .inr (by simp at hp'; subst hp'; exact Nat.le_refl _)⟩
        · simp
        · simp only [Array.size_append, List.size_toArray, size_zeroCells, hzs, hnl, hl, i2, ← Nat.add_mul]
          congr 1
          omega
theorem e_append {t el : TypeId} {i : TyI} {s x : Operand} (hop : o.op = .call { callee := .builtin .append, args := #[s, x], argTypes := #[t, t] }) (hk : tk ty t = some (.slice el)) (hi : ty el = some i) (hz : i.zero.cells.toList.length = i.size) {p q : Nat × GO} {cs news : List Value} (hs : OwnE el i.size (ev s) p cs) (hx : SrcE i.size (ev x) q news) (h1 : news.all (·.oneCell') = true) (hb : (cs.length + news.length) * i.bytes ≤ 140737488355328 * i.size) (hsz : 0 < i.size) (hby : 0 < i.bytes) :
    ERun P o ev [p, q] (fun v F' ns => ns = [] ∧ ∃ p', F' = [p', q] ∧ OwnE el i.size v p' (cs ++ news)) := by
  intro w hw
  obtain ⟨v, p', w', hr, hv, ht⟩ := append_run hty (ty' := o.type) hk hi hz hs hx h1 hb hsz hby w hw
  refine ⟨v, _, _, w', .inl ?_, ⟨rfl, p', rfl, hv⟩, ht⟩
  unfold execOp
  simp only [hop, resolve, Sem.run_bind, Sem.run_pure, Result.andThen_ok, invoke, show ∀ a b c d, builtin .append a b c d = (do pure (.value (← Builtin.append_ a b d))) from fun _ _ _ _ => rfl]
  simp [hr]
/-- make([]T, n): as many noughts. -/
theorem e_make {t el : TypeId} {i : TyI} {y z : Operand} {k1 k2 : IntKind} {n : Nat} (hop : o.op = .makeSlice t y z) (hk : tk ty t = some (.slice el)) (hi : ty el = some i) (hz : i.zero.cells.toList.length = i.size) (hy : ev y = .int k1 (n : Int)) (hz2 : ev z = .int k2 (n : Int)) (hn : n ≤ 1000000000) (hb : i.bytes ≤ 200000) :
    ERun P o ev [] (fun v F' news => F' = [] ∧ ∃ b, v = .slice (some ⟨b, 0, none⟩) n n ∧ news = [(b, .row el (List.replicate n i.zero.cells.toList).flatten (n * i.size))]) := by
  intro w _
  obtain ⟨d, hd, rfl⟩ := run_under hty hk
  obtain ⟨inf, i1, i2, i3, i4⟩ := (hty el i hi).info
  have hzs : i.zero.cells.size = i.size := by simpa using hz
  have hbb : (inf.bytes : Int) * (n : Int) ≤ 281474976710656 := by
    have : inf.bytes * n ≤ 200000 * 1000000000 := Nat.mul_le_mul (by omega) hn
    have : ((inf.bytes * n : Nat) : Int) ≤ 281474976710656 := by omega
    rwa [Int.natCast_mul] at this
  have hr := run_make (P := P) w t el inf i.zero hd i1 i4 k1 k2 n n (by omega) (by omega) hbb (by omega)
  simp only [Int.toNat_natCast] at hr
  have hc : (madeCells i.zero.cells (n * inf.size)).toList = (List.replicate n i.zero.cells.toList).flatten := by
    rw [i2, ← hzs]
    exact zeros_eq i.zero.cells n
  have ht := turned_alloc w el (madeCells i.zero.cells (n * inf.size))
  rw [hc, size_madeCells, i2] at ht
  refine ⟨_, _, _, _, .inl ?_, ⟨rfl, w.heap.size, rfl, rfl⟩, ht⟩
  unfold execOp
  simp only [hop, Sem.run_bind, hy, hz2]
  rw [hr, i2]
  rfl
/-- []byte(s). -/
theorem e_bytes {sT dT el : TypeId} {i : TyI} {y : Operand} {s : ByteArray} (hop : o.op = .convert sT dT y) (hs : (ty sT).isSome = true) (hd : tk ty dT = some (.slice el)) (he : tk ty el = some (.int .u8)) (hy : ev y = .string s) :
    ERun P o ev [] (fun v F' news => F' = [] ∧ ∃ p, news = [p] ∧ OwnE el 1 v p (s.data.toList.map fun b => .int .u8 (b.toNat : Int))) := by
  intro w _
  obtain ⟨is, his⟩ := Option.isSome_iff_exists.1 hs
  obtain ⟨u, hu, _⟩ := (hty _ _ his).under
  obtain ⟨d1, h1, rfl⟩ := run_under hty hd
  obtain ⟨d2, h2, rfl⟩ := run_under hty he
  have hr := Lib.run_convert_string_bytes (P := P) w sT dT el s hu h1 h2
  have hge := grownCap_ge w s.size 0 el
  have hsz : (Lib.bytesCells w el s).size = grownCap w s.size 0 el := by
    have : (s.data.map fun b => Value.int .u8 (b.toNat : Int)).size = s.size := by rw [Array.size_map]; rfl
    simp only [Lib.bytesCells, Array.size_append, this, Array.size_replicate]
    omega
  refine ⟨_, _, _, Lib.bytesWorld w el s, .inl ?_, ⟨rfl, (w.heap.size, .row el (s.data.toList.map fun b => .int .u8 (b.toNat : Int)) (grownCap w s.size 0 el)), rfl, .inr ⟨w.heap.size, s.size, grownCap w s.size 0 el, _, rfl, rfl, by simp, hge, by omega⟩⟩, ?_⟩
  · unfold execOp
    simp only [hop, Sem.run_bind, hy]
    rw [hr]
    rfl
  · refine turned_new rfl rfl rfl (by rw [Lib.bytesWorld_size]; omega) (fun k hk => Lib.bytesWorld_at_old w el s k hk) (Nat.le_refl _) ⟨_, _, Lib.bytesWorld_at_new w el s, .inr (by rw [hsz]; exact Nat.le_refl _), hsz, ?_⟩
    simp [Lib.bytesCells]
end
end Go.Proofs.Ytjefdcbljpkmlaa.G
end
