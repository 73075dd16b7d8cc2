/- What the law FnExactGifPut needs, out of the texts Gg. -/
import Derived.Test.YtjefdcbljpkmlaaKFnExactGifPut05
section
set_option linter.unusedVariables false
set_option linter.unusedSimpArgs false
namespace Go.Proofs.Ytjefdcbljpkmlaa.G
open Go
def lkT : List (Nat × TyI) → Nat → Option TyI
  | [], _ => none
  | (k, i) :: r, t => bif Nat.beq t k then some i else lkT r t
theorem lkT_mem : ∀ {l : List (Nat × TyI)} {t : Nat} {i : TyI}, lkT l t = some i → (t, i) ∈ l
  | (k, j) :: r, t, i, h => by
    simp only [lkT] at h
    cases hb : Nat.beq t k with
    | true =>
      rw [hb] at h
      cases h
      rw [Nat.eq_of_beq_eq_true hb]
      simp
    | false =>
      rw [hb] at h
      exact List.mem_cons_of_mem _ (lkT_mem h)
theorem tyOk_of {P : Program} {t : TypeId} {i : TyI} (h1 : (P.info? t).map (fun x => (x.size, x.bytes, x.zero)) = some (i.size, i.bytes, some i.zero)) (h2 : ∃ d, P.underlying t = some d ∧ i.k.ok d) : TyOk P t i := by
  cases hq : P.info? t with
  | none => rw [hq] at h1; cases h1
  | some inf =>
    rw [hq] at h1
    simp only [Option.map_some, Option.some.injEq, Prod.mk.injEq] at h1
    exact ⟨⟨inf, hq, h1.1, h1.2.1, h1.2.2⟩, h2⟩
def Ent (P : Program) (f : FuncId) : Prop := ∀ (args : Array Value) (w : World), (callFunc f args).run P w = .ok (.enter f args) w
theorem ent_of {P : Program} {f : FuncId} {fn : Func} (hf : P.funcs[f]? = some fn) (hname : (fn.name == "runtime.NumGoroutine") = false) (hb : fn.body.isSome = true) : Ent P f := by
  intro args w
  have h1 : fn.name ≠ "runtime.NumGoroutine" := by simpa using hname
  obtain ⟨c, hc⟩ := Option.isSome_iff_exists.1 hb
  simp [callFunc, hf, h1, hc]
def hN : Option (List Hint) → Prop
  | none => True
  | some (.N :: _) => True
  | some (.R :: _) => True
  | _ => False
def hL (j : Nat) : Option (List Hint) → Prop
  | none => True
  | some (.L k :: _) => k = j
  | some (.R :: _) => True
  | _ => False
def hE (ks : List Nat) : Option (List Hint) → Prop
  | none => True
  | some (.E ks' :: _) => ks' = ks
  | _ => False
def hA (k : Nat) (r : GO) (sl : Option Nat) : Option (List Hint) → Prop
  | some (.A k' r' sl' :: _) => k' = k ∧ r' = r ∧ sl' = sl
  | _ => False
theorem hA_or {k : Nat} {r : GO} {sl : Option Nat} {H : Option (List Hint)} (h : hA k r sl H) : hd? H (.A k r sl) := by
  match H, h with
  | some (.A k' r' sl' :: _), ⟨h1, h2, h3⟩ => subst h1; subst h2; subst h3; exact rfl
theorem hN_or {H : Option (List Hint)} (h : hN H) : hd? H .N ∨ hd? H .R := by
  match H, h with
  | none, _ => exact .inl trivial
  | some (.N :: _), _ => exact .inl rfl
  | some (.R :: _), _ => exact .inr rfl
theorem hL_or {j : Nat} {H : Option (List Hint)} (h : hL j H) : hd? H (.L j) ∨ hd? H .R := by
  match H, h with
  | none, _ => exact .inl trivial
  | some (.L k :: _), h => exact .inl (congrArg Hint.L h)
  | some (.R :: _), _ => exact .inr rfl
theorem hE_or {ks : List Nat} {H : Option (List Hint)} (h : hE ks H) : hd? H (.E ks) := by
  match H, h with
  | none, _ => trivial
  | some (.E ks' :: _), h => exact congrArg Hint.E h
section
variable {P : Program} {ty : Tys} (hty : TysOk P ty) {ops os : List Oper} {H : Option (List Hint)} {K : Env → GL → Prop} {e : Env} {l : GL} {d : Nat} {T : TypeId} {pos : String} {af : Array Edge}
include hty
/-- An operation that only reckons. -/
theorem gs_n (h : Nat) {op : Op} {p : Prop} {v : Value} (k : gseq P ops os (tl? H) K (upd e d v) l) (hd : dval ty h op (gev e) none = some (p, v) := by rfl) (hp : p := by first | exact True.intro | exact inr_byte _ _ | omega | (simp only [inr]; omega)) (hh : hN H := by trivial) : gseq P ops (⟨some d, op, T, pos, af, none⟩ :: os) H K e l :=
  (hN_or hh).elim (fun q => ⟨.N, q, .inr ⟨rfl, v, dval_ok hty hd hp, k⟩⟩) (fun q => ⟨.R, q, .inr ⟨rfl, v, ⟨0, (dval_ok hty hd hp).none⟩, k⟩⟩)
/-- A test, decided: it is true; it is false; or both ways. -/
theorem gs_t {op : Op} {b : Bool} (hb : b = true) (k : gseq P ops os (tl? H) K (upd e d (.bool true)) l) (hd : dval ty 1 op (gev e) none = some (True, .bool b) := by rfl) (hh : hN H := by trivial) : gseq P ops (⟨some d, op, T, pos, af, none⟩ :: os) H K e l :=
  gs_n hty 1 k (by rw [hd, hb]) True.intro hh
theorem gs_f {op : Op} {b : Bool} (hb : b = false) (k : gseq P ops os (tl? H) K (upd e d (.bool false)) l) (hd : dval ty 1 op (gev e) none = some (True, .bool b) := by rfl) (hh : hN H := by trivial) : gseq P ops (⟨some d, op, T, pos, af, none⟩ :: os) H K e l :=
  gs_n hty 1 k (by rw [hd, hb]) True.intro hh
theorem gs_s {op : Op} {b : Bool} (k1 : b = true → gseq P ops os (tl? H) K (upd e d (.bool true)) l) (k2 : b = false → gseq P ops os (tl? H) K (upd e d (.bool false)) l) (hd : dval ty 1 op (gev e) none = some (True, .bool b) := by rfl) (hh : hN H := by trivial) : gseq P ops (⟨some d, op, T, pos, af, none⟩ :: os) H K e l := by
  cases b with
  | true => exact gs_t hty rfl (k1 rfl) hd hh
  | false => exact gs_f hty rfl (k2 rfl) hd hh
omit hty in
/-- A value that is moved as it is. -/
theorem gs_m {op : Op} (v : Value) {y : Operand} (k : gseq P ops os (tl? H) K (upd e d v) l) (hop : op = .move y ∨ op = .assign y) (hv : gev e y = v) (hh : hN H := by trivial) : gseq P ops (⟨some d, op, T, pos, af, none⟩ :: os) H K e l := by
  have h : LVal P ⟨some d, op, T, pos, af, none⟩ (gev e) none v := by
    intro w _
    unfold execOp
    rcases hop with rfl | rfl <;> simp [hv]
  exact (hN_or hh).elim (fun q => ⟨.N, q, .inr ⟨rfl, v, h, k⟩⟩) (fun q => ⟨.R, q, .inr ⟨rfl, v, ⟨0, h.none⟩, k⟩⟩)
/-- An operation that reads the entry at place j. -/
theorem gs_l (j : Nat) {op : Op} {p : Prop} {v : Value} (k : gseq P ops os (tl? H) K (upd e d v) l) (hd : dval ty 0 op (gev e) l[j]? = some (p, v) := by rfl) (hp : p := by first | exact True.intro | exact inr_byte _ _ | omega | (simp only [inr]; omega)) (hh : hL j H := by trivial) : gseq P ops (⟨some d, op, T, pos, af, none⟩ :: os) H K e l :=
  (hL_or hh).elim (fun q => ⟨.L j, q, rfl, v, dval_ok hty hd hp, k⟩) (fun q => ⟨.R, q, .inr ⟨rfl, v, ⟨j, dval_ok hty hd hp⟩, k⟩⟩)
/-- The same, guarded, the guard says yes. -/
theorem gs_gn (h : Nat) {op : Op} {p : Prop} {v : Value} {g : Nat × Bool} (hw : wantedE ops ⟨some d, op, T, pos, af, some g⟩ e = true) (k : gseq P ops os (tl? H) K (upd e d v) l) (hd : dval ty h op (gev e) none = some (p, v) := by rfl) (hp : p := by first | exact True.intro | exact inr_byte _ _ | omega | (simp only [inr]; omega)) (hh : hN H := by trivial) : gseq P ops (⟨some d, op, T, pos, af, some g⟩ :: os) H K e l :=
  (hN_or hh).elim (fun q => ⟨.N, q, .inr ⟨hw, v, dval_ok hty hd hp, k⟩⟩) (fun q => ⟨.R, q, .inr ⟨hw, v, ⟨0, (dval_ok hty hd hp).none⟩, k⟩⟩)
theorem gs_gl (j : Nat) {op : Op} {p : Prop} {v : Value} {g : Nat × Bool} (hw : wantedE ops ⟨some d, op, T, pos, af, some g⟩ e = true) (k : gseq P ops os (tl? H) K (upd e d v) l) (hd : dval ty 0 op (gev e) l[j]? = some (p, v) := by rfl) (hp : p := by first | exact True.intro | exact inr_byte _ _ | omega | (simp only [inr]; omega)) (hh : hL j H := by trivial) : gseq P ops (⟨some d, op, T, pos, af, some g⟩ :: os) H K e l :=
  (hL_or hh).elim (fun q => ⟨.L j, q, hw, v, dval_ok hty hd hp, k⟩) (fun q => ⟨.R, q, .inr ⟨hw, v, ⟨j, dval_ok hty hd hp⟩, k⟩⟩)
omit hty in
/-- Guarded, the guard says no. -/
theorem gs_no {op : Op} {g : Nat × Bool} (hw : wantedE ops ⟨some d, op, T, pos, af, some g⟩ e = false) (k : gseq P ops os (tl? H) K (upd e d undef) l) (hh : hN H := by trivial) : gseq P ops (⟨some d, op, T, pos, af, some g⟩ :: os) H K e l :=
  (hN_or hh).elim (fun q => ⟨.N, q, .inl ⟨hw, k⟩⟩) (fun q => ⟨.R, q, .inl ⟨hw, k⟩⟩)
omit hty in
/-- An operation whose value is known otherwise. -/
theorem gs_v (j : Nat) {op : Op} {v : Value} (hv : LVal P ⟨some d, op, T, pos, af, none⟩ (gev e) l[j]? v) (k : gseq P ops os (tl? H) K (upd e d v) l) (hh : hL j H := by trivial) : gseq P ops (⟨some d, op, T, pos, af, none⟩ :: os) H K e l :=
  (hL_or hh).elim (fun q => ⟨.L j, q, rfl, v, hv, k⟩) (fun q => ⟨.R, q, .inr ⟨rfl, v, ⟨j, hv⟩, k⟩⟩)
/-- A number read at a place that is reckoned. -/
theorem lv_load (j : Nat) {o : Oper} {t : TypeId} {x : Operand} {b off : Nat} {g : GO} {i : TyI} {v : Value} (hop : o.op = .load t x) (hx : gev e x = .pointer (some ⟨b, off, none⟩)) (hl : l[j]? = some (b, g)) (hi : ty t = some i) (ha : i.k.agg = false) (hv : (cellsG g)[off]? = some v) : LVal P o (gev e) l[j]? v := by
  refine dval_ok hty (h := 0) (p := b = b) ?_ rfl
  rw [hop, hl]
  simp only [dval, hi, hx, ha, cond_false, hv]
theorem lv_loads (j : Nat) {o : Oper} {t : TypeId} {x : Operand} {b off : Nat} {g : GO} {i : TyI} {vs : List Value} (hop : o.op = .load t x) (hx : gev e x = .pointer (some ⟨b, off, none⟩)) (hl : l[j]? = some (b, g)) (hi : ty t = some i) (ha : i.k.agg = true) (hv : ((cellsG g).drop off).take i.size = vs) (hn : off + i.size ≤ (cellsG g).length) : LVal P o (gev e) l[j]? (.agg vs.toArray) := by
  refine dval_ok hty (h := 0) (p := b = b ∧ off + i.size ≤ (cellsG g).length) ?_ ⟨rfl, hn⟩
  rw [hop, hl]
  simp only [dval, hi, hx, ha, cond_true, hv]
/-- string(b): the bytes of a row. -/
theorem lv_text (j : Nat) {o : Oper} {s d2 el : TypeId} {x : Operand} {b off len cap : Nat} {g : GO} {xs : List Int} (hop : o.op = .convert s d2 x) (hs : tk ty s = some (.slice el)) (he : tk ty el = some (.int .u8)) (hd : tk ty d2 = some .str) (hx : gev e x = .slice (some ⟨b, off, none⟩) len cap) (hl : l[j]? = some (b, g)) (hn : xs.length = len) (hv : ((cellsG g).drop off).take len = xs.map (Value.int .u8)) : LVal P o (gev e) l[j]? (.string (strOfNums xs)) := by
  intro w hw
  rw [hl] at hw
  have hh := hw _ rfl
  obtain ⟨d1, h1, rfl⟩ := run_under hty hs
  obtain ⟨d2', h2, rfl⟩ := run_under hty he
  obtain ⟨d3, h3, rfl⟩ := run_under hty hd
  have hr := holds_range (n := len) (o := off) hh
  rw [hv] at hr
  have := run_convert_bytes_arg (P := P) w s el h1 h2 b off len cap xs hn (fun i hi => hr i _ (by simp [List.getD, show i < xs.length by omega])) d2 h3
  unfold execOp
  simp [hop, hx, this]
theorem lv_text_nil (j : Nat) {o : Oper} {s d2 el : TypeId} {x : Operand} (hop : o.op = .convert s d2 x) (hs : tk ty s = some (.slice el)) (he : tk ty el = some (.int .u8)) (hd : tk ty d2 = some .str) (hx : gev e x = .slice none 0 0) : LVal P o (gev e) l[j]? (.string ⟨#[]⟩) := by
  intro w hw
  obtain ⟨d1, h1, rfl⟩ := run_under hty hs
  obtain ⟨d2', h2, rfl⟩ := run_under hty he
  obtain ⟨d3, h3, rfl⟩ := run_under hty hd
  unfold execOp
  simp [hop, hx, convert, run_underlying h1, run_underlying h2, run_underlying h3, Conv.bytesToString]
  rfl
omit hty in
theorem gs_e (ks : List Nat) {op : Op} {dd : Option Nat} {F : GL} {Out : OutT} (hp : pick l ks = some F) (nk : ks.Nodup) (hsp : ESpec P ⟨dd, op, T, pos, af, none⟩ (gev e) F Out)
    (k : ∀ v F' news, Out v F' news → F'.length = F.length → Rz (setAll l ks F' ++ news) → gseq P ops os (tl? H) K (updo e dd v) (setAll l ks F' ++ news)) (hh : hE ks H := by trivial) : gseq P ops (⟨dd, op, T, pos, af, none⟩ :: os) H K e l :=
  ⟨.E ks, hE_or hh, rfl, F, Out, hp, nk, hsp, k⟩
theorem gs_alloc {t : TypeId} {i : TyI} (hi : ty t = some i) (k : ∀ b, gseq P ops os (tl? H) K (upd e d (.pointer (some ⟨b, 0, none⟩))) (l ++ [(b, .row t i.zero.cells.toList i.zero.cells.toList.length)])) (hh : hE [] H := by trivial) : gseq P ops (⟨some d, .alloc t, T, pos, af, none⟩ :: os) H K e l := by
  refine gs_e [] rfl List.nodup_nil (e_alloc hty rfl hi).spec ?_ hh
  rintro v F' news ⟨b, rfl, rfl, rfl⟩ _ _
  exact k b
/-- A literal that is made in any order: its entry has a place k that was kept for it. -/
theorem gs_litA (k : Nat) {t el : TypeId} {len : Nat} {parts : Array (Nat × Operand)} {i : TyI} {cs : List Value} {r : GO} {c : Nat} (hk : tk ty t = some (.slice el)) (hi : ty el = some i) (hz : i.zero.cells.toList.length = i.size) (hn : len * i.size ≤ 16777216)
    (hf : fillL ((List.range len).map fun j => (j * i.size, i.size)) (List.replicate len i.zero.cells.toList).flatten (parts.toList.map fun q => (q.1, gev e q.2)) = some cs) (hr : r = .row el cs cs.length) (hc : l[k]? = some (c, .none))
    (kk : ∀ b, gseq P ops os (tl? H) K (upd e d (.slice (some ⟨b, 0, none⟩) len len)) (l.set k (b, r))) (hh : hA k r (some len) H) : gseq P ops (⟨some d, .buildSlice t len parts, T, pos, af, none⟩ :: os) H K e l := by
  refine ⟨.A k r (some len), hA_or hh, rfl, ⟨c, hc⟩, ?_, fun b _ => kk b⟩
  intro w hw
  rcases (e_buildSlice hty (o := ⟨some d, .buildSlice t len parts, T, pos, af, none⟩) rfl hk hi hz hn hf).spec w hw with ⟨v, F', news, w', h1, ⟨b, rfl, rfl, rfl⟩, h3⟩ | ⟨f, args, h1, h2⟩
  · exact .inl ⟨_, _, _, w', h1, ⟨b, rfl, rfl, by rw [hr]⟩, h3⟩
  · exact .inr ⟨f, args, h1, h2.mono fun ee w' ⟨v, F', news, g1, ⟨b, g2, g3, g4⟩, g5⟩ => ⟨v, F', news, g1, ⟨b, g2, g3, by rw [hr]; exact g4⟩, g5⟩⟩
omit hty in
theorem gs_box {t : TypeId} {x : Operand} (k : ∀ b, gseq P ops os (tl? H) K (upd e d (.pointer (some ⟨b, 0, none⟩))) (l ++ [(b, .row t (gev e x).cells.toList (gev e x).cells.toList.length)])) (hh : hE [] H := by trivial) : gseq P ops (⟨some d, .box t x, T, pos, af, none⟩ :: os) H K e l := by
  refine gs_e [] rfl List.nodup_nil (e_box rfl).spec ?_ hh
  rintro v F' news ⟨b, rfl, rfl, rfl⟩ _ _
  exact k b
theorem gs_lit {t el : TypeId} {len : Nat} {parts : Array (Nat × Operand)} {i : TyI} {cs : List Value} (hk : tk ty t = some (.slice el)) (hi : ty el = some i) (hz : i.zero.cells.toList.length = i.size) (hn : len * i.size ≤ 16777216)
    (hf : fillL ((List.range len).map fun j => (j * i.size, i.size)) (List.replicate len i.zero.cells.toList).flatten (parts.toList.map fun q => (q.1, gev e q.2)) = some cs)
    (k : ∀ b, gseq P ops os (tl? H) K (upd e d (.slice (some ⟨b, 0, none⟩) len len)) (l ++ [(b, .row el cs cs.length)])) (hh : hE [] H := by trivial) : gseq P ops (⟨some d, .buildSlice t len parts, T, pos, af, none⟩ :: os) H K e l := by
  refine gs_e [] rfl List.nodup_nil (e_buildSlice hty rfl hk hi hz hn hf).spec ?_ hh
  rintro v F' news ⟨b, rfl, rfl, rfl⟩ _ _
  exact k b
theorem gs_make {t el : TypeId} {i : TyI} {y z : Operand} {k1 k2 : IntKind} {n : Nat} (hk : tk ty t = some (.slice el)) (hi : ty el = some i) (hz : i.zero.cells.toList.length = i.size) (hy : gev e y = .int k1 (n : Int)) (hz2 : gev e z = .int k2 (n : Int)) (hn : n ≤ 1000000000) (hb : i.bytes ≤ 200000)
    (k : ∀ b, gseq P ops os (tl? H) K (upd e d (.slice (some ⟨b, 0, none⟩) n n)) (l ++ [(b, .row el (List.replicate n i.zero.cells.toList).flatten (n * i.size))])) (hh : hE [] H := by trivial) : gseq P ops (⟨some d, .makeSlice t y z, T, pos, af, none⟩ :: os) H K e l := by
  refine gs_e [] rfl List.nodup_nil (e_make hty rfl hk hi hz hy hz2 hn hb).spec ?_ hh
  rintro v F' news ⟨rfl, b, rfl, rfl⟩ _ _
  exact k b
theorem gs_bytes {sT dT el : TypeId} {y : Operand} {s : ByteArray} (hs' : (ty sT).isSome = true) (hd : tk ty dT = some (.slice el)) (he : tk ty el = some (.int .u8)) (hy : gev e y = .string s)
    (k : ∀ v p, OwnE el 1 v p (s.data.toList.map fun b => .int .u8 (b.toNat : Int)) → gseq P ops os (tl? H) K (upd e d v) (l ++ [p])) (hh : hE [] H := by trivial) : gseq P ops (⟨some d, .convert sT dT y, T, pos, af, none⟩ :: os) H K e l := by
  refine gs_e [] rfl List.nodup_nil (e_bytes hty (i := ⟨.bool, 0, 0, undef⟩) rfl hs' hd he hy).spec ?_ hh
  rintro v F' news ⟨rfl, p, rfl, h⟩ _ _
  exact k v p h
/-- A store into the entry at place j. -/
theorem gs_store (j : Nat) {t t' : TypeId} {x y : Operand} {i : TyI} {b off n : Nat} {cs vs : List Value} (hx : gev e x = .pointer (some ⟨b, off, none⟩)) (hl : l[j]? = some (b, .row t' cs n)) (hi : ty t = some i) (hvs : (gev e y).cells.toList = vs) (hc : vs.length = i.size) (h1 : vs.all (·.oneCell') = true) (hle : off ≤ cs.length) (hn : off + i.size ≤ n)
    (k : gseq P ops os (tl? H) K e (l.set j (b, .row t' (put cs off vs) n))) (hh : hE [j] H := by trivial) : gseq P ops (⟨none, .store t x y, T, pos, af, none⟩ :: os) H K e l := by
  subst hvs
  refine gs_e [j] (F := [(b, .row t' cs n)]) (by simp [pick, hl]) (by simp) (e_store hty rfl hx hi hc h1 hle hn).spec ?_ hh
  rintro v F' news ⟨rfl, rfl, rfl⟩ _ _
  simpa [setAll, updo] using k
/-- append(s, x...): s owns its cells (entry p at place j), x's cells lie in the entry at place m. -/
theorem gs_append (j m : Nat) {t el : TypeId} {i : TyI} {s x : Operand} {p q : Nat × GO} {cs nw : List Value} (hj : l[j]? = some p) (hm : l[m]? = some q) (hjm : j ≠ m) (hk : tk ty t = some (.slice el)) (hi : ty el = some i) (hz : i.zero.cells.toList.length = i.size) (hown : OwnE el i.size (gev e s) p cs) (hsrc : SrcE i.size (gev e x) q nw) (h1 : nw.all (·.oneCell') = true) (hb : (cs.length + nw.length) * i.bytes ≤ 140737488355328 * i.size) (hsz : 0 < i.size) (hby : 0 < i.bytes)
    (k : ∀ v p', OwnE el i.size v p' (cs ++ nw) → gseq P ops os (tl? H) K (upd e d v) (l.set j p')) (hh : hE [j, m] H := by trivial) : gseq P ops (⟨some d, .call { callee := .builtin .append, args := #[s, x], argTypes := #[t, t] }, T, pos, af, none⟩ :: os) H K e l := by
  refine gs_e [j, m] (F := [p, q]) (by simp [pick, hj, hm]) (by simp [hjm]) (e_append hty rfl hk hi hz hown hsrc h1 hb hsz hby).spec ?_ hh
  rintro v F' news ⟨rfl, p', rfl, h⟩ _ _
  have := k v p' h
  have hset : (l.set j p').set m q = l.set j p' := by
    apply List.ext_getElem?
    intro i'
    rw [List.getElem?_set]
    split
    · rename_i he
      subst he
      have hlt := (List.getElem?_eq_some_iff.1 hm).1
      rw [List.getElem?_set_ne hjm, hm]
      simp [hlt]
    · rfl
  simpa [setAll, updo, hset] using this
omit hty in
/-- A call. -/
theorem gs_call (ks : List Nat) {f : FuncId} {as : Array Operand} {ts : Array TypeId} {dd : Option Nat} {F : GL} {Out : OutT} (hent : Ent P f) (hp : pick l ks = some F) (nk : ks.Nodup) (ht : Trip P f (as.toList.map (gev e)) F Out)
    (k : ∀ v F' news, Out v F' news → F'.length = F.length → Rz (setAll l ks F' ++ news) → gseq P ops os (tl? H) K (updo e dd v) (setAll l ks F' ++ news)) (hh : hE ks H := by trivial) : gseq P ops (⟨dd, .call { callee := .value (.func f), args := as, argTypes := ts }, T, pos, af, none⟩ :: os) H K e l := by
  refine gs_e ks hp nk (fun w hw => .inr ⟨f, (as.toList.map (gev e)).toArray, ?_, ht w hw⟩) k hh
  unfold execOp
  have : (as.toList.map (gev e)).toArray = as.map (gev e) := by apply Array.ext'; simp
  rw [this]
  simp [resolve, Deferred.ofValue, invoke, gev, hent _ _]
omit hty in
/-- A call of a function value. -/
theorem gs_callv (ks : List Nat) {f : FuncId} {as : Array Operand} {ts : Array TypeId} {dd : Option Nat} {F : GL} {Out : OutT} {fv : Operand} {caps : Array Value} (hfv : gev e fv = .func (.func f) #[] caps) (hent : Ent P f) (hp : pick l ks = some F) (nk : ks.Nodup) (ht : Trip P f (as.toList.map (gev e) ++ caps.toList) F Out)
    (k : ∀ v F' news, Out v F' news → F'.length = F.length → Rz (setAll l ks F' ++ news) → gseq P ops os (tl? H) K (updo e dd v) (setAll l ks F' ++ news)) (hh : hE ks H := by trivial) : gseq P ops (⟨dd, .call { callee := .value fv, args := as, argTypes := ts }, T, pos, af, none⟩ :: os) H K e l := by
  refine gs_e ks hp nk (fun w hw => .inr ⟨f, (as.toList.map (gev e) ++ caps.toList).toArray, ?_, ht w hw⟩) k hh
  unfold execOp
  have : (as.toList.map (gev e) ++ caps.toList).toArray = as.map (gev e) ++ caps := by apply Array.ext'; simp
  rw [this]
  simp [resolve, Deferred.ofValue, invoke, hfv, hent _ _]
omit hty in
theorem gs_end (k : K e l) : gseq P ops [] none K e l := ⟨fun _ _ h => (by cases h), k⟩
omit hty in
theorem gs_end' (k : K e l) : gseq P ops [] (some []) K e l := ⟨fun _ _ h => (by cases h), k⟩
end
end Go.Proofs.Ytjefdcbljpkmlaa.G
end
