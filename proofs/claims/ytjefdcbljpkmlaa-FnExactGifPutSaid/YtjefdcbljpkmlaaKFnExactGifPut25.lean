/- What the law FnExactGifPut needs, out of the texts Ya. -/
import Derived.Lib.AppendStr
import Derived.Lib.Builder
import Derived.Lib.UnsafeStr
import Derived.Laws.Pointers
import Derived.Laws.Externs
import Derived.Test.YtjefdcbljpkmlaaKFnExactGifPut24
section
set_option linter.unusedVariables false
set_option linter.unusedSimpArgs false
set_option maxRecDepth 10000
namespace Go.Proofs.Ytjefdcbljpkmlaa.G
open Go
section
variable {P : Program} {ty : Tys} (hty : TysOk P ty) {o : Oper} {ev : Operand → Value}
include hty
theorem e_appendS {t u el : TypeId} {i : TyI} {x y : Operand} {s : ByteArray} {p : Nat × GO} {cs : List Value} (hop : o.op = .call { callee := .builtin .append, args := #[x, y], argTypes := #[t, u] }) (hk : tk ty t = some (.slice el)) (hu : tk ty u = some .str) (hi : ty el = some i) (hz : i.zero = .int .u8 0) (hsz : i.size = 1) (hby : i.bytes = 1) (hx : OwnE el 1 (ev x) p cs) (hy : ev y = .string s) (hb : cs.length + s.size ≤ 140737488355328) :
    ERun P o ev [p] (fun v F' ns => ns = [] ∧ (ev x = .slice none 0 0 → s.size = 0 → v = .slice none 0 0) ∧ ∃ p', F' = [p'] ∧ OwnE el 1 v p' (cs ++ Lib.strCells s)) := by
  intro w hw
  obtain ⟨d, hd, rfl⟩ := run_under hty hk
  obtain ⟨d2, hd2, rfl⟩ := run_under hty hu
  obtain ⟨inf, i1, i2, i3, i4⟩ := (hty el i hi).info
  rw [hz] at i4
  rw [hsz] at i2
  rw [hby] at i3
  have hsl := Lib.strCells_length s
  have key : ∃ v p' w', (Builtin.append_ #[t, u] o.type #[ev x, .string s]).run P w = .ok v w' ∧ (ev x = .slice none 0 0 → s.size = 0 → v = .slice none 0 0) ∧ OwnE el 1 v p' (cs ++ Lib.strCells s) ∧ Turned [p] [p'] [] w w' := by
    rcases hx with ⟨hx, hp, rfl⟩ | ⟨b, len, cap, n, hx, rfl, hl, hlc, hcn⟩
    · rw [hx]
      by_cases hm : s.size = 0
      · have hn : Lib.strCells s = [] := List.eq_nil_of_length_eq_zero (by rw [hsl]; exact hm)
        have hf := Lib.run_firstCells_string (P := P) w 1 s
        rw [hm] at hf
        refine ⟨_, p, w, ?_, fun _ _ => rfl, .inl ⟨rfl, hp, by rw [hn]; rfl⟩, turned_none hw⟩
        simp [Builtin.append_, run_underlying hd, run_underlying hd2, sizeOf, typeInfo, i1, i2, Builtin.lenOf, hm, hf]
      · have hr := run_append_nil_string (P := P) w t u o.type el inf (.int .u8 0) hd hd2 i1 i4 s (by omega) (by omega) (by rw [i3]; omega)
        have hge := grownCap_ge w s.size 0 el
        have e1 : (s.data.map fun b => Value.int .u8 b.toNat) = (Lib.strCells s).toArray := by
          apply Array.ext'
          simp [Lib.strCells]
        rw [e1] at hr
        refine ⟨_, (w.heap.size, .row el (Lib.strCells s) (grownCap w s.size 0 el)), _, hr, fun _ h => absurd h hm, .inr ⟨w.heap.size, s.size, grownCap w s.size 0 el, grownCap w s.size 0 el, rfl, rfl, by simpa using hsl, hge, by omega⟩, ?_⟩
        refine ⟨rfl, sim_one (row_prefix (alloc_new w.drew _) rfl ?_ _ ?_), ⟨rfl, rfl, rfl, by simp, fun k hk _ => alloc_old w.drew _ k hk⟩, fun p' hp' _ => .inr (by simp at hp'; subst hp'; exact Nat.le_refl _), fun p' hp' _ => .inr (by simp at hp'; subst hp'; exact Nat.le_refl _)⟩
        · simp
        · have hz1 : (Value.int IntKind.u8 0).cells.size = 1 := rfl
          simp only [Array.size_append, List.size_toArray, size_zeroCells, hz1, hsl]
          omega
    · rw [hx]
      have hh := hw.at_ (b, .row el cs n) (by simp)
      have hl' : cs.length = len := by omega
      by_cases hroom : len + s.size ≤ cap
      · have hfc := Lib.run_firstCells_string (P := P) w 1 s
        have hst := run_storeCells_cells (P := P) b len (Lib.strCells s) 0 w (fun j hj => by rw [Nat.add_zero]; exact (row_there hh _ (by rw [hsl] at hj; omega)).1) (fun j hj => by rw [Nat.add_zero]; exact (row_there hh _ (by rw [hsl] at hj; omega)).2) (Lib.strCells_oneCell s)
        simp only [Nat.add_zero] at hst
        obtain ⟨g1, g2, g3, g4, g5⟩ := setCells_other b (Lib.strCells s) len w
        obtain ⟨c', fr, k1, k2, k3, k4⟩ := hh
        have hput : put cs len (Lib.strCells s) = cs ++ Lib.strCells s := by
          unfold put
          rw [← hl', List.take_length, List.drop_eq_nil_of_le (by omega), List.append_nil]
        have hset := holds_set k1 k2 k3 k4 (Lib.strCells s) (off := len) (by omega) (by rw [hsl]; omega)
        rw [hput] at hset
        refine ⟨_, (b, .row el (cs ++ Lib.strCells s) n), w.setCells b len (Lib.strCells s), ?_, fun h => (by cases h), .inr ⟨b, len + s.size, cap, n, rfl, rfl, by rw [List.length_append, hl', hsl, Nat.mul_one], hroom, by omega⟩, turned_upd g1 g2 g3 g4 rfl g5 hset⟩
        simp [Builtin.append_, run_underlying hd, run_underlying hd2, sizeOf, typeInfo, i1, i2, Builtin.lenOf, hroom, hfc, Addr.add_lit, hst]
      · have holds : ∀ j v, cs[j]? = some v → w.cell? ((⟨b, 0, none⟩ : Addr).add j) = some v := fun j v hv => by
          rw [addr_add, Nat.zero_add]
          exact holds_cell hh hv
        have hr := Lib.run_append_grow_string (P := P) w t u o.type el inf (.int .u8 0) hd hd2 i1 i4 ⟨b, 0, none⟩ len cap cs (by rw [i2]; omega) holds s (by omega) (by omega) (by rw [i3]; exact growslice_fits (by omega) (by omega))
        have hge := grownCap_ge w (len + s.size) cap el
        refine ⟨_, (w.heap.size, .row el (cs ++ Lib.strCells s) (grownCap w (len + s.size) cap el)), _, hr, fun h => (by cases h), .inr ⟨w.heap.size, len + s.size, grownCap w (len + s.size) cap el, _, rfl, rfl, by rw [List.length_append, hl', hsl, Nat.mul_one], hge, by omega⟩, ?_⟩
        refine ⟨rfl, sim_one (row_prefix (alloc_new w.drew _) rfl ?_ _ ?_), ⟨rfl, rfl, rfl, by simp, fun k hk _ => alloc_old w.drew _ k hk⟩, fun p' hp' _ => .inr (by simp at hp'; subst hp'; exact Nat.le_refl _), fun p' hp' _ => .inr (by simp at hp'; subst hp'; exact Nat.le_refl _)⟩
        · simp
        · have hz1 : (Value.int IntKind.u8 0).cells.size = 1 := rfl
          simp only [Array.size_append, List.size_toArray, size_zeroCells, hz1, hsl, hl']
          omega
  obtain ⟨v, p', w', hr, hn0, hv, ht⟩ := key
  refine ⟨v, _, _, w', .inl ?_, ⟨rfl, hn0, p', rfl, hv⟩, ht⟩
  unfold execOp
  simp only [hop, resolve, Sem.run_bind, Sem.run_pure, Result.andThen_ok, invoke, show ∀ a b c d, builtin .append a b c d = (do pure (.value (← Builtin.append_ a b d))) from fun _ _ _ _ => rfl]
  simp [hr, hy]
end
section
variable {ops os : List Oper} {H : Option (List Hint)} {K : Env → GL → Prop} {e : Env} {l : GL} {d : Nat} {T : TypeId} {pos : String} {af : Array Edge}
/-- append(b, s...). -/
theorem gs_apps (j : Nat) {x y : Operand} {s : ByteArray} {p : Nat × GO} {v : Value} {zs : List Int} (hv : OB v p zs) (hx : gev e x = v) (hy : gev e y = .string s) (hl : l[j]? = some p) (hz : zs.length + s.size ≤ 1000000000000)
    (k : ∀ v2 p2, OB v2 p2 (zs ++ byl s) → (v = .slice none 0 0 → s.size = 0 → v2 = .slice none 0 0) → gseq Try.prog ops os (tl? H) K (upd e d v2) (l.set j p2)) (hh : hE [j] H := by trivial) :
    gseq Try.prog ops (⟨some d, .call { callee := .builtin .append, args := #[x, y], argTypes := #[35, 9] }, T, pos, af, none⟩ :: os) H K e l := by
  refine gs_e [j] (F := [p]) (by simp [pick, hl]) (by simp) (e_appendS tyT_ok (el := 5) rfl rfl rfl rfl rfl rfl rfl (by rw [hx]; exact hv) hy (by simp only [bytesV, List.length_map]; omega)).spec ?_ hh
  rintro v2 F' news ⟨rfl, hn0, p2, rfl, h⟩ _ _
  rw [hx] at hn0
  have e1 : bytesV zs ++ Lib.strCells s = bytesV (zs ++ byl s) := by
    have : Lib.strCells s = bytesV (byl s) := by rw [← byl_V]; rfl
    rw [this]
    simp [bytesV]
  rw [e1] at h
  simpa [setAll, updo] using k v2 p2 h hn0
end
/-- A builder of texts: its own address once it is used, its bytes. -/
abbrev bldG (x v : Value) : GO := .row 172 [x, v] 2
def Bld (b : Nat) (q p : Nat × GO) (zs : List Int) : Prop := ∃ x v, q = (b, bldG x v) ∧ (x = .pointer none ∨ x = ptr b) ∧ OB v p zs ∧ (v = .slice none 0 0 ∨ 1 ≤ zs.length)
theorem bld_new {b : Nat} : Bld b (b, bldG (.pointer none) (.slice none 0 0)) (0, .none) [] := ⟨_, _, rfl, .inl rfl, OB.nil, .inl rfl⟩
theorem shape_of {w : World} {b : Nat} {t : TypeId} {cs : List Value} {n : Nat} (h : (GO.row t cs n).holds w.heap[b]?) : w.shape? b = some (t, n) := by
  obtain ⟨c, fr, h1, h2, h3, h4⟩ := h
  unfold World.shape?
  rw [h1, ← h3]
theorem bld_pp : Try.prog.underlying 170 = some (.pointer (Try.prog.pointee 170)) := by kernel_rfl
theorem bld_p : Try.prog.underlying 170 = some (.pointer 172) := by kernel_rfl
theorem bld_u : Try.prog.underlying 204 = some .unsafePointer := by kernel_rfl
theorem bld_size : (Try.prog.info? 172).map (·.size) = some 2 := by kernel_rfl
theorem bld_lies : liesAt Try.prog Try.prog.depth 172 (2 / Try.prog.cellsOf 172) 0 172 1 = true := by kernel_rfl
section
variable {o : Oper} {ev : Operand → Value} {x y : Operand} {u : TypeId}
theorem lv_isptr0 {a : Option Addr} {q : Option (Nat × GO)} (hop : o.op = .binOp .eql 170 x y u) (hx : ev x = .pointer a) (hy : ev y = .pointer none) : LVal Try.prog o ev q (.bool a.isNone) := by
  intro w _
  unfold execOp
  simp only [hop, hx, hy, Sem.run_bind, eqGuard_at_pointer, Sem.run_pure, Result.andThen_ok]
  rw [run_eql_pointer_nil (P := Try.prog) w 170 a bld_pp]
  rfl
theorem lv_same {b : Nat} {q : Option (Nat × GO)} (hop : o.op = .binOp .neq 170 x y u) (hx : ev x = ptr b) (hy : ev y = ptr b) : LVal Try.prog o ev q (.bool false) := by
  intro w _
  obtain ⟨j, hj, _⟩ := Option.map_eq_some_iff.1 bld_size
  unfold execOp
  simp only [hop, hx, hy, Sem.run_bind, eqGuard_at_pointer, Sem.run_pure, Result.andThen_ok]
  rw [Lib.run_neq_ptr_same (P := Try.prog) (w := w) _ bld_p hj]
  rfl
theorem lv_tou {b : Nat} {cs : List Value} (hop : o.op = .convert 170 204 x) (hx : ev x = ptr b) : LVal Try.prog o ev (some (b, .row 172 cs 2)) (ptr b) := by
  intro w hw
  obtain ⟨j, hj, hjs⟩ := Option.map_eq_some_iff.1 bld_size
  have hsh := shape_of (hw _ rfl)
  unfold execOp
  simp only [hop, hx, Sem.run_bind]
  rw [Lib.run_to_unsafe (P := Try.prog) (w := w) ⟨b, 0, none⟩ bld_p bld_u hj (by rw [hjs]; decide) hsh (show 0 < 2 by decide)]
  rfl
theorem lv_fromu {b : Nat} {cs : List Value} (hop : o.op = .convert 204 170 x) (hx : ev x = ptr b) : LVal Try.prog o ev (some (b, .row 172 cs 2)) (ptr b) := by
  intro w hw
  obtain ⟨j, hj, hjs⟩ := Option.map_eq_some_iff.1 bld_size
  have hsh := shape_of (hw _ rfl)
  unfold execOp
  simp only [hop, hx, Sem.run_bind]
  rw [Lib.run_from_unsafe (P := Try.prog) (w := w) ⟨b, 0, none⟩ bld_u bld_p hj hsh bld_lies]
  rfl
theorem lv_noesc {v : Value} {ts : Array TypeId} {q : Option (Nat × GO)} (hop : o.op = .call { callee := .value (.func 219), args := #[x], argTypes := ts }) (hx : ev x = v) (hf : ev (.func 219) = .func (.func 219) #[] #[]) : LVal Try.prog o ev q v := by
  intro w _
  have hr := run_callFunc_extern (P := Try.prog) Try.func219 (by kernel_rfl) (by kernel_rfl) (by kernel_rfl) (e := Extern.AbiNoEscape.same) (by kernel_rfl) #[v] w
  rw [Lib.run_noEscape] at hr
  unfold execOp
  simp only [hop, resolve, hf, Deferred.ofValue, invoke, List.map_toArray, List.map_cons, List.map_nil, hx, Sem.run_bind, Sem.run_pure, Result.andThen_ok]
  simpa using hr
end
set_option maxHeartbeats 1000000 in
theorem copyCheck_w {b : Nat} {x v : Value} (hx : x = .pointer none ∨ x = ptr b) : Wr Try.prog 212 [ptr b] [(b, bldG x v)] [(b, bldG (ptr b) v)] (.tuple #[]) := by
  refine trip_of Try.func212 rfl (by simp [Try.ntmps212]) ?_
  rcases hx with rfl | rfl
  · repeat (first | refine gs_n tyT_ok 0 ?_ | refine gs_gn tyT_ok 0 rfl ?_ | refine gs_no rfl ?_ | refine gs_l tyT_ok 0 ?_ | refine gs_gl tyT_ok 0 rfl ?_ | (refine gs_l tyT_ok 0 ?_ (hp := ?hp); case hp => exact ⟨rfl, Nat.le_of_ble_eq_true rfl⟩) | (refine gs_gl tyT_ok 0 rfl ?_ (hp := ?hp); case hp => exact ⟨rfl, Nat.le_of_ble_eq_true rfl⟩) | refine gs_end ?_ | refine gs_end' ?_ | refine gw_seq ?_ | refine gw_text rfl ?_ | refine gw_skip ?_ | refine gw_yes rfl ?_ | refine gw_no rfl ?_ | refine gw_exit ?_ | refine gw_block ?_ | refine gw_label ?_ | (refine gs_n tyT_ok 0 ?_ (hp := ?hp); case hp => exact ⟨by decide, by decide⟩))
    refine gs_v 0 (lv_isptr0 rfl rfl rfl) ?_
    repeat (first | refine gs_n tyT_ok 0 ?_ | refine gs_gn tyT_ok 0 rfl ?_ | refine gs_no rfl ?_ | refine gs_end ?_ | refine gs_end' ?_ | refine gw_seq ?_ | refine gw_text rfl ?_ | refine gw_skip ?_ | refine gw_yes rfl ?_ | refine gw_no rfl ?_ | refine gw_exit ?_ | refine gw_block ?_ | refine gw_label ?_ | (refine gs_n tyT_ok 0 ?_ (hp := ?hp); case hp => exact ⟨by decide, by decide⟩))
    refine gs_v 0 (lv_tou rfl rfl) ?_
    refine gs_v 0 (lv_noesc rfl rfl rfl) ?_
    refine gs_v 0 (lv_fromu rfl rfl) ?_
    repeat (first | refine gs_n tyT_ok 0 ?_ | refine gs_gn tyT_ok 0 rfl ?_ | refine gs_no rfl ?_ | refine gs_end ?_ | refine gs_end' ?_ | refine gw_seq ?_ | refine gw_text rfl ?_ | refine gw_skip ?_ | refine gw_yes rfl ?_ | refine gw_no rfl ?_ | refine gw_exit ?_ | refine gw_block ?_ | refine gw_label ?_ | (refine gs_n tyT_ok 0 ?_ (hp := ?hp); case hp => exact ⟨by decide, by decide⟩))
    refine gs_store tyT_ok 0 rfl rfl rfl rfl rfl rfl (Nat.le_of_ble_eq_true rfl) (Nat.le_of_ble_eq_true rfl) ?_
    repeat (first | refine gs_n tyT_ok 0 ?_ | refine gs_gn tyT_ok 0 rfl ?_ | refine gs_no rfl ?_ | refine gs_end ?_ | refine gs_end' ?_ | refine gw_seq ?_ | refine gw_text rfl ?_ | refine gw_skip ?_ | refine gw_yes rfl ?_ | refine gw_no rfl ?_ | refine gw_exit ?_ | refine gw_block ?_ | refine gw_label ?_ | (refine gs_n tyT_ok 0 ?_ (hp := ?hp); case hp => exact ⟨by decide, by decide⟩))
    exact ⟨[], [(b, bldG (ptr b) v)], [], [0], .nil, ⟨rfl, rfl, rfl⟩, rfl, rfl, by decide⟩
  · repeat (first | refine gs_n tyT_ok 0 ?_ | refine gs_gn tyT_ok 0 rfl ?_ | refine gs_no rfl ?_ | refine gs_l tyT_ok 0 ?_ | refine gs_gl tyT_ok 0 rfl ?_ | (refine gs_l tyT_ok 0 ?_ (hp := ?hp); case hp => exact ⟨rfl, Nat.le_of_ble_eq_true rfl⟩) | (refine gs_gl tyT_ok 0 rfl ?_ (hp := ?hp); case hp => exact ⟨rfl, Nat.le_of_ble_eq_true rfl⟩) | refine gs_end ?_ | refine gs_end' ?_ | refine gw_seq ?_ | refine gw_text rfl ?_ | refine gw_skip ?_ | refine gw_yes rfl ?_ | refine gw_no rfl ?_ | refine gw_exit ?_ | refine gw_block ?_ | refine gw_label ?_ | (refine gs_n tyT_ok 0 ?_ (hp := ?hp); case hp => exact ⟨by decide, by decide⟩))
    refine gs_v 0 (lv_isptr0 rfl rfl rfl) ?_
    repeat (first | refine gs_n tyT_ok 0 ?_ | refine gs_gn tyT_ok 0 rfl ?_ | refine gs_no rfl ?_ | refine gs_l tyT_ok 0 ?_ | refine gs_gl tyT_ok 0 rfl ?_ | (refine gs_l tyT_ok 0 ?_ (hp := ?hp); case hp => exact ⟨rfl, Nat.le_of_ble_eq_true rfl⟩) | (refine gs_gl tyT_ok 0 rfl ?_ (hp := ?hp); case hp => exact ⟨rfl, Nat.le_of_ble_eq_true rfl⟩) | refine gs_end ?_ | refine gs_end' ?_ | refine gw_seq ?_ | refine gw_text rfl ?_ | refine gw_skip ?_ | refine gw_yes rfl ?_ | refine gw_no rfl ?_ | refine gw_exit ?_ | refine gw_block ?_ | refine gw_label ?_ | (refine gs_n tyT_ok 0 ?_ (hp := ?hp); case hp => exact ⟨by decide, by decide⟩))
    refine gs_v 0 (lv_same rfl rfl rfl) ?_
    repeat (first | refine gs_n tyT_ok 0 ?_ | refine gs_gn tyT_ok 0 rfl ?_ | refine gs_no rfl ?_ | refine gs_end ?_ | refine gs_end' ?_ | refine gw_seq ?_ | refine gw_text rfl ?_ | refine gw_skip ?_ | refine gw_yes rfl ?_ | refine gw_no rfl ?_ | refine gw_exit ?_ | refine gw_block ?_ | refine gw_label ?_ | (refine gs_n tyT_ok 0 ?_ (hp := ?hp); case hp => exact ⟨by decide, by decide⟩))
    exact ⟨[], [(b, bldG (ptr b) v)], [], [0], .nil, ⟨rfl, rfl, rfl⟩, rfl, rfl, by decide⟩
def BldOut (b : Nat) (zs : List Int) : OutT := fun v F' ns => ∃ q2 p2, F' = [q2, p2] ∧ ns = [] ∧ Bld b q2 p2 zs
set_option maxHeartbeats 1000000 in
theorem writeByte_w {b : Nat} {q p : Nat × GO} {zs : List Int} {n : Int} (h : Bld b q p zs) (hz : zs.length ≤ 100000000) : Trip Try.prog 183 [ptr b, .int .u8 n] [q, p] (BldOut b (zs ++ [n])) := by
  obtain ⟨x, v, rfl, hx, hv, h0⟩ := h
  obtain ⟨va, vc, rfl⟩ := hv.sl
  refine trip_of Try.func183 rfl (by simp [Try.ntmps183]) ?_
  repeat (first | refine gs_n tyT_ok 0 ?_ | refine gs_gn tyT_ok 0 rfl ?_ | refine gs_no rfl ?_ | refine gs_end ?_ | refine gs_end' ?_ | refine gw_seq ?_ | refine gw_text rfl ?_ | refine gw_skip ?_ | refine gw_yes rfl ?_ | refine gw_no rfl ?_ | refine gw_exit ?_ | refine gw_block ?_ | refine gw_label ?_ | (refine gs_n tyT_ok 0 ?_ (hp := ?hp); case hp => exact ⟨by decide, by decide⟩))
  refine gs_m .nilIface ?_ (.inr rfl) rfl
  repeat (first | refine gs_n tyT_ok 0 ?_ | refine gs_gn tyT_ok 0 rfl ?_ | refine gs_no rfl ?_ | refine gs_end ?_ | refine gs_end' ?_ | refine gw_seq ?_ | refine gw_text rfl ?_ | refine gw_skip ?_ | refine gw_yes rfl ?_ | refine gw_no rfl ?_ | refine gw_exit ?_ | refine gw_block ?_ | refine gw_label ?_ | (refine gs_n tyT_ok 0 ?_ (hp := ?hp); case hp => exact ⟨by decide, by decide⟩))
  refine gs_wr [0] ent212 rfl (by decide) (copyCheck_w hx) rfl ?_
  repeat (first | refine gs_n tyT_ok 0 ?_ | refine gs_gn tyT_ok 0 rfl ?_ | refine gs_no rfl ?_ | refine gs_l tyT_ok 0 ?_ | refine gs_gl tyT_ok 0 rfl ?_ | (refine gs_l tyT_ok 0 ?_ (hp := ?hp); case hp => exact ⟨rfl, Nat.le_of_ble_eq_true rfl⟩) | (refine gs_gl tyT_ok 0 rfl ?_ (hp := ?hp); case hp => exact ⟨rfl, Nat.le_of_ble_eq_true rfl⟩) | refine gs_end ?_ | refine gs_end' ?_ | refine gw_seq ?_ | refine gw_text rfl ?_ | refine gw_skip ?_ | refine gw_yes rfl ?_ | refine gw_no rfl ?_ | refine gw_exit ?_ | refine gw_block ?_ | refine gw_label ?_ | (refine gs_n tyT_ok 0 ?_ (hp := ?hp); case hp => exact ⟨by decide, by decide⟩))
  refine gs_push1b 1 (n := n) rfl rfl hv (fun _ => rfl) (by omega) fun b5 a5 c5 p5 hv5 => ?_
  repeat (first | refine gs_n tyT_ok 0 ?_ | refine gs_gn tyT_ok 0 rfl ?_ | refine gs_no rfl ?_ | refine gs_l tyT_ok 0 ?_ | refine gs_gl tyT_ok 0 rfl ?_ | (refine gs_l tyT_ok 0 ?_ (hp := ?hp); case hp => exact ⟨rfl, Nat.le_of_ble_eq_true rfl⟩) | (refine gs_gl tyT_ok 0 rfl ?_ (hp := ?hp); case hp => exact ⟨rfl, Nat.le_of_ble_eq_true rfl⟩) | refine gs_end ?_ | refine gs_end' ?_ | refine gw_seq ?_ | refine gw_text rfl ?_ | refine gw_skip ?_ | refine gw_yes rfl ?_ | refine gw_no rfl ?_ | refine gw_exit ?_ | refine gw_block ?_ | refine gw_label ?_ | (refine gs_n tyT_ok 0 ?_ (hp := ?hp); case hp => exact ⟨by decide, by decide⟩))
  refine gs_store tyT_ok 0 rfl rfl rfl rfl rfl rfl (Nat.le_of_ble_eq_true rfl) (Nat.le_of_ble_eq_true rfl) ?_
  repeat (first | refine gs_n tyT_ok 0 ?_ | refine gs_gn tyT_ok 0 rfl ?_ | refine gs_no rfl ?_ | refine gs_end ?_ | refine gs_end' ?_ | refine gw_seq ?_ | refine gw_text rfl ?_ | refine gw_skip ?_ | refine gw_yes rfl ?_ | refine gw_no rfl ?_ | refine gw_exit ?_ | refine gw_block ?_ | refine gw_label ?_ | (refine gs_n tyT_ok 0 ?_ (hp := ?hp); case hp => exact ⟨by decide, by decide⟩))
  refine gs_m .nilIface ?_ (.inr rfl) rfl
  repeat (first | refine gs_n tyT_ok 0 ?_ | refine gs_gn tyT_ok 0 rfl ?_ | refine gs_no rfl ?_ | refine gs_end ?_ | refine gs_end' ?_ | refine gw_seq ?_ | refine gw_text rfl ?_ | refine gw_skip ?_ | refine gw_yes rfl ?_ | refine gw_no rfl ?_ | refine gw_exit ?_ | refine gw_block ?_ | refine gw_label ?_ | (refine gs_n tyT_ok 0 ?_ (hp := ?hp); case hp => exact ⟨by decide, by decide⟩))
  exact gw_ret ⟨_, [(b, bldG (ptr b) (.slice a5 (zs.length + 1) c5)), p5], [], [0, 1], .tmp .nil, ⟨_, p5, rfl, rfl, _, _, rfl, .inr rfl, hv5, .inr (by simp)⟩, rfl, rfl, by decide⟩
set_option maxHeartbeats 1000000 in
theorem writeString_w {b : Nat} {q p : Nat × GO} {zs : List Int} {s : ByteArray} (h : Bld b q p zs) (hz : zs.length ≤ 100000000) (hs : s.size ≤ 100000000) : Trip Try.prog 184 [ptr b, .string s] [q, p] (BldOut b (zs ++ byl s)) := by
  obtain ⟨x, v, rfl, hx, hv, h0⟩ := h
  obtain ⟨va, vc, rfl⟩ := hv.sl
  refine trip_of Try.func184 rfl (by simp [Try.ntmps184]) ?_
  repeat (first | refine gs_n tyT_ok 0 ?_ | refine gs_gn tyT_ok 0 rfl ?_ | refine gs_no rfl ?_ | refine gs_end ?_ | refine gs_end' ?_ | refine gw_seq ?_ | refine gw_text rfl ?_ | refine gw_skip ?_ | refine gw_yes rfl ?_ | refine gw_no rfl ?_ | refine gw_exit ?_ | refine gw_block ?_ | refine gw_label ?_ | (refine gs_n tyT_ok 0 ?_ (hp := ?hp); case hp => exact ⟨by decide, by decide⟩))
  refine gs_m .nilIface ?_ (.inr rfl) rfl
  repeat (first | refine gs_n tyT_ok 0 ?_ | refine gs_gn tyT_ok 0 rfl ?_ | refine gs_no rfl ?_ | refine gs_end ?_ | refine gs_end' ?_ | refine gw_seq ?_ | refine gw_text rfl ?_ | refine gw_skip ?_ | refine gw_yes rfl ?_ | refine gw_no rfl ?_ | refine gw_exit ?_ | refine gw_block ?_ | refine gw_label ?_ | (refine gs_n tyT_ok 0 ?_ (hp := ?hp); case hp => exact ⟨by decide, by decide⟩))
  refine gs_wr [0] ent212 rfl (by decide) (copyCheck_w hx) rfl ?_
  repeat (first | refine gs_n tyT_ok 0 ?_ | refine gs_gn tyT_ok 0 rfl ?_ | refine gs_no rfl ?_ | refine gs_l tyT_ok 0 ?_ | refine gs_gl tyT_ok 0 rfl ?_ | (refine gs_l tyT_ok 0 ?_ (hp := ?hp); case hp => exact ⟨rfl, Nat.le_of_ble_eq_true rfl⟩) | (refine gs_gl tyT_ok 0 rfl ?_ (hp := ?hp); case hp => exact ⟨rfl, Nat.le_of_ble_eq_true rfl⟩) | refine gs_end ?_ | refine gs_end' ?_ | refine gw_seq ?_ | refine gw_text rfl ?_ | refine gw_skip ?_ | refine gw_yes rfl ?_ | refine gw_no rfl ?_ | refine gw_exit ?_ | refine gw_block ?_ | refine gw_label ?_ | (refine gs_n tyT_ok 0 ?_ (hp := ?hp); case hp => exact ⟨by decide, by decide⟩))
  refine gs_apps 1 hv rfl rfl rfl (by omega) fun v2 p2 hv2 hn0 => ?_
  have hbl := byl_len s
  obtain ⟨a2, c2, rfl⟩ := hv2.sl
  repeat (first | refine gs_n tyT_ok 0 ?_ | refine gs_gn tyT_ok 0 rfl ?_ | refine gs_no rfl ?_ | refine gs_l tyT_ok 0 ?_ | refine gs_gl tyT_ok 0 rfl ?_ | (refine gs_l tyT_ok 0 ?_ (hp := ?hp); case hp => exact ⟨rfl, Nat.le_of_ble_eq_true rfl⟩) | (refine gs_gl tyT_ok 0 rfl ?_ (hp := ?hp); case hp => exact ⟨rfl, Nat.le_of_ble_eq_true rfl⟩) | refine gs_end ?_ | refine gs_end' ?_ | refine gw_seq ?_ | refine gw_text rfl ?_ | refine gw_skip ?_ | refine gw_yes rfl ?_ | refine gw_no rfl ?_ | refine gw_exit ?_ | refine gw_block ?_ | refine gw_label ?_ | (refine gs_n tyT_ok 0 ?_ (hp := ?hp); case hp => exact ⟨by decide, by decide⟩))
  refine gs_store tyT_ok 0 rfl rfl rfl rfl rfl rfl (Nat.le_of_ble_eq_true rfl) (Nat.le_of_ble_eq_true rfl) ?_
  repeat (first | refine gs_n tyT_ok 0 ?_ | refine gs_gn tyT_ok 0 rfl ?_ | refine gs_no rfl ?_ | refine gs_end ?_ | refine gs_end' ?_ | refine gw_seq ?_ | refine gw_text rfl ?_ | refine gw_skip ?_ | refine gw_yes rfl ?_ | refine gw_no rfl ?_ | refine gw_exit ?_ | refine gw_block ?_ | refine gw_label ?_ | (refine gs_n tyT_ok 0 ?_ (hp := ?hp); case hp => exact ⟨by decide, by decide⟩))
  refine gs_m .nilIface ?_ (.inr rfl) rfl
  repeat (first | refine gs_n tyT_ok 0 ?_ | refine gs_gn tyT_ok 0 rfl ?_ | refine gs_no rfl ?_ | refine gs_end ?_ | refine gs_end' ?_ | refine gw_seq ?_ | refine gw_text rfl ?_ | refine gw_skip ?_ | refine gw_yes rfl ?_ | refine gw_no rfl ?_ | refine gw_exit ?_ | refine gw_block ?_ | refine gw_label ?_ | (refine gs_n tyT_ok 0 ?_ (hp := ?hp); case hp => exact ⟨by decide, by decide⟩))
  refine gw_ret ⟨_, [(b, bldG (ptr b) (.slice a2 (zs ++ byl s).length c2)), p2], [], [0, 1], .tmp (.tmp .nil), ⟨_, p2, rfl, rfl, _, _, rfl, .inr rfl, hv2, ?_⟩, rfl, rfl, by decide⟩
  rcases h0 with h0 | h0
  · by_cases hs0 : s.size = 0
    · exact .inl (hn0 h0 hs0)
    · right
      rw [List.length_append]
      omega
  · right
    rw [List.length_append]
    omega
section
variable {ops os : List Oper} {H : Option (List Hint)} {K : Env → GL → Prop} {e : Env} {l : GL} {d : Nat} {T : TypeId} {pos : String} {af : Array Edge}
theorem lv_sdata {o : Oper} {ev : Operand → Value} {q : Option (Nat × GO)} {x : Operand} {t : TypeId} {v r : Value} (hop : o.op = .call { callee := .builtin .unsafeSliceData, args := #[x], argTypes := #[t] }) (hx : ev x = v) (hr : (v = .slice none 0 0 ∧ r = .pointer none) ∨ ∃ a n c, v = .slice (some a) n c ∧ c ≠ 0 ∧ r = .pointer (some a)) : LVal Try.prog o ev q r := by
  intro w _
  unfold execOp
  simp only [hop, resolve, Sem.run_bind, Sem.run_pure, Result.andThen_ok, invoke, show ∀ a b c d, builtin .unsafeSliceData a b c d = (do pure (.value (← Builtin.unsafeSliceData_ a b d))) from fun _ _ _ _ => rfl]
  rcases hr with ⟨rfl, rfl⟩ | ⟨a, n, c, rfl, hc, rfl⟩
  · have := Lib.run_unsafeSliceData_nil (P := Try.prog) (w := w) #[t] o.type 0 0
    simp [hx, this]
  · have := Lib.run_unsafeSliceData_row (P := Try.prog) (w := w) #[t] o.type a n c hc
    simp [hx, this]
theorem e_ustr {o : Oper} {ev : Operand → Value} {x y : Operand} {t u : TypeId} {g m : Nat} {zs : List Int} (hop : o.op = .call { callee := .builtin .unsafeString, args := #[x, y], argTypes := #[t, u] }) (ht : Try.prog.underlying t = some (.pointer 5)) (hx : ev x = ptr g) (hy : ev y = .int .i64 (zs.length : Int)) (h0 : 1 ≤ zs.length) (hm : zs.length ≤ m) (hl : zs.length ≤ 1000000000000) (hb : ∀ z ∈ zs, 0 ≤ z ∧ z ≤ 255) :
    ERun Try.prog o ev [(g, .row 5 (bytesV zs) m)] (fun v F' ns => v = .string (txt zs) ∧ F' = [(g, .ro (bytesV zs))] ∧ ns = []) := by
  intro w hw
  have hh := hw.at_ (g, .row 5 (bytesV zs) m) (by simp)
  have hsh := shape_of hh
  obtain ⟨l, hL⟩ : ∃ l : List UInt8, l = zs.map fun z => UInt8.ofNat z.toNat := ⟨_, rfl⟩
  have hll : l.length = zs.length := by rw [hL]; simp
  have hcell : ∀ j x, l[j]? = some x → w.cell? ((⟨g, 0, none⟩ : Addr).add j) = some (.int .u8 x.toNat) := by
    intro j x hj
    rw [addr_add, Nat.zero_add]
    refine holds_cell hh ?_
    show (bytesV zs)[j]? = _
    rw [hL, List.getElem?_map] at hj
    rw [bytesV, List.getElem?_map]
    cases hz : zs[j]? with
    | none => rw [hz] at hj; cases hj
    | some z =>
      rw [hz] at hj
      cases hj
      have := hb z (List.mem_of_getElem? hz)
      simp
      omega
  have hr := Lib.run_unsafeString_row (P := Try.prog) w t u o.type 5 ht (by kernel_rfl) g m hsh l (by intro e; rw [e] at hll; simp at hll; omega) (by omega) (by omega) hcell
  rw [hll] at hr
  obtain ⟨c, fr, k1, k2, k3, k4⟩ := hh
  have hfz : ∃ fr', (w.freeze ⟨g, 0, none⟩ zs.length).heap[g]? = some (.cells c 5 fr') := by
    unfold World.freeze
    rw [if_neg (by omega)]
    simp only [Array.getElem?_modify, if_true]
    dsimp only at k1
    rw [k1]
    exact ⟨_, rfl⟩
  obtain ⟨fr', hfr⟩ := hfz
  have hoth : ∀ k, k ≠ g → (w.freeze ⟨g, 0, none⟩ zs.length).heap[k]? = w.heap[k]? := by
    intro k hk
    unfold World.freeze
    rw [if_neg (by omega)]
    simp only [Array.getElem?_modify]
    rw [if_neg (fun e => hk e.symm)]
  refine ⟨_, _, _, w.freeze ⟨g, 0, none⟩ zs.length, .inl ?_, ⟨rfl, rfl, rfl⟩, ?_⟩
  · unfold execOp
    simp only [hop, resolve, Sem.run_bind, Sem.run_pure, Result.andThen_ok, invoke, show ∀ a b c d, builtin .unsafeString a b c d = (do pure (.value (← Builtin.unsafeString_ a b d))) from fun _ _ _ _ => rfl]
    have e1 : (⟨l.toArray⟩ : ByteArray) = txt zs := by rw [hL]; rfl
    rw [e1] at hr
    simp [hx, hy, hr]
  · refine ⟨rfl, sim_one ⟨c, _, fr', hfr, k4⟩, ⟨?_, ?_, ?_, ?_, fun k _ hn => hoth k fun e => hn ⟨.row 5 (bytesV zs) m, by rw [e]; simp, rfl⟩⟩, fun p hp _ => .inl ⟨.row 5 (bytesV zs) m, by simp at hp; rw [hp]; simp, rfl⟩, fun p hp ho => ?_⟩
    · unfold World.freeze; rw [if_neg (by omega)]
    · unfold World.freeze; rw [if_neg (by omega)]
    · unfold World.freeze; rw [if_neg (by omega)]
    · unfold World.freeze; rw [if_neg (by omega)]; simp
    · simp at hp
      rw [hp] at ho
      cases ho
theorem lv_ustr0 {o : Oper} {ev : Operand → Value} {q : Option (Nat × GO)} {x y : Operand} {t u : TypeId} (hop : o.op = .call { callee := .builtin .unsafeString, args := #[x, y], argTypes := #[t, u] }) (hx : ev x = .pointer none) (hy : ev y = .int .i64 0) : LVal Try.prog o ev q (.string (txt [])) := by
  intro w _
  have hr := Lib.run_unsafeString_none (P := Try.prog) (w := w) t u o.type none
  unfold execOp
  simp only [hop, resolve, Sem.run_bind, Sem.run_pure, Result.andThen_ok, invoke, show ∀ a b c d, builtin .unsafeString a b c d = (do pure (.value (← Builtin.unsafeString_ a b d))) from fun _ _ _ _ => rfl]
  simp [hx, hy, hr]
  rfl
end
set_option maxHeartbeats 1000000 in
/-- String: what was written. -/
theorem bString_w {b : Nat} {q p : Nat × GO} {zs : List Int} (h : Bld b q p zs) (hz : zs.length ≤ 100000000) (hb : ∀ z ∈ zs, 0 ≤ z ∧ z ≤ 255) : Trip Try.prog 185 [ptr b] [q, p] (fun v F' ns => ∃ p2, v = .string (txt zs) ∧ F' = [q, p2] ∧ ns = []) := by
  obtain ⟨x, v, rfl, hx, hv, h0⟩ := h
  refine trip_of Try.func185 rfl (by simp [Try.ntmps185]) ?_
  repeat (first | refine gs_n tyT_ok 0 ?_ | refine gs_gn tyT_ok 0 rfl ?_ | refine gs_no rfl ?_ | refine gs_end ?_ | refine gs_end' ?_ | refine gw_seq ?_ | refine gw_text rfl ?_ | refine gw_skip ?_ | refine gw_yes rfl ?_ | refine gw_no rfl ?_ | refine gw_exit ?_ | refine gw_block ?_ | refine gw_label ?_ | (refine gs_n tyT_ok 0 ?_ (hp := ?hp); case hp => exact ⟨by decide, by decide⟩))
  rcases hv with ⟨rfl, hp, hz0⟩ | ⟨g, len, cap, n, rfl, rfl, hl, hlc, hcn⟩
  · have : zs = [] := by simpa [bytesV] using hz0
    subst this
    refine gw_any [.N, .N, .N, .L 0, .L 0, .N, .N, .N, .L 0, .N, .L 0, .N] rfl rfl rfl ?_
    repeat (first | refine gs_n tyT_ok 0 ?_ | refine gs_gn tyT_ok 0 rfl ?_ | refine gs_no rfl ?_ | refine gs_l tyT_ok 0 ?_ | refine gs_gl tyT_ok 0 rfl ?_ | (refine gs_l tyT_ok 0 ?_ (hp := ?hp); case hp => exact ⟨rfl, Nat.le_of_ble_eq_true rfl⟩) | (refine gs_gl tyT_ok 0 rfl ?_ (hp := ?hp); case hp => exact ⟨rfl, Nat.le_of_ble_eq_true rfl⟩))
    refine gs_v 0 (lv_sdata rfl rfl (.inl ⟨rfl, rfl⟩)) ?_
    repeat (first | refine gs_n tyT_ok 0 ?_ | refine gs_gn tyT_ok 0 rfl ?_ | refine gs_no rfl ?_ | refine gs_l tyT_ok 0 ?_ | refine gs_gl tyT_ok 0 rfl ?_ | (refine gs_l tyT_ok 0 ?_ (hp := ?hp); case hp => exact ⟨rfl, Nat.le_of_ble_eq_true rfl⟩) | (refine gs_gl tyT_ok 0 rfl ?_ (hp := ?hp); case hp => exact ⟨rfl, Nat.le_of_ble_eq_true rfl⟩))
    refine gs_v 0 (lv_ustr0 rfl rfl rfl) ?_
    repeat (first | refine gs_n tyT_ok 0 ?_ | refine gs_gn tyT_ok 0 rfl ?_ | refine gs_no rfl ?_ | refine gs_end ?_ | refine gs_end' ?_ | refine gw_seq ?_ | refine gw_text rfl ?_ | refine gw_skip ?_ | refine gw_yes rfl ?_ | refine gw_no rfl ?_ | refine gw_exit ?_ | refine gw_block ?_ | refine gw_label ?_ | (refine gs_n tyT_ok 0 ?_ (hp := ?hp); case hp => exact ⟨by decide, by decide⟩))
    exact gw_ret ⟨_, [_, p], [], [0, 1], .tmp .nil, ⟨p, rfl, rfl, rfl⟩, rfl, rfl, by decide⟩
  · have hlen : len = zs.length := by simpa [bytesV] using hl.symm
    subst hlen
    have h1 : 1 ≤ zs.length := by
      rcases h0 with h0 | h0
      · cases h0
      · exact h0
    refine gw_any [.N, .N, .N, .L 0, .L 0, .N, .N, .N, .L 0, .N, .E [1], .N] rfl rfl rfl ?_
    repeat (first | refine gs_n tyT_ok 0 ?_ | refine gs_gn tyT_ok 0 rfl ?_ | refine gs_no rfl ?_ | refine gs_l tyT_ok 0 ?_ | refine gs_gl tyT_ok 0 rfl ?_ | (refine gs_l tyT_ok 0 ?_ (hp := ?hp); case hp => exact ⟨rfl, Nat.le_of_ble_eq_true rfl⟩) | (refine gs_gl tyT_ok 0 rfl ?_ (hp := ?hp); case hp => exact ⟨rfl, Nat.le_of_ble_eq_true rfl⟩))
    refine gs_v 0 (lv_sdata rfl rfl (.inr ⟨_, _, _, rfl, by omega, rfl⟩)) ?_
    repeat (first | refine gs_n tyT_ok 0 ?_ | refine gs_gn tyT_ok 0 rfl ?_ | refine gs_no rfl ?_ | refine gs_l tyT_ok 0 ?_ | refine gs_gl tyT_ok 0 rfl ?_ | (refine gs_l tyT_ok 0 ?_ (hp := ?hp); case hp => exact ⟨rfl, Nat.le_of_ble_eq_true rfl⟩) | (refine gs_gl tyT_ok 0 rfl ?_ (hp := ?hp); case hp => exact ⟨rfl, Nat.le_of_ble_eq_true rfl⟩))
    refine gs_e [1] rfl (by decide) (e_ustr rfl (by kernel_rfl) rfl rfl h1 (by omega) (by omega) hb).spec ?_
    rintro v F' news ⟨rfl, rfl, rfl⟩ _ _
    repeat (first | refine gs_n tyT_ok 0 ?_ | refine gs_gn tyT_ok 0 rfl ?_ | refine gs_no rfl ?_ | refine gs_end ?_ | refine gs_end' ?_ | refine gw_seq ?_ | refine gw_text rfl ?_ | refine gw_skip ?_ | refine gw_yes rfl ?_ | refine gw_no rfl ?_ | refine gw_exit ?_ | refine gw_block ?_ | refine gw_label ?_ | (refine gs_n tyT_ok 0 ?_ (hp := ?hp); case hp => exact ⟨by decide, by decide⟩))
    exact gw_ret ⟨_, [_, (g, .ro (bytesV zs))], [], [0, 1], .tmp .nil, ⟨_, rfl, rfl, rfl⟩, rfl, rfl, by decide⟩
end Go.Proofs.Ytjefdcbljpkmlaa.G
end
