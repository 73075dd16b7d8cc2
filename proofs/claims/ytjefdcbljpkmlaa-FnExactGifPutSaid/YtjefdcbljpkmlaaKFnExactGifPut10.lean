/- What the law FnExactGifPut needs, out of the texts Ma Mb Wa. -/
import Derived.Laws.Strings
import Derived.Laws.Entries
import Derived.Test.YtjefdcbljpkmlaaKFnExactGifPut09
section
set_option linter.unusedVariables false
namespace Go.Proofs.Ytjefdcbljpkmlaa.G
open Go
def byt (s : ByteArray) (i : Nat) : Int := ((s.data.toList.getD i 0).toNat : Int)
theorem byt_ge (s : ByteArray) (i : Nat) : 0 ≤ byt s i := by unfold byt; omega
theorem byt_le (s : ByteArray) (i : Nat) : byt s i ≤ 255 := by
  unfold byt
  have := (s.data.toList.getD i 0).toNat_lt
  omega
/-- So many bytes of a field of 'size' bytes at a place, read so far. -/
def fld (s : ByteArray) (p size : Nat) (big : Bool) : Nat → Int
  | 0 => 0
  | k + 1 => fld s p size big k * 256 + byt s (if big then p + k else p + size - 1 - k)
theorem ofInt_i64' (a : Nat) (ha : a < 9223372036854775808) : (BitVec.ofInt 64 (a : Int)).toNat = a := by
  rw [BitVec.ofInt_natCast, BitVec.toNat_ofNat]; exact Nat.mod_eq_of_lt (by omega)
end Go.Proofs.Ytjefdcbljpkmlaa.G
end

section
set_option linter.unusedVariables false
set_option linter.unusedSimpArgs false
namespace Go.Proofs.Ytjefdcbljpkmlaa.G
open Go
abbrev ptr (g : Nat) : Value := .pointer (some ⟨g, 0, none⟩)
def ints (zs : List Int) : List Value := zs.map (Value.int .i64)
theorem ints_add (a b : List Int) : ints a ++ ints b = ints (a ++ b) := by simp [ints]
/-- A slice of whole numbers, with its entry. -/
def LS (a : Option Addr) (n c : Nat) (q : Nat × GO) (zs : List Int) : Prop :=
  n = zs.length ∧ n ≤ c ∧ ((a = none ∧ c = 0) ∨ ∃ o, a = some ⟨q.1, o, none⟩ ∧ o + zs.length ≤ (cellsG q.2).length ∧ ((cellsG q.2).drop o).take zs.length = ints zs)
theorem LS.nil {q : Nat × GO} : LS none 0 0 q [] := ⟨rfl, Nat.le_refl _, .inl ⟨rfl, rfl⟩⟩
theorem LS.at {a : Option Addr} {n c : Nat} {q : Nat × GO} {zs : List Int} (h : LS a n c q zs) {k : Nat} (hk : k < zs.length) : ∃ o, a = some ⟨q.1, o, none⟩ ∧ (cellsG q.2)[o + k * 1]? = some (.int .i64 (zs.getD k 0)) := by
  simp only [Nat.mul_one]
  obtain ⟨h1, h2, ⟨rfl, h3⟩ | ⟨o, rfl, _, h3⟩⟩ := h
  · omega
  · refine ⟨o, rfl, ?_⟩
    have : (((cellsG q.2).drop o).take zs.length)[k]? = (ints zs)[k]? := by rw [h3]
    rw [List.getElem?_take_of_lt hk, List.getElem?_drop] at this
    rw [this, ints, List.getElem?_map, List.getElem?_eq_getElem hk]
    simp [List.getD, List.getElem?_eq_getElem hk]
/-- A list that is owned. -/
def OI (v : Value) (p : Nat × GO) (zs : List Int) : Prop := OwnE 3 1 v p (ints zs)
theorem OI.ls {v : Value} {p : Nat × GO} {zs : List Int} (h : OI v p zs) : ∃ a c, v = .slice a zs.length c ∧ LS a zs.length c p zs := by
  rcases h with ⟨rfl, hp, hz⟩ | ⟨b, len, cap, n, rfl, rfl, hl, hlc, hcn⟩
  · have : zs = [] := by simpa [ints] using hz
    subst this
    exact ⟨_, _, rfl, LS.nil⟩
  · have : len = zs.length := by simpa [ints] using hl.symm
    subst this
    exact ⟨_, _, rfl, rfl, hlc, .inr ⟨0, rfl, by simp [cellsG, ints], by simp [cellsG]; rw [List.take_of_length_le (by simp [ints])]⟩⟩
theorem OI.nil {b : Nat} : OI (.slice none 0 0) (b, .none) [] := .inl ⟨rfl, rfl, rfl⟩
theorem setAll_pick : ∀ (ks : List Nat) (l F : GL), pick l ks = some F → setAll l ks F = l
  | [], l, F, h => by simp [setAll]
  | k :: ks, l, F, h => by
    simp only [pick] at h
    split at h
    · rename_i q r hq hr
      cases h
      simp only [setAll]
      have : l.set k q = l := by
        apply List.ext_getElem?
        intro i
        rw [List.getElem?_set]
        split
        · rename_i he
          subst he
          have hlt := (List.getElem?_eq_some_iff.1 hq).1
          simp only [hlt, if_true]
          exact hq.symm
        · rfl
      rw [this]
      exact setAll_pick ks l r hr
    · cases h
/-- A call that only reads. -/
def Rd (P : Program) (f : FuncId) (args : List Value) (F : GL) (r : Value) : Prop := Trip P f args F (fun v F' ns => v = r ∧ F' = F ∧ ns = [])
section
variable {P : Program} {ops os : List Oper} {H : Option (List Hint)} {K : Env → GL → Prop} {e : Env} {l : GL} {d : Nat} {T : TypeId} {pos : String} {af : Array Edge} {F : GL}
theorem gs_rd (ks : List Nat) {f : FuncId} {xs : Array Operand} {ts : Array TypeId} {r : Value} (hent : Ent P f) (hp : pick l ks = some F) (nk : ks.Nodup) (h : Rd P f (xs.toList.map (gev e)) F r) (k : gseq P ops os (tl? H) K (upd e d r) l) (hh : hE ks H := by trivial) : gseq P ops (⟨some d, .call { callee := .value (.func f), args := xs, argTypes := ts }, T, pos, af, none⟩ :: os) H K e l := by
  refine gs_call ks hent hp nk h (fun v F' ns ho _ _ => ?_) hh
  obtain ⟨rfl, rfl, rfl⟩ := ho
  rw [setAll_pick _ _ _ hp, List.append_nil]
  exact k
theorem gs_rdg (ks : List Nat) {f : FuncId} {xs : Array Operand} {ts : Array TypeId} {r : Value} {g : Nat × Bool} (hent : Ent P f) (hw : wantedE ops ⟨some d, .call { callee := .value (.func f), args := xs, argTypes := ts }, T, pos, af, some g⟩ e = true) (hp : pick l ks = some F) (nk : ks.Nodup) (h : Rd P f (xs.toList.map (gev e)) F r) (k : gseq P ops os (tl? H) K (upd e d r) l) (hh : hE ks H := by trivial) : gseq P ops (⟨some d, .call { callee := .value (.func f), args := xs, argTypes := ts }, T, pos, af, some g⟩ :: os) H K e l := by
  refine gs_callg ks hent hw hp nk h (fun v F' ns ho _ _ => ?_) hh
  obtain ⟨rfl, rfl, rfl⟩ := ho
  rw [setAll_pick _ _ _ hp, List.append_nil]
  exact k
theorem gs_rdv (ks : List Nat) {f : FuncId} {xs : Array Operand} {ts : Array TypeId} {r : Value} {fv : Operand} {caps : Array Value} (hfv : gev e fv = .func (.func f) #[] caps) (hent : Ent P f) (hp : pick l ks = some F) (nk : ks.Nodup) (h : Rd P f (xs.toList.map (gev e) ++ caps.toList) F r) (k : gseq P ops os (tl? H) K (upd e d r) l) (hh : hE ks H := by trivial) : gseq P ops (⟨some d, .call { callee := .value fv, args := xs, argTypes := ts }, T, pos, af, none⟩ :: os) H K e l := by
  refine gs_callv ks hfv hent hp nk h (fun v F' ns ho _ _ => ?_) hh
  obtain ⟨rfl, rfl, rfl⟩ := ho
  rw [setAll_pick _ _ _ hp, List.append_nil]
  exact k
/-- An element of a list. -/
theorem gs_at (j : Nat) {t : TypeId} {x : Operand} {b off : Nat} {g : GO} {n : Int} {ty : Tys} (hty : TysOk P ty) {i : TyI} (hi : ty t = some i) (ha : i.k.agg = false) (hx : gev e x = .pointer (some ⟨b, off, none⟩)) (hl : l[j]? = some (b, g)) (hv : (cellsG g)[off]? = some (.int .i64 n)) (k : gseq P ops os (tl? H) K (upd e d (.int .i64 n)) l) (hh : hL j H := by trivial) : gseq P ops (⟨some d, .load t x, T, pos, af, none⟩ :: os) H K e l :=
  gs_v j (lv_load hty j rfl hx hl hi ha hv) k hh
end
/-- An entry for a list that is nil. -/
theorem gw_nil {P : Program} {n : Nat} {c : Code} {Q : QT} {e : Env} {l : GL} (h : GW P n c Q e (l ++ [(0, .none)])) : GW P n c Q e l := by
  intro w0 l0 a w hr hv
  have old : ∀ {i : Nat} {p : Nat × GO}, (l ++ [(0, GO.none)])[i]? = some p → p.2.real = true → l[i]? = some p := by
    intro i p hp hreal
    rw [List.getElem?_append] at hp
    split at hp
    · exact hp
    · obtain ⟨_, rfl⟩ | hp : (i - l.length = 0 ∧ (0, GO.none) = p) ∨ False := by
        cases hi : i - l.length with
        | zero => rw [hi] at hp; simp at hp; exact .inl ⟨rfl, hp⟩
        | succ k => rw [hi] at hp; simp at hp
      · cases hreal
      · exact hp.elim
  refine h w0 l0 a w hr ⟨⟨fun i j p q hi hj hp hq e => hv.sim.nd i j p q (old hi hp) (old hj hq) hp hq e, fun p hp => ?_⟩, hv.fr, fun b hb ⟨x, hx, ho⟩ => hv.own b hb ⟨x, ?_, ho⟩, fun b hb ⟨x, hx, ho⟩ => hv.real b hb ⟨x, ?_, ho⟩⟩
  · rcases List.mem_append.1 hp with h | h
    · exact hv.sim.at_ p h
    · obtain rfl := List.mem_singleton.1 h
      trivial
  · rcases List.mem_append.1 hx with h | h
    · exact h
    · cases List.mem_singleton.1 h; cases ho
  · rcases List.mem_append.1 hx with h | h
    · exact h
    · cases List.mem_singleton.1 h; cases ho
theorem fin_rd {P : Program} {n : Nat} {e : Env} {l : GL} {rs : List ResultVar} {F : GL} {r : Value} (ks : List Nat) {vs : List Value} (h : RV P e l rs vs) (ho : retV vs = r) (hp : pick l ks = some F) (nk : ks.Nodup) : GW P n .ret (FinQ P rs F (fun v F' ns => v = r ∧ F' = F ∧ ns = [])) e l :=
  gw_ret ⟨vs, F, [], ks, h, ⟨ho, rfl, rfl⟩, rfl, by simpa using hp, nk⟩
end Go.Proofs.Ytjefdcbljpkmlaa.G
end

section
set_option linter.unusedVariables false
namespace Go.Proofs.Ytjefdcbljpkmlaa.G
open Go
theorem in_t {a b c : Int} (h : b ≤ a ∧ a ≤ c) : Pu Try.prog 72 [.int .i64 a, .int .i64 b, .int .i64 c] (.bool true) := by
  refine trip_of Try.func72 rfl (by simp [Try.ntmps72]) ?_
  repeat (first | refine gs_n tyT_ok 0 ?_ | refine gs_gn tyT_ok 0 rfl ?_ | refine gs_no rfl ?_ | refine gs_end ?_ | refine gs_end' ?_ | refine gw_seq ?_ | refine gw_text rfl ?_ | refine gw_skip ?_ | refine gw_yes rfl ?_ | refine gw_no rfl ?_ | refine gw_exit ?_ | refine gw_block ?_ | refine gw_label ?_ | (refine gs_n tyT_ok 0 ?_ (hp := ?hp); case hp => exact ⟨by decide, by decide⟩))
  (refine gs_t tyT_ok ?hb ?_; case hb => first | exact decide_eq_true (by omega) | exact congrArg Bool.not (decide_eq_false (by omega)) | (simp; done) | (simp; omega))
  repeat (first | refine gs_n tyT_ok 0 ?_ | refine gs_gn tyT_ok 0 rfl ?_ | refine gs_no rfl ?_ | refine gs_end ?_ | refine gs_end' ?_ | refine gw_seq ?_ | refine gw_text rfl ?_ | refine gw_skip ?_ | refine gw_yes rfl ?_ | refine gw_no rfl ?_ | refine gw_exit ?_ | refine gw_block ?_ | refine gw_label ?_ | (refine gs_n tyT_ok 0 ?_ (hp := ?hp); case hp => exact ⟨by decide, by decide⟩))
  (refine gs_tg tyT_ok rfl ?hb ?_; case hb => first | exact decide_eq_true (by omega) | exact congrArg Bool.not (decide_eq_false (by omega)) | (simp; done) | (simp; omega))
  repeat (first | refine gs_n tyT_ok 0 ?_ | refine gs_gn tyT_ok 0 rfl ?_ | refine gs_no rfl ?_ | refine gs_end ?_ | refine gs_end' ?_ | refine gw_seq ?_ | refine gw_text rfl ?_ | refine gw_skip ?_ | refine gw_yes rfl ?_ | refine gw_no rfl ?_ | refine gw_exit ?_ | refine gw_block ?_ | refine gw_label ?_ | (refine gs_n tyT_ok 0 ?_ (hp := ?hp); case hp => exact ⟨by decide, by decide⟩))
  exact gw_ret ⟨_, [], [], [], (.tmp .nil), ⟨rfl, rfl, rfl⟩, rfl, rfl, List.nodup_nil⟩
theorem in_f {a b c : Int} (h : ¬ (b ≤ a ∧ a ≤ c)) : Pu Try.prog 72 [.int .i64 a, .int .i64 b, .int .i64 c] (.bool false) := by
  refine trip_of Try.func72 rfl (by simp [Try.ntmps72]) ?_
  repeat (first | refine gs_n tyT_ok 0 ?_ | refine gs_gn tyT_ok 0 rfl ?_ | refine gs_no rfl ?_ | refine gs_end ?_ | refine gs_end' ?_ | refine gw_seq ?_ | refine gw_text rfl ?_ | refine gw_skip ?_ | refine gw_yes rfl ?_ | refine gw_no rfl ?_ | refine gw_exit ?_ | refine gw_block ?_ | refine gw_label ?_ | (refine gs_n tyT_ok 0 ?_ (hp := ?hp); case hp => exact ⟨by decide, by decide⟩))
  refine gs_s tyT_ok (fun h1 => ?_) (fun h1 => ?_)
  · repeat (first | refine gs_n tyT_ok 0 ?_ | refine gs_gn tyT_ok 0 rfl ?_ | refine gs_no rfl ?_ | refine gs_end ?_ | refine gs_end' ?_ | refine gw_seq ?_ | refine gw_text rfl ?_ | refine gw_skip ?_ | refine gw_yes rfl ?_ | refine gw_no rfl ?_ | refine gw_exit ?_ | refine gw_block ?_ | refine gw_label ?_ | (refine gs_n tyT_ok 0 ?_ (hp := ?hp); case hp => exact ⟨by decide, by decide⟩))
    have h1 := of_decide_eq_true h1
    (refine gs_fg tyT_ok rfl ?hb ?_; case hb => first | exact decide_eq_false (by omega) | exact congrArg Bool.not (decide_eq_true (by omega)) | (simp; done) | (simp; omega))
    repeat (first | refine gs_n tyT_ok 0 ?_ | refine gs_gn tyT_ok 0 rfl ?_ | refine gs_no rfl ?_ | refine gs_end ?_ | refine gs_end' ?_ | refine gw_seq ?_ | refine gw_text rfl ?_ | refine gw_skip ?_ | refine gw_yes rfl ?_ | refine gw_no rfl ?_ | refine gw_exit ?_ | refine gw_block ?_ | refine gw_label ?_ | (refine gs_n tyT_ok 0 ?_ (hp := ?hp); case hp => exact ⟨by decide, by decide⟩))
    exact gw_ret ⟨_, [], [], [], (.tmp .nil), ⟨rfl, rfl, rfl⟩, rfl, rfl, List.nodup_nil⟩
  · repeat (first | refine gs_n tyT_ok 0 ?_ | refine gs_gn tyT_ok 0 rfl ?_ | refine gs_no rfl ?_ | refine gs_end ?_ | refine gs_end' ?_ | refine gw_seq ?_ | refine gw_text rfl ?_ | refine gw_skip ?_ | refine gw_yes rfl ?_ | refine gw_no rfl ?_ | refine gw_exit ?_ | refine gw_block ?_ | refine gw_label ?_ | (refine gs_n tyT_ok 0 ?_ (hp := ?hp); case hp => exact ⟨by decide, by decide⟩))
    exact gw_ret ⟨_, [], [], [], (.tmp .nil), ⟨rfl, rfl, rfl⟩, rfl, rfl, List.nodup_nil⟩
end Go.Proofs.Ytjefdcbljpkmlaa.G
end
