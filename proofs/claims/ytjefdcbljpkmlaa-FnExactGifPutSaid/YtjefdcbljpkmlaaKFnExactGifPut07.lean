/- What the law FnExactGifPut needs, out of the texts Gh. -/
import Derived.Test.YtjefdcbljpkmlaaKFnExactGifPut06
section
set_option linter.unusedVariables false
set_option linter.unusedSimpArgs false
namespace Go.Proofs.Ytjefdcbljpkmlaa.G
open Go
/-- What temporaries hold. -/
def Has (e : Env) : List (Nat × Value) → Prop
  | [] => True
  | (t, v) :: r => e t = v ∧ Has e r
def upds (e : Env) : List (Nat × Value) → Env
  | [] => e
  | (t, v) :: r => upd (upds e r) t v
theorem upd_self {e : Env} {t : Nat} {v : Value} (h : e t = v) : upd e t v = e := by
  funext i
  unfold upd
  cases hb : Nat.beq i t with
  | true => rw [Nat.eq_of_beq_eq_true hb]; simp [h]
  | false => rfl
theorem has_eq : ∀ {e : Env} {L : List (Nat × Value)}, Has e L → upds e L = e
  | e, [], _ => rfl
  | e, (t, v) :: r, h => by
    simp only [upds]
    rw [has_eq h.2, upd_self h.1]
section
variable {P : Program} {n : Nat} {Q : QT} {e : Env} {l : GL}
/-- A loop told by live temporaries. -/
theorem gw_loopL {c : Code} {α : Type} (L : Nat → α → List (Nat × Value)) (lf : Nat → α → GL) (p : Nat → α → Prop) (m : Nat) (a : α) (h0 : p m a) (hl : l = lf m a) (hh : Has e (L m a))
    (hr : ∀ m a e, p m a → GW P n c (thenQ (fun e' l' => ∃ m', m' < m ∧ ∃ a', p m' a' ∧ l' = lf m' a' ∧ Has e' (L m' a')) Q) (upds e (L m a)) (lf m a)) : GW P n (.loop c) Q e l := by
  refine gw_loop (fun m e l => ∃ a, p m a ∧ l = lf m a ∧ Has e (L m a)) m ⟨a, h0, hl, hh⟩ fun m e l ⟨a, h1, h2, h3⟩ => ?_
  subst h2
  have := hr m a e h1
  rw [has_eq h3] at this
  exact this
end
/-- A function that hands back r, and leaves nothing. -/
def Pu (P : Program) (f : FuncId) (args : List Value) (r : Value) : Prop := Trip P f args [] (fun v F' ns => v = r ∧ F' = [] ∧ ns = [])
section
variable {P : Program} {ops os : List Oper} {H : Option (List Hint)} {K : Env → GL → Prop} {e : Env} {l : GL} {d : Nat} {T : TypeId} {pos : String} {af : Array Edge}
theorem gs_pu {f : FuncId} {as : Array Operand} {ts : Array TypeId} {r : Value} (hent : Ent P f) (h : Pu P f (as.toList.map (gev e)) r) (k : gseq P ops os (tl? H) K (upd e d r) l) (hh : hE [] H := by trivial) : gseq P ops (⟨some d, .call { callee := .value (.func f), args := as, argTypes := ts }, T, pos, af, none⟩ :: os) H K e l := by
  refine gs_call [] hent rfl List.nodup_nil h (fun v F' ns ho _ _ => ?_) hh
  obtain ⟨rfl, rfl, rfl⟩ := ho
  simpa [setAll, updo] using k
theorem gs_eg (ks : List Nat) {op : Op} {dd : Option Nat} {g : Nat × Bool} {F : GL} {Out : OutT} (hw : wantedE ops ⟨dd, op, T, pos, af, some g⟩ e = true) (hp : pick l ks = some F) (nk : ks.Nodup) (hsp : ESpec P ⟨dd, op, T, pos, af, some g⟩ (gev e) F Out)
    (k : ∀ v F' news, Out v F' news → F'.length = F.length → Rz (setAll l ks F' ++ news) → gseq P ops os (tl? H) K (updo e dd v) (setAll l ks F' ++ news)) (hh : hE ks H := by trivial) : gseq P ops (⟨dd, op, T, pos, af, some g⟩ :: os) H K e l :=
  ⟨.E ks, hE_or hh, hw, F, Out, hp, nk, hsp, k⟩
theorem gs_callg (ks : List Nat) {f : FuncId} {as : Array Operand} {ts : Array TypeId} {dd : Option Nat} {g : Nat × Bool} {F : GL} {Out : OutT} (hent : Ent P f) (hw : wantedE ops ⟨dd, .call { callee := .value (.func f), args := as, argTypes := ts }, T, pos, af, some g⟩ e = true) (hp : pick l ks = some F) (nk : ks.Nodup) (ht : Trip P f (as.toList.map (gev e)) F Out)
    (k : ∀ v F' news, Out v F' news → F'.length = F.length → Rz (setAll l ks F' ++ news) → gseq P ops os (tl? H) K (updo e dd v) (setAll l ks F' ++ news)) (hh : hE ks H := by trivial) : gseq P ops (⟨dd, .call { callee := .value (.func f), args := as, argTypes := ts }, T, pos, af, some g⟩ :: os) H K e l := by
  refine gs_eg ks hw hp nk (fun w hw => .inr ⟨f, (as.toList.map (gev e)).toArray, ?_, ht w hw⟩) k hh
  unfold execOp
  have : (as.toList.map (gev e)).toArray = as.map (gev e) := by apply Array.ext'; simp
  rw [this]
  simp [resolve, Deferred.ofValue, invoke, gev, hent _ _]
theorem gs_pug {f : FuncId} {as : Array Operand} {ts : Array TypeId} {r : Value} {g : Nat × Bool} (hent : Ent P f) (hw : wantedE ops ⟨some d, .call { callee := .value (.func f), args := as, argTypes := ts }, T, pos, af, some g⟩ e = true) (h : Pu P f (as.toList.map (gev e)) r) (k : gseq P ops os (tl? H) K (upd e d r) l) (hh : hE [] H := by trivial) : gseq P ops (⟨some d, .call { callee := .value (.func f), args := as, argTypes := ts }, T, pos, af, some g⟩ :: os) H K e l := by
  refine gs_callg [] hent hw rfl List.nodup_nil h (fun v F' ns ho _ _ => ?_) hh
  obtain ⟨rfl, rfl, rfl⟩ := ho
  simpa [setAll, updo] using k
/-- A test that is guarded. -/
theorem gs_tg {ty : Tys} (hty : TysOk P ty) {op : Op} {b : Bool} {g : Nat × Bool} (hw : wantedE ops ⟨some d, op, T, pos, af, some g⟩ e = true) (hb : b = true) (k : gseq P ops os (tl? H) K (upd e d (.bool true)) l) (hd : dval ty 1 op (gev e) none = some (True, .bool b) := by rfl) (hh : hN H := by trivial) : gseq P ops (⟨some d, op, T, pos, af, some g⟩ :: os) H K e l :=
  gs_gn hty 1 hw k (by rw [hd, hb]) True.intro hh
theorem gs_fg {ty : Tys} (hty : TysOk P ty) {op : Op} {b : Bool} {g : Nat × Bool} (hw : wantedE ops ⟨some d, op, T, pos, af, some g⟩ e = true) (hb : b = false) (k : gseq P ops os (tl? H) K (upd e d (.bool false)) l) (hd : dval ty 1 op (gev e) none = some (True, .bool b) := by rfl) (hh : hN H := by trivial) : gseq P ops (⟨some d, op, T, pos, af, some g⟩ :: os) H K e l :=
  gs_gn hty 1 hw k (by rw [hd, hb]) True.intro hh
end
section
variable {P : Program} {n : Nat} {e : Env} {l : GL} {rs : List ResultVar} {F : GL} {Out : OutT}
/-- The end of a function that hands back one temporary, or several. -/
theorem fin (ks : List Nat) {vs : List Value} {F' news : GL} (h : RV P e l rs vs) (ho : Out (retV vs) F' news) (hl : F'.length = F.length := by rfl) (hp : pick l ks = some (F' ++ news) := by rfl) (nk : ks.Nodup := by decide) : GW P n .ret (FinQ P rs F Out) e l :=
  gw_ret ⟨vs, F', news, ks, h, ho, hl, hp, nk⟩
end
theorem i64 {x : Int} (h1 : -9223372036854775808 ≤ x) (h2 : x ≤ 9223372036854775807) : inr .i64 x := ⟨h1, h2⟩
end Go.Proofs.Ytjefdcbljpkmlaa.G
end
