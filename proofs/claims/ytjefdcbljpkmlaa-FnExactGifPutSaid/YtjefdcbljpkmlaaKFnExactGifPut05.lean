/- What the law FnExactGifPut needs, out of the texts Gf. -/
import Derived.Deep.LoopGhost
import Derived.Scope
import Derived.Test.YtjefdcbljpkmlaaKFnExactGifPut04
section
set_option linter.unusedVariables false
set_option linter.unusedSimpArgs false
namespace Go.Proofs.Ytjefdcbljpkmlaa.G
open Go
abbrev QT := Exit → Env → GL → Prop
def GW (P : Program) (n : Nat) (c : Code) (Q : QT) (e : Env) (l : GL) : Prop :=
  ∀ (w0 : World) (l0 : GL) (a : Act) (w : World), Rep n e a → Inv w0 l0 l w → c.wp P (fun ex a' w' => ∃ e' l', Q ex e' l' ∧ Rep n e' a' ∧ Inv w0 l0 l' w') a w
def thenQ (next : Env → GL → Prop) (Q : QT) : QT
  | .normal, e, l => next e l
  | ex, e, l => Q ex e l
def blockQ (id : Nat) (Q : QT) : QT
  | .exit i, e, l => bif Nat.beq i id then Q .normal e l else Q (.exit i) e l
  | ex, e, l => Q ex e l
section
variable {P : Program} {n : Nat} {Q : QT} {e : Env} {l : GL}
theorem GW.mono {c : Code} {Q' : QT} (h : GW P n c Q e l) (k : ∀ ex e l, Q ex e l → Q' ex e l) : GW P n c Q' e l := fun w0 l0 a w hr hv => wp_mono (h w0 l0 a w hr hv) fun ex a' w' ⟨e', l', h1, h2⟩ => ⟨e', l', k _ _ _ h1, h2⟩
theorem gw_weak {c : Code} {l' : GL} (ks : List Nat) (nk : ks.Nodup) (hp : pick l ks = some l') (h : GW P n c Q e l') : GW P n c Q e l := fun w0 l0 a w hr hv => h w0 l0 a w hr (hv.weak ks nk hp)
theorem gw_seq {x y : Code} (h : GW P n x (thenQ (GW P n y Q) Q) e l) : GW P n (.seq x y) Q e l := by
  intro w0 l0 a w hr hv
  refine wp_seq (wp_mono (h w0 l0 a w hr hv) fun ex a' w' hq => ?_)
  obtain ⟨e', l', h1, h2, h3⟩ := hq
  cases ex <;> first
    | exact h1 w0 l0 a' w' h2 h3
    | exact ⟨e', l', h1, h2, h3⟩
theorem gw_skip (h : Q .normal e l) : GW P n .skip Q e l := fun w0 l0 a w hr hv => wp_skip ⟨e, l, h, hr, hv⟩
theorem gw_label {k : Nat} (h : Q .normal e l) : GW P n (.label k) Q e l := fun w0 l0 a w hr hv => wp_label ⟨e, l, h, hr, hv⟩
theorem gw_exit {i : Nat} (h : Q (.exit i) e l) : GW P n (.exit i) Q e l := fun w0 l0 a w hr hv => wp_exit ⟨e, l, h, hr, hv⟩
theorem gw_ret (h : Q .ret e l) : GW P n .ret Q e l := fun w0 l0 a w hr hv => wp_ret ⟨e, l, h, hr, hv⟩
theorem gw_cond {c : Operand} {x y : Code} {t : Bool} (hc : gev e c = .bool t) (h1 : t = true → GW P n x Q e l) (h2 : t = false → GW P n y Q e l) : GW P n (.cond c x y) Q e l :=
  fun w0 l0 a w hr hv => wp_cond_split (by rw [hr.eval]; exact hc) (fun ht => h1 ht w0 l0 a w hr hv) (fun ht => h2 ht w0 l0 a w hr hv)
theorem gw_yes {c : Operand} {x y : Code} (hc : gev e c = .bool true) (h : GW P n x Q e l) : GW P n (.cond c x y) Q e l := gw_cond hc (fun _ => h) (fun h => by cases h)
theorem gw_no {c : Operand} {x y : Code} (hc : gev e c = .bool false) (h : GW P n y Q e l) : GW P n (.cond c x y) Q e l := gw_cond hc (fun h => by cases h) (fun _ => h)
theorem gw_block {i : Nat} {c : Code} (h : GW P n c (blockQ i Q) e l) : GW P n (.block i c) Q e l := by
  intro w0 l0 a w hr hv
  refine wp_block (wp_mono (h w0 l0 a w hr hv) fun ex a' w' hq => ?_)
  obtain ⟨e', l', h1, h2, h3⟩ := hq
  cases ex with
  | exit j =>
    simp only [blockQ] at h1
    simp only [Exit.inBlock]
    cases hj : Nat.beq j i with
    | true => rw [hj] at h1; rw [if_pos (Nat.eq_of_beq_eq_true hj)]; exact ⟨e', l', h1, h2, h3⟩
    | false => rw [hj] at h1; rw [if_neg fun e => by rw [e, Nat.beq_refl] at hj; cases hj]; exact ⟨e', l', h1, h2, h3⟩
  | _ => exact ⟨e', l', h1, h2, h3⟩
/-- A loop: what holds at each round's head, when at most so many rounds are to come. -/
theorem gw_loop {c : Code} (I : Nat → Env → GL → Prop) (m : Nat) (h0 : I m e l) (hr : ∀ m e l, I m e l → GW P n c (thenQ (fun e' l' => ∃ m', m' < m ∧ I m' e' l') Q) e l) : GW P n (.loop c) Q e l := by
  intro w0 l0 a w hrp hv
  refine wp_loop_ghost (fun m a w => ∃ e l, I m e l ∧ Rep n e a ∧ Inv w0 l0 l w) m ⟨e, l, h0, hrp, hv⟩ fun m a w ⟨e, l, h1, h2, h3⟩ => ?_
  refine wp_mono (hr m e l h1 w0 l0 a w h2 h3) fun ex a' w' hq => ?_
  obtain ⟨e', l', g1, g2, g3⟩ := hq
  cases ex with
  | normal =>
    obtain ⟨m', hm, hI⟩ := g1
    exact ⟨m', hm, e', l', hI, g2, g3⟩
  | _ => exact ⟨e', l', g1, g2, g3⟩
theorem gw_text {id : Nat} {ops : Array Oper} (hok : okOps n ops.toList = true) (h : gseq P ops.toList ops.toList none (Q .normal) e l) : GW P n (.region id ops false) Q e l :=
  fun w0 l0 a w hr hv => gseq_wp hok h hr hv fun e' l' a' w' h1 h2 h3 => ⟨e', l', h1, h2, h3⟩
theorem gw_any {id : Nat} {ops : Array Oper} (hs : List Hint) (hm : P.follows .mixedOrders = true) (hok : okOps n ops.toList = true) (hc : chk ops l.length hs = true) (h : gseq P ops.toList ops.toList (some hs) (Q .normal) e l) : GW P n (.region id ops true) Q e l :=
  fun w0 l0 a w hr hv => gseq_wp_any hm hok h hc hr hv fun e' l' a' w' h1 h2 h3 => ⟨e', l', h1, h2, h3⟩
end
/-- What a function does: handed the entries F, it gives v, F turns into F', news come. -/
def Trip (P : Program) (f : FuncId) (args : List Value) (F : GL) (Out : OutT) : Prop :=
  ∀ w, Sim F w → Calls P f args.toArray w fun e w' => ∃ v F' news, e = .returned v ∧ Out v F' news ∧ Turned F F' news w w'
theorem Trip.mono {P : Program} {f : FuncId} {args : List Value} {F : GL} {Out Out' : OutT} (h : Trip P f args F Out) (k : ∀ v F' news, Out v F' news → Out' v F' news) : Trip P f args F Out' := fun w hw => (h w hw).mono fun e w' ⟨v, F', news, h1, h2, h3⟩ => ⟨v, F', news, h1, k _ _ _ h2, h3⟩
/-- The results of a function, out of its temporaries and what is known. -/
inductive RV (P : Program) (e : Env) (l : GL) : List ResultVar → List Value → Prop where
  | nil : RV P e l [] []
  | tmp {t : Tmp} {rs : List ResultVar} {vs : List Value} (h : RV P e l rs vs) : RV P e l (.tmp t :: rs) (e t :: vs)
  | cell {a : Tmp} {t : TypeId} {rs : List ResultVar} {vs : List Value} {ad : Addr} {v : Value} (k : Nat) (ha : e a = .pointer (some ad)) (hv : ∀ w, (∀ p, l[k]? = some p → p.2.holds w.heap[p.1]?) → (loadVar t ad).run P w = .ok v w) (h : RV P e l rs vs) : RV P e l (.cell a t :: rs) (v :: vs)
def retV : List Value → Value
  | [v] => v
  | vs => .tuple vs.toArray
theorem rv_run {P : Program} {e : Env} {l : GL} {n : Nat} {a : Act} {w : World} (hr : Rep n e a) (hs : Sim l w) : ∀ {rs : List ResultVar} {vs : List Value}, RV P e l rs vs →
    ((rs.mapM fun (x : ResultVar) => match x with
      | ResultVar.tmp t => (pure (a.tmps.getD t undef) : Sem Value)
      | ResultVar.cell b t => do loadVar t (← asAddr (a.tmps.getD b undef))) : Sem (List Value)).run P w = Result.ok vs w
  | _, _, .nil => rfl
  | _, _, .tmp (t := t) h => by
    have ih := rv_run hr hs h
    rw [List.mapM_cons]
    simp only [hr.at_ t] at ih ⊢
    simp only [Sem.run_bind, Sem.run_pure, Result.andThen_ok]
    rw [ih]
    rfl
  | _, _, .cell (a := b) (t := t) (ad := ad) k ha hv h => by
    have ih := rv_run hr hs h
    rw [List.mapM_cons]
    have h0 : (asAddr (a.tmps.getD b undef)).run P w = .ok ad w := by rw [hr.at_ b, ha]; rfl
    simp only [Sem.run_bind, h0, Sem.run_pure, Result.andThen_ok]
    rw [hv w fun p hp => hs.at_ p (List.mem_of_getElem? hp)]
    simp only [Result.andThen_ok]
    rw [ih]
    rfl
def envOf (args : List Value) : Env := fun t => args.getD t undef
/-- What a body must come to. -/
def FinQ (P : Program) (rs : List ResultVar) (F : GL) (Out : OutT) : QT
  | .normal, e, l | .ret, e, l => ∃ vs F' news ks, RV P e l rs vs ∧ Out (retV vs) F' news ∧ F'.length = F.length ∧ pick l ks = some (F' ++ news) ∧ ks.Nodup
  | _, _, _ => False
theorem trip_of {P : Program} {f : FuncId} {fn : Func} {c : Code} {args : List Value} {F : GL} {Out : OutT} (hf : P.funcs[f]? = some fn) (hb : fn.body = some c) (hn : args.length ≤ fn.ntmps) (h : GW P fn.ntmps c (FinQ P fn.results.toList F Out) (envOf args) F) : Trip P f args F Out := by
  intro w hw
  refine calls_of_wp hf hb (wp_mono (h w F { tmps := args.toArray ++ Array.replicate (fn.ntmps - args.toArray.size) undef, defers := [] } w ⟨?_, rfl, fun t => ?_⟩ (Inv.refl hw)) fun ex a' w' hq => ?_)
  · simp; omega
  · simp only [envOf, List.getD_eq_getElem?_getD]
    by_cases ht : t < args.length
    · simp [ht, Array.getElem?_append]
    · simp only [Array.getD_eq_getD_getElem?, Array.getElem?_append, List.size_toArray, if_neg ht]
      rw [List.getElem?_eq_none (by omega)]
      rw [Array.getElem?_replicate]
      split <;> rfl
  · obtain ⟨e', l', h1, h2, h3⟩ := hq
    have key : FinQ P fn.results.toList F Out .ret e' l' → a'.defers = [] ∧ ∃ v, (results fn a'.tmps).run P w' = .ok v w' ∧ ∃ v' F' news, (Ending.returned v) = .returned v' ∧ Out v' F' news ∧ Turned F F' news w w' := by
      rintro ⟨vs, F', news, ks, g1, g2, g3, g4, g5⟩
      refine ⟨h2.defers, retV vs, ?_, retV vs, F', news, rfl, g2, g3, h3.sim.weak ks g5 g4, h3.fr, ?_, ?_⟩
      · have hr := rv_run h2 h3.sim g1
        unfold results
        rw [Array.mapM_eq_mapM_toList]
        simp only [Sem.run_bind, Sem.run_map]
        refine Eq.trans (congrArg (fun r => Result.andThen (Result.andThen r _) _) hr) ?_
        simp only [Result.andThen_ok, Sem.run_pure]
        congr 1
        cases vs with
        | nil => rfl
        | cons v vs =>
          cases vs with
          | nil => rfl
          | cons u us => simp [retV]
      · intro p hp hpr
        obtain ⟨k, hk, e⟩ := (pick_mem ks l' _ g4 p).1 hp
        rcases Nat.lt_or_ge p.1 w.heap.size with hlt | hge
        · exact .inl (h3.real p.1 hlt ⟨p.2, List.mem_of_getElem? e, hpr⟩)
        · exact .inr hge
      · intro p hp hpr
        obtain ⟨k, hk, e⟩ := (pick_mem ks l' _ g4 p).1 hp
        rcases Nat.lt_or_ge p.1 w.heap.size with hlt | hge
        · exact .inl (h3.own p.1 hlt ⟨p.2, List.mem_of_getElem? e, hpr⟩)
        · exact .inr hge
    cases ex with
    | normal => exact key h1
    | ret => exact key h1
    | _ => exact h1.elim
end Go.Proofs.Ytjefdcbljpkmlaa.G
end
