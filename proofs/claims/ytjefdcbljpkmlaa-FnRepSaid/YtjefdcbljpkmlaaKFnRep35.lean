/- What the law FnRep needs, out of the texts Wz. -/
import Derived.Test.YtjefdcbljpkmlaaKFnRep24
import Derived.Test.YtjefdcbljpkmlaaKFnRep34
section
set_option linter.unusedVariables false
set_option maxRecDepth 10000
namespace Go.Proofs.Ytjefdcbljpkmlaa.G
open Go
section
variable {ops os : List Oper} {H : Option (List Hint)} {K : Env → GL → Prop} {e : Env} {l : GL} {d : Nat} {T : TypeId} {pos : String} {af : Array Edge}
/-- append(y, x...). -/
theorem gs_appI (j m : Nat) {x y : Operand} {a : Option Addr} {n c : Nat} {p q : Nat × GO} {v : Value} {zs ws : List Int} (hx : gev e x = .slice a n c) (hy : gev e y = v) (hj : l[j]? = some p) (hm : l[m]? = some q) (hjm : j ≠ m) (hv : OI v p zs) (hw : LS a n c q ws) (hz : zs.length + ws.length ≤ 1000000000000)
    (k : ∀ b c2 p2, OI (.slice b (zs.length + ws.length) c2) p2 (zs ++ ws) → gseq Try.prog ops os (tl? H) K (upd e d (.slice b (zs.length + ws.length) c2)) (l.set j p2)) (hh : hE [j, m] H := by trivial) :
    gseq Try.prog ops (⟨some d, .call { callee := .builtin .append, args := #[y, x], argTypes := #[22, 22] }, T, pos, af, none⟩ :: os) H K e l := by
  refine gs_append tyT_ok j m (p := p) (q := q) (cs := ints zs) (nw := ints ws) hj hm hjm rfl rfl rfl ?_ ?_ (ints_one ws) ?_ (by decide) (by decide) (fun v2 p2 hv2 => ?_) hh
  · rw [hy]; exact hv
  · rw [hx]; exact hw.src
  · simp only [ints, List.length_map]
    show (zs.length + ws.length) * 8 ≤ 140737488355328 * 1
    omega
  · have hv3 : OI v2 p2 (zs ++ ws) := by
      rw [OI, ← ints_add]
      exact hv2
    obtain ⟨b, c2, he, _⟩ := hv3.ls
    subst he
    rw [List.length_append] at hv3 ⊢
    exact k b c2 p2 hv3
end
set_option maxHeartbeats 1000000 in
theorem copyImg_w {k d w h : Int} {a1 a2 : Option Addr} {n1 c1 n2 c2 : Nat} {q1 q2 : Nat × GO} {cs ps : List Int} (h1 : LS a1 n1 c1 q1 cs) (h2 : LS a2 n2 c2 q2 ps) (z1 : cs.length ≤ 1000000) (z2 : ps.length ≤ 1000000) :
    Trip Try.prog 203 [img k d w h (.slice a1 n1 c1) (.slice a2 n2 c2)] [q1, q2] (fun v F' ns => F' = [q1, q2] ∧ ∃ v1 v2 e1 e2, v = img k d w h v1 v2 ∧ ns = [e1, e2] ∧ OI v1 e1 cs ∧ OI v2 e2 ps) := by
  refine trip_of Try.func203 rfl (by simp [Try.ntmps203]) ?_
  refine gw_seq (gw_text rfl ?_)
  refine gs_box fun b => ?_
  refine gs_alloc tyT_ok rfl fun b2 => ?_
  repeat (first | refine gs_n tyT_ok 0 ?_ | refine gs_gn tyT_ok 0 rfl ?_ | refine gs_no rfl ?_ | refine gs_end ?_ | refine gs_end' ?_ | refine gw_seq ?_ | refine gw_text rfl ?_ | refine gw_skip ?_ | refine gw_yes rfl ?_ | refine gw_no rfl ?_ | refine gw_exit ?_ | refine gw_block ?_ | refine gw_label ?_ | (refine gs_n tyT_ok 0 ?_ (hp := ?hp); case hp => exact ⟨by decide, by decide⟩))
  refine gs_lit tyT_ok (cs := []) rfl rfl rfl (by decide) rfl fun b3 => ?_
  repeat (first | refine gs_n tyT_ok 0 ?_ | refine gs_gn tyT_ok 0 rfl ?_ | refine gs_no rfl ?_ | refine gs_l tyT_ok 2 ?_ | refine gs_gl tyT_ok 2 rfl ?_ | (refine gs_l tyT_ok 2 ?_ (hp := ?hp); case hp => exact ⟨rfl, Nat.le_of_ble_eq_true rfl⟩) | (refine gs_gl tyT_ok 2 rfl ?_ (hp := ?hp); case hp => exact ⟨rfl, Nat.le_of_ble_eq_true rfl⟩) | refine gs_end ?_ | refine gs_end' ?_ | refine gw_seq ?_ | refine gw_text rfl ?_ | refine gw_skip ?_ | refine gw_yes rfl ?_ | refine gw_no rfl ?_ | refine gw_exit ?_ | refine gw_block ?_ | refine gw_label ?_ | (refine gs_n tyT_ok 0 ?_ (hp := ?hp); case hp => exact ⟨by decide, by decide⟩))
  refine gs_appI 4 0 (zs := []) rfl rfl rfl rfl (by decide) OI.empty h1 (by simp; omega) fun b4 c4 e1 hv1 => ?_
  repeat (first | refine gs_n tyT_ok 0 ?_ | refine gs_gn tyT_ok 0 rfl ?_ | refine gs_no rfl ?_ | refine gs_end ?_ | refine gs_end' ?_ | refine gw_seq ?_ | refine gw_text rfl ?_ | refine gw_skip ?_ | refine gw_yes rfl ?_ | refine gw_no rfl ?_ | refine gw_exit ?_ | refine gw_block ?_ | refine gw_label ?_ | (refine gs_n tyT_ok 0 ?_ (hp := ?hp); case hp => exact ⟨by decide, by decide⟩))
  refine gs_store tyT_ok 2 rfl rfl rfl rfl rfl rfl (Nat.le_of_ble_eq_true rfl) (Nat.le_of_ble_eq_true rfl) ?_
  repeat (first | refine gs_n tyT_ok 0 ?_ | refine gs_gn tyT_ok 0 rfl ?_ | refine gs_no rfl ?_ | refine gs_end ?_ | refine gs_end' ?_ | refine gw_seq ?_ | refine gw_text rfl ?_ | refine gw_skip ?_ | refine gw_yes rfl ?_ | refine gw_no rfl ?_ | refine gw_exit ?_ | refine gw_block ?_ | refine gw_label ?_ | (refine gs_n tyT_ok 0 ?_ (hp := ?hp); case hp => exact ⟨by decide, by decide⟩))
  refine gs_lit tyT_ok (cs := []) rfl rfl rfl (by decide) rfl fun b5 => ?_
  repeat (first | refine gs_n tyT_ok 0 ?_ | refine gs_gn tyT_ok 0 rfl ?_ | refine gs_no rfl ?_ | refine gs_l tyT_ok 2 ?_ | refine gs_gl tyT_ok 2 rfl ?_ | (refine gs_l tyT_ok 2 ?_ (hp := ?hp); case hp => exact ⟨rfl, Nat.le_of_ble_eq_true rfl⟩) | (refine gs_gl tyT_ok 2 rfl ?_ (hp := ?hp); case hp => exact ⟨rfl, Nat.le_of_ble_eq_true rfl⟩) | refine gs_end ?_ | refine gs_end' ?_ | refine gw_seq ?_ | refine gw_text rfl ?_ | refine gw_skip ?_ | refine gw_yes rfl ?_ | refine gw_no rfl ?_ | refine gw_exit ?_ | refine gw_block ?_ | refine gw_label ?_ | (refine gs_n tyT_ok 0 ?_ (hp := ?hp); case hp => exact ⟨by decide, by decide⟩))
  refine gs_appI 5 1 (zs := []) rfl rfl rfl rfl (by decide) OI.empty h2 (by simp; omega) fun b6 c6 e2 hv2 => ?_
  repeat (first | refine gs_n tyT_ok 0 ?_ | refine gs_gn tyT_ok 0 rfl ?_ | refine gs_no rfl ?_ | refine gs_end ?_ | refine gs_end' ?_ | refine gw_seq ?_ | refine gw_text rfl ?_ | refine gw_skip ?_ | refine gw_yes rfl ?_ | refine gw_no rfl ?_ | refine gw_exit ?_ | refine gw_block ?_ | refine gw_label ?_ | (refine gs_n tyT_ok 0 ?_ (hp := ?hp); case hp => exact ⟨by decide, by decide⟩))
  refine gs_store tyT_ok 2 rfl rfl rfl rfl rfl rfl (Nat.le_of_ble_eq_true rfl) (Nat.le_of_ble_eq_true rfl) ?_
  repeat (first | refine gs_n tyT_ok 0 ?_ | refine gs_gn tyT_ok 0 rfl ?_ | refine gs_no rfl ?_ | refine gs_l tyT_ok 2 ?_ | refine gs_gl tyT_ok 2 rfl ?_ | (refine gs_l tyT_ok 2 ?_ (hp := ?hp); case hp => exact ⟨rfl, Nat.le_of_ble_eq_true rfl⟩) | (refine gs_gl tyT_ok 2 rfl ?_ (hp := ?hp); case hp => exact ⟨rfl, Nat.le_of_ble_eq_true rfl⟩) | refine gs_end ?_ | refine gs_end' ?_ | refine gw_seq ?_ | refine gw_text rfl ?_ | refine gw_skip ?_ | refine gw_yes rfl ?_ | refine gw_no rfl ?_ | refine gw_exit ?_ | refine gw_block ?_ | refine gw_label ?_ | (refine gs_n tyT_ok 0 ?_ (hp := ?hp); case hp => exact ⟨by decide, by decide⟩))
  refine gs_store tyT_ok 3 rfl rfl rfl rfl rfl rfl (Nat.le_of_ble_eq_true rfl) (Nat.le_of_ble_eq_true rfl) ?_
  repeat (first | refine gs_n tyT_ok 0 ?_ | refine gs_gn tyT_ok 0 rfl ?_ | refine gs_no rfl ?_ | refine gs_end ?_ | refine gs_end' ?_ | refine gw_seq ?_ | refine gw_text rfl ?_ | refine gw_skip ?_ | refine gw_yes rfl ?_ | refine gw_no rfl ?_ | refine gw_exit ?_ | refine gw_block ?_ | refine gw_label ?_ | (refine gs_n tyT_ok 0 ?_ (hp := ?hp); case hp => exact ⟨by decide, by decide⟩))
  exact gw_ret ⟨_, [q1, q2], [e1, e2], [0, 1, 4, 5], rv_cell tyT_ok 3 rfl rfl rfl rfl rfl (Nat.le_of_ble_eq_true rfl) .nil, ⟨rfl, _, _, e1, e2, rfl, rfl, hv1, hv2⟩, rfl, rfl, by decide⟩
theorem LS.tail {b o n c : Nat} {q : Nat × GO} {zs : List Int} (h : LS (some ⟨b, o, none⟩) n c q zs) (hn : 1 ≤ n) : LS (some ⟨b, o + 1 * 1, none⟩) (n - 1) (c - 1) q (zs.drop 1) := by
  obtain ⟨h1, h2, ⟨h3, _⟩ | ⟨o', h3, h4, h5⟩⟩ := h
  · cases h3
  · cases h3
    refine ⟨by simp; omega, by omega, .inr ⟨o + 1 * 1, rfl, by simp; omega, ?_⟩⟩
    have e : (zs.drop 1).length = zs.length - 1 := by simp
    have : ((cellsG q.2).drop (o + 1 * 1)).take (zs.length - 1) = (((cellsG q.2).drop o).take zs.length).drop 1 := by
      rw [List.drop_take, List.drop_drop]
    rw [e, this, h5]
    simp [ints]
theorem LS.noneAt {b o n c : Nat} {q : Nat × GO} {zs : List Int} (h : LS (some ⟨b, o, none⟩) n c q zs) : LS (some ⟨b, o, none⟩) 0 0 q [] := by
  obtain ⟨_, _, ⟨h3, _⟩ | ⟨o', h3, h4, _⟩⟩ := h
  · cases h3
  · cases h3
    exact ⟨rfl, Nat.le_refl _, .inr ⟨o, rfl, by simp; omega, by simp [ints]⟩⟩
structure SpSt where
  (k d w h : Int)
  (a1 : Option Addr)
  (n1 c1 : Nat)
  (e1 : Nat × GO)
  (cs : List Int)
  (a2 : Option Addr)
  (n2 c2 : Nat)
  (e2 : Nat × GO)
  (ps : List Int)
  (p : Nat × GO)
  (j1 j2 : Nat × GO)
def SpSt.ok (g : Nat) (q : Nat × GO) (B : Nat) (x : SpSt) : Prop := LS x.a1 x.n1 x.c1 x.e1 x.cs ∧ LS x.a2 x.n2 x.c2 x.e2 x.ps ∧ x.cs.length ≤ 2000 ∧ x.ps.length ≤ 2000 ∧ RS g q (B + 100000) x.p
/-- A picture that was drawn, and may be spoilt. -/
def AnyDrawn (g : Nat) (q : Nat × GO) (B : Nat) : OutT := fun v F' ns => ∃ k d w h a1 n1 c1 a2 n2 c2 e1 e2 cs ps p, v = img k d w h (.slice a1 n1 c1) (.slice a2 n2 c2) ∧ F' = [p, q] ∧ ns = [e1, e2] ∧ LS a1 n1 c1 e1 cs ∧ LS a2 n2 c2 e2 ps ∧ cs.length ≤ 2000 ∧ ps.length ≤ 2000 ∧ RS g q (B + 100000) p
set_option maxHeartbeats 1000000 in
theorem spoil_w {g : Nat} {p q : Nat × GO} {B : Nat} {k d w h : Int} {a1 a2 : Option Addr} {n1 c1 n2 c2 : Nat} {q1 q2 : Nat × GO} {cs ps : List Int} (hr : RS g q B p) (hB : B ≤ 100000000) (h1 : LS a1 n1 c1 q1 cs) (h2 : LS a2 n2 c2 q2 ps) (z1 : cs.length ≤ 1000) (z2 : ps.length ≤ 1000) (z3 : 1 ≤ ps.length) (hk : 1 ≤ k ∧ k ≤ 4) (hw : 1 ≤ w ∧ w ≤ 20) :
    Trip Try.prog 153 [ptr g, img k d w h (.slice a1 n1 c1) (.slice a2 n2 c2)] [p, q, q1, q2] (fun v F' ns => ∃ F2, F' = F2 ++ [q1, q2] ∧ AnyDrawn g q B v F2 ns) := by
  refine trip_of Try.func153 rfl (by simp [Try.ntmps153]) ?_
  refine gw_seq (gw_text rfl ?_)
  refine gs_box fun b3 => ?_
  refine gs_alloc tyT_ok rfl fun b4 => ?_
  repeat (first | refine gs_n tyT_ok 0 ?_ | refine gs_gn tyT_ok 0 rfl ?_ | refine gs_no rfl ?_ | refine gs_l tyT_ok 4 ?_ | refine gs_gl tyT_ok 4 rfl ?_ | (refine gs_l tyT_ok 4 ?_ (hp := ?hp); case hp => exact ⟨rfl, Nat.le_of_ble_eq_true rfl⟩) | (refine gs_gl tyT_ok 4 rfl ?_ (hp := ?hp); case hp => exact ⟨rfl, Nat.le_of_ble_eq_true rfl⟩) | refine gs_end ?_ | refine gs_end' ?_ | refine gw_seq ?_ | refine gw_text rfl ?_ | refine gw_skip ?_ | refine gw_yes rfl ?_ | refine gw_no rfl ?_ | refine gw_exit ?_ | refine gw_block ?_ | refine gw_label ?_ | (refine gs_n tyT_ok 0 ?_ (hp := ?hp); case hp => exact ⟨by decide, by decide⟩))
  refine gs_call [2, 3] ent203 rfl (by decide) (copyImg_w h1 h2 (by omega) (by omega)) fun v F' ns ho _ _ => ?_
  obtain ⟨rfl, v1, v2, e1, e2, rfl, rfl, hv1, hv2⟩ := ho
  have hv1' := hv1
  have hv2' := hv2
  obtain ⟨ua, uc, rfl, hl1⟩ := hv1'.ls
  obtain ⟨wa, wc, rfl, hl2⟩ := hv2'.ls
  refine gs_alloc tyT_ok rfl fun b5 => ?_
  refine gs_store tyT_ok 8 rfl rfl rfl rfl rfl rfl (Nat.le_of_ble_eq_true rfl) (Nat.le_of_ble_eq_true rfl) ?_
  repeat (first | refine gs_n tyT_ok 0 ?_ | refine gs_gn tyT_ok 0 rfl ?_ | refine gs_no rfl ?_ | refine gs_end ?_ | refine gs_end' ?_ | refine gw_seq ?_ | refine gw_text rfl ?_ | refine gw_skip ?_ | refine gw_yes rfl ?_ | refine gw_no rfl ?_ | refine gw_exit ?_ | refine gw_block ?_ | refine gw_label ?_ | (refine gs_n tyT_ok 0 ?_ (hp := ?hp); case hp => exact ⟨by decide, by decide⟩))
  refine gs_pick 0 1 hr rfl rfl rfl rfl (by decide) (by omega) (by omega) fun x p1 hr1 xa xb => ?_
  refine gs_end ?_
  refine gw_join (α := SpSt) (fun _ => [(0, ptr g), (4, ptr b4), (5, ptr b5)]) (fun x => [x.p, q, q1, q2, (b3, imc k d w h (.slice a1 n1 c1) (.slice a2 n2 c2)), (b4, zimg), x.e1, x.e2, (b5, imc x.k x.d x.w x.h (.slice x.a1 x.n1 x.c1) (.slice x.a2 x.n2 x.c2)), x.j1, x.j2]) (SpSt.ok g q B) ?_ fun y e hy => ?_
  case refine_2 =>
    obtain ⟨hy1, hy2, hy3, hy4, hy5⟩ := hy
    repeat (first | refine gs_n tyT_ok 0 ?_ | refine gs_gn tyT_ok 0 rfl ?_ | refine gs_no rfl ?_ | refine gs_l tyT_ok 8 ?_ | refine gs_gl tyT_ok 8 rfl ?_ | (refine gs_l tyT_ok 8 ?_ (hp := ?hp); case hp => exact ⟨rfl, Nat.le_of_ble_eq_true rfl⟩) | (refine gs_gl tyT_ok 8 rfl ?_ (hp := ?hp); case hp => exact ⟨rfl, Nat.le_of_ble_eq_true rfl⟩) | refine gs_end ?_ | refine gs_end' ?_ | refine gw_seq ?_ | refine gw_text rfl ?_ | refine gw_skip ?_ | refine gw_yes rfl ?_ | refine gw_no rfl ?_ | refine gw_exit ?_ | refine gw_block ?_ | refine gw_label ?_ | (refine gs_n tyT_ok 0 ?_ (hp := ?hp); case hp => exact ⟨by decide, by decide⟩))
    refine gs_store tyT_ok 5 rfl rfl rfl rfl rfl rfl (Nat.le_of_ble_eq_true rfl) (Nat.le_of_ble_eq_true rfl) ?_
    repeat (first | refine gs_n tyT_ok 0 ?_ | refine gs_gn tyT_ok 0 rfl ?_ | refine gs_no rfl ?_ | refine gs_end ?_ | refine gs_end' ?_ | refine gw_seq ?_ | refine gw_text rfl ?_ | refine gw_skip ?_ | refine gw_yes rfl ?_ | refine gw_no rfl ?_ | refine gw_exit ?_ | refine gw_block ?_ | refine gw_label ?_ | (refine gs_n tyT_ok 0 ?_ (hp := ?hp); case hp => exact ⟨by decide, by decide⟩))
    exact gw_ret ⟨_, [y.p, q, q1, q2], [y.e1, y.e2], [0, 1, 2, 3, 6, 7], rv_cell tyT_ok 5 rfl rfl rfl rfl rfl (Nat.le_of_ble_eq_true rfl) .nil, ⟨[y.p, q], rfl, y.k, y.d, y.w, y.h, y.a1, y.n1, y.c1, y.a2, y.n2, y.c2, y.e1, y.e2, y.cs, y.ps, y.p, rfl, rfl, rfl, hy1, hy2, hy3, hy4, hy5⟩, rfl, rfl, by decide⟩
  have ok0 : ∀ p', RS g q (B + 10) p' → RS g q (B + 100000) p' := fun p' h => h.mono (by omega)
  refine gw_nil ?_
  by_cases k0 : x = 0
  · refine gw_nil ?_
    repeat (first | refine gs_n tyT_ok 0 ?_ | refine gs_gn tyT_ok 0 rfl ?_ | refine gs_no rfl ?_ | refine gs_end ?_ | refine gs_end' ?_ | refine gw_seq ?_ | refine gw_text rfl ?_ | refine gw_skip ?_ | refine gw_yes rfl ?_ | refine gw_no rfl ?_ | refine gw_exit ?_ | refine gw_block ?_ | refine gw_label ?_ | (refine gs_n tyT_ok 0 ?_ (hp := ?hp); case hp => exact ⟨by decide, by decide⟩) | (refine gs_tg tyT_ok rfl ?hb ?_; case hb => first | exact decide_eq_true (by omega) | exact congrArg Bool.not (decide_eq_false (by omega)) | (simp; done) | (simp; omega)) | (refine gs_fg tyT_ok rfl ?hb ?_; case hb => first | exact decide_eq_false (by omega) | exact congrArg Bool.not (decide_eq_true (by omega)) | (simp; done) | (simp; omega)) | (refine gs_t tyT_ok ?hb ?_; case hb => first | exact decide_eq_true (by omega) | exact congrArg Bool.not (decide_eq_false (by omega)) | (simp; done) | (simp; omega)) | (refine gs_f tyT_ok ?hb ?_; case hb => first | exact decide_eq_false (by omega) | exact congrArg Bool.not (decide_eq_true (by omega)) | (simp; done) | (simp; omega)))
    have hkm : 0 ≤ k % 4 ∧ k % 4 ≤ 3 := by omega
    refine gw_anyP [0, 1, 2, 3, 5, 6, 4, 7, 8, 9, 10] [.N, .L 8, .N, .N, .A 9 (.row 3 (ints [0, 5, 1 + k % 4]) 3) (some 3), .N, .E [0, 1], .N, .L 9, .N, .E [8]] rfl rfl rfl ?_
    repeat (first | refine gs_n tyT_ok 0 ?_ | refine gs_gn tyT_ok 0 rfl ?_ | refine gs_no rfl ?_ | refine gs_l tyT_ok 8 ?_ | refine gs_gl tyT_ok 8 rfl ?_ | (refine gs_l tyT_ok 8 ?_ (hp := ?hp); case hp => exact ⟨rfl, Nat.le_of_ble_eq_true rfl⟩) | (refine gs_gl tyT_ok 8 rfl ?_ (hp := ?hp); case hp => exact ⟨rfl, Nat.le_of_ble_eq_true rfl⟩))
    refine gs_pick 0 1 hr1 rfl rfl rfl rfl (by decide) (by omega) (by omega) fun r p2 hr2 ra rb => ?_
    obtain ⟨R, rfl⟩ := Int.eq_ofNat_of_zero_le ra
    refine gs_litA tyT_ok 9 (cs := ints [0, 5, 1 + k % 4]) rfl rfl rfl (by decide) rfl rfl rfl (fun bA => ?_) ⟨rfl, rfl, rfl⟩
    obtain ⟨o, he, ho⟩ := (LS.row (b := bA) (t := 3) (m := 3) (zs := [0, 5, 1 + k % 4]) rfl (Nat.le_refl _)).at (k := R) (by simp; omega)
    cases he
    repeat (first | refine gs_n tyT_ok 0 ?_ | refine gs_gn tyT_ok 0 rfl ?_ | refine gs_no rfl ?_)
    refine gs_at 9 tyT_ok rfl rfl rfl rfl ho ?_
    repeat (first | refine gs_n tyT_ok 0 ?_ | refine gs_gn tyT_ok 0 rfl ?_ | refine gs_no rfl ?_)
    refine gs_store tyT_ok 8 rfl rfl rfl rfl rfl rfl (Nat.le_of_ble_eq_true rfl) (Nat.le_of_ble_eq_true rfl) ?_
    repeat (first | refine gs_n tyT_ok 0 ?_ | refine gs_gn tyT_ok 0 rfl ?_ | refine gs_no rfl ?_ | refine gs_end ?_ | refine gs_end' ?_ | refine gw_seq ?_ | refine gw_text rfl ?_ | refine gw_skip ?_ | refine gw_yes rfl ?_ | refine gw_no rfl ?_ | refine gw_exit ?_ | refine gw_block ?_ | refine gw_label ?_ | (refine gs_n tyT_ok 0 ?_ (hp := ?hp); case hp => exact ⟨by decide, by decide⟩))
    exact ⟨⟨_, d, w, h, ua, cs.length, uc, e1, cs, wa, ps.length, wc, e2, ps, p2, _, _⟩, ⟨hl1, hl2, by dsimp only; omega, by dsimp only; omega, ok0 _ (RS.mono hr2 (by omega))⟩, rfl, rfl, rfl, rfl, trivial⟩
  by_cases k1 : x = 1
  · repeat (first | refine gs_n tyT_ok 0 ?_ | refine gs_gn tyT_ok 0 rfl ?_ | refine gs_no rfl ?_ | refine gs_end ?_ | refine gs_end' ?_ | refine gw_seq ?_ | refine gw_text rfl ?_ | refine gw_skip ?_ | refine gw_yes rfl ?_ | refine gw_no rfl ?_ | refine gw_exit ?_ | refine gw_block ?_ | refine gw_label ?_ | (refine gs_n tyT_ok 0 ?_ (hp := ?hp); case hp => exact ⟨by decide, by decide⟩) | (refine gs_tg tyT_ok rfl ?hb ?_; case hb => first | exact decide_eq_true (by omega) | exact congrArg Bool.not (decide_eq_false (by omega)) | (simp; done) | (simp; omega)) | (refine gs_fg tyT_ok rfl ?hb ?_; case hb => first | exact decide_eq_false (by omega) | exact congrArg Bool.not (decide_eq_true (by omega)) | (simp; done) | (simp; omega)) | (refine gs_t tyT_ok ?hb ?_; case hb => first | exact decide_eq_true (by omega) | exact congrArg Bool.not (decide_eq_false (by omega)) | (simp; done) | (simp; omega)) | (refine gs_f tyT_ok ?hb ?_; case hb => first | exact decide_eq_false (by omega) | exact congrArg Bool.not (decide_eq_true (by omega)) | (simp; done) | (simp; omega)))
    refine gs_lit tyT_ok (cs := ints [0, 3, 16]) rfl rfl rfl (by decide) rfl fun bA => ?_
    repeat (first | refine gs_n tyT_ok 0 ?_ | refine gs_gn tyT_ok 0 rfl ?_ | refine gs_no rfl ?_ | refine gs_end ?_ | refine gs_end' ?_ | refine gw_seq ?_ | refine gw_text rfl ?_ | refine gw_skip ?_ | refine gw_yes rfl ?_ | refine gw_no rfl ?_ | refine gw_exit ?_ | refine gw_block ?_ | refine gw_label ?_ | (refine gs_n tyT_ok 0 ?_ (hp := ?hp); case hp => exact ⟨by decide, by decide⟩))
    refine gs_pick 0 1 hr1 rfl rfl rfl rfl (by decide) (by omega) (by omega) fun r p2 hr2 ra rb => ?_
    obtain ⟨R, rfl⟩ := Int.eq_ofNat_of_zero_le ra
    obtain ⟨o, he, ho⟩ := (LS.row (b := bA) (t := 3) (m := 3) (zs := [0, 3, 16]) rfl (Nat.le_refl _)).at (k := R) (by simp; omega)
    cases he
    repeat (first | refine gs_n tyT_ok 0 ?_ | refine gs_gn tyT_ok 0 rfl ?_ | refine gs_no rfl ?_ | refine gs_end ?_ | refine gs_end' ?_ | refine gw_seq ?_ | refine gw_text rfl ?_ | refine gw_skip ?_ | refine gw_yes rfl ?_ | refine gw_no rfl ?_ | refine gw_exit ?_ | refine gw_block ?_ | refine gw_label ?_ | (refine gs_n tyT_ok 0 ?_ (hp := ?hp); case hp => exact ⟨by decide, by decide⟩))
    refine gs_at 10 tyT_ok rfl rfl rfl rfl ho ?_
    repeat (first | refine gs_n tyT_ok 0 ?_ | refine gs_gn tyT_ok 0 rfl ?_ | refine gs_no rfl ?_ | refine gs_end ?_ | refine gs_end' ?_ | refine gw_seq ?_ | refine gw_text rfl ?_ | refine gw_skip ?_ | refine gw_yes rfl ?_ | refine gw_no rfl ?_ | refine gw_exit ?_ | refine gw_block ?_ | refine gw_label ?_ | (refine gs_n tyT_ok 0 ?_ (hp := ?hp); case hp => exact ⟨by decide, by decide⟩))
    refine gs_store tyT_ok 8 rfl rfl rfl rfl rfl rfl (Nat.le_of_ble_eq_true rfl) (Nat.le_of_ble_eq_true rfl) ?_
    repeat (first | refine gs_n tyT_ok 0 ?_ | refine gs_gn tyT_ok 0 rfl ?_ | refine gs_no rfl ?_ | refine gs_end ?_ | refine gs_end' ?_ | refine gw_seq ?_ | refine gw_text rfl ?_ | refine gw_skip ?_ | refine gw_yes rfl ?_ | refine gw_no rfl ?_ | refine gw_exit ?_ | refine gw_block ?_ | refine gw_label ?_ | (refine gs_n tyT_ok 0 ?_ (hp := ?hp); case hp => exact ⟨by decide, by decide⟩))
    exact ⟨⟨k, _, w, h, ua, cs.length, uc, e1, cs, wa, ps.length, wc, e2, ps, p2, _, _⟩, ⟨hl1, hl2, by dsimp only; omega, by dsimp only; omega, ok0 _ (RS.mono hr2 (by omega))⟩, rfl, rfl, rfl, rfl, trivial⟩
  by_cases k2 : x = 2
  · refine gw_nil ?_
    repeat (first | refine gs_n tyT_ok 0 ?_ | refine gs_gn tyT_ok 0 rfl ?_ | refine gs_no rfl ?_ | refine gs_end ?_ | refine gs_end' ?_ | refine gw_seq ?_ | refine gw_text rfl ?_ | refine gw_skip ?_ | refine gw_yes rfl ?_ | refine gw_no rfl ?_ | refine gw_exit ?_ | refine gw_block ?_ | refine gw_label ?_ | (refine gs_n tyT_ok 0 ?_ (hp := ?hp); case hp => exact ⟨by decide, by decide⟩) | (refine gs_tg tyT_ok rfl ?hb ?_; case hb => first | exact decide_eq_true (by omega) | exact congrArg Bool.not (decide_eq_false (by omega)) | (simp; done) | (simp; omega)) | (refine gs_fg tyT_ok rfl ?hb ?_; case hb => first | exact decide_eq_false (by omega) | exact congrArg Bool.not (decide_eq_true (by omega)) | (simp; done) | (simp; omega)) | (refine gs_t tyT_ok ?hb ?_; case hb => first | exact decide_eq_true (by omega) | exact congrArg Bool.not (decide_eq_false (by omega)) | (simp; done) | (simp; omega)) | (refine gs_f tyT_ok ?hb ?_; case hb => first | exact decide_eq_false (by omega) | exact congrArg Bool.not (decide_eq_true (by omega)) | (simp; done) | (simp; omega)))
    refine gw_anyP [0, 1, 2, 4, 5, 3, 6, 7, 8, 9] [.N, .L 8, .N, .A 9 (.row 3 (ints [0, w + 1, 21]) 3) (some 3), .N, .E [0, 1], .N, .L 9, .N, .E [8]] rfl rfl rfl ?_
    repeat (first | refine gs_n tyT_ok 0 ?_ | refine gs_gn tyT_ok 0 rfl ?_ | refine gs_no rfl ?_ | refine gs_l tyT_ok 8 ?_ | refine gs_gl tyT_ok 8 rfl ?_ | (refine gs_l tyT_ok 8 ?_ (hp := ?hp); case hp => exact ⟨rfl, Nat.le_of_ble_eq_true rfl⟩) | (refine gs_gl tyT_ok 8 rfl ?_ (hp := ?hp); case hp => exact ⟨rfl, Nat.le_of_ble_eq_true rfl⟩))
    refine gs_pick 0 1 hr1 rfl rfl rfl rfl (by decide) (by omega) (by omega) fun r p2 hr2 ra rb => ?_
    obtain ⟨R, rfl⟩ := Int.eq_ofNat_of_zero_le ra
    refine gs_litA tyT_ok 9 (cs := ints [0, w + 1, 21]) rfl rfl rfl (by decide) rfl rfl rfl (fun bA => ?_) ⟨rfl, rfl, rfl⟩
    obtain ⟨o, he, ho⟩ := (LS.row (b := bA) (t := 3) (m := 3) (zs := [0, w + 1, 21]) rfl (Nat.le_refl _)).at (k := R) (by simp; omega)
    cases he
    repeat (first | refine gs_n tyT_ok 0 ?_ | refine gs_gn tyT_ok 0 rfl ?_ | refine gs_no rfl ?_)
    refine gs_at 9 tyT_ok rfl rfl rfl rfl ho ?_
    repeat (first | refine gs_n tyT_ok 0 ?_ | refine gs_gn tyT_ok 0 rfl ?_ | refine gs_no rfl ?_)
    refine gs_store tyT_ok 8 rfl rfl rfl rfl rfl rfl (Nat.le_of_ble_eq_true rfl) (Nat.le_of_ble_eq_true rfl) ?_
    repeat (first | refine gs_n tyT_ok 0 ?_ | refine gs_gn tyT_ok 0 rfl ?_ | refine gs_no rfl ?_ | refine gs_end ?_ | refine gs_end' ?_ | refine gw_seq ?_ | refine gw_text rfl ?_ | refine gw_skip ?_ | refine gw_yes rfl ?_ | refine gw_no rfl ?_ | refine gw_exit ?_ | refine gw_block ?_ | refine gw_label ?_ | (refine gs_n tyT_ok 0 ?_ (hp := ?hp); case hp => exact ⟨by decide, by decide⟩))
    exact ⟨⟨k, d, _, h, ua, cs.length, uc, e1, cs, wa, ps.length, wc, e2, ps, p2, _, _⟩, ⟨hl1, hl2, by dsimp only; omega, by dsimp only; omega, ok0 _ (RS.mono hr2 (by omega))⟩, rfl, rfl, rfl, rfl, trivial⟩
  by_cases k3 : x = 3
  · refine gw_nil ?_
    obtain ⟨o, rfl, _⟩ := hl2.at (k := 0) (by omega)
    have hc2 := hl2.2.1
    have ht := hl2.tail z3
    by_cases k9 : 1 < wc
    · repeat (first | refine gs_n tyT_ok 0 ?_ | refine gs_gn tyT_ok 0 rfl ?_ | refine gs_no rfl ?_ | refine gs_l tyT_ok 8 ?_ | refine gs_gl tyT_ok 8 rfl ?_ | (refine gs_l tyT_ok 8 ?_ (hp := ?hp); case hp => exact ⟨rfl, Nat.le_of_ble_eq_true rfl⟩) | (refine gs_gl tyT_ok 8 rfl ?_ (hp := ?hp); case hp => exact ⟨rfl, Nat.le_of_ble_eq_true rfl⟩) | refine gs_end ?_ | refine gs_end' ?_ | refine gw_seq ?_ | refine gw_text rfl ?_ | refine gw_skip ?_ | refine gw_yes rfl ?_ | refine gw_no rfl ?_ | refine gw_exit ?_ | refine gw_block ?_ | refine gw_label ?_ | (refine gs_n tyT_ok 0 ?_ (hp := ?hp); case hp => exact ⟨by decide, by decide⟩) | (refine gs_tg tyT_ok rfl ?hb ?_; case hb => first | exact decide_eq_true (by omega) | exact congrArg Bool.not (decide_eq_false (by omega)) | (simp; done) | (simp; omega)) | (refine gs_fg tyT_ok rfl ?hb ?_; case hb => first | exact decide_eq_false (by omega) | exact congrArg Bool.not (decide_eq_true (by omega)) | (simp; done) | (simp; omega)) | (refine gs_t tyT_ok ?hb ?_; case hb => first | exact decide_eq_true (by omega) | exact congrArg Bool.not (decide_eq_false (by omega)) | (simp; done) | (simp; omega)) | (refine gs_f tyT_ok ?hb ?_; case hb => first | exact decide_eq_false (by omega) | exact congrArg Bool.not (decide_eq_true (by omega)) | (simp; done) | (simp; omega)))
      refine gs_store tyT_ok 8 rfl rfl rfl rfl rfl rfl (Nat.le_of_ble_eq_true rfl) (Nat.le_of_ble_eq_true rfl) ?_
      repeat (first | refine gs_n tyT_ok 0 ?_ | refine gs_gn tyT_ok 0 rfl ?_ | refine gs_no rfl ?_ | refine gs_end ?_ | refine gs_end' ?_ | refine gw_seq ?_ | refine gw_text rfl ?_ | refine gw_skip ?_ | refine gw_yes rfl ?_ | refine gw_no rfl ?_ | refine gw_exit ?_ | refine gw_block ?_ | refine gw_label ?_ | (refine gs_n tyT_ok 0 ?_ (hp := ?hp); case hp => exact ⟨by decide, by decide⟩))
      exact ⟨⟨k, d, w, h, ua, cs.length, uc, e1, cs, some ⟨e2.1, o + 1 * 1, none⟩, ps.length - 1, wc - 1, e2, ps.drop 1, p1, _, _⟩, ⟨hl1, ht, by dsimp only; omega, by simp; omega, ok0 _ (RS.mono hr1 (by omega))⟩, rfl, rfl, rfl, rfl, trivial⟩
    · repeat (first | refine gs_n tyT_ok 0 ?_ | refine gs_gn tyT_ok 0 rfl ?_ | refine gs_no rfl ?_ | refine gs_l tyT_ok 8 ?_ | refine gs_gl tyT_ok 8 rfl ?_ | (refine gs_l tyT_ok 8 ?_ (hp := ?hp); case hp => exact ⟨rfl, Nat.le_of_ble_eq_true rfl⟩) | (refine gs_gl tyT_ok 8 rfl ?_ (hp := ?hp); case hp => exact ⟨rfl, Nat.le_of_ble_eq_true rfl⟩) | refine gs_end ?_ | refine gs_end' ?_ | refine gw_seq ?_ | refine gw_text rfl ?_ | refine gw_skip ?_ | refine gw_yes rfl ?_ | refine gw_no rfl ?_ | refine gw_exit ?_ | refine gw_block ?_ | refine gw_label ?_ | (refine gs_n tyT_ok 0 ?_ (hp := ?hp); case hp => exact ⟨by decide, by decide⟩) | (refine gs_tg tyT_ok rfl ?hb ?_; case hb => first | exact decide_eq_true (by omega) | exact congrArg Bool.not (decide_eq_false (by omega)) | (simp; done) | (simp; omega)) | (refine gs_fg tyT_ok rfl ?hb ?_; case hb => first | exact decide_eq_false (by omega) | exact congrArg Bool.not (decide_eq_true (by omega)) | (simp; done) | (simp; omega)) | (refine gs_t tyT_ok ?hb ?_; case hb => first | exact decide_eq_true (by omega) | exact congrArg Bool.not (decide_eq_false (by omega)) | (simp; done) | (simp; omega)) | (refine gs_f tyT_ok ?hb ?_; case hb => first | exact decide_eq_false (by omega) | exact congrArg Bool.not (decide_eq_true (by omega)) | (simp; done) | (simp; omega)))
      refine gs_n tyT_ok 1 ?_ (hp := ?hp)
      case hp => exact ⟨by show (1 : Int) = (wc : Int); omega, by show (ps.length : Int) = (wc : Int); omega⟩
      repeat (first | refine gs_n tyT_ok 0 ?_ | refine gs_gn tyT_ok 0 rfl ?_ | refine gs_no rfl ?_ | refine gs_end ?_ | refine gs_end' ?_ | refine gw_seq ?_ | refine gw_text rfl ?_ | refine gw_skip ?_ | refine gw_yes rfl ?_ | refine gw_no rfl ?_ | refine gw_exit ?_ | refine gw_block ?_ | refine gw_label ?_ | (refine gs_n tyT_ok 0 ?_ (hp := ?hp); case hp => exact ⟨by decide, by decide⟩))
      refine gs_store tyT_ok 8 rfl rfl rfl rfl rfl rfl (Nat.le_of_ble_eq_true rfl) (Nat.le_of_ble_eq_true rfl) ?_
      repeat (first | refine gs_n tyT_ok 0 ?_ | refine gs_gn tyT_ok 0 rfl ?_ | refine gs_no rfl ?_ | refine gs_end ?_ | refine gs_end' ?_ | refine gw_seq ?_ | refine gw_text rfl ?_ | refine gw_skip ?_ | refine gw_yes rfl ?_ | refine gw_no rfl ?_ | refine gw_exit ?_ | refine gw_block ?_ | refine gw_label ?_ | (refine gs_n tyT_ok 0 ?_ (hp := ?hp); case hp => exact ⟨by decide, by decide⟩))
      exact ⟨⟨k, d, w, h, ua, cs.length, uc, e1, cs, some ⟨e2.1, o, none⟩, 0, 0, e2, [], p1, _, _⟩, ⟨hl1, hl2.noneAt, by dsimp only; omega, by simp, ok0 _ (RS.mono hr1 (by omega))⟩, rfl, rfl, rfl, rfl, trivial⟩
  by_cases k4 : x = 4
  · refine gw_nil ?_
    repeat (first | refine gs_n tyT_ok 0 ?_ | refine gs_gn tyT_ok 0 rfl ?_ | refine gs_no rfl ?_ | refine gs_end ?_ | refine gs_end' ?_ | refine gw_seq ?_ | refine gw_text rfl ?_ | refine gw_skip ?_ | refine gw_yes rfl ?_ | refine gw_no rfl ?_ | refine gw_exit ?_ | refine gw_block ?_ | refine gw_label ?_ | (refine gs_n tyT_ok 0 ?_ (hp := ?hp); case hp => exact ⟨by decide, by decide⟩) | (refine gs_tg tyT_ok rfl ?hb ?_; case hb => first | exact decide_eq_true (by omega) | exact congrArg Bool.not (decide_eq_false (by omega)) | (simp; done) | (simp; omega)) | (refine gs_fg tyT_ok rfl ?hb ?_; case hb => first | exact decide_eq_false (by omega) | exact congrArg Bool.not (decide_eq_true (by omega)) | (simp; done) | (simp; omega)) | (refine gs_t tyT_ok ?hb ?_; case hb => first | exact decide_eq_true (by omega) | exact congrArg Bool.not (decide_eq_false (by omega)) | (simp; done) | (simp; omega)) | (refine gs_f tyT_ok ?hb ?_; case hb => first | exact decide_eq_false (by omega) | exact congrArg Bool.not (decide_eq_true (by omega)) | (simp; done) | (simp; omega)))
    refine gw_anyP [0, 1, 2, 3, 4, 5, 6, 8, 9, 7, 10, 11, 12, 13] [.N, .L 8, .N, .N, .L 8, .N, .E [0, 1], .A 9 (.row 3 (ints [-1, 4294967296]) 2) (some 2), .N, .E [0, 1], .N, .L 9, .N, .E [7]] rfl rfl rfl ?_
    repeat (first | refine gs_n tyT_ok 0 ?_ | refine gs_gn tyT_ok 0 rfl ?_ | refine gs_no rfl ?_ | refine gs_l tyT_ok 8 ?_ | refine gs_gl tyT_ok 8 rfl ?_ | (refine gs_l tyT_ok 8 ?_ (hp := ?hp); case hp => exact ⟨rfl, Nat.le_of_ble_eq_true rfl⟩) | (refine gs_gl tyT_ok 8 rfl ?_ (hp := ?hp); case hp => exact ⟨rfl, Nat.le_of_ble_eq_true rfl⟩))
    refine gs_pick 0 1 hr1 rfl rfl rfl rfl (by decide) (by omega) (by omega) fun r0 p2 hr2 r0a r0b => ?_
    obtain ⟨R0, rfl⟩ := Int.eq_ofNat_of_zero_le r0a
    have hR0 : R0 < ps.length := by omega
    repeat (first | refine gs_n tyT_ok 0 ?_ | refine gs_gn tyT_ok 0 rfl ?_ | refine gs_no rfl ?_)
    refine gs_pick 0 1 hr2 rfl rfl rfl rfl (by decide) (by omega) (by omega) fun r p3 hr3 ra rb => ?_
    obtain ⟨R, rfl⟩ := Int.eq_ofNat_of_zero_le ra
    refine gs_litA tyT_ok 9 (cs := ints [-1, 4294967296]) rfl rfl rfl (by decide) rfl rfl rfl (fun bA => ?_) ⟨rfl, rfl, rfl⟩
    obtain ⟨o, he, ho⟩ := (LS.row (b := bA) (t := 3) (m := 2) (zs := [-1, 4294967296]) rfl (Nat.le_refl _)).at (k := R) (by simp; omega)
    cases he
    repeat (first | refine gs_n tyT_ok 0 ?_ | refine gs_gn tyT_ok 0 rfl ?_ | refine gs_no rfl ?_)
    refine gs_at 9 tyT_ok rfl rfl rfl rfl ho ?_
    obtain ⟨bb, cap, rfl, rfl, hle, hset⟩ := hv2.set hR0
    repeat (first | refine gs_n tyT_ok 0 ?_ | refine gs_gn tyT_ok 0 rfl ?_ | refine gs_no rfl ?_)
    refine gs_seti 7 rfl rfl rfl hR0 hle ?_
    repeat (first | refine gs_n tyT_ok 0 ?_ | refine gs_gn tyT_ok 0 rfl ?_ | refine gs_no rfl ?_ | refine gs_end ?_ | refine gs_end' ?_ | refine gw_seq ?_ | refine gw_text rfl ?_ | refine gw_skip ?_ | refine gw_yes rfl ?_ | refine gw_no rfl ?_ | refine gw_exit ?_ | refine gw_block ?_ | refine gw_label ?_ | (refine gs_n tyT_ok 0 ?_ (hp := ?hp); case hp => exact ⟨by decide, by decide⟩))
    exact ⟨⟨k, d, w, h, ua, cs.length, uc, e1, cs, some ⟨bb, 0, none⟩, ps.length, wc, (bb, _), ps.set R0 _, p3, _, _⟩, ⟨hl1, (hset _).ls', by dsimp only; omega, by simp; omega, ok0 _ (RS.mono hr3 (by omega))⟩, rfl, rfl, rfl, rfl, trivial⟩
  by_cases k5 : x = 5
  · repeat (first | refine gs_n tyT_ok 0 ?_ | refine gs_gn tyT_ok 0 rfl ?_ | refine gs_no rfl ?_ | refine gs_end ?_ | refine gs_end' ?_ | refine gw_seq ?_ | refine gw_text rfl ?_ | refine gw_skip ?_ | refine gw_yes rfl ?_ | refine gw_no rfl ?_ | refine gw_exit ?_ | refine gw_block ?_ | refine gw_label ?_ | (refine gs_n tyT_ok 0 ?_ (hp := ?hp); case hp => exact ⟨by decide, by decide⟩) | (refine gs_tg tyT_ok rfl ?hb ?_; case hb => first | exact decide_eq_true (by omega) | exact congrArg Bool.not (decide_eq_false (by omega)) | (simp; done) | (simp; omega)) | (refine gs_fg tyT_ok rfl ?hb ?_; case hb => first | exact decide_eq_false (by omega) | exact congrArg Bool.not (decide_eq_true (by omega)) | (simp; done) | (simp; omega)) | (refine gs_t tyT_ok ?hb ?_; case hb => first | exact decide_eq_true (by omega) | exact congrArg Bool.not (decide_eq_false (by omega)) | (simp; done) | (simp; omega)) | (refine gs_f tyT_ok ?hb ?_; case hb => first | exact decide_eq_false (by omega) | exact congrArg Bool.not (decide_eq_true (by omega)) | (simp; done) | (simp; omega)))
    refine gw_anyP [0, 1, 3, 4, 2, 5, 6, 7, 8, 9, 10] [.N, .L 8, .A 9 (.row 3 (ints [-1, 16777216, 5]) 3) (some 3), .N, .E [0, 1], .N, .L 9, .E [], .E [6, 10], .N, .E [8]] rfl rfl rfl ?_
    repeat (first | refine gs_n tyT_ok 0 ?_ | refine gs_gn tyT_ok 0 rfl ?_ | refine gs_no rfl ?_ | refine gs_l tyT_ok 8 ?_ | refine gs_gl tyT_ok 8 rfl ?_ | (refine gs_l tyT_ok 8 ?_ (hp := ?hp); case hp => exact ⟨rfl, Nat.le_of_ble_eq_true rfl⟩) | (refine gs_gl tyT_ok 8 rfl ?_ (hp := ?hp); case hp => exact ⟨rfl, Nat.le_of_ble_eq_true rfl⟩))
    refine gs_pick 0 1 hr1 rfl rfl rfl rfl (by decide) (by omega) (by omega) fun r p2 hr2 ra rb => ?_
    obtain ⟨R, rfl⟩ := Int.eq_ofNat_of_zero_le ra
    refine gs_litA tyT_ok 9 (cs := ints [-1, 16777216, 5]) rfl rfl rfl (by decide) rfl rfl rfl (fun bA => ?_) ⟨rfl, rfl, rfl⟩
    obtain ⟨o, he, ho⟩ := (LS.row (b := bA) (t := 3) (m := 3) (zs := [-1, 16777216, 5]) rfl (Nat.le_refl _)).at (k := R) (by simp; omega)
    cases he
    repeat (first | refine gs_n tyT_ok 0 ?_ | refine gs_gn tyT_ok 0 rfl ?_ | refine gs_no rfl ?_)
    refine gs_at 9 tyT_ok rfl rfl rfl rfl ho ?_
    refine gs_push 6 (n := List.getD [-1, 16777216, 5] R 0) rfl rfl hv1 (fun _ => rfl) (by omega) fun b a1 c1 e3 hv3 => ?_
    repeat (first | refine gs_n tyT_ok 0 ?_ | refine gs_gn tyT_ok 0 rfl ?_ | refine gs_no rfl ?_)
    refine gs_store tyT_ok 8 rfl rfl rfl rfl rfl rfl (Nat.le_of_ble_eq_true rfl) (Nat.le_of_ble_eq_true rfl) ?_
    repeat (first | refine gs_n tyT_ok 0 ?_ | refine gs_gn tyT_ok 0 rfl ?_ | refine gs_no rfl ?_ | refine gs_end ?_ | refine gs_end' ?_ | refine gw_seq ?_ | refine gw_text rfl ?_ | refine gw_skip ?_ | refine gw_yes rfl ?_ | refine gw_no rfl ?_ | refine gw_exit ?_ | refine gw_block ?_ | refine gw_label ?_ | (refine gs_n tyT_ok 0 ?_ (hp := ?hp); case hp => exact ⟨by decide, by decide⟩))
    exact ⟨⟨k, d, w, h, a1, cs.length + 1, c1, e3, cs ++ [_], wa, ps.length, wc, e2, ps, p2, _, _⟩, ⟨hv3.ls', hl2, by simp; omega, by dsimp only; omega, ok0 _ (RS.mono hr2 (by omega))⟩, rfl, rfl, rfl, rfl, trivial⟩
  by_cases k6 : x = 6
  · refine gw_nil ?_
    repeat (first | refine gs_n tyT_ok 0 ?_ | refine gs_gn tyT_ok 0 rfl ?_ | refine gs_no rfl ?_ | refine gs_end ?_ | refine gs_end' ?_ | refine gw_seq ?_ | refine gw_text rfl ?_ | refine gw_skip ?_ | refine gw_yes rfl ?_ | refine gw_no rfl ?_ | refine gw_exit ?_ | refine gw_block ?_ | refine gw_label ?_ | (refine gs_n tyT_ok 0 ?_ (hp := ?hp); case hp => exact ⟨by decide, by decide⟩) | (refine gs_tg tyT_ok rfl ?hb ?_; case hb => first | exact decide_eq_true (by omega) | exact congrArg Bool.not (decide_eq_false (by omega)) | (simp; done) | (simp; omega)) | (refine gs_fg tyT_ok rfl ?hb ?_; case hb => first | exact decide_eq_false (by omega) | exact congrArg Bool.not (decide_eq_true (by omega)) | (simp; done) | (simp; omega)) | (refine gs_t tyT_ok ?hb ?_; case hb => first | exact decide_eq_true (by omega) | exact congrArg Bool.not (decide_eq_false (by omega)) | (simp; done) | (simp; omega)) | (refine gs_f tyT_ok ?hb ?_; case hb => first | exact decide_eq_false (by omega) | exact congrArg Bool.not (decide_eq_true (by omega)) | (simp; done) | (simp; omega)))
    refine gw_loopL (fun _ (y : Nat × Value × (Nat × GO) × List Int) => [(0, ptr g), (4, ptr b4), (5, ptr b5), (6, .int .i64 y.1)]) (fun _ y => [p1, q, q1, q2, (b3, imc k d w h (.slice a1 n1 c1) (.slice a2 n2 c2)), (b4, zimg), y.2.2.1, e2, (b5, imc k d w h y.2.1 (.slice wa ps.length wc)), (0, .none), (0, .none)]) (fun m y => y.1 + m = 257 ∧ OI y.2.1 y.2.2.1 y.2.2.2 ∧ y.2.2.2.length = cs.length + y.1) 257 (0, .slice ua cs.length uc, e1, cs) ⟨rfl, hv1, rfl⟩ rfl ⟨rfl, rfl, rfl, rfl, trivial⟩ fun m ⟨j, v, e3, cs2⟩ e ⟨hj, hv, hl⟩ => ?_
    dsimp only at hj hv hl ⊢
    have hv' := hv
    obtain ⟨ta, tc, rfl, hl3⟩ := hv'.ls
    repeat (first | refine gs_n tyT_ok 0 ?_ | refine gs_gn tyT_ok 0 rfl ?_ | refine gs_no rfl ?_ | refine gs_end ?_ | refine gs_end' ?_ | refine gw_seq ?_ | refine gw_text rfl ?_ | refine gw_skip ?_ | refine gw_yes rfl ?_ | refine gw_no rfl ?_ | refine gw_exit ?_ | refine gw_block ?_ | refine gw_label ?_ | (refine gs_n tyT_ok 0 ?_ (hp := ?hp); case hp => exact ⟨by decide, by decide⟩))
    by_cases k9 : j < 257
    · (refine gs_t tyT_ok ?hb ?_; case hb => first | exact decide_eq_true (by omega) | exact congrArg Bool.not (decide_eq_false (by omega)) | (simp; done) | (simp; omega))
      repeat (first | refine gs_n tyT_ok 0 ?_ | refine gs_gn tyT_ok 0 rfl ?_ | refine gs_no rfl ?_ | refine gs_l tyT_ok 8 ?_ | refine gs_gl tyT_ok 8 rfl ?_ | (refine gs_l tyT_ok 8 ?_ (hp := ?hp); case hp => exact ⟨rfl, Nat.le_of_ble_eq_true rfl⟩) | (refine gs_gl tyT_ok 8 rfl ?_ (hp := ?hp); case hp => exact ⟨rfl, Nat.le_of_ble_eq_true rfl⟩) | refine gs_end ?_ | refine gs_end' ?_ | refine gw_seq ?_ | refine gw_text rfl ?_ | refine gw_skip ?_ | refine gw_yes rfl ?_ | refine gw_no rfl ?_ | refine gw_exit ?_ | refine gw_block ?_ | refine gw_label ?_ | (refine gs_n tyT_ok 0 ?_ (hp := ?hp); case hp => exact ⟨by decide, by decide⟩))
      refine gs_push 6 (n := 7) rfl rfl hv (fun _ => rfl) (by omega) fun b a1 c1 e4 hv4 => ?_
      repeat (first | refine gs_n tyT_ok 0 ?_ | refine gs_gn tyT_ok 0 rfl ?_ | refine gs_no rfl ?_)
      refine gs_store tyT_ok 8 rfl rfl rfl rfl rfl rfl (Nat.le_of_ble_eq_true rfl) (Nat.le_of_ble_eq_true rfl) ?_
      refine gs_end ?_
      refine gw_weak [0, 1, 2, 3, 4, 5, 6, 7, 8, 9, 10] (by decide) rfl ?_
      repeat (first | refine gs_n tyT_ok 0 ?_ | refine gs_gn tyT_ok 0 rfl ?_ | refine gs_no rfl ?_ | refine gs_end ?_ | refine gs_end' ?_ | refine gw_seq ?_ | refine gw_text rfl ?_ | refine gw_skip ?_ | refine gw_yes rfl ?_ | refine gw_no rfl ?_ | refine gw_exit ?_ | refine gw_block ?_ | refine gw_label ?_ | (refine gs_n tyT_ok 0 ?_ (hp := ?hp); case hp => exact ⟨by decide, by decide⟩))
      exact ⟨m - 1, by omega, (j + 1, _, e4, cs2 ++ [7]), ⟨by show j + 1 + (m - 1) = _; omega, hv4, by show (cs2 ++ [(7 : Int)]).length = cs.length + (j + 1); rw [List.length_append, hl]; rfl⟩, rfl, rfl, rfl, rfl, rfl, trivial⟩
    (refine gs_f tyT_ok ?hb ?_; case hb => first | exact decide_eq_false (by omega) | exact congrArg Bool.not (decide_eq_true (by omega)) | (simp; done) | (simp; omega))
    repeat (first | refine gs_n tyT_ok 0 ?_ | refine gs_gn tyT_ok 0 rfl ?_ | refine gs_no rfl ?_ | refine gs_end ?_ | refine gs_end' ?_ | refine gw_seq ?_ | refine gw_text rfl ?_ | refine gw_skip ?_ | refine gw_yes rfl ?_ | refine gw_no rfl ?_ | refine gw_exit ?_ | refine gw_block ?_ | refine gw_label ?_ | (refine gs_n tyT_ok 0 ?_ (hp := ?hp); case hp => exact ⟨by decide, by decide⟩))
    exact ⟨⟨k, d, w, h, ta, cs2.length, tc, e3, cs2, wa, ps.length, wc, e2, ps, p1, _, _⟩, ⟨hl3, hl2, by dsimp only; omega, by dsimp only; omega, ok0 _ (RS.mono hr1 (by omega))⟩, rfl, rfl, rfl, rfl, trivial⟩
  refine gw_nil ?_
  repeat (first | refine gs_n tyT_ok 0 ?_ | refine gs_gn tyT_ok 0 rfl ?_ | refine gs_no rfl ?_ | refine gs_end ?_ | refine gs_end' ?_ | refine gw_seq ?_ | refine gw_text rfl ?_ | refine gw_skip ?_ | refine gw_yes rfl ?_ | refine gw_no rfl ?_ | refine gw_exit ?_ | refine gw_block ?_ | refine gw_label ?_ | (refine gs_n tyT_ok 0 ?_ (hp := ?hp); case hp => exact ⟨by decide, by decide⟩) | (refine gs_tg tyT_ok rfl ?hb ?_; case hb => first | exact decide_eq_true (by omega) | exact congrArg Bool.not (decide_eq_false (by omega)) | (simp; done) | (simp; omega)) | (refine gs_fg tyT_ok rfl ?hb ?_; case hb => first | exact decide_eq_false (by omega) | exact congrArg Bool.not (decide_eq_true (by omega)) | (simp; done) | (simp; omega)) | (refine gs_t tyT_ok ?hb ?_; case hb => first | exact decide_eq_true (by omega) | exact congrArg Bool.not (decide_eq_false (by omega)) | (simp; done) | (simp; omega)) | (refine gs_f tyT_ok ?hb ?_; case hb => first | exact decide_eq_false (by omega) | exact congrArg Bool.not (decide_eq_true (by omega)) | (simp; done) | (simp; omega)))
  refine gs_store tyT_ok 8 rfl rfl rfl rfl rfl rfl (Nat.le_of_ble_eq_true rfl) (Nat.le_of_ble_eq_true rfl) ?_
  repeat (first | refine gs_n tyT_ok 0 ?_ | refine gs_gn tyT_ok 0 rfl ?_ | refine gs_no rfl ?_ | refine gs_end ?_ | refine gs_end' ?_ | refine gw_seq ?_ | refine gw_text rfl ?_ | refine gw_skip ?_ | refine gw_yes rfl ?_ | refine gw_no rfl ?_ | refine gw_exit ?_ | refine gw_block ?_ | refine gw_label ?_ | (refine gs_n tyT_ok 0 ?_ (hp := ?hp); case hp => exact ⟨by decide, by decide⟩))
  exact ⟨⟨k, d, w, _, ua, cs.length, uc, e1, cs, wa, ps.length, wc, e2, ps, p1, _, _⟩, ⟨hl1, hl2, by dsimp only; omega, by dsimp only; omega, ok0 _ (RS.mono hr1 (by omega))⟩, rfl, rfl, rfl, rfl, trivial⟩
set_option maxHeartbeats 1000000 in
theorem any_w {g : Nat} {p q : Nat × GO} {B : Nat} (hr : RS g q B p) (hB : B ≤ 10000000) : Trip Try.prog 80 [ptr g] [p, q] (AnyDrawn g q (B + 20000)) := by
  refine trip_of Try.func80 rfl (by simp [Try.ntmps80]) ?_
  refine gw_seq (gw_text rfl ?_)
  refine gs_alloc tyT_ok rfl fun b2 => ?_
  repeat (first | refine gs_n tyT_ok 0 ?_ | refine gs_gn tyT_ok 0 rfl ?_ | refine gs_no rfl ?_ | refine gs_end ?_ | refine gs_end' ?_ | refine gw_seq ?_ | refine gw_text rfl ?_ | refine gw_skip ?_ | refine gw_yes rfl ?_ | refine gw_no rfl ?_ | refine gw_exit ?_ | refine gw_block ?_ | refine gw_label ?_ | (refine gs_n tyT_ok 0 ?_ (hp := ?hp); case hp => exact ⟨by decide, by decide⟩))
  refine gs_call [0, 1] ent152 rfl (by decide) (image_w hr (by omega)) fun v F' ns ho _ _ => ?_
  obtain ⟨k, d, w, h, v1, v2, e1, e2, cs, ps, p1, rfl, rfl, rfl, hv1, hv2, g1, g2, hr1, g3, g4, g5, g6, g7⟩ := ho
  have hpos : 1 ≤ ps.length := by
    have : 1 * 1 ≤ w * h := Int.mul_le_mul g5.1 g6.1 (by omega) (by omega)
    omega
  obtain ⟨a1, c1, rfl, h1⟩ := hv1.ls
  obtain ⟨a2, c2, rfl, h2⟩ := hv2.ls
  refine gs_alloc tyT_ok rfl fun b3 => ?_
  refine gs_store tyT_ok 5 rfl rfl rfl rfl rfl rfl (Nat.le_of_ble_eq_true rfl) (Nat.le_of_ble_eq_true rfl) ?_
  repeat (first | refine gs_n tyT_ok 0 ?_ | refine gs_gn tyT_ok 0 rfl ?_ | refine gs_no rfl ?_ | refine gs_end ?_ | refine gs_end' ?_ | refine gw_seq ?_ | refine gw_text rfl ?_ | refine gw_skip ?_ | refine gw_yes rfl ?_ | refine gw_no rfl ?_ | refine gw_exit ?_ | refine gw_block ?_ | refine gw_label ?_ | (refine gs_n tyT_ok 0 ?_ (hp := ?hp); case hp => exact ⟨by decide, by decide⟩))
  refine gs_pick 0 1 hr1 rfl rfl rfl rfl (by decide) (by omega) (by omega) fun x p2 hr2 xa xb => ?_
  by_cases k1 : x = 0
  · (refine gs_t tyT_ok ?hb ?_; case hb => first | exact decide_eq_true (by omega) | exact congrArg Bool.not (decide_eq_false (by omega)) | (simp; done) | (simp; omega))
    repeat (first | refine gs_n tyT_ok 0 ?_ | refine gs_gn tyT_ok 0 rfl ?_ | refine gs_no rfl ?_ | refine gs_l tyT_ok 5 ?_ | refine gs_gl tyT_ok 5 rfl ?_ | (refine gs_l tyT_ok 5 ?_ (hp := ?hp); case hp => exact ⟨rfl, Nat.le_of_ble_eq_true rfl⟩) | (refine gs_gl tyT_ok 5 rfl ?_ (hp := ?hp); case hp => exact ⟨rfl, Nat.le_of_ble_eq_true rfl⟩) | refine gs_end ?_ | refine gs_end' ?_ | refine gw_seq ?_ | refine gw_text rfl ?_ | refine gw_skip ?_ | refine gw_yes rfl ?_ | refine gw_no rfl ?_ | refine gw_exit ?_ | refine gw_block ?_ | refine gw_label ?_ | (refine gs_n tyT_ok 0 ?_ (hp := ?hp); case hp => exact ⟨by decide, by decide⟩))
    refine gs_call [0, 1, 3, 4] ent153 rfl (by decide) (spoil_w hr2 (by omega) h1 h2 g1 g2 hpos g3 g5) fun v F' ns ho _ _ => ?_
    obtain ⟨F2, rfl, k', d', w', h', a1', n1', c1', a2', n2', c2', e3, e4, cs', ps', p3, rfl, rfl, rfl, i1, i2, i3, i4, i5⟩ := ho
    refine gs_store tyT_ok 2 rfl rfl rfl rfl rfl rfl (Nat.le_of_ble_eq_true rfl) (Nat.le_of_ble_eq_true rfl) ?_
    repeat (first | refine gs_n tyT_ok 0 ?_ | refine gs_gn tyT_ok 0 rfl ?_ | refine gs_no rfl ?_ | refine gs_end ?_ | refine gs_end' ?_ | refine gw_seq ?_ | refine gw_text rfl ?_ | refine gw_skip ?_ | refine gw_yes rfl ?_ | refine gw_no rfl ?_ | refine gw_exit ?_ | refine gw_block ?_ | refine gw_label ?_ | (refine gs_n tyT_ok 0 ?_ (hp := ?hp); case hp => exact ⟨by decide, by decide⟩))
    exact gw_ret ⟨_, [p3, q], [e3, e4], [0, 1, 6, 7], rv_cell tyT_ok 2 rfl rfl rfl rfl rfl (Nat.le_of_ble_eq_true rfl) .nil, ⟨k', d', w', h', a1', n1', c1', a2', n2', c2', e3, e4, cs', ps', p3, rfl, rfl, rfl, i1, i2, i3, i4, i5.mono (by omega)⟩, rfl, rfl, by decide⟩
  · (refine gs_f tyT_ok ?hb ?_; case hb => first | exact decide_eq_false (by omega) | exact congrArg Bool.not (decide_eq_true (by omega)) | (simp; done) | (simp; omega))
    repeat (first | refine gs_n tyT_ok 0 ?_ | refine gs_gn tyT_ok 0 rfl ?_ | refine gs_no rfl ?_ | refine gs_l tyT_ok 5 ?_ | refine gs_gl tyT_ok 5 rfl ?_ | (refine gs_l tyT_ok 5 ?_ (hp := ?hp); case hp => exact ⟨rfl, Nat.le_of_ble_eq_true rfl⟩) | (refine gs_gl tyT_ok 5 rfl ?_ (hp := ?hp); case hp => exact ⟨rfl, Nat.le_of_ble_eq_true rfl⟩) | refine gs_end ?_ | refine gs_end' ?_ | refine gw_seq ?_ | refine gw_text rfl ?_ | refine gw_skip ?_ | refine gw_yes rfl ?_ | refine gw_no rfl ?_ | refine gw_exit ?_ | refine gw_block ?_ | refine gw_label ?_ | (refine gs_n tyT_ok 0 ?_ (hp := ?hp); case hp => exact ⟨by decide, by decide⟩))
    refine gs_store tyT_ok 2 rfl rfl rfl rfl rfl rfl (Nat.le_of_ble_eq_true rfl) (Nat.le_of_ble_eq_true rfl) ?_
    repeat (first | refine gs_n tyT_ok 0 ?_ | refine gs_gn tyT_ok 0 rfl ?_ | refine gs_no rfl ?_ | refine gs_end ?_ | refine gs_end' ?_ | refine gw_seq ?_ | refine gw_text rfl ?_ | refine gw_skip ?_ | refine gw_yes rfl ?_ | refine gw_no rfl ?_ | refine gw_exit ?_ | refine gw_block ?_ | refine gw_label ?_ | (refine gs_n tyT_ok 0 ?_ (hp := ?hp); case hp => exact ⟨by decide, by decide⟩))
    exact gw_ret ⟨_, [p2, q], [e1, e2], [0, 1, 3, 4], rv_cell tyT_ok 2 rfl rfl rfl rfl rfl (Nat.le_of_ble_eq_true rfl) .nil, ⟨k, d, w, h, a1, cs.length, c1, a2, ps.length, c2, e1, e2, cs, ps, p2, rfl, rfl, rfl, h1, h2, by omega, by omega, hr2.mono (by omega)⟩, rfl, rfl, by decide⟩
end Go.Proofs.Ytjefdcbljpkmlaa.G
end
