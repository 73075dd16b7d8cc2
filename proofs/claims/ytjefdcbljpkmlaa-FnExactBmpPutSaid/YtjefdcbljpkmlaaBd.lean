/- BMP: impl RlePut. -/
import Derived.Test.YtjefdcbljpkmlaaBc
import Derived.Test.YtjefdcbljpkmlaaMj
set_option linter.unusedVariables false
set_option maxRecDepth 10000
namespace Go.Proofs.Ytjefdcbljpkmlaa.G
open Go
theorem OB.nil {b : Nat} : OB (.slice none 0 0) (b, .none) [] := .inl ⟨rfl, rfl, rfl⟩
theorem OB.sl {v : Value} {p : Nat × GO} {zs : List Int} (h : OB v p zs) : ∃ a c, v = .slice a zs.length c := by
  rcases h with ⟨rfl, hp, hz⟩ | ⟨b, len, cap, n, rfl, rfl, hl, hlc, hcn⟩
  · have : zs = [] := by simpa [bytesV] using hz
    subst this
    exact ⟨_, _, rfl⟩
  · have : len = zs.length := by simpa [bytesV] using hl.symm
    subst this
    exact ⟨_, _, rfl⟩
section
variable {ops os : List Oper} {H : Option (List Hint)} {K : Env → GL → Prop} {e : Env} {l : GL} {d1 d2 : Nat} {T T2 : TypeId} {pos pos2 : String} {af af2 : Array Edge}
/-- append(o, x, y) of two bytes. -/
theorem gs_push2 (j : Nat) {x y o : Operand} {m n : Int} {p : Nat × GO} {v : Value} {zs : List Int} (hx : gev e x = .int .u8 m) (hy : gev e y = .int .u8 n) (hl : l[j]? = some p) (hv : OB v p zs) (ho : ∀ u, gev (upd e d1 u) o = v) (hz : zs.length ≤ 1000000000)
    (k : ∀ b a c p2, OB (.slice a (zs.length + 2) c) p2 (zs ++ [m, n]) → gseq Try.prog ops os (tl? (tl? H)) K (upd (upd e d1 (.slice (some ⟨b, 0, none⟩) 2 2)) d2 (.slice a (zs.length + 2) c)) ((l ++ [(b, GO.row 5 (bytesV [m, n]) 2)]).set j p2)) (hh : hE [] H := by trivial) (hh2 : hE [j, l.length] (tl? H) := by trivial) :
    gseq Try.prog ops (⟨some d1, .buildSlice 35 2 #[(0, x), (1, y)], T, pos, af, none⟩ :: ⟨some d2, .call { callee := .builtin .append, args := #[o, .tmp d1], argTypes := #[35, 35] }, T2, pos2, af2, none⟩ :: os) H K e l := by
  refine gs_lit tyT_ok (cs := bytesV [m, n]) rfl rfl rfl (by decide) ?_ (fun b => ?_) hh
  · show fillL _ _ [(0, gev e x), (1, gev e y)] = _
    rw [hx, hy]
    rfl
  have hj := (List.getElem?_eq_some_iff.1 hl).1
  refine gs_append tyT_ok j l.length (p := p) (q := (b, GO.row 5 (bytesV [m, n]) 2)) (cs := bytesV zs) (nw := bytesV [m, n]) ?_ ?_ (by omega) rfl rfl rfl ?_ ?_ rfl ?_ (by decide) (by decide) (fun v2 p2 hv2 => ?_) hh2
  · rw [List.getElem?_append_left hj, hl]
  · simp
    rfl
  · rw [ho]
    exact hv
  · refine .inr ⟨b, 0, 2, 2, ?_, rfl, Nat.le_of_ble_eq_true rfl, rfl⟩
    show upd e d1 _ d1 = _
    simp [upd]
  · simp only [bytesV, List.length_map]
    show (zs.length + 2) * 1 ≤ 140737488355328 * 1
    omega
  · have hv3 : OB v2 p2 (zs ++ [m, n]) := by
      have e3 : bytesV zs ++ bytesV [m, n] = bytesV (zs ++ [m, n]) := by simp [bytesV]
      rw [e3] at hv2
      exact hv2
    obtain ⟨a, c, he⟩ := hv3.sl
    subst he
    rw [List.length_append] at hv3 ⊢
    exact k b a c p2 hv3
end
/-- Rows that are told by slices, all in one entry. -/
def RowsV (q : Nat × GO) (vs : List Value) (rs : List (List Int)) : Prop := vs.length = rs.length ∧ ∀ i, i < rs.length → ∃ a n c, vs[i]? = some (.slice a n c) ∧ LS a n c q (rs.getD i [])
/-- Rows packed, so many of them, what parts them between them. -/
def rleP (rs : List (List Int)) : Nat → List Int
  | 0 => []
  | n + 1 => rleP rs n ++ (if n = 0 then [] else [0, 0]) ++ r8 (rs.getD n [])
def rle (rs : List (List Int)) : List Int := rleP rs rs.length ++ [0, 1]
def rowsOk (rs : List (List Int)) : Prop := rs.length ≤ 100 ∧ ∀ r ∈ rs, r.length ≤ 100 ∧ ∀ x ∈ r, 0 ≤ x ∧ x ≤ 255
theorem rleP_len {rs : List (List Int)} (h : rowsOk rs) : ∀ n, n ≤ rs.length → (rleP rs n).length ≤ 202 * n
  | 0, _ => by simp [rleP]
  | n + 1, hn => by
    have ih := rleP_len h n (by omega)
    have hr := (h.2 (rs.getD n []) (by rw [List.getD_eq_getElem?_getD, List.getElem?_eq_getElem (by omega)]; exact List.getElem_mem _)).1
    have := r8_len (rs.getD n [])
    rw [rleP, List.length_append, List.length_append]
    have : (if n = 0 then ([] : List Int) else [0, 0]).length ≤ 2 := by split <;> simp
    omega
set_option maxHeartbeats 2000000 in
theorem rlePut_w {a0 : Option Addr} {n0 c0 : Nat} {pv q : Nat × GO} {vs : List Value} {rs : List (List Int)} (hv0 : OV (.slice a0 n0 c0) pv vs) (hr : RowsV q vs rs) (hok : rowsOk rs) :
    Rd Try.prog 57 [.slice a0 n0 c0] [pv, q] (.string (txt (rle rs))) := by
  have hn0 : n0 = rs.length := by
    obtain ⟨a, c, he⟩ := hv0.sl
    cases he
    exact hr.1
  subst hn0
  have hl100 := hok.1
  refine trip_of Try.func57 rfl (by simp [Try.ntmps57]) ?_
  repeat (first | refine gs_n tyT_ok 0 ?_ | refine gs_gn tyT_ok 0 rfl ?_ | refine gs_no rfl ?_ | refine gs_end ?_ | refine gs_end' ?_ | refine gw_seq ?_ | refine gw_text rfl ?_ | refine gw_skip ?_ | refine gw_yes rfl ?_ | refine gw_no rfl ?_ | refine gw_exit ?_ | refine gw_block ?_ | refine gw_label ?_ | (refine gs_n tyT_ok 0 ?_ (hp := ?hp); case hp => exact ⟨by decide, by decide⟩))
  (refine gs_f tyT_ok ?hb ?_; case hb => first | exact decide_eq_false (by omega) | exact congrArg Bool.not (decide_eq_true (by omega)) | (simp; done) | (simp; omega))
  repeat (first | refine gs_n tyT_ok 0 ?_ | refine gs_gn tyT_ok 0 rfl ?_ | refine gs_no rfl ?_ | refine gs_end ?_ | refine gs_end' ?_ | refine gw_seq ?_ | refine gw_text rfl ?_ | refine gw_skip ?_ | refine gw_yes rfl ?_ | refine gw_no rfl ?_ | refine gw_exit ?_ | refine gw_block ?_ | refine gw_label ?_ | (refine gs_n tyT_ok 0 ?_ (hp := ?hp); case hp => exact ⟨by decide, by decide⟩))
  refine gw_nil ?_
  refine gw_loopL (fun _ (x : Nat × Value × (Nat × GO)) => [(3, x.2.1), (11, .slice a0 rs.length c0), (12, .int .i64 rs.length), (13, .int .i64 x.1)]) (fun _ x => [pv, q, x.2.2]) (fun m x => x.1 + m = rs.length ∧ OB x.2.1 x.2.2 (rleP rs x.1)) rs.length (0, .slice none 0 0, (0, .none)) ⟨by simp, OB.nil⟩ rfl ⟨rfl, rfl, rfl, rfl, trivial⟩ fun m ⟨i, v, p⟩ e ⟨hm, hv⟩ => ?_
  dsimp only at hm hv ⊢
  have hplen := rleP_len hok i (by omega)
  have hv' := hv
  obtain ⟨ua, uc, rfl⟩ := hv'.sl
  repeat (first | refine gs_n tyT_ok 0 ?_ | refine gs_gn tyT_ok 0 rfl ?_ | refine gs_no rfl ?_ | refine gs_end ?_ | refine gs_end' ?_ | refine gw_seq ?_ | refine gw_text rfl ?_ | refine gw_skip ?_ | refine gw_yes rfl ?_ | refine gw_no rfl ?_ | refine gw_exit ?_ | refine gw_block ?_ | refine gw_label ?_ | (refine gs_n tyT_ok 0 ?_ (hp := ?hp); case hp => exact ⟨by decide, by decide⟩))
  by_cases k1 : i < rs.length
  case neg =>
    obtain rfl : i = rs.length := by omega
    (refine gs_f tyT_ok ?hb ?_; case hb => first | exact decide_eq_false (by omega) | exact congrArg Bool.not (decide_eq_true (by omega)) | (simp; done) | (simp; omega))
    repeat (first | refine gs_n tyT_ok 0 ?_ | refine gs_gn tyT_ok 0 rfl ?_ | refine gs_no rfl ?_ | refine gs_end ?_ | refine gs_end' ?_ | refine gw_seq ?_ | refine gw_text rfl ?_ | refine gw_skip ?_ | refine gw_yes rfl ?_ | refine gw_no rfl ?_ | refine gw_exit ?_ | refine gw_block ?_ | refine gw_label ?_ | (refine gs_n tyT_ok 0 ?_ (hp := ?hp); case hp => exact ⟨by decide, by decide⟩))
    refine gs_push2 2 (m := 0) (n := 1) rfl rfl rfl hv (fun _ => rfl) (by omega) fun b a c p2 hv2 => ?_
    repeat (first | refine gs_n tyT_ok 0 ?_ | refine gs_gn tyT_ok 0 rfl ?_ | refine gs_no rfl ?_ | refine gs_end ?_ | refine gs_end' ?_ | refine gw_seq ?_ | refine gw_text rfl ?_ | refine gw_skip ?_ | refine gw_yes rfl ?_ | refine gw_no rfl ?_ | refine gw_exit ?_ | refine gw_block ?_ | refine gw_label ?_ | (refine gs_n tyT_ok 0 ?_ (hp := ?hp); case hp => exact ⟨by decide, by decide⟩))
    obtain ⟨b2, m2, rfl, rfl⟩ : ∃ b2 m2, a = some ⟨b2, 0, none⟩ ∧ p2 = (b2, .row 5 (bytesV (rle rs)) m2) := by
      rcases hv2 with ⟨_, _, h⟩ | ⟨b2, len, cap, m2, h1, h2, _⟩
      · simp [bytesV] at h
      · cases h1
        exact ⟨b2, m2, rfl, h2⟩
    refine gs_txt 2 (xs := rle rs) rfl rfl (by simp [rle]) ?_
    repeat (first | refine gs_n tyT_ok 0 ?_ | refine gs_gn tyT_ok 0 rfl ?_ | refine gs_no rfl ?_ | refine gs_end ?_ | refine gs_end' ?_ | refine gw_seq ?_ | refine gw_text rfl ?_ | refine gw_skip ?_ | refine gw_yes rfl ?_ | refine gw_no rfl ?_ | refine gw_exit ?_ | refine gw_block ?_ | refine gw_label ?_ | (refine gs_n tyT_ok 0 ?_ (hp := ?hp); case hp => exact ⟨by decide, by decide⟩))
    exact gw_ret ⟨_, _, [], [0, 1], .tmp .nil, ⟨rfl, rfl, rfl⟩, rfl, rfl, by decide⟩
  (refine gs_t tyT_ok ?hb ?_; case hb => first | exact decide_eq_true (by omega) | exact congrArg Bool.not (decide_eq_false (by omega)) | (simp; done) | (simp; omega))
  obtain ⟨a, n, c, hvi, hLS⟩ := hr.2 i k1
  obtain ⟨_, u, hu, rfl, hcell⟩ := hv0.at (k := i) (by rw [hr.1]; exact k1)
  rw [hvi] at hu
  cases hu
  have hri := hok.2 (rs.getD i []) (by rw [List.getD_eq_getElem?_getD, List.getElem?_eq_getElem k1]; exact List.getElem_mem _)
  generalize hR : rs.getD i [] = R at *
  obtain rfl := hLS.1
  repeat (first | refine gs_n tyT_ok 0 ?_ | refine gs_gn tyT_ok 0 rfl ?_ | refine gs_no rfl ?_ | refine gs_end ?_ | refine gs_end' ?_ | refine gw_seq ?_ | refine gw_text rfl ?_ | refine gw_skip ?_ | refine gw_yes rfl ?_ | refine gw_no rfl ?_ | refine gw_exit ?_ | refine gw_block ?_ | refine gw_label ?_ | (refine gs_n tyT_ok 0 ?_ (hp := ?hp); case hp => exact ⟨by decide, by decide⟩))
  refine gs_atb 0 rfl rfl rfl rfl hcell ?_
  repeat (first | refine gs_n tyT_ok 0 ?_ | refine gs_gn tyT_ok 0 rfl ?_ | refine gs_no rfl ?_)
  refine gs_end ?_
  refine gw_seq (gw_seq (gw_text rfl ?_))
  repeat (first | refine gs_n tyT_ok 0 ?_ | refine gs_gn tyT_ok 0 rfl ?_ | refine gs_no rfl ?_)
  (refine gs_f tyT_ok ?hb ?_; case hb => first | exact decide_eq_false (by omega) | exact congrArg Bool.not (decide_eq_true (by omega)) | (simp; done) | (simp; omega))
  refine gs_end ?_
  refine gw_no rfl ?_
  refine gw_skip ?_
  refine gw_seq ?_
  refine gw_join (α := Value × (Nat × GO) × (Nat × GO)) (fun x => [(3, x.1), (4, .int .i64 i), (5, .slice a R.length c), (11, .slice (some ⟨pv.1, 0, none⟩) rs.length c0), (12, .int .i64 rs.length), (13, .int .i64 i)]) (fun x => [pv, q, x.2.1, x.2.2]) (fun x => OB x.1 x.2.1 (rleP rs i ++ if i = 0 then [] else [0, 0])) ?_ fun ⟨v2, p2, junk⟩ e hv2 => ?_
  · by_cases k2 : i = 0
    · rw [if_pos k2, List.append_nil]
      refine gw_nil ?_
      repeat (first | refine gs_n tyT_ok 0 ?_ | refine gs_gn tyT_ok 0 rfl ?_ | refine gs_no rfl ?_ | refine gs_end ?_ | refine gs_end' ?_ | refine gw_seq ?_ | refine gw_text rfl ?_ | refine gw_skip ?_ | refine gw_yes rfl ?_ | refine gw_no rfl ?_ | refine gw_exit ?_ | refine gw_block ?_ | refine gw_label ?_ | (refine gs_n tyT_ok 0 ?_ (hp := ?hp); case hp => exact ⟨by decide, by decide⟩) | (refine gs_tg tyT_ok rfl ?hb ?_; case hb => first | exact decide_eq_true (by omega) | exact congrArg Bool.not (decide_eq_false (by omega)) | (simp; done) | (simp; omega)) | (refine gs_fg tyT_ok rfl ?hb ?_; case hb => first | exact decide_eq_false (by omega) | exact congrArg Bool.not (decide_eq_true (by omega)) | (simp; done) | (simp; omega)) | (refine gs_t tyT_ok ?hb ?_; case hb => first | exact decide_eq_true (by omega) | exact congrArg Bool.not (decide_eq_false (by omega)) | (simp; done) | (simp; omega)) | (refine gs_f tyT_ok ?hb ?_; case hb => first | exact decide_eq_false (by omega) | exact congrArg Bool.not (decide_eq_true (by omega)) | (simp; done) | (simp; omega)))
      exact ⟨(_, p, (0, .none)), hv, rfl, rfl, rfl, rfl, rfl, rfl, rfl, trivial⟩
    · rw [if_neg k2]
      repeat (first | refine gs_n tyT_ok 0 ?_ | refine gs_gn tyT_ok 0 rfl ?_ | refine gs_no rfl ?_ | refine gs_end ?_ | refine gs_end' ?_ | refine gw_seq ?_ | refine gw_text rfl ?_ | refine gw_skip ?_ | refine gw_yes rfl ?_ | refine gw_no rfl ?_ | refine gw_exit ?_ | refine gw_block ?_ | refine gw_label ?_ | (refine gs_n tyT_ok 0 ?_ (hp := ?hp); case hp => exact ⟨by decide, by decide⟩) | (refine gs_tg tyT_ok rfl ?hb ?_; case hb => first | exact decide_eq_true (by omega) | exact congrArg Bool.not (decide_eq_false (by omega)) | (simp; done) | (simp; omega)) | (refine gs_fg tyT_ok rfl ?hb ?_; case hb => first | exact decide_eq_false (by omega) | exact congrArg Bool.not (decide_eq_true (by omega)) | (simp; done) | (simp; omega)) | (refine gs_t tyT_ok ?hb ?_; case hb => first | exact decide_eq_true (by omega) | exact congrArg Bool.not (decide_eq_false (by omega)) | (simp; done) | (simp; omega)) | (refine gs_f tyT_ok ?hb ?_; case hb => first | exact decide_eq_false (by omega) | exact congrArg Bool.not (decide_eq_true (by omega)) | (simp; done) | (simp; omega)))
      refine gs_push2 2 (m := 0) (n := 0) rfl rfl rfl hv (fun _ => rfl) (by omega) fun b5 a5 c5 p5 hv5 => ?_
      repeat (first | refine gs_n tyT_ok 0 ?_ | refine gs_gn tyT_ok 0 rfl ?_ | refine gs_no rfl ?_ | refine gs_end ?_ | refine gs_end' ?_ | refine gw_seq ?_ | refine gw_text rfl ?_ | refine gw_skip ?_ | refine gw_yes rfl ?_ | refine gw_no rfl ?_ | refine gw_exit ?_ | refine gw_block ?_ | refine gw_label ?_ | (refine gs_n tyT_ok 0 ?_ (hp := ?hp); case hp => exact ⟨by decide, by decide⟩))
      exact ⟨(_, p5, (b5, _)), hv5, rfl, rfl, rfl, rfl, rfl, rfl, rfl, trivial⟩
  dsimp only at hv2 ⊢
  refine gw_weak [0, 1, 2] (by decide) rfl ?_
  have hstep : rleP rs (i + 1) = (rleP rs i ++ if i = 0 then [] else [0, 0]) ++ r8 R := by rw [rleP, hR]
  have hpre : (rleP rs i ++ if i = 0 then ([] : List Int) else [0, 0]).length ≤ 30000 := by
    rw [List.length_append]
    have : (if i = 0 then ([] : List Int) else [0, 0]).length ≤ 2 := by split <;> simp
    omega
  generalize (rleP rs i ++ if i = 0 then ([] : List Int) else [0, 0]) = pre at hv2 hstep hpre
  have hv2' := hv2
  obtain ⟨wa, wc, rfl⟩ := hv2'.sl
  repeat (first | refine gs_n tyT_ok 0 ?_ | refine gs_gn tyT_ok 0 rfl ?_ | refine gs_no rfl ?_ | refine gs_end ?_ | refine gs_end' ?_ | refine gw_seq ?_ | refine gw_text rfl ?_ | refine gw_skip ?_ | refine gw_yes rfl ?_ | refine gw_no rfl ?_ | refine gw_exit ?_ | refine gw_block ?_ | refine gw_label ?_ | (refine gs_n tyT_ok 0 ?_ (hp := ?hp); case hp => exact ⟨by decide, by decide⟩))
  refine gw_loopL (fun _ (x : Nat × Value × (Nat × GO) × List Int) => [(3, x.2.1), (5, .slice a R.length c), (6, .int .i64 x.1), (11, .slice (some ⟨pv.1, 0, none⟩) rs.length c0), (12, .int .i64 rs.length), (13, .int .i64 i)]) (fun _ x => [pv, q, x.2.2.1]) (fun m x => r8F R m x.1 x.2.2.2 = r8 R ∧ x.1 ≤ R.length ∧ R.length ≤ x.1 + m ∧ x.2.2.2.length ≤ 2 * x.1 ∧ OB x.2.1 x.2.2.1 (pre ++ x.2.2.2)) R.length (0, .slice wa pre.length wc, p2, []) ⟨rfl, by simp, by simp, by simp, by rw [List.append_nil]; exact hv2⟩ rfl ⟨rfl, rfl, rfl, rfl, rfl, rfl, trivial⟩ fun m3 ⟨at_, v3, p3, out⟩ e ⟨g1, g2, g3, g4, hv3⟩ => ?_
  dsimp only at g1 g2 g3 g4 hv3 ⊢
  have hv3' := hv3
  obtain ⟨ta, tc, rfl⟩ := hv3'.sl
  repeat (first | refine gs_n tyT_ok 0 ?_ | refine gs_gn tyT_ok 0 rfl ?_ | refine gs_no rfl ?_ | refine gs_end ?_ | refine gs_end' ?_ | refine gw_seq ?_ | refine gw_text rfl ?_ | refine gw_skip ?_ | refine gw_yes rfl ?_ | refine gw_no rfl ?_ | refine gw_exit ?_ | refine gw_block ?_ | refine gw_label ?_ | (refine gs_n tyT_ok 0 ?_ (hp := ?hp); case hp => exact ⟨by decide, by decide⟩))
  by_cases k3 : at_ < R.length
  case neg =>
    have hp : r8 R = out := by rw [← g1, r8F_stop k3]
    (refine gs_f tyT_ok ?hb ?_; case hb => first | exact decide_eq_false (by omega) | exact congrArg Bool.not (decide_eq_true (by omega)) | (simp; done) | (simp; omega))
    repeat (first | refine gs_n tyT_ok 0 ?_ | refine gs_gn tyT_ok 0 rfl ?_ | refine gs_no rfl ?_ | refine gs_end ?_ | refine gs_end' ?_ | refine gw_seq ?_ | refine gw_text rfl ?_ | refine gw_skip ?_ | refine gw_yes rfl ?_ | refine gw_no rfl ?_ | refine gw_exit ?_ | refine gw_block ?_ | refine gw_label ?_ | (refine gs_n tyT_ok 0 ?_ (hp := ?hp); case hp => exact ⟨by decide, by decide⟩))
    exact ⟨m - 1, by omega, (i + 1, _, p3), ⟨by show i + 1 + (m - 1) = _; omega, by show OB _ p3 (rleP rs (i + 1)); rw [hstep, hp]; exact hv3⟩, rfl, rfl, rfl, rfl, rfl, trivial⟩
  (refine gs_t tyT_ok ?hb ?_; case hb => first | exact decide_eq_true (by omega) | exact congrArg Bool.not (decide_eq_false (by omega)) | (simp; done) | (simp; omega))
  repeat (first | refine gs_n tyT_ok 0 ?_ | refine gs_gn tyT_ok 0 rfl ?_ | refine gs_no rfl ?_ | refine gs_end ?_ | refine gs_end' ?_ | refine gw_seq ?_ | refine gw_text rfl ?_ | refine gw_skip ?_ | refine gw_yes rfl ?_ | refine gw_no rfl ?_ | refine gw_exit ?_ | refine gw_block ?_ | refine gw_label ?_ | (refine gs_n tyT_ok 0 ?_ (hp := ?hp); case hp => exact ⟨by decide, by decide⟩))
  obtain ⟨m', rfl⟩ : ∃ m', m3 = m' + 1 := ⟨m3 - 1, by omega⟩
  rw [r8F_step k3] at g1
  have hsm := sm_le k3
  obtain ⟨o, rfl, ho⟩ := hLS.at k3
  have hx := hri.2 (R.getD at_ 0) (by rw [List.getD_eq_getElem?_getD, List.getElem?_eq_getElem k3]; exact List.getElem_mem k3)
  refine gs_rd [1] ent146 rfl (by decide) (same_w hLS (by omega) k3) ?_
  obtain ⟨N, hN, hN2⟩ : ∃ N, N = min 255 (sm R at_) ∧ 1 ≤ N ∧ N ≤ 255 ∧ at_ + N ≤ R.length := ⟨_, rfl, by omega, by omega, by omega⟩
  rw [← hN] at g1
  refine gs_n tyT_ok 0 ?_
  rw [show (if (255 : Int) < ((sm R at_ : Nat) : Int) then 255 else ((sm R at_ : Nat) : Int)) = (N : Int) by split <;> omega]
  repeat (first | refine gs_n tyT_ok 0 ?_ | refine gs_gn tyT_ok 0 rfl ?_ | refine gs_no rfl ?_ | refine gs_end ?_ | refine gs_end' ?_ | refine gw_seq ?_ | refine gw_text rfl ?_ | refine gw_skip ?_ | refine gw_yes rfl ?_ | refine gw_no rfl ?_ | refine gw_exit ?_ | refine gw_block ?_ | refine gw_label ?_ | (refine gs_n tyT_ok 0 ?_ (hp := ?hp); case hp => exact ⟨by decide, by decide⟩))
  refine gs_at 1 tyT_ok rfl rfl rfl rfl ho ?_
  refine gs_pu ent72 (in_t hx) ?_
  repeat (first | refine gs_n tyT_ok 0 ?_ | refine gs_gn tyT_ok 0 rfl ?_ | refine gs_no rfl ?_ | refine gs_end ?_ | refine gs_end' ?_ | refine gw_seq ?_ | refine gw_text rfl ?_ | refine gw_skip ?_ | refine gw_yes rfl ?_ | refine gw_no rfl ?_ | refine gw_exit ?_ | refine gw_block ?_ | refine gw_label ?_ | (refine gs_n tyT_ok 0 ?_ (hp := ?hp); case hp => exact ⟨by decide, by decide⟩))
  refine gs_at 1 tyT_ok rfl rfl rfl rfl ho ?_
  repeat (first | refine gs_n tyT_ok 0 ?_ | refine gs_gn tyT_ok 0 rfl ?_ | refine gs_no rfl ?_)
  refine gs_push2 2 (m := N) (n := R.getD at_ 0) rfl rfl rfl hv3 (fun _ => rfl) (by rw [List.length_append]; omega) fun b5 a5 c5 p5 hv5 => ?_
  refine gs_n tyT_ok 0 ?_
  refine gs_end ?_
  refine gw_weak [0, 1, 2] (by decide) rfl ?_
  repeat (first | refine gs_n tyT_ok 0 ?_ | refine gs_gn tyT_ok 0 rfl ?_ | refine gs_no rfl ?_ | refine gs_end ?_ | refine gs_end' ?_ | refine gw_seq ?_ | refine gw_text rfl ?_ | refine gw_skip ?_ | refine gw_yes rfl ?_ | refine gw_no rfl ?_ | refine gw_exit ?_ | refine gw_block ?_ | refine gw_label ?_ | (refine gs_n tyT_ok 0 ?_ (hp := ?hp); case hp => exact ⟨by decide, by decide⟩))
  refine ⟨m', by omega, (at_ + N, .slice a5 ((pre ++ out).length + 2) c5, p5, out ++ [(N : Int), R.getD at_ 0]), ⟨g1, by show at_ + N ≤ _; omega, by show R.length ≤ at_ + N + m'; omega, by simp; omega, ?_⟩, rfl, ?_, rfl, rfl, rfl, rfl, rfl, trivial⟩
  · show OB _ p5 (pre ++ (out ++ [(N : Int), R.getD at_ 0]))
    rw [← List.append_assoc]
    exact hv5
  · rfl
end Go.Proofs.Ytjefdcbljpkmlaa.G
