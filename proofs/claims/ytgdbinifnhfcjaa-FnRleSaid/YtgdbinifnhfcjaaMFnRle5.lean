/- Texts of one law put together (wip/merge2.py). -/
import Derived.Test.YtgdbinifnhfcjaaMFnRle3
import Derived.Test.YtgdbinifnhfcjaaMFnRle4
/- spec.l7Rows and spec.RleGet, impl.RleGet in all cases, walked. -/
set_option linter.unusedVariables false
set_option linter.unusedSimpArgs false
namespace Go.Proofs.Ytgdbinifnhfcjaa.P
open Go.RowKit Go.Proofs.YtgdbinifnhfcjaaW.PrintWords Go.Proofs.YtgdbinifnhfcjaaW.PrintLast Go.Proofs.YtgdbinifnhfcjaaW.PrintMore
def RowsL (w : World) (R : Option (List (List Int))) (e : Ending) (w' : World) : Prop :=
  ∃ (v : Value) (rows : List (List Int)) (ok : Bool), e = .returned (.tuple #[v, .bool ok]) ∧ Kd.S (Kd.slice 3 (Kd.int .i64)) 31 w' w.heap.size (fun _ => True) v rows ∧ (ok = true → R = some rows) ∧ (ok = false → R = none)
theorem rleV_esc (s : ByteArray) (d p : Nat) (rs : List (List Int)) (x y : Nat) (h : p + 2 ≤ s.size) (h0 : bN s p = 0) : rleV s (d + 1) p rs x y = escV s d (p + 2) rs x y (bN s (p + 1)) := by
  show (if p + 2 ≤ s.size then _ else _) = _
  rw [if_pos h, if_neg (by omega)]
  rfl
theorem rleV_run (s : ByteArray) (d p : Nat) (rs : List (List Int)) (x y : Nat) (h : p + 2 ≤ s.size) (h0 : 0 < bN s p) : rleV s (d + 1) p rs x y = (putL (List.replicate (bN s p) (bN s (p + 1) : Int)) rs x y).bind fun q => rleV s d (p + 2) q.1 q.2 y := by
  show (if p + 2 ≤ s.size then _ else _) = _
  rw [if_pos h, if_pos h0]
theorem rleV_end (s : ByteArray) (d p : Nat) (rs : List (List Int)) (x y : Nat) (h : ¬ p + 2 ≤ s.size) : rleV s d p rs x y = none := by
  cases d with
  | zero => rfl
  | succ d =>
    show (if p + 2 ≤ s.size then _ else _) = _
    rw [if_neg h]
set_option maxHeartbeats 8000000 in
set_option maxRecDepth 100000 in
theorem l7rows_any (s : ByteArray) (W H : Nat) (w : World) (hs : s.size ≤ 9000) (hW : W ≤ 100) (hH : H ≤ 100) :
    Calls Try.prog 44 #[.string s, .int .i64 (W : Int), .int .i64 (H : Int)] w fun e w' => RowsL w (rleV s (s.size + 1) 0 (zeroRows W H) 0 0) e w' ∧ Below w.heap.size w w' := by
  have HS := Aside0.mk hs
  have HW := Aside0.mk hW
  have HH := Aside0.mk hH
  obtain ⟨R, hR⟩ : ∃ R, rleV s (s.size + 1) 0 (zeroRows W H) 0 0 = R := ⟨_, rfl⟩
  rw [hR]
  have HR := Aside0.mk hR
  clear hR hs hW hH
  go_enter Try.func44, Try.ntmps44
  go_wp2
  obtain ⟨g, hg⟩ : ∃ g, g = w.heap.size := ⟨_, rfl⟩
  have HG := Aside0.mk hg
  have hbk0 : (w.alloc (.cells #[.string s, .int .i64 0, .slice none 0 0, .int .i64 0, .int .i64 0, .bool true] 99)).heap[g]? = some (.cells #[.string s, .int .i64 0, .slice none 0 0, .int .i64 0, .int .i64 0, .bool true] 99 (0, 0)) := by rw [hg]; exact blk_new w _
  rw [← hg]
  have HBK := Aside0.mk hbk0
  have HB0 := Aside0.mk (below_alloc (Below.refl w.heap.size w) (.cells #[.string s, .int .i64 0, .slice none 0 0, .int .i64 0, .int .i64 0, .bool true] 99))
  clear hg hbk0
  generalize w.alloc (.cells #[.string s, .int .i64 0, .slice none 0 0, .int .i64 0, .int .i64 0, .bool true] 99) = wa at HBK HB0 ⊢
  go_loopg [9] H (fun kq v9 wr => ∃ (j : Nat) (v : Value), v9 = .int .i64 (j : Int) ∧ Aside0 (j + kq = H) ∧ Aside0 (wr.heap[g]? = some (.cells #[.string s, .int .i64 0, v, .int .i64 0, .int .i64 0, .bool true] 99 (0, 0))) ∧ Aside0 (Kd.S (Kd.slice 3 (Kd.int .i64)) 31 wr w.heap.size (fun k => k ≠ g) v (zeroRows W j)) ∧ Aside0 (Below w.heap.size w wr))
  case atStart => exact ⟨0, .slice none 0 0, rfl, ⟨by omega⟩, HBK, ⟨Kd.S_nil _ _ _ _ _⟩, HB0⟩
  case round =>
    clear HBK HB0
    obtain ⟨j, v, rfl, hJ, hBK, hS, HB⟩ := hrel
    obtain ⟨rows, hrows⟩ : ∃ rows, zeroRows W j = rows := ⟨_, rfl⟩
    have HL := Aside0.mk (show rows.length ≤ 100 by rw [← hrows]; unfold zeroRows; rw [List.length_replicate]; have := hJ.out; have := HH.out; omega)
    have Hrows := Aside0.mk hrows
    rw [hrows] at hS
    clear hrows
    cases gk with
    | succ kq =>
      have hlt : (j : Int) < (H : Int) := by have := hJ.out; omega
      have hj : (j : Int) ≤ 100 := by have := hJ.out; have := HH.out; omega
      have c0 : wr.drew.cell? ⟨g, 2, none⟩ = some v := (blk_cell (blk_drew hBK.out) 2).trans rfl
      have hw0 : (0 : Int) ≤ (W : Int) := by omega
      go_upto_region 5 with (fail)
      refine start_ (n := 12) (S := fun w' => w'.cell? ⟨g, 2, none⟩ = some v) (ds := [8, 11]) (Array.replicate 12 false) (by kernel_rfl) rfl rfl c0 (fun hHeld => ?_)
      refine pure_ (i := 0) (N := some 22) (v := ?_) (a' := ?_) #[true, false, false, false, false, false, false, false, false, false, false, false] rfl rfl (by kernel_rfl) (fun _ _ _ h => h) (Or.inl ⟨by rfl, ?_⟩) ?_ ?_
      rotate_left
      · intro w'
        go_simp
        with_reducible rfl
      rotate_left
      · simp only [Act.put, List.setIfInBounds_toArray, List.set_cons_zero, List.set_cons_succ, i64_w, i32_w]
        rfl
      refine pure_ (i := 1) (N := some 23) (v := ?_) (a' := ?_) #[true, true, false, false, false, false, false, false, false, false, false, false] rfl rfl (by kernel_rfl) (fun _ _ _ h => h) (Or.inl ⟨by rfl, ?_⟩) ?_ ?_
      rotate_left
      · intro w'
        go_simp
        with_reducible rfl
      rotate_left
      · simp only [Act.put, List.setIfInBounds_toArray, List.set_cons_zero, List.set_cons_succ, i64_w, i32_w]
        rfl
      refine pure_ (i := 2) (N := some 24) (v := ?_) (a' := ?_) #[true, true, true, false, false, false, false, false, false, false, false, false] rfl rfl (by kernel_rfl) (fun _ _ _ h => h) (Or.inl ⟨by rfl, ?_⟩) ?_ ?_
      rotate_left
      · intro w'
        go_simp
        with_reducible rfl
      rotate_left
      · simp only [Act.put, List.setIfInBounds_toArray, List.set_cons_zero, List.set_cons_succ, i64_w, i32_w]
        rfl
      refine pure_ (i := 3) (N := some 25) (v := ?_) (a' := ?_) #[true, true, true, true, false, false, false, false, false, false, false, false] rfl rfl (by kernel_rfl) (fun _ _ _ h => h) (Or.inl ⟨by rfl, ?_⟩) ?_ ?_
      rotate_left
      · intro w'
        go_simp
        with_reducible rfl
      rotate_left
      · simp only [Act.put, List.setIfInBounds_toArray, List.set_cons_zero, List.set_cons_succ, i64_w, i32_w]
        rfl
      refine take_ (i := 4) (N := some 26) (v := ?_) (a' := ?_) #[true, true, true, true, true, false, false, false, false, false, false, false] rfl rfl (by kernel_rfl) (fun _ _ _ h => h) (Or.inl ⟨by rfl, ?_⟩) hHeld ?_ ?_
      rotate_left
      · intro w' s0
        go_simp
        with_reducible rfl
      rotate_left
      · simp only [Act.put, List.setIfInBounds_toArray, List.set_cons_zero, List.set_cons_succ, i64_w, i32_w]
        rfl
      refine pure_ (i := 5) (N := some 27) (v := ?_) (a' := ?_) #[true, true, true, true, true, true, false, false, false, false, false, false] rfl rfl (by kernel_rfl) (fun _ _ _ h => h) (Or.inl ⟨by rfl, ?_⟩) ?_ ?_
      rotate_left
      · intro w'
        go_simp
        with_reducible rfl
      rotate_left
      · simp only [Act.put, List.setIfInBounds_toArray, List.set_cons_zero, List.set_cons_succ, i64_w, i32_w]
        rfl
      refine one_ (i := 6) (N := some 28) #[true, true, true, true, true, true, true, false, false, false, false, false] rfl rfl (by kernel_rfl) (by decide) (fun K hK => ?_)
      refine Kd.R_make_step (Kd.int .i64) w.heap.size 3 (by rfl) (N := 28) rfl 31 _ _ rfl (W : Int) rfl rfl Try.underlying31 (.int .i64 0) 8 info3 rfl (by decide) (by omega) 0 (ok := fun k => wr.drew.heap.size ≤ k) (okp := fun k => wr.drew.heap.size ≤ k) rfl (fun k hk => hk) (Nat.le_refl _) (by omega) (by have := HW.out; rw [Int.toNat_natCast]; omega) (below_drew1 HB.out) (below_size (below_drew1 HB.out)) ?_
      intro v1 w1 ho1 hb1 hg1 hat1
      rw [Int.toNat_natCast] at ho1
      obtain ⟨A1, c1, rfl⟩ := Kd.R_slice ho1
      rw [List.length_replicate] at ho1 hat1 ⊢
      have hBK1 := blk_grown (blk_drew hBK.out) hg1 (by simp)
      have hS1 := Kd.S_grown (Kd.S_mono (Kd.S_bound (Kd.S_drew hS.out)) (fun k hk => (⟨hk.1, hk.2.2.1⟩ : k ≠ g ∧ k < wr.drew.heap.size))) hg1 (by simp)
      have hsz1 : wr.drew.heap.size ≤ w1.heap.size := hg1.size
      refine hK.out _ _ ((blk_cell hBK1 2).trans rfl) (fun hHeld => ?_)
      clear hK K
      refine norm_ (a' := ?_) ?_ ?_
      rotate_left
      · show Act.put _ (some 28) _ = _
        simp only [Act.put, List.setIfInBounds_toArray, List.set_cons_zero, List.set_cons_succ, i64_w, i32_w]
        rfl
      refine one_ (i := 7) (N := some 29) #[true, true, true, true, true, true, true, true, false, false, false, false] rfl rfl (by kernel_rfl) (by decide) (fun K hK => ?_)
      refine event_step (w1 := w1.alloc (.cells #[.slice A1 W c1] 31)) (v := .slice (some ⟨w1.heap.size, 0, none⟩) 1 1) (by rfl) ?_ ?_
      · go_simp
      refine hK.out _ _ ((blk_cell (blk_alloc hBK1 _) 2).trans rfl) (fun hHeld => ?_)
      clear hK K
      refine norm_ (a' := ?_) ?_ ?_
      rotate_left
      · show Act.put _ (some 29) _ = _
        simp only [Act.put, List.setIfInBounds_toArray, List.set_cons_zero, List.set_cons_succ, i64_w, i32_w]
        rfl
      refine last_ (i := 8) (N := some 30) #[true, true, true, true, true, true, true, true, true, false, false, false] rfl rfl (by kernel_rfl) (by decide) (fun K hK => ?_)
      refine Kd.S_append_step (Kd.slice 3 (Kd.int .i64)) (w0 := w) w.heap.size (by rfl) (.tmp 26) (.tmp 29) 22 31 (.slice none 0 0) 24 rfl Try.underlying22 info31 rfl (by decide) (by omega) v rows (List.replicate W 0) [.slice A1 W c1] (fun k => k ≠ g) (fun k => wr.drew.heap.size ≤ k) rfl rfl ⟨_, rfl, ho1⟩ ?_ ?_ ?_ hb1 (below_size hb1) ?_ ?_
      · intro k hk
        refine ⟨fun e => by have := blk_lt (blk_drew hBK.out); omega, fun e => ?_⟩
        have := Kd.S_lt (Kd.S_drew hS.out) k e.symm
        omega
      · intro k hk
        have := blk_lt hBK1
        omega
      · exact Kd.S_mono hS1 (fun k hk => ⟨hk.1, by omega⟩)
      · have := HL.out
        omega
      intro v2 w2 ho2 hb2 hg2 hat2
      obtain ⟨A2, c2, rfl⟩ := Kd.S_slice ho2
      rw [List.length_append, List.length_singleton] at ho2 hat2 ⊢
      have hBK2 := blk_grown hBK1 hg2 (Kd.S_away hS1 (fun k hk => hk.1))
      have q0 : w2.cell? ⟨g, 2, none⟩ = some v := (blk_cell hBK2 2).trans rfl
      have q1 := blk_frozen hBK2 2
      refine hK.out _ _ ?_
      clear hK K
      refine norm_ (a' := ?_) ?_ ?_
      rotate_left
      · show Act.put _ (some 30) _ = _
        simp only [Act.put, List.setIfInBounds_toArray, List.set_cons_zero, List.set_cons_succ, i64_w, i32_w]
        rfl
      refine pure_ (i := 9) (N := some 31) (v := ?_) (a' := ?_) #[true, true, true, true, true, true, true, true, true, true, false, false] rfl rfl (by kernel_rfl) (fun _ _ _ h => h) (Or.inl ⟨by rfl, ?_⟩) ?_ ?_
      rotate_left
      · intro w'
        go_simp
        with_reducible rfl
      rotate_left
      · simp only [Act.put, List.setIfInBounds_toArray, List.set_cons_zero, List.set_cons_succ, i64_w, i32_w]
        rfl
      refine pure_ (i := 10) (N := some 32) (v := ?_) (a' := ?_) #[true, true, true, true, true, true, true, true, true, true, true, false] rfl rfl (by kernel_rfl) (fun _ _ _ h => h) (Or.inl ⟨by rfl, ?_⟩) ?_ ?_
      rotate_left
      · intro w'
        go_simp
        with_reducible rfl
      rotate_left
      · simp only [Act.put, List.setIfInBounds_toArray, List.set_cons_zero, List.set_cons_succ, i64_w, i32_w]
        rfl
      refine last_ (i := 11) (N := none) #[true, true, true, true, true, true, true, true, true, true, true, true] rfl rfl (by kernel_rfl) (by decide) (fun K hK => ?_)
      refine skip_ (w1 := ?_) (by rfl) rfl ?_ ?_
      rotate_left
      · go_simp
        rfl
      refine hK.out _ _ ?_
      clear hK K
      refine done_ (by kernel_rfl) ?_
      have hBK3 := blk_put hBK2 2 (.slice A2 (rows.length + 1) c2) rfl
      have hS3 := Kd.S_far (p := ⟨g, 2, none⟩) ho2 (fun k hk => hk) (.slice A2 (rows.length + 1) c2)
      have hB3 := below_set (j := 2) (v := .slice A2 (rows.length + 1) c2) hb2 (Nat.le_of_eq HG.out.symm)
      have hz : rows ++ [List.replicate W 0] = zeroRows W (j + 1) := by rw [← Hrows.out]; unfold zeroRows; exact List.replicate_succ'.symm
      rw [hz] at hS3
      have HBK3 := Aside0.mk hBK3
      have HS3 := Aside0.mk hS3
      have HB3 := Aside0.mk hB3
      generalize (w2.setCell ⟨g, 2, none⟩ (.slice A2 (rows.length + 1) c2)) = w3 at HBK3 HS3 HB3 ⊢
      clear hBK3 hS3 hB3 hz hBK2 ho2 hb2 hg2 hat2 q0 q1 hBK1 hS1 hsz1 ho1 hb1 hg1 hat1 c0 hHeld
      go_wp2
      go_roundg kq
      case measure => omega
      case rel => exact ⟨j + 1, _, by go_num, ⟨by have := hJ.out; omega⟩, HBK3, HS3, HB3⟩
    | zero =>
      have hjH : j = H := by have := hJ.out; omega
      have hge : ¬ (j : Int) < (H : Int) := by omega
      have HF := Aside0.mk (show IsL w wr g s 0 (zeroRows W H) 0 0 true from ⟨v, hBK.out, Nat.le_of_eq HG.out.symm, by rw [← hjH, Hrows.out]; exact hS.out⟩)
      clear hBK hS hJ hjH Hrows HL
      go_wp2
      go_loopg [10] (s.size + 1) (fun kq v10 wq => ∃ (on ok : Bool) (p x y : Nat) (rs : List (List Int)), v10 = .bool on ∧ Aside0 (p ≤ s.size) ∧ Aside0 (ok = true → x ≤ 300 * p ∧ y ≤ 300 * p) ∧ Aside0 (on = true → ok = true → rleV s kq p rs x y = R ∧ s.size < kq + p) ∧ Aside0 (ok = false → R = none) ∧ Aside0 (on = false → ok = true ∧ R = if p < s.size then none else some rs) ∧ Aside0 (IsL w wq g s p rs x y ok) ∧ Aside0 (Below w.heap.size w wq))
      case atStart => exact ⟨true, true, 0, 0, 0, zeroRows W H, rfl, ⟨by omega⟩, ⟨fun _ => by omega⟩, ⟨fun _ _ => ⟨HR.out, by omega⟩⟩, ⟨fun h => by cases h⟩, ⟨fun h => by cases h⟩, HF, HB⟩
      case round =>
        clear HR HF HB hge
        obtain ⟨on, ok, p, x, y, rs, rfl, HP, HXY, HR, HN, HO, HF, HB⟩ := hrel
        obtain ⟨⟨k0, k1, _, _, c5⟩, _⟩ := HF.out.cells
        by_cases hgo : on = true ∧ ok = true
        · obtain ⟨rfl, rfl⟩ := hgo
          obtain ⟨hr, hk⟩ := HR.out rfl rfl
          obtain ⟨d, rfl⟩ : ∃ d, gk = d + 1 := ⟨gk - 1, by have := HP.out; omega⟩
          have P9 := Aside0.mk (show p ≤ 9000 ∧ nxt s p ≤ 9001 by have := HP.out; have := HS.out; have := nxt_le s p; omega)
          have HX := Aside0.mk (HXY.out rfl)
          have HK := Aside0.mk hk
          clear HXY HR HN HO k0 k1 hk
          by_cases hp2 : p + 2 ≤ s.size
          · have e1 : byV s p = bN s p := by unfold byV; rw [if_pos (by omega)]
            have e2 : nxt s p = p + 1 := by unfold nxt; rw [if_pos (by omega)]
            have e3 : byV s (p + 1) = bN s (p + 1) := by unfold byV; rw [if_pos (by omega)]
            have e4 : nxt s (p + 1) = p + 2 := by unfold nxt; rw [if_pos (by omega)]
            have E1 := Aside0.mk e1
            have E2 := Aside0.mk e2
            have E3 := Aside0.mk e3
            have E4 := Aside0.mk e4
            have L1 := Aside0.mk (show p < s.size by omega)
            have L2 := Aside0.mk (show p + 1 < s.size by omega)
            have HP2 := Aside0.mk hp2
            have b9 : (bN s (p + 1) : Int) ≤ 255 := by have := bN_le s (p + 1); omega
            clear e1 e2 e3 e4
            by_cases hn0 : bN s p = 0
            · rw [rleV_esc s d p rs x y hp2 hn0] at hr
              have HR := Aside0.mk hr
              have HN0 := Aside0.mk hn0
              have t0 : ((bN s p : Int) == 0) = true := beq_iff_eq.2 (by omega)
              have t1 : (bN s p == 0) = true := beq_iff_eq.2 hn0
              have t2 : decide (0 < (bN s p : Int)) = false := decide_eq_false (by omega)
              have t3 : decide (0 < bN s p) = false := decide_eq_false (by omega)
              clear hr hp2 hn0
              go_wp2_with (first | (go_at_call 99; (with_reducible refine (l7_byte w _ g s p rs x y _ (by have := P9.out; omega) HB.out HF.out).mono ?_); rintro e w9 ⟨rfl, hi, hb⟩; rw [E2.out, decide_eq_true L1.out, Bool.and_true] at hi; rw [E1.out]; have HF1 := Aside0.mk hi; have HB1 := Aside0.mk hb; obtain ⟨⟨_, _, _, _, c6⟩, _⟩ := hi.cells; clear hi hb) | (go_at_call 99; (with_reducible refine (l7_byte w _ g s (p + 1) rs x y _ (by have := P9.out; omega) HB1.out HF1.out).mono ?_); rintro e w9 ⟨rfl, hi, hb⟩; rw [E4.out, decide_eq_true L2.out, Bool.and_true] at hi; rw [E3.out]; have HF2 := Aside0.mk hi; have HB2 := Aside0.mk hb; obtain ⟨⟨_, _, _, _, c7⟩, _⟩ := hi.cells; clear hi hb) | (go_at_call 100; (with_reducible refine (l7_escape w _ g s d (p + 2) rs x y (bN s (p + 1)) R HS.out HP2.out (by have := HX.out; have := P9.out; omega) (by have := HX.out; have := P9.out; omega) (bN_le s (p + 1)) HB2.out HF2.out HR.out).mono ?_); rintro e w9 ⟨⟨on', ok', p', x', y', rs', rfl, hi, hbd, hoff, hon⟩, hb⟩; have HI := Aside0.mk hi; have HBD := Aside0.mk hbd; have HOFF := Aside0.mk hoff; have HON := Aside0.mk hon; have HB3 := Aside0.mk hb; obtain ⟨⟨_, _, _, _, c8⟩, _⟩ := hi.cells; clear hi hbd hoff hon hb))
              go_loopg [13] 1 (fun kq v13 wz => v13 = .int .i64 0 ∧ wz = w9)
              case atStart => exact ⟨rfl, rfl⟩
              case round =>
                obtain ⟨rfl, rfl⟩ := hrel
                go_wp2
                go_roundg d
                case measure => omega
                case rel => exact ⟨on', ok', p', x', y', rs', rfl, ⟨HBD.out.2.1⟩, ⟨fun _ => by have := HBD.out; have := HX.out; omega⟩, ⟨fun h1 h2 => ⟨(HON.out h1).1 h2, by have := HBD.out; have := HK.out; omega⟩⟩, ⟨fun h => by cases on' with | true => exact (HON.out rfl).2 h | false => exact absurd ((HOFF.out rfl).1.symm.trans h) (by simp)⟩, ⟨fun h => ⟨(HOFF.out h).1, by have h3 := HOFF.out h; rw [h3.2.1]; exact h3.2.2⟩⟩, HI, HB3⟩
            · have hn1 : 0 < bN s p := by omega
              rw [rleV_run s d p rs x y hp2 hn1] at hr
              obtain ⟨P, hPP⟩ : ∃ P, putL (List.replicate (bN s p) (bN s (p + 1) : Int)) rs x y = P := ⟨_, rfl⟩
              rw [hPP] at hr
              have HR := Aside0.mk hr
              have HPP := Aside0.mk hPP
              have n9 : (bN s p : Int) ≤ 255 := by have := bN_le s p; omega
              have t0 : ((bN s p : Int) == 0) = false := beq_eq_false_iff_ne.2 (by omega)
              have t1 : (bN s p == 0) = false := beq_eq_false_iff_ne.2 hn0
              clear hr hp2 hn0 hPP hn1
              go_wp2_with (first | (go_at_call 99; (with_reducible refine (l7_byte w _ g s p rs x y _ (by have := P9.out; omega) HB.out HF.out).mono ?_); rintro e w9 ⟨rfl, hi, hb⟩; rw [E2.out, decide_eq_true L1.out, Bool.and_true] at hi; rw [E1.out]; have HF1 := Aside0.mk hi; have HB1 := Aside0.mk hb; obtain ⟨⟨_, _, _, _, c6⟩, _⟩ := hi.cells; clear hi hb) | (go_at_call 99; (with_reducible refine (l7_byte w _ g s (p + 1) rs x y _ (by have := P9.out; omega) HB1.out HF1.out).mono ?_); rintro e w9 ⟨rfl, hi, hb⟩; rw [E4.out, decide_eq_true L2.out, Bool.and_true] at hi; rw [E3.out]; have HF2 := Aside0.mk hi; have HB2 := Aside0.mk hb; obtain ⟨⟨_, _, _, _, c7⟩, _⟩ := hi.cells; clear hi hb))
              go_loopg [13] (bN s p) (fun kq v13 wz => ∃ (i x' : Nat) (rs' : List (List Int)) (ok : Bool), v13 = .int .i64 (i : Int) ∧ Aside0 (i + kq = bN s p ∧ x' ≤ x + i) ∧ Aside0 (ok = true → putL (List.replicate kq (bN s (p + 1) : Int)) rs' x' y = P) ∧ Aside0 (ok = false → R = none) ∧ Aside0 (IsL w wz g s (p + 2) rs' x' y ok) ∧ Aside0 (Below w.heap.size w wz))
              case atStart => exact ⟨0, x, rs, true, rfl, ⟨by omega⟩, ⟨fun _ => HPP.out⟩, ⟨fun h => by cases h⟩, HF2, HB2⟩
              case round =>
                clear HPP HF1 HF2 HB1 HB2 c6 c7
                obtain ⟨i, x', rs', ok, rfl, HJ, HT, HN, HI, HB⟩ := hrel
                obtain ⟨⟨_, _, _, _, c6⟩, _⟩ := HI.out.cells
                by_cases hmore : ok = true ∧ 0 < gk
                · obtain ⟨rfl, hgk⟩ := hmore
                  obtain ⟨kz, rfl⟩ : ∃ kz, gk = kz + 1 := ⟨gk - 1, by omega⟩
                  have hlt : (i : Int) < (bN s p : Int) := by have := HJ.out; omega
                  have hput := HT.out rfl
                  rw [List.replicate_succ] at hput
                  simp only [putL] at hput
                  clear hgk
                  by_cases hcan : canPut rs' x' y = true
                  · rw [if_pos hcan] at hput
                    have HC := Aside0.mk hcan
                    have HPU := Aside0.mk hput
                    clear hcan hput
                    go_wp2_with (go_at_call 101; (with_reducible refine (l7_put_yes w _ g s (p + 2) rs' x' y true (bN s (p + 1) : Int) (by have := HJ.out; have := HX.out; have := P9.out; omega) (by have := HX.out; have := P9.out; omega) HB.out HI.out HC.out).mono ?_); rintro e wa ⟨rfl, hi, hb⟩; have HIA := Aside0.mk hi; have HBA := Aside0.mk hb; clear hi hb)
                    go_roundg kz
                    case measure => omega
                    case rel => exact ⟨i + 1, x' + 1, _, true, by go_num, ⟨by have := HJ.out; omega⟩, ⟨fun _ => HPU.out⟩, ⟨fun h => by cases h⟩, HIA, HBA⟩
                  · rw [if_neg hcan] at hput
                    have HC := Aside0.mk (show canPut rs' x' y = false by cases h : canPut rs' x' y with | true => exact absurd h hcan | false => rfl)
                    have HNN := Aside0.mk (show R = none by
                      have h := HR.out
                      rw [← hput] at h
                      exact h.symm)
                    clear hcan hput
                    go_wp2_with (go_at_call 101; (with_reducible refine (l7_put_no w _ g s (p + 2) rs' x' y true (bN s (p + 1) : Int) (by have := HJ.out; have := HX.out; have := P9.out; omega) (by have := HX.out; have := P9.out; omega) HB.out HI.out HC.out).mono ?_); rintro e wa ⟨rfl, hi, hb⟩; have HIA := Aside0.mk hi; have HBA := Aside0.mk hb; clear hi hb)
                    go_roundg kz
                    case measure => omega
                    case rel => exact ⟨i + 1, x', rs', false, by go_num, ⟨by have := HJ.out; omega⟩, ⟨fun h => by cases h⟩, ⟨fun _ => HNN.out⟩, HIA, HBA⟩
                · have hends : (decide ((i : Int) < (bN s p : Int)) = true ∧ ok = false) ∨ decide ((i : Int) < (bN s p : Int)) = false ∧ i = bN s p := by
                    by_cases hl : (i : Int) < (bN s p : Int)
                    · cases hok : ok with
                      | false => exact .inl ⟨decide_eq_true hl, rfl⟩
                      | true => exact absurd ⟨hok, by have := HJ.out; omega⟩ hmore
                    · exact .inr ⟨decide_eq_false hl, by have := HJ.out; omega⟩
                  have HFIN : Aside0 (ok = true → rleV s d (p + 2) rs' x' y = R) := ⟨fun hok => by
                    have h0 : gk = 0 := by
                      cases gk with
                      | zero => rfl
                      | succ n => exact absurd ⟨hok, by omega⟩ hmore
                    subst h0
                    have h1 := HT.out hok
                    have h2 := HR.out
                    rw [← h1] at h2
                    exact h2⟩
                  clear hmore
                  rcases hends with ⟨g1, rfl⟩ | ⟨g1, g2⟩
                  · have HNN := Aside0.mk (HN.out rfl)
                    go_wp2
                    all_goals
                      go_roundg d
                      case measure => omega
                      case rel => exact ⟨true, false, p + 2, x', y, rs', rfl, HP2, ⟨fun h => by cases h⟩, ⟨fun _ h => by cases h⟩, ⟨fun _ => HNN.out⟩, ⟨fun h => by cases h⟩, HI, HB⟩
                  · have g3 : ¬ (i : Int) < (bN s p : Int) := by omega
                    have HG2 := Aside0.mk g2
                    clear g2
                    go_wp2
                    all_goals
                      go_roundg d
                      case measure => omega
                      case rel => exact ⟨true, ok, p + 2, x', y, rs', rfl, HP2, ⟨fun _ => by have := HX.out; have := HJ.out; have := bN_le s p; omega⟩, ⟨fun _ h => ⟨HFIN.out h, by have := HK.out; omega⟩⟩, ⟨fun h => HN.out h⟩, ⟨fun h => by cases h⟩, HI, HB⟩
          · rw [rleV_end s (d + 1) p rs x y hp2] at hr
            have HR := Aside0.mk hr
            have hok2 : (decide (p < s.size) && decide (nxt s p < s.size)) = false := by
              unfold nxt
              by_cases h1 : p < s.size
              · rw [if_pos h1, decide_eq_false (show ¬ p + 1 < s.size by omega), Bool.and_false]
              · rw [decide_eq_false h1, Bool.false_and]
            have HO2 := Aside0.mk hok2
            have n9 : (byV s p : Int) ≤ 255 := by have := byV_le s p; omega
            have nb := Aside0.mk (nxt_bound s p HP.out)
            have nb2 := Aside0.mk (nxt_bound s (nxt s p) nb.out.2)
            clear hr hp2 hok2
            by_cases hn0 : byV s p = 0
            · have t0 : ((byV s p : Int) == 0) = true := beq_iff_eq.2 (by omega)
              have t1 : (byV s p == 0) = true := beq_iff_eq.2 hn0
              have t2 : decide (0 < (byV s p : Int)) = false := decide_eq_false (by omega)
              have t3 : decide (0 < byV s p) = false := decide_eq_false (by omega)
              clear hn0
              go_wp2_with (first | (go_at_call 99; (with_reducible refine (l7_byte w _ g s p rs x y _ (by have := P9.out; omega) HB.out HF.out).mono ?_); rintro e w9 ⟨rfl, hi, hb⟩; have HF1 := Aside0.mk hi; have HB1 := Aside0.mk hb; obtain ⟨⟨_, _, _, _, c6⟩, _⟩ := hi.cells; clear hi hb) | (go_at_call 99; (with_reducible refine (l7_byte w _ g s (nxt s p) rs x y _ (by have := P9.out; omega) HB1.out HF1.out).mono ?_); rintro e w9 ⟨rfl, hi, hb⟩; rw [Bool.true_and, HO2.out] at hi; have HF2 := Aside0.mk hi; have HB2 := Aside0.mk hb; obtain ⟨⟨_, _, _, _, c7⟩, _⟩ := hi.cells; clear hi hb))
              go_loopg [13] 1 (fun kq v13 wz => v13 = .int .i64 0 ∧ wz = w9)
              case atStart => exact ⟨rfl, rfl⟩
              case round =>
                obtain ⟨rfl, rfl⟩ := hrel
                go_wp2
                go_roundg d
                case measure => omega
                case rel => exact ⟨true, false, _, x, y, rs, rfl, ⟨nb2.out.2⟩, ⟨fun h => by cases h⟩, ⟨fun _ h => by cases h⟩, ⟨fun _ => HR.out.symm⟩, ⟨fun h => by cases h⟩, HF2, HB2⟩
            · have t0 : ((byV s p : Int) == 0) = false := beq_eq_false_iff_ne.2 (by omega)
              have t1 : (byV s p == 0) = false := beq_eq_false_iff_ne.2 hn0
              have t2 : decide (0 < (byV s p : Int)) = true := decide_eq_true (by omega)
              have t3 : decide (0 < byV s p) = true := decide_eq_true (by omega)
              clear hn0
              go_wp2_with (first | (go_at_call 99; (with_reducible refine (l7_byte w _ g s p rs x y _ (by have := P9.out; omega) HB.out HF.out).mono ?_); rintro e w9 ⟨rfl, hi, hb⟩; have HF1 := Aside0.mk hi; have HB1 := Aside0.mk hb; obtain ⟨⟨_, _, _, _, c6⟩, _⟩ := hi.cells; clear hi hb) | (go_at_call 99; (with_reducible refine (l7_byte w _ g s (nxt s p) rs x y _ (by have := P9.out; omega) HB1.out HF1.out).mono ?_); rintro e w9 ⟨rfl, hi, hb⟩; rw [Bool.true_and, HO2.out] at hi; have HF2 := Aside0.mk hi; have HB2 := Aside0.mk hb; obtain ⟨⟨_, _, _, _, c7⟩, _⟩ := hi.cells; clear hi hb))
              go_loopg [13] 1 (fun kq v13 wz => v13 = .int .i64 0 ∧ wz = w9)
              case atStart => exact ⟨rfl, rfl⟩
              case round =>
                obtain ⟨rfl, rfl⟩ := hrel
                go_wp2
                go_roundg d
                case measure => omega
                case rel => exact ⟨true, false, _, x, y, rs, rfl, ⟨nb2.out.2⟩, ⟨fun h => by cases h⟩, ⟨fun _ h => by cases h⟩, ⟨fun _ => HR.out.symm⟩, ⟨fun h => by cases h⟩, HF2, HB2⟩
        · -- the end
          obtain ⟨v, hk1, _, hk3⟩ := HF.out
          have k2 : wr.cell? ⟨g, 2, none⟩ = some v := (blk_cell hk1 2).trans rfl
          have HS3 := Aside0.mk (Kd.S_mono hk3 (fun _ _ => trivial) : Kd.S (Kd.slice 3 (Kd.int .i64)) 31 wr w.heap.size (fun _ => True) v rs)
          clear hk1 hk3
          cases ok with
          | false =>
            have HNN := Aside0.mk (HN.out rfl)
            clear hgo HN HO HR HXY
            cases on
            all_goals
              go_wp2
              go_quiet (fail)
              go_wp2
              go_ret2
              exact ⟨⟨v, rs, false, rfl, Kd.S_drewN HS3.out _, (fun h => by cases h), fun _ => HNN.out⟩, pw_below_drewN HB.out _⟩
          | true =>
            cases on with
            | true => exact absurd ⟨rfl, rfl⟩ hgo
            | false =>
              have HE := Aside0.mk (HO.out rfl).2
              clear hgo HN HO HR HXY
              by_cases hpe : p = s.size
              · have t0 : ((p : Int) == (s.size : Int)) = true := beq_iff_eq.2 (by omega)
                have t1 : (p == s.size) = true := beq_iff_eq.2 hpe
                have HPE := Aside0.mk hpe
                clear hpe
                go_wp2
                go_quiet (fail)
                go_wp2
                go_ret2
                exact ⟨⟨v, rs, true, rfl, Kd.S_drewN HS3.out _, (fun _ => by rw [HE.out, if_neg (by have := HPE.out; omega)]), fun h => by cases h⟩, pw_below_drewN HB.out _⟩
              · have t0 : ((p : Int) == (s.size : Int)) = false := beq_eq_false_iff_ne.2 (by omega)
                have t1 : (p == s.size) = false := beq_eq_false_iff_ne.2 hpe
                have HPE := Aside0.mk hpe
                clear hpe
                go_wp2
                go_quiet (fail)
                go_wp2
                go_ret2
                exact ⟨⟨v, rs, false, rfl, Kd.S_drewN HS3.out _, (fun h => by cases h), fun _ => by rw [HE.out, if_pos (by have := HPE.out; have := HP.out; omega)]⟩, pw_below_drewN HB.out _⟩
end Go.Proofs.Ytgdbinifnhfcjaa.P
